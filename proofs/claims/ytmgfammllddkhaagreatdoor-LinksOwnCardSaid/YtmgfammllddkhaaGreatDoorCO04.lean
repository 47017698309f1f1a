/- DERIVED: THE SHELF's CONTRACTS AT THIS DUMP, IN PLAIN WORDS -/
import Derived.Shelf.Strings.OnBuilder
import Derived.Shelf.Strings.Trim
import Derived.Shelf.Small.Bits
import Derived.Shelf.Small.Wraps
import Derived.Shelf.Utf8.RuneCount
import Derived.Shelf.Strings.Shaped
import Derived.Shelf.Strings.SplitShaped
import Derived.Shelf.Unicode.Decode
import Derived.Shelf.Strings.RuneCount
import Derived.Shelf.Strings.IndexAnyAll
import Derived.Shelf.Strings.Repeat
import Derived.Shelf.Unicode.DecodeLast
import Derived.Shelf.Strings.BuilderCap
import Derived.Shelf.Slices.SearchI
import Derived.Test.YtmgfammllddkhaaGreatDoorCO02
set_option linter.unusedSimpArgs false
set_option maxHeartbeats 2000000
set_option maxRecDepth 100000
namespace Go.Proofs
open Go.Shelf
def Tryz.lays169_ren:Go.Shelf.Ren:=⟨fun | 169=>176 | n=>n,fun | 70=>184 | 9=>9 | 0=>0 | 72=>186 | 37=>141 | 127=>213 | 3=>3 | 5=>5 | n=>n,fun | n=>n⟩
theorem Tryz.lays169:Go.Proofs.Lays.n169 Tryz.prog Tryz.lays169_ren:={
 mixed:=by kernel_rfl
 f169:=Tryz.func176.trans (congrArg some (by kernel_rfl))
 t0:=Tryz.underlying0
 a0:=Tryz.isAgg0
 z0:=Tryz.sizeOf0
 v0:=Tryz.zeroValue0
 t3:=Tryz.underlying3
 a3:=Tryz.isAgg3
 z3:=Tryz.sizeOf3
 v3:=Tryz.zeroValue3
 t9:=Tryz.underlying9
 a9:=Tryz.isAgg9
 z9:=Tryz.sizeOf9
 v9:=Tryz.zeroValue9
 t37:=Tryz.underlying141
 a37:=Tryz.isAgg141
 z37:=Tryz.sizeOf141
 v37:=Tryz.zeroValue141
 t70:=Tryz.underlying184
 a70:=Tryz.isAgg184
 z70:=Tryz.sizeOf184
 v70:=Tryz.zeroValue184
 t72:=Tryz.underlying186
 a72:=Tryz.isAgg186
 z72:=Tryz.sizeOf186
 v72:=Tryz.zeroValue186
 t127:=Tryz.underlying213
 a127:=Tryz.isAgg213
 z127:=Tryz.sizeOf213
 v127:=Tryz.zeroValue213 }
theorem Tryz.Builder_Extra_169:Builder.Extra Tryz.prog Tryz.lays169_ren:={
 sizeBuilder:=by kernel_rfl
 liesBuilder:=by kernel_rfl
 t5:=Tryz.underlying5
 a5:=Tryz.isAgg5
 z5:=Tryz.sizeOf5
 v5:=Tryz.zeroValue5
 infoByte:=by kernel_rfl
 cellsByte:=by kernel_rfl
 sizeByte:=by kernel_rfl
 neB5:=by decide }
def Tryz.lays156_ren:Go.Shelf.Ren:=⟨fun | 156=>199 | 165=>173 | 166=>174 | 169=>176 | 240=>207 | 241=>208 | 276=>216 | 277=>217 | n=>n,fun | 31=>48 | 9=>9 | 3=>3 | 4=>4 | 0=>0 | 20=>20 | 72=>186 | 76=>189 | 70=>184 | 37=>141 | 75=>188 | 127=>213 | 164=>221 | 5=>5 | 80=>175 | n=>n,fun | n=>n⟩
theorem Tryz.lays156:Go.Proofs.Lays.n156 Tryz.prog Tryz.lays156_ren:={
 mixed:=by kernel_rfl
 f156:=Tryz.func199.trans (congrArg some (by kernel_rfl))
 f165:=Tryz.func173.trans (congrArg some (by kernel_rfl))
 f166:=Tryz.func174.trans (congrArg some (by kernel_rfl))
 f169:=Tryz.func176.trans (congrArg some (by kernel_rfl))
 f240:=Tryz.func207.trans (congrArg some (by kernel_rfl))
 f241:=Tryz.func208.trans (congrArg some (by kernel_rfl))
 f276:=Tryz.func216.trans (congrArg some (by kernel_rfl))
 f277:=Tryz.func217.trans (congrArg some (by kernel_rfl))
 t0:=Tryz.underlying0
 a0:=Tryz.isAgg0
 z0:=Tryz.sizeOf0
 v0:=Tryz.zeroValue0
 t3:=Tryz.underlying3
 a3:=Tryz.isAgg3
 z3:=Tryz.sizeOf3
 v3:=Tryz.zeroValue3
 t4:=Tryz.underlying4
 a4:=Tryz.isAgg4
 z4:=Tryz.sizeOf4
 v4:=Tryz.zeroValue4
 t9:=Tryz.underlying9
 a9:=Tryz.isAgg9
 z9:=Tryz.sizeOf9
 v9:=Tryz.zeroValue9
 t20:=Tryz.underlying20
 a20:=Tryz.isAgg20
 z20:=Tryz.sizeOf20
 v20:=Tryz.zeroValue20
 t31:=Tryz.underlying48
 a31:=Tryz.isAgg48
 z31:=Tryz.sizeOf48
 v31:=Tryz.zeroValue48
 t37:=Tryz.underlying141
 a37:=Tryz.isAgg141
 z37:=Tryz.sizeOf141
 v37:=Tryz.zeroValue141
 t70:=Tryz.underlying184
 a70:=Tryz.isAgg184
 z70:=Tryz.sizeOf184
 v70:=Tryz.zeroValue184
 t72:=Tryz.underlying186
 a72:=Tryz.isAgg186
 z72:=Tryz.sizeOf186
 v72:=Tryz.zeroValue186
 t75:=Tryz.underlying188
 a75:=Tryz.isAgg188
 z75:=Tryz.sizeOf188
 v75:=Tryz.zeroValue188
 t76:=Tryz.underlying189
 a76:=Tryz.isAgg189
 z76:=Tryz.sizeOf189
 v76:=Tryz.zeroValue189
 t127:=Tryz.underlying213
 a127:=Tryz.isAgg213
 z127:=Tryz.sizeOf213
 v127:=Tryz.zeroValue213
 t164:=Tryz.underlying221
 a164:=Tryz.isAgg221
 z164:=Tryz.sizeOf221
 v164:=Tryz.zeroValue221 }
theorem Tryz.Builder_Extra_156:Builder.Extra Tryz.prog Tryz.lays156_ren:={
 sizeBuilder:=by kernel_rfl
 liesBuilder:=by kernel_rfl
 t5:=Tryz.underlying5
 a5:=Tryz.isAgg5
 z5:=Tryz.sizeOf5
 v5:=Tryz.zeroValue5
 infoByte:=by kernel_rfl
 cellsByte:=by kernel_rfl
 sizeByte:=by kernel_rfl
 neB5:=by decide }
open Go.RowKit in
theorem Tryz.strings_Join (bk o c:Nat) (xs:List ByteArray) (sep:ByteArray) (w:World) (hcells:∀ (j:Nat) x,xs[j]? = some x->w.cell? ⟨bk,o+j,none⟩=some (.string x)) (hbk:bk<w.heap.size) (hN:xs.length<=140737488355328) (hcap:xs.length<=c) (hlen:(Lib.join (xs.map (·.data.toList)) sep.data.toList).length<=140737488355328) :
  Calls Tryz.prog 199 #[.slice (some ⟨bk,o,none⟩) xs.length c,.string sep] w fun e w'=>e = .returned (.string ⟨(Lib.join (xs.map (·.data.toList)) sep.data.toList).toArray⟩)/\Below w.heap.size w w':=Any.strings_Join Tryz.lays156 Tryz.Builder_Extra_156 bk o c xs sep w hcells hbk hN hcap hlen
def Tryz.lays213_ren:Go.Shelf.Ren:=⟨fun | 213=>129 | 265=>183 | n=>n,fun | 9=>9 | 3=>3 | n=>n,fun | n=>n⟩
def Tryz.lays106_ren:Go.Shelf.Ren:=⟨fun | 106=>71 | 213=>129 | 265=>183 | n=>n,fun | 9=>9 | 3=>3 | n=>n,fun | n=>n⟩
theorem Tryz.lays106:Go.Proofs.Lays.n106 Tryz.prog Tryz.lays106_ren:={
 mixed:=by kernel_rfl
 f106:=Tryz.func71.trans (congrArg some (by kernel_rfl))
 f213:=Tryz.func129.trans (congrArg some (by kernel_rfl))
 f265:=Tryz.func183.trans (congrArg some (by kernel_rfl))
 t3:=Tryz.underlying3
 a3:=Tryz.isAgg3
 z3:=Tryz.sizeOf3
 v3:=Tryz.zeroValue3
 t9:=Tryz.underlying9
 a9:=Tryz.isAgg9
 z9:=Tryz.sizeOf9
 v9:=Tryz.zeroValue9 }
open Go.RowKit in
theorem Tryz.strings_Compare (a b:ByteArray) (w:World) :
  Calls Tryz.prog 71 #[.string a,.string b] w fun e w'=>e = .returned (.int .i64 (Lib.compareBytes a.data.toList b.data.toList))/\w'=w:=Any.strings_Compare Tryz.lays106 a b w
def Tryz.lays137_ren:Go.Shelf.Ren:=⟨fun | 137=>165 | 217=>161 | 266=>202 | n=>n,fun | 9=>9 | 5=>5 | 3=>3 | n=>n,fun | n=>n⟩
theorem Tryz.lays137:Go.Proofs.Lays.n137 Tryz.prog Tryz.lays137_ren:={
 mixed:=by kernel_rfl
 f137:=Tryz.func165.trans (congrArg some (by kernel_rfl))
 f217:=Tryz.func161.trans (congrArg some (by kernel_rfl))
 f266:=Tryz.func202.trans (congrArg some (by kernel_rfl))
 t3:=Tryz.underlying3
 a3:=Tryz.isAgg3
 z3:=Tryz.sizeOf3
 v3:=Tryz.zeroValue3
 t5:=Tryz.underlying5
 a5:=Tryz.isAgg5
 z5:=Tryz.sizeOf5
 v5:=Tryz.zeroValue5
 t9:=Tryz.underlying9
 a9:=Tryz.isAgg9
 z9:=Tryz.sizeOf9
 v9:=Tryz.zeroValue9 }
open Go.RowKit in
theorem Tryz.strings_IndexByte (s:ByteArray) (c:Int) (w:World) :
  Calls Tryz.prog 165 #[.string s,.int .u8 c] w fun e w'=>e = .returned (.int .i64 (Lib.indexByte s.data.toList c.toNat.toUInt8))/\w'=w:=Any.strings_IndexByte Tryz.lays137 s c w
def Tryz.lays210_ren:Go.Shelf.Ren:=⟨fun | 210=>83 | 206=>148 | n=>n,fun | 9=>9 | 4=>4 | 3=>3 | n=>n,fun | n=>n⟩
def Tryz.lays215_ren:Go.Shelf.Ren:=⟨fun | 215=>70 | n=>n,fun | 3=>3 | 4=>4 | n=>n,fun | n=>n⟩
def Tryz.lays122_ren:Go.Shelf.Ren:=⟨fun | 122=>35 | 215=>70 | n=>n,fun | 3=>3 | 4=>4 | n=>n,fun | n=>n⟩
theorem Tryz.lays122:Go.Proofs.Lays.n122 Tryz.prog Tryz.lays122_ren:={
 mixed:=by kernel_rfl
 f122:=Tryz.func35.trans (congrArg some (by kernel_rfl))
 f215:=Tryz.func70.trans (congrArg some (by kernel_rfl))
 t3:=Tryz.underlying3
 a3:=Tryz.isAgg3
 z3:=Tryz.sizeOf3
 v3:=Tryz.zeroValue3
 t4:=Tryz.underlying4
 a4:=Tryz.isAgg4
 z4:=Tryz.sizeOf4
 v4:=Tryz.zeroValue4 }
open Go.RowKit in
theorem Tryz.cmp_Compare_int (x y:Int) (w:World) :
  Calls Tryz.prog 35 #[.int .i64 x,.int .i64 y] w fun e w'=>e = .returned (.int .i64 (Lib.compareInt x y))/\w'=w:=Any.cmp_Compare_int Tryz.lays122 x y w
open Go.RowKit in
theorem Tryz.Builder_String_any_f (B b:Nat) (l:List UInt8) (w:World) (h:Lib.IsBuilderF 186 5 B b (Lib.byteCells l) w) (hBw:B<=w.heap.size) :
  Calls Tryz.prog 176 #[.pointer (some ⟨b,0,none⟩)] w fun e w'=>e = .returned (.string ⟨l.toArray⟩)/\(Lib.IsBuilderF 186 5 B b (Lib.byteCells l) w'/\Below B w w'):=Any.Builder_String_any_f Tryz.lays169 Tryz.Builder_Extra_169 B b l w h hBw
def Tryz.lays219_ren:Go.Shelf.Ren:=⟨fun | 219=>96 | 217=>161 | 225=>162 | 224=>163 | 267=>164 | 266=>202 | 314=>203 | n=>n,fun | 9=>9 | 3=>3 | 4=>4 | 5=>5 | 46=>114 | 146=>207 | 51=>160 | n=>n,fun | 1=>0 | n=>n⟩
def Tryz.lays143_ren:Go.Shelf.Ren:=⟨fun | 143=>58 | 219=>96 | 217=>161 | 225=>162 | 224=>163 | 267=>164 | 266=>202 | 314=>203 | n=>n,fun | 9=>9 | 3=>3 | 4=>4 | 5=>5 | 46=>114 | 146=>207 | 51=>160 | n=>n,fun | 1=>0 | n=>n⟩
theorem Tryz.lays143:Go.Proofs.Lays.n143 Tryz.prog Tryz.lays143_ren:={
 mixed:=by kernel_rfl
 f143:=Tryz.func58.trans (congrArg some (by kernel_rfl))
 f217:=Tryz.func161.trans (congrArg some (by kernel_rfl))
 f219:=Tryz.func96.trans (congrArg some (by kernel_rfl))
 f224:=Tryz.func163.trans (congrArg some (by kernel_rfl))
 f225:=Tryz.func162.trans (congrArg some (by kernel_rfl))
 f266:=Tryz.func202.trans (congrArg some (by kernel_rfl))
 f267:=Tryz.func164.trans (congrArg some (by kernel_rfl))
 f314:=Tryz.func203.trans (congrArg some (by kernel_rfl))
 t3:=Tryz.underlying3
 a3:=Tryz.isAgg3
 z3:=Tryz.sizeOf3
 v3:=Tryz.zeroValue3
 t4:=Tryz.underlying4
 a4:=Tryz.isAgg4
 z4:=Tryz.sizeOf4
 v4:=Tryz.zeroValue4
 t5:=Tryz.underlying5
 a5:=Tryz.isAgg5
 z5:=Tryz.sizeOf5
 v5:=Tryz.zeroValue5
 t9:=Tryz.underlying9
 a9:=Tryz.isAgg9
 z9:=Tryz.sizeOf9
 v9:=Tryz.zeroValue9
 t46:=Tryz.underlying114
 a46:=Tryz.isAgg114
 z46:=Tryz.sizeOf114
 v46:=Tryz.zeroValue114
 t51:=Tryz.underlying160
 a51:=Tryz.isAgg160
 z51:=Tryz.sizeOf160
 v51:=Tryz.zeroValue160
 t146:=Tryz.underlying207
 a146:=Tryz.isAgg207
 z146:=Tryz.sizeOf207
 v146:=Tryz.zeroValue207
 g1:=by kernel_rfl }
open Go.RowKit Go.Lib in
theorem Tryz.strings_Index (s sub:ByteArray) (m:Int) (w:World) (hs:s.size<4294967281) (hm:w.cell? ⟨0,0,none⟩=some (.int .i64 m)) :
  Calls Tryz.prog 58 #[.string s,.string sub] w fun e w'=>e = .returned (.int .i64 (Lib.index s.data.toList sub.data.toList))/\w'=w:=Any.strings_Index Tryz.lays143 s sub m w hs hm
def Tryz.lays144_ren:Go.Shelf.Ren:=⟨fun | 144=>24 | 143=>58 | 219=>96 | 217=>161 | 225=>162 | 224=>163 | 267=>164 | 266=>202 | 314=>203 | n=>n,fun | 9=>9 | 4=>4 | 3=>3 | 5=>5 | 46=>114 | 146=>207 | 51=>160 | n=>n,fun | 1=>0 | n=>n⟩
theorem Tryz.lays144:Go.Proofs.Lays.n144 Tryz.prog Tryz.lays144_ren:={
 mixed:=by kernel_rfl
 f143:=Tryz.func58.trans (congrArg some (by kernel_rfl))
 f144:=Tryz.func24.trans (congrArg some (by kernel_rfl))
 f217:=Tryz.func161.trans (congrArg some (by kernel_rfl))
 f219:=Tryz.func96.trans (congrArg some (by kernel_rfl))
 f224:=Tryz.func163.trans (congrArg some (by kernel_rfl))
 f225:=Tryz.func162.trans (congrArg some (by kernel_rfl))
 f266:=Tryz.func202.trans (congrArg some (by kernel_rfl))
 f267:=Tryz.func164.trans (congrArg some (by kernel_rfl))
 f314:=Tryz.func203.trans (congrArg some (by kernel_rfl))
 t3:=Tryz.underlying3
 a3:=Tryz.isAgg3
 z3:=Tryz.sizeOf3
 v3:=Tryz.zeroValue3
 t4:=Tryz.underlying4
 a4:=Tryz.isAgg4
 z4:=Tryz.sizeOf4
 v4:=Tryz.zeroValue4
 t5:=Tryz.underlying5
 a5:=Tryz.isAgg5
 z5:=Tryz.sizeOf5
 v5:=Tryz.zeroValue5
 t9:=Tryz.underlying9
 a9:=Tryz.isAgg9
 z9:=Tryz.sizeOf9
 v9:=Tryz.zeroValue9
 t46:=Tryz.underlying114
 a46:=Tryz.isAgg114
 z46:=Tryz.sizeOf114
 v46:=Tryz.zeroValue114
 t51:=Tryz.underlying160
 a51:=Tryz.isAgg160
 z51:=Tryz.sizeOf160
 v51:=Tryz.zeroValue160
 t146:=Tryz.underlying207
 a146:=Tryz.isAgg207
 z146:=Tryz.sizeOf207
 v146:=Tryz.zeroValue207
 g1:=by kernel_rfl }
open Go.RowKit Go.Lib in
theorem Tryz.strings_Contains (s sub:ByteArray) (m:Int) (w:World) (hs:s.size<4294967281) (hm:w.cell? ⟨0,0,none⟩=some (.int .i64 m)) :
  Calls Tryz.prog 24 #[.string s,.string sub] w fun e w'=>e = .returned (.bool (Lib.contains s.data.toList sub.data.toList))/\w'=w:=Any.strings_Contains Tryz.lays144 s sub m w hs hm
def Tryz.lays145_ren:Go.Shelf.Ren:=⟨fun | 145=>88 | 220=>151 | 219=>96 | 217=>161 | 225=>162 | 224=>163 | 267=>164 | 266=>202 | 314=>203 | n=>n,fun | 9=>9 | 4=>4 | 59=>136 | 3=>3 | 5=>5 | 46=>114 | 146=>207 | 51=>160 | n=>n,fun | 1=>0 | n=>n⟩
theorem Tryz.lays145:Go.Proofs.Lays.n145 Tryz.prog Tryz.lays145_ren:={
 mixed:=by kernel_rfl
 f145:=Tryz.func88.trans (congrArg some (by kernel_rfl))
 f217:=Tryz.func161.trans (congrArg some (by kernel_rfl))
 f219:=Tryz.func96.trans (congrArg some (by kernel_rfl))
 f220:=Tryz.func151.trans (congrArg some (by kernel_rfl))
 f224:=Tryz.func163.trans (congrArg some (by kernel_rfl))
 f225:=Tryz.func162.trans (congrArg some (by kernel_rfl))
 f266:=Tryz.func202.trans (congrArg some (by kernel_rfl))
 f267:=Tryz.func164.trans (congrArg some (by kernel_rfl))
 f314:=Tryz.func203.trans (congrArg some (by kernel_rfl))
 t3:=Tryz.underlying3
 a3:=Tryz.isAgg3
 z3:=Tryz.sizeOf3
 v3:=Tryz.zeroValue3
 t4:=Tryz.underlying4
 a4:=Tryz.isAgg4
 z4:=Tryz.sizeOf4
 v4:=Tryz.zeroValue4
 t5:=Tryz.underlying5
 a5:=Tryz.isAgg5
 z5:=Tryz.sizeOf5
 v5:=Tryz.zeroValue5
 t9:=Tryz.underlying9
 a9:=Tryz.isAgg9
 z9:=Tryz.sizeOf9
 v9:=Tryz.zeroValue9
 t46:=Tryz.underlying114
 a46:=Tryz.isAgg114
 z46:=Tryz.sizeOf114
 v46:=Tryz.zeroValue114
 t51:=Tryz.underlying160
 a51:=Tryz.isAgg160
 z51:=Tryz.sizeOf160
 v51:=Tryz.zeroValue160
 t59:=Tryz.underlying136
 a59:=Tryz.isAgg136
 z59:=Tryz.sizeOf136
 v59:=Tryz.zeroValue136
 t146:=Tryz.underlying207
 a146:=Tryz.isAgg207
 z146:=Tryz.sizeOf207
 v146:=Tryz.zeroValue207
 g1:=by kernel_rfl }
open Go.RowKit Go.Lib in
theorem Tryz.strings_Cut (s sep:ByteArray) (m:Int) (w:World) (hs:s.size<4294967281) (hm:w.cell? ⟨0,0,none⟩=some (.int .i64 m)) :
  Calls Tryz.prog 88 #[.string s,.string sep] w fun e w'=>e = .returned (.tuple #[.string ⟨(Lib.cut s.data.toList sep.data.toList).1.toArray⟩,.string ⟨(Lib.cut s.data.toList sep.data.toList).2.1.toArray⟩,.bool (Lib.cut s.data.toList sep.data.toList).2.2])/\∃ n,w'=w.drewN n:=Any.strings_Cut Tryz.lays145 s sep m w hs hm
def Tryz.lays102_ren:Go.Shelf.Ren:=⟨fun | 102=>192 | 209=>214 | 207=>219 | n=>n,fun | 9=>9 | 4=>4 | 3=>3 | n=>n,fun | n=>n⟩
theorem Tryz.lays102:Go.Proofs.Lays.n102 Tryz.prog Tryz.lays102_ren:={
 mixed:=by kernel_rfl
 f102:=Tryz.func192.trans (congrArg some (by kernel_rfl))
 f207:=Tryz.func219.trans (congrArg some (by kernel_rfl))
 f209:=Tryz.func214.trans (congrArg some (by kernel_rfl))
 t3:=Tryz.underlying3
 a3:=Tryz.isAgg3
 z3:=Tryz.sizeOf3
 v3:=Tryz.zeroValue3
 t4:=Tryz.underlying4
 a4:=Tryz.isAgg4
 z4:=Tryz.sizeOf4
 v4:=Tryz.zeroValue4
 t9:=Tryz.underlying9
 a9:=Tryz.isAgg9
 z9:=Tryz.sizeOf9
 v9:=Tryz.zeroValue9 }
open Go.RowKit Go.Lib in
theorem Tryz.strings_TrimSuffix (s p:ByteArray) (w:World) (hs:s.size<=9223372036854775807) :
  Calls Tryz.prog 192 #[.string s,.string p] w fun e w'=>e = .returned (.string ⟨(Lib.trimSuffix s.data.toList p.data.toList).toArray⟩)/\w'=w:=Any.strings_TrimSuffix Tryz.lays102 s p w hs
def Tryz.lays221_ren:Go.Shelf.Ren:=⟨fun | 221=>215 | 268=>220 | 138=>26 | 143=>58 | 195=>60 | 197=>149 | 218=>61 | 219=>96 | 260=>191 | 217=>161 | 225=>162 | 224=>163 | 267=>164 | 266=>202 | 314=>203 | n=>n,fun | 9=>9 | 3=>3 | 31=>48 | 4=>4 | 0=>0 | 105=>169 | 21=>21 | 5=>5 | 46=>114 | 119=>216 | 139=>219 | 138=>218 | 146=>207 | 51=>160 | n=>n,fun | 1=>0 | 3=>1 | 4=>2 | n=>n⟩
def Tryz.lays146_ren:Go.Shelf.Ren:=⟨fun | 146=>197 | 221=>215 | 268=>220 | 138=>26 | 143=>58 | 195=>60 | 197=>149 | 218=>61 | 219=>96 | 260=>191 | 217=>161 | 225=>162 | 224=>163 | 267=>164 | 266=>202 | 314=>203 | n=>n,fun | 9=>9 | 31=>48 | 3=>3 | 4=>4 | 0=>0 | 105=>169 | 21=>21 | 5=>5 | 46=>114 | 119=>216 | 139=>219 | 138=>218 | 146=>207 | 51=>160 | n=>n,fun | 1=>0 | 3=>1 | 4=>2 | n=>n⟩
theorem Tryz.lays146:Go.Proofs.Lays.n146 Tryz.prog Tryz.lays146_ren:={
 mixed:=by kernel_rfl
 f138:=Tryz.func26.trans (congrArg some (by kernel_rfl))
 f143:=Tryz.func58.trans (congrArg some (by kernel_rfl))
 f146:=Tryz.func197.trans (congrArg some (by kernel_rfl))
 f195:=Tryz.func60.trans (congrArg some (by kernel_rfl))
 f197:=Tryz.func149.trans (congrArg some (by kernel_rfl))
 f217:=Tryz.func161.trans (congrArg some (by kernel_rfl))
 f218:=Tryz.func61.trans (congrArg some (by kernel_rfl))
 f219:=Tryz.func96.trans (congrArg some (by kernel_rfl))
 f221:=Tryz.func215.trans (congrArg some (by kernel_rfl))
 f224:=Tryz.func163.trans (congrArg some (by kernel_rfl))
 f225:=Tryz.func162.trans (congrArg some (by kernel_rfl))
 f260:=Tryz.func191.trans (congrArg some (by kernel_rfl))
 f266:=Tryz.func202.trans (congrArg some (by kernel_rfl))
 f267:=Tryz.func164.trans (congrArg some (by kernel_rfl))
 f268:=Tryz.func220.trans (congrArg some (by kernel_rfl))
 f314:=Tryz.func203.trans (congrArg some (by kernel_rfl))
 t0:=Tryz.underlying0
 a0:=Tryz.isAgg0
 z0:=Tryz.sizeOf0
 v0:=Tryz.zeroValue0
 t3:=Tryz.underlying3
 a3:=Tryz.isAgg3
 z3:=Tryz.sizeOf3
 v3:=Tryz.zeroValue3
 t4:=Tryz.underlying4
 a4:=Tryz.isAgg4
 z4:=Tryz.sizeOf4
 v4:=Tryz.zeroValue4
 t5:=Tryz.underlying5
 a5:=Tryz.isAgg5
 z5:=Tryz.sizeOf5
 v5:=Tryz.zeroValue5
 t9:=Tryz.underlying9
 a9:=Tryz.isAgg9
 z9:=Tryz.sizeOf9
 v9:=Tryz.zeroValue9
 t21:=Tryz.underlying21
 a21:=Tryz.isAgg21
 z21:=Tryz.sizeOf21
 v21:=Tryz.zeroValue21
 t31:=Tryz.underlying48
 a31:=Tryz.isAgg48
 z31:=Tryz.sizeOf48
 v31:=Tryz.zeroValue48
 t46:=Tryz.underlying114
 a46:=Tryz.isAgg114
 z46:=Tryz.sizeOf114
 v46:=Tryz.zeroValue114
 t51:=Tryz.underlying160
 a51:=Tryz.isAgg160
 z51:=Tryz.sizeOf160
 v51:=Tryz.zeroValue160
 t105:=Tryz.underlying169
 a105:=Tryz.isAgg169
 z105:=Tryz.sizeOf169
 v105:=Tryz.zeroValue169
 t119:=Tryz.underlying216
 a119:=Tryz.isAgg216
 z119:=Tryz.sizeOf216
 t138:=Tryz.underlying218
 a138:=Tryz.isAgg218
 z138:=Tryz.sizeOf218
 v138:=Tryz.zeroValue218
 t139:=Tryz.underlying219
 a139:=Tryz.isAgg219
 z139:=Tryz.sizeOf219
 v139:=Tryz.zeroValue219
 t146:=Tryz.underlying207
 a146:=Tryz.isAgg207
 z146:=Tryz.sizeOf207
 v146:=Tryz.zeroValue207
 g1:=by kernel_rfl
 g3:=by kernel_rfl
 g4:=by kernel_rfl }
open Go.RowKit Go.Lib in
theorem Tryz.strings_Split (s sep:ByteArray) (m:Int) (w:World) (hs:s.size<4294967281) (hm:w.cell? ⟨0,0,none⟩=some (.int .i64 m)) (h1:1<=sep.size) :
  Calls Tryz.prog 197 #[.string s,.string sep] w fun e w'=>
   e = .returned (.slice (some ⟨w.heap.size,0,none⟩) (Lib.countB s sep+1) (Lib.countB s sep+1))/\w'=w.alloc (.cells ((Lib.splitB sep 0 (Lib.countB s sep) s).map Value.string).toArray 9):=Any.strings_Split Tryz.lays146 (by kernel_rfl) s sep m w hs hm h1
def Tryz.lays154_ren:Go.Shelf.Ren:=⟨fun | 154=>193 | 138=>26 | 165=>173 | 143=>58 | 166=>174 | 197=>149 | 169=>176 | 195=>60 | 218=>61 | 240=>207 | 241=>208 | 219=>96 | 260=>191 | 276=>216 | 277=>217 | 217=>161 | 225=>162 | 224=>163 | 267=>164 | 266=>202 | 314=>203 | n=>n,fun | 9=>9 | 3=>3 | 4=>4 | 72=>186 | 0=>0 | 76=>189 | 105=>169 | 21=>21 | 5=>5 | 70=>184 | 20=>20 | 37=>141 | 75=>188 | 127=>213 | 164=>221 | 46=>114 | 119=>216 | 139=>219 | 138=>218 | 146=>207 | 51=>160 | 80=>175 | n=>n,fun | 1=>0 | 3=>1 | 4=>2 | n=>n⟩
def Tryz.lays155_ren:Go.Shelf.Ren:=⟨fun | 155=>153 | 154=>193 | 138=>26 | 165=>173 | 143=>58 | 166=>174 | 197=>149 | 169=>176 | 195=>60 | 218=>61 | 240=>207 | 241=>208 | 219=>96 | 260=>191 | 276=>216 | 277=>217 | 217=>161 | 225=>162 | 224=>163 | 267=>164 | 266=>202 | 314=>203 | n=>n,fun | 9=>9 | 3=>3 | 4=>4 | 72=>186 | 0=>0 | 76=>189 | 105=>169 | 21=>21 | 5=>5 | 70=>184 | 20=>20 | 37=>141 | 75=>188 | 127=>213 | 164=>221 | 46=>114 | 119=>216 | 139=>219 | 138=>218 | 146=>207 | 51=>160 | 80=>175 | n=>n,fun | 1=>0 | 3=>1 | 4=>2 | n=>n⟩
theorem Tryz.lays155:Go.Proofs.Lays.n155 Tryz.prog Tryz.lays155_ren:={
 mixed:=by kernel_rfl
 f138:=Tryz.func26.trans (congrArg some (by kernel_rfl))
 f143:=Tryz.func58.trans (congrArg some (by kernel_rfl))
 f154:=Tryz.func193.trans (congrArg some (by kernel_rfl))
 f155:=Tryz.func153.trans (congrArg some (by kernel_rfl))
 f165:=Tryz.func173.trans (congrArg some (by kernel_rfl))
 f166:=Tryz.func174.trans (congrArg some (by kernel_rfl))
 f169:=Tryz.func176.trans (congrArg some (by kernel_rfl))
 f195:=Tryz.func60.trans (congrArg some (by kernel_rfl))
 f197:=Tryz.func149.trans (congrArg some (by kernel_rfl))
 f217:=Tryz.func161.trans (congrArg some (by kernel_rfl))
 f218:=Tryz.func61.trans (congrArg some (by kernel_rfl))
 f219:=Tryz.func96.trans (congrArg some (by kernel_rfl))
 f224:=Tryz.func163.trans (congrArg some (by kernel_rfl))
 f225:=Tryz.func162.trans (congrArg some (by kernel_rfl))
 f240:=Tryz.func207.trans (congrArg some (by kernel_rfl))
 f241:=Tryz.func208.trans (congrArg some (by kernel_rfl))
 f260:=Tryz.func191.trans (congrArg some (by kernel_rfl))
 f266:=Tryz.func202.trans (congrArg some (by kernel_rfl))
 f267:=Tryz.func164.trans (congrArg some (by kernel_rfl))
 f276:=Tryz.func216.trans (congrArg some (by kernel_rfl))
 f277:=Tryz.func217.trans (congrArg some (by kernel_rfl))
 f314:=Tryz.func203.trans (congrArg some (by kernel_rfl))
 t0:=Tryz.underlying0
 a0:=Tryz.isAgg0
 z0:=Tryz.sizeOf0
 v0:=Tryz.zeroValue0
 t3:=Tryz.underlying3
 a3:=Tryz.isAgg3
 z3:=Tryz.sizeOf3
 v3:=Tryz.zeroValue3
 t4:=Tryz.underlying4
 a4:=Tryz.isAgg4
 z4:=Tryz.sizeOf4
 v4:=Tryz.zeroValue4
 t5:=Tryz.underlying5
 a5:=Tryz.isAgg5
 z5:=Tryz.sizeOf5
 v5:=Tryz.zeroValue5
 t9:=Tryz.underlying9
 a9:=Tryz.isAgg9
 z9:=Tryz.sizeOf9
 v9:=Tryz.zeroValue9
 t20:=Tryz.underlying20
 a20:=Tryz.isAgg20
 z20:=Tryz.sizeOf20
 v20:=Tryz.zeroValue20
 t21:=Tryz.underlying21
 a21:=Tryz.isAgg21
 z21:=Tryz.sizeOf21
 v21:=Tryz.zeroValue21
 t37:=Tryz.underlying141
 a37:=Tryz.isAgg141
 z37:=Tryz.sizeOf141
 v37:=Tryz.zeroValue141
 t46:=Tryz.underlying114
 a46:=Tryz.isAgg114
 z46:=Tryz.sizeOf114
 v46:=Tryz.zeroValue114
 t51:=Tryz.underlying160
 a51:=Tryz.isAgg160
 z51:=Tryz.sizeOf160
 v51:=Tryz.zeroValue160
 t70:=Tryz.underlying184
 a70:=Tryz.isAgg184
 z70:=Tryz.sizeOf184
 v70:=Tryz.zeroValue184
 t72:=Tryz.underlying186
 a72:=Tryz.isAgg186
 z72:=Tryz.sizeOf186
 v72:=Tryz.zeroValue186
 t75:=Tryz.underlying188
 a75:=Tryz.isAgg188
 z75:=Tryz.sizeOf188
 v75:=Tryz.zeroValue188
 t76:=Tryz.underlying189
 a76:=Tryz.isAgg189
 z76:=Tryz.sizeOf189
 v76:=Tryz.zeroValue189
 t105:=Tryz.underlying169
 a105:=Tryz.isAgg169
 z105:=Tryz.sizeOf169
 v105:=Tryz.zeroValue169
 t119:=Tryz.underlying216
 a119:=Tryz.isAgg216
 z119:=Tryz.sizeOf216
 t127:=Tryz.underlying213
 a127:=Tryz.isAgg213
 z127:=Tryz.sizeOf213
 v127:=Tryz.zeroValue213
 t138:=Tryz.underlying218
 a138:=Tryz.isAgg218
 z138:=Tryz.sizeOf218
 v138:=Tryz.zeroValue218
 t139:=Tryz.underlying219
 a139:=Tryz.isAgg219
 z139:=Tryz.sizeOf219
 v139:=Tryz.zeroValue219
 t146:=Tryz.underlying207
 a146:=Tryz.isAgg207
 z146:=Tryz.sizeOf207
 v146:=Tryz.zeroValue207
 t164:=Tryz.underlying221
 a164:=Tryz.isAgg221
 z164:=Tryz.sizeOf221
 v164:=Tryz.zeroValue221
 g1:=by kernel_rfl
 g3:=by kernel_rfl
 g4:=by kernel_rfl }
theorem Tryz.Builder_Extra_155:Builder.Extra Tryz.prog Tryz.lays155_ren:={
 sizeBuilder:=by kernel_rfl
 liesBuilder:=by kernel_rfl
 t5:=Tryz.underlying5
 a5:=Tryz.isAgg5
 z5:=Tryz.sizeOf5
 v5:=Tryz.zeroValue5
 infoByte:=by kernel_rfl
 cellsByte:=by kernel_rfl
 sizeByte:=by kernel_rfl
 neB5:=by decide }
open Go.RowKit Go.Lib in
theorem Tryz.strings_ReplaceAll (s old new:ByteArray) (m:Int) (w:World) (hs:s.size<4294967281) (hm:w.cell? ⟨0,0,none⟩=some (.int .i64 m)) (h1:1<=old.size) (hlen:s.size+Lib.countB s old * new.size<=140737488355328) :
  Calls Tryz.prog 153 #[.string s,.string old,.string new] w fun e w'=>
   e = .returned (.string ⟨(Lib.replaceAll s.data.toList old.data.toList new.data.toList).toArray⟩)/\Below w.heap.size w w':=Any.strings_ReplaceAll Tryz.lays155 Tryz.Builder_Extra_155 s old new m w hs hm h1 hlen
def Tryz.lays227_ren:Go.Shelf.Ren:=⟨fun | 227=>85 | n=>n,fun | 9=>9 | 116=>131 | 4=>4 | 0=>0 | 3=>3 | 5=>5 | n=>n,fun | n=>n⟩
theorem Tryz.lays227:Go.Proofs.Lays.n227 Tryz.prog Tryz.lays227_ren:={
 mixed:=by kernel_rfl
 f227:=Tryz.func85.trans (congrArg some (by kernel_rfl))
 t0:=Tryz.underlying0
 a0:=Tryz.isAgg0
 z0:=Tryz.sizeOf0
 v0:=Tryz.zeroValue0
 t3:=Tryz.underlying3
 a3:=Tryz.isAgg3
 z3:=Tryz.sizeOf3
 v3:=Tryz.zeroValue3
 t4:=Tryz.underlying4
 a4:=Tryz.isAgg4
 z4:=Tryz.sizeOf4
 v4:=Tryz.zeroValue4
 t5:=Tryz.underlying5
 a5:=Tryz.isAgg5
 z5:=Tryz.sizeOf5
 v5:=Tryz.zeroValue5
 t9:=Tryz.underlying9
 a9:=Tryz.isAgg9
 z9:=Tryz.sizeOf9
 v9:=Tryz.zeroValue9
 t116:=Tryz.underlying131
 a116:=Tryz.isAgg131
 z116:=Tryz.sizeOf131 }
open Go.RowKit Go.Lib in
theorem Tryz.strings_makeASCIISet (hv116:∀ w,(zeroValue 131).run Tryz.prog w = .ok (.agg (Array.replicate 256 (.bool false))) w) (chars:ByteArray) (w:World) (hs:chars.size<4294967281) (hascii:∀ (j:Nat) b,chars.data.toList[j]? = some b->b.toNat<128) :
  Calls Tryz.prog 85 #[.string chars] w fun e w'=>e = .returned (.tuple #[.agg (Lib.setCells chars.data.toList),.bool true])/\w'=w.alloc (.cells (Lib.setCells chars.data.toList) 131):=Any.strings_makeASCIISet Tryz.lays227 hv116 (by kernel_rfl) chars w hs hascii
def Tryz.lays105_ren:Go.Shelf.Ren:=⟨fun | 105=>113 | 212=>172 | 99=>115 | 165=>173 | 166=>174 | 170=>175 | 169=>176 | 263=>205 | 264=>206 | 206=>148 | 240=>207 | 241=>208 | 276=>216 | 277=>217 | n=>n,fun | 9=>9 | 3=>3 | 4=>4 | 20=>20 | 0=>0 | 46=>114 | 109=>182 | 5=>5 | 72=>186 | 76=>189 | 51=>160 | 146=>207 | 53=>162 | 148=>211 | 70=>184 | 37=>141 | 75=>188 | 127=>213 | 164=>221 | 80=>175 | n=>n,fun | n=>n⟩
theorem Tryz.lays105:Go.Proofs.Lays.n105 Tryz.prog Tryz.lays105_ren:={
 mixed:=by kernel_rfl
 f99:=Tryz.func115.trans (congrArg some (by kernel_rfl))
 f105:=Tryz.func113.trans (congrArg some (by kernel_rfl))
 f165:=Tryz.func173.trans (congrArg some (by kernel_rfl))
 f166:=Tryz.func174.trans (congrArg some (by kernel_rfl))
 f169:=Tryz.func176.trans (congrArg some (by kernel_rfl))
 f170:=Tryz.func175.trans (congrArg some (by kernel_rfl))
 f206:=Tryz.func148.trans (congrArg some (by kernel_rfl))
 f212:=Tryz.func172.trans (congrArg some (by kernel_rfl))
 f240:=Tryz.func207.trans (congrArg some (by kernel_rfl))
 f241:=Tryz.func208.trans (congrArg some (by kernel_rfl))
 f263:=Tryz.func205.trans (congrArg some (by kernel_rfl))
 f264:=Tryz.func206.trans (congrArg some (by kernel_rfl))
 f276:=Tryz.func216.trans (congrArg some (by kernel_rfl))
 f277:=Tryz.func217.trans (congrArg some (by kernel_rfl))
 t0:=Tryz.underlying0
 a0:=Tryz.isAgg0
 z0:=Tryz.sizeOf0
 v0:=Tryz.zeroValue0
 t3:=Tryz.underlying3
 a3:=Tryz.isAgg3
 z3:=Tryz.sizeOf3
 v3:=Tryz.zeroValue3
 t4:=Tryz.underlying4
 a4:=Tryz.isAgg4
 z4:=Tryz.sizeOf4
 v4:=Tryz.zeroValue4
 t5:=Tryz.underlying5
 a5:=Tryz.isAgg5
 z5:=Tryz.sizeOf5
 v5:=Tryz.zeroValue5
 t9:=Tryz.underlying9
 a9:=Tryz.isAgg9
 z9:=Tryz.sizeOf9
 v9:=Tryz.zeroValue9
 t20:=Tryz.underlying20
 a20:=Tryz.isAgg20
 z20:=Tryz.sizeOf20
 v20:=Tryz.zeroValue20
 t37:=Tryz.underlying141
 a37:=Tryz.isAgg141
 z37:=Tryz.sizeOf141
 v37:=Tryz.zeroValue141
 t46:=Tryz.underlying114
 a46:=Tryz.isAgg114
 z46:=Tryz.sizeOf114
 v46:=Tryz.zeroValue114
 t51:=Tryz.underlying160
 a51:=Tryz.isAgg160
 z51:=Tryz.sizeOf160
 v51:=Tryz.zeroValue160
 t53:=Tryz.underlying162
 a53:=Tryz.isAgg162
 z53:=Tryz.sizeOf162
 v53:=Tryz.zeroValue162
 t70:=Tryz.underlying184
 a70:=Tryz.isAgg184
 z70:=Tryz.sizeOf184
 v70:=Tryz.zeroValue184
 t72:=Tryz.underlying186
 a72:=Tryz.isAgg186
 z72:=Tryz.sizeOf186
 v72:=Tryz.zeroValue186
 t75:=Tryz.underlying188
 a75:=Tryz.isAgg188
 z75:=Tryz.sizeOf188
 v75:=Tryz.zeroValue188
 t76:=Tryz.underlying189
 a76:=Tryz.isAgg189
 z76:=Tryz.sizeOf189
 v76:=Tryz.zeroValue189
 t109:=Tryz.underlying182
 a109:=Tryz.isAgg182
 z109:=Tryz.sizeOf182
 v109:=Tryz.zeroValue182
 t127:=Tryz.underlying213
 a127:=Tryz.isAgg213
 z127:=Tryz.sizeOf213
 v127:=Tryz.zeroValue213
 t146:=Tryz.underlying207
 a146:=Tryz.isAgg207
 z146:=Tryz.sizeOf207
 v146:=Tryz.zeroValue207
 t148:=Tryz.underlying211
 a148:=Tryz.isAgg211
 z148:=Tryz.sizeOf211
 v148:=Tryz.zeroValue211
 t164:=Tryz.underlying221
 a164:=Tryz.isAgg221
 z164:=Tryz.sizeOf221
 v164:=Tryz.zeroValue221 }
theorem Tryz.Builder_Extra_105:Builder.Extra Tryz.prog Tryz.lays105_ren:={
 sizeBuilder:=by kernel_rfl
 liesBuilder:=by kernel_rfl
 t5:=Tryz.underlying5
 a5:=Tryz.isAgg5
 z5:=Tryz.sizeOf5
 v5:=Tryz.zeroValue5
 infoByte:=by kernel_rfl
 cellsByte:=by kernel_rfl
 sizeByte:=by kernel_rfl
 neB5:=by decide }
open Go.RowKit Go.Lib in
theorem Tryz.strings_Repeat (s:ByteArray) (c:Nat) (w:World) (hc:c<=9223372036854775807) (hlen:s.size * c<=140737488355328) :
  Calls Tryz.prog 113 #[.string s,.int .i64 c] w fun e w'=>e = .returned (.string ⟨(Lib.repeatL s.data.toList c).toArray⟩)/\Below w.heap.size w w':=Any.strings_Repeat Tryz.lays105 Tryz.Builder_Extra_105 s c w hc hlen
end Go.Proofs
namespace Go.Proofs.YtmgfammllddkhaaGreatDoor
section
open Go.RowKit
def orI:Q3 Int->Int | []=>0 | x::xs=>if x=0 then orI xs else x
theorem jH (x y:Int) (w:World):Calls Tryz.prog 35 #[.int .i64 x,.int .i64 y] w fun e w'=>e = .returned (.int .i64 (Lib.compareInt x y))/\w=w':=
 (Tryz.cmp_Compare_int x y w).mono fun _ _ ⟨a,b⟩=>⟨a,b.symm⟩
theorem jI (a b:Q1) (w:World):Calls Tryz.prog 71 #[.string a,.string b] w fun e w'=>e = .returned (.int .i64 (Lib.compareBytes a.data.toList b.data.toList))/\w=w':=
 (Tryz.strings_Compare a b w).mono fun _ _ ⟨a,b⟩=>⟨a,b.symm⟩
theorem jJ (A:Q2 Addr) (n c:Nat) (xs:Q3 Int) (w:World) (h:SlR w A n c xs):Calls Tryz.prog 34 #[.slice A n c] w fun e w'=>e = .returned (.int .i64 (orI xs))/\w=w':=by{
have HN:=Lib.hid h.1
have hle:=h.le
go_enter Tryz.func34,Tryz.ntmps34
go_wp2
go_loop [5,8] (fun _ i=>∃ q:Nat,q<=n/\i = .int .i64 q/\orI xs=orI (xs.drop q)) (fun _ i=>n-(intOf i).toNat)
case atStart=>exact ⟨0,YJ _,rfl,rfl⟩
case round=>
 obtain ⟨q,hq,rfl,hO⟩:=hrel
 by_cases hlt:q<n
 obtain ⟨b,off,x,cs,rfl,hbl,hx,hd,hR,hc⟩:=h.elem hlt
 have c0:w.cell? ⟨b,off+q,none⟩=some (.int .i64 x):=by subst hR;simpa using hc 0 _ rfl
 have HO:=Lib.hid hO
 clear hO hc hx h
 have HD:=Lib.hid hd
 clear hd
 by_cases h0:x=0
 ·subst h0
  go_wp2
  go_round
  case rel=>exact ⟨q+1,by omega,by go_num,by rw [HO.out,HD.out];simp [orI]⟩
  case measure=>simp [intOf];omega
 ·have e0:(!(x == 0))=true:=by simpa using h0
  go_wp2
  go_ret
  exact ⟨OG (by rw [HO.out,HD.out];simp [orI,h0]),rfl⟩
 ·have hq':q=n:=by omega
  have hz:orI xs=0:=by rw [hO,hq',HN.out,GL];rfl
  have HZ:=Lib.hid hz
  clear hz hO h hq'
  go_wp2
  go_ret
  exact ⟨OG HZ.out.symm,rfl⟩}
def Title.cmp (a b:Title):Int:=orI [Lib.compareInt a.space b.space,Lib.compareBytes a.name.data.toList b.name.data.toList]
theorem jK:∀ a b:Q3 Q4,Lib.compareBytes a b=if Op.bytesLess a b=true then -1 else if a=b then 0 else 1
 | [],[]=>by simp [Lib.compareBytes,Op.bytesLess]
 | [],_::_=>by simp [Lib.compareBytes,Op.bytesLess]
 | _::_,[]=>by simp [Lib.compareBytes,Op.bytesLess]
 | x::a,y::b=>by
   have h:=jK a b
   have e:x<y\/x=y\/y<x:=by
    rcases Nat.lt_trichotomy x.toNat y.toNat with h | h | h
    ·exact .inl h
    ·exact .inr (.inl (GM.1 h))
    ·exact .inr (.inr h)
   rcases e with e | e | e
   ·simp [Lib.compareBytes,Op.bytesLess,e]
   ·subst e
    have hx:¬ x<x:=fun h=>by simp at h
    simp [Lib.compareBytes,Op.bytesLess,h]
   ·have hx:¬ x<y:=fun h=>by simp [UInt8.lt_iff_toNat_lt] at h e;omega
    have hne:¬ x=y:=fun h=>by subst h;simp at e
    simp [Lib.compareBytes,Op.bytesLess,hx,hne,e]
theorem xI (a b:Title):Title.cmp a b=if a.space<b.space then -1 else if b.space<a.space then 1 else if Op.bytesLess a.name.toList b.name.toList=true then -1 else if a.name.toList=b.name.toList then 0 else 1:=by{
unfold Title.cmp orI Lib.compareInt
rw [jK,ByteArray.toList_eq,ByteArray.toList_eq]
by_cases h1:a.space<b.space
simp [h1]
by_cases h2:b.space<a.space
simp [h1,h2]
simp only [h1,h2,if_false,if_true,orI]
by_cases h:Op.bytesLess a.name.data.toList b.name.data.toList=true
simp [h]
by_cases h':a.name.data.toList=b.name.data.toList<;>simp [h,h']}
theorem xJ (a b:Title) (w:World):Calls Tryz.prog 147 #[.agg #[.int .i64 a.space,.string a.name],.agg #[.int .i64 b.space,.string b.name]] w fun e w'=>e = .returned (.int .i64 (Title.cmp a b))/\Below w.heap.size w w':=by{
go_enter Tryz.func147,Tryz.ntmps147
go_wp2
all_goals
 go_ret
 refine ⟨OG ?_,((Below.refl _ _).alloc (Yn _) _).alloc (by simp) _⟩
 rw [xI]
 first
  | (rw [if_pos (by omega)];done)
  | (rw [if_neg (by omega),if_neg (by omega),if_pos (by assumption)];done)
  | (rw [if_neg (by omega),if_pos (by omega)];done)
  | (rw [if_neg (by omega),if_neg (by omega),if_neg (by simp_all),if_pos (by assumption)];done)
  | (rw [if_neg (by omega),if_neg (by omega),if_neg (by simp_all),if_neg (by assumption)];done)}
def A4 (c:Q4):Q4:=if 65<=c.toNat/\c.toNat<=90 then UInt8.ofNat (c.toNat+32) else c
def AC (l:Q3 Q4):Q3 Q4:=l.map A4
def BytesAt (w:World) (g:Nat) (l:Q3 Q4):Prop:=g<w.heap.size/\∀ j c,l[j]? = some c->w.cell? ⟨g,j,none⟩=some (.int .u8 (c.toNat:Int))/\w.frozen? ⟨g,j,none⟩=false
theorem BytesAt.set {w:World} {g:Nat} {l:Q3 Q4} (h:BytesAt w g l) (k:Nat) (c:Q4) (hk:k<l.length):BytesAt (w.setCell ⟨g,k,none⟩ (.int .u8 (c.toNat:Int))) g (l.set k c):=by{
refine ⟨by simpa [World.setCell] using h.1,fun j d hj=>?_⟩
by_cases e:j=k
subst e
rw [UF hk] at hj
obtain rfl:c=d:=by simpa using hj
obtain ⟨h1,h2⟩:=h.2 j _ (Yc hk)
exact ⟨World.cell?_setCell_same w ⟨g,j,none⟩ _ h1,by simpa using h2⟩
rw [UI (fun e'=>e e'.symm)] at hj
obtain ⟨h1,h2⟩:=h.2 j d hj
refine ⟨(World.cell?_setCell_other w ⟨g,k,none⟩ ⟨g,j,none⟩ _ (fun e'=>e (by injection e' with _ e2;exact e2.symm))).trans h1,by simpa using h2⟩}
theorem BytesAt.back {P:Program} {w:World} {g cap:Nat} {l:Q3 Q4} (h:BytesAt w g l) (src dst e:TypeId) (hs:P.underlying src=some (.slice e)) (he:P.underlying e=some (.int .u8)) (hd:P.underlying dst=some .string) :
  (convert src dst (.slice (some ⟨g,0,none⟩) l.length cap)).run P w = .ok (.string ⟨l.toArray⟩) w:=
 run_convert_bytes_back w src dst e ⟨g,0,none⟩ cap l hs he hd fun j hj=>by
  have:=(h.2 j _ (Yc hj)).1
  unfold Addr.add
  split
  rename_i h0;subst h0;exact this
  simpa using this
theorem xK {P:Program} (w:World) (src dst e:TypeId) (s:Q1) (hs:P.underlying src=some .string) (hd:P.underlying dst=some (.slice e)) (he:P.underlying e=some (.int .u8)) :
  ∃ cap w1,(convert src dst (.string s)).run P w = .ok (.slice (some ⟨w.heap.size,0,none⟩) s.size cap) w1/\Below w.heap.size w w1/\BytesAt w1 w.heap.size s.data.toList:=by{
refine ⟨_,_,run_bytes_of_string w src dst e s hs hd he,(Below.refl _ _).drew.alloc (Yn _) _,by simp,fun j c hj=>?_⟩
have hjl:j<s.data.size:=by have:=(Yd.1 hj).1;simpa using this
have hc:c=s.data[j]:=by
 rw [Yc (by simpa using hjl)] at hj
 simpa using hj.symm
constructor
exact (World.cell?_alloc_mark w.drew _ _ _ j).trans (by rw [bytesRow_at _ _ _ hjl,hc])
refine (World.frozen?_alloc_mark w.drew _ _ _ _ j).trans ?_
have:j<(bytesRow s (grownCap w s.size 0 e)).size:=by simp only [bytesRow,Array.size_append,Array.size_map];omega
simp;omega}
theorem jM (l:Q3 Q4) (q:Nat) (c:Q4) (hc:l[q]? = some c):(AC (l.take q)++l.drop q).set q (A4 c)=AC (l.take (q+1))++l.drop (q+1):=by{
have hq:q<l.length:=(Yd.1 hc).1
have hl:(AC (l.take q)).length=q:=by simp [AC];omega
have hg:l[q]=c:=by rw [Yc hq] at hc;simpa using hc
rw [MD _ _ (by omega),hl,E6,Yt hq,Z0,RB hq,hg]
simp [AC]}
theorem xL (l:Q3 Q4) (q:Nat) (c:Q4) (hc:l[q]? = some c) (he:A4 c=c):AC (l.take q)++l.drop q=AC (l.take (q+1))++l.drop (q+1):=by{
rw [<- jM l q c hc,he]
have hq:q<l.length:=(Yd.1 hc).1
have hl:(AC (l.take q)).length=q:=by simp [AC];omega
have hg:l[q]=c:=by rw [Yc hq] at hc;simpa using hc
rw [MD _ _ (by omega),hl,E6,Yt hq,Z0,hg]}
theorem xM (l:Q3 Q4) (q:Nat) (c:Q4) (hc:l[q]? = some c):(AC (l.take q)++l.drop q)[q]? = some c:=by{
have hq:q<l.length:=(Yd.1 hc).1
have hl:(AC (l.take q)).length=q:=by simp [AC];omega
rw [YP (by omega),hl,E6,G1]
simpa using hc}
theorem P9 (s:Q1) (w:World) (hs:s.size<=9223372036854775807):Calls Tryz.prog 195 #[.string s] w fun e w'=>e = .returned (.string ⟨(AC s.data.toList).toArray⟩)/\Below w.heap.size w w':=by{
obtain ⟨cap,w1,hconv,hb,hB⟩:=xK (P:=Tryz.prog) w 9 141 5 s Tryz.underlying9 Tryz.underlying141 Tryz.underlying5
have HB:=Lib.hid hb
have HBB:=Lib.hid hB
clear hb hB
have HL:Hid (s.data.toList.length=s.size):=Lib.hid (YF)
go_enter Tryz.func195,Tryz.ntmps195
go_wp2
go_loopw [4,5,10] (fun _ _ i wr=>∃ q:Nat,q<=s.size/\i = .int .i64 q/\Below w.heap.size w wr/\BytesAt wr w.heap.size (AC (s.data.toList.take q)++s.data.toList.drop q)) (fun _ _ i _=>s.size-(intOf i).toNat)
case atStart=>exact ⟨0,YJ _,rfl,HB.out,by simpa [AC] using HBB.out⟩
case round=>
 obtain ⟨q,hq,rfl,hbw,hBw⟩:=hrel
 by_cases hlt:q<s.size
 obtain ⟨x,hx⟩:∃ x,s.data.toList[q]? = some x:=⟨_,Yc (by rw [HL.out];exact hlt)⟩
 obtain ⟨c0,f0⟩:=hBw.2 q x (xM _ _ _ hx)
 have HX:=Lib.hid hx
 have HW:=Lib.hid hBw
 have HQ:=Lib.hid hbw
 clear hx hBw hbw hconv
 have hx1:(x.toNat:Int)<256:=by have:=x.toNat_lt;omega
 by_cases h1:(65:Int)<=x.toNat/\(x.toNat:Int)<=90
 ·obtain ⟨h1,h2⟩:=h1
  go_wp2
  go_roundw
  case rel=>
   refine ⟨q+1,by omega,by go_num,HQ.out.setCell (Yn _) _,?_⟩
   have hl:A4 x=UInt8.ofNat (x.toNat+32):=by unfold A4;rw [if_pos (by omega)]
   have hl2:((A4 x).toNat:Int)=(x.toNat:Int)+32:=by rw [hl];simp;omega
   rw [<- jM _ _ _ HX.out,<- hl2]
   exact HW.out.set q _ (by rw [Yb];simp [AC];omega)
  case measure=>simp [intOf];omega
 ·have hk:A4 x=x:=by unfold A4;rw [if_neg (by omega)]
  have HK:=Lib.hid hk
  clear hk
  have h3:(x.toNat:Int)<65\/((65:Int)<=x.toNat/\(90:Int)<x.toNat):=by omega
  clear h1
  rcases h3 with h2 | ⟨h2,h3⟩
  all_goals
   go_wp2
   go_roundw
   case rel=>exact ⟨q+1,by omega,by go_num,HQ.out,by rw [<- xL _ _ _ HX.out HK.out];exact HW.out⟩
   case measure=>simp [intOf];omega
 ·obtain rfl:q=s.size:=by omega
  have hz:AC (s.data.toList.take s.size)++s.data.toList.drop s.size=AC s.data.toList:=by
   rw [H4 (by rw [HL.out];omega),YI (by rw [HL.out];omega),YB]
  rw [hz] at hBw
  have hback:=hBw.back (P:=Tryz.prog) (cap:=cap) 141 9 5 Tryz.underlying141 Tryz.underlying5 Tryz.underlying9
  rw [show (AC s.data.toList).length=s.size by rw [AC,Yv];exact HL.out] at hback
  have HQ:=Lib.hid hbw
  clear hz hBw hbw hconv
  go_wp2
  go_ret
  exact ⟨rfl,HQ.out⟩}
def PA (w:World):Prop:=∃ m,w.cell? ⟨0,0,none⟩=some (.int .i64 m)
theorem xN (s sep:Q3 Q4):(Lib.cut s sep).1.length<=s.length:=by{
unfold Lib.cut
split
simp;omega
exact Yn _}
theorem xO (s p:Q3 Q4):(Lib.trimSuffix s p).length<=s.length:=by{
unfold Lib.trimSuffix
split
rw [YE];omega
exact Yn _}
def CD (n:Q3 Q4):Int:=if n = [116,97,108,107] then 1 else if n = [117,115,101,114] then 2 else if n = [116,101,109,112,108,97,116,101] then 3 else if n = [99,97,116,101,103,111,114,121] then 4 else if n = [112,114,111,106,101,99,116] then 5 else 0
def BW (s:Q3 Q4):Q2 (Int×Q3 Q4):=if (Lib.cut s [58]).2.2=true/\CD (AC (Lib.trimSuffix (Lib.cut s [58]).1 [32]))≠0 then some (CD (AC (Lib.trimSuffix (Lib.cut s [58]).1 [32])),(Lib.cut s [58]).2.1) else none
def PB (s:Q3 Q4):Value:=match BW s with | some (n,r)=>.tuple #[.int .i64 n,.string ⟨r.toArray⟩,.bool true] | none=>.tuple #[.int .i64 0,.string ⟨#[]⟩,.bool false]
theorem xP (w:World):Calls Tryz.prog 196 #[] w fun e w'=>e = .returned (.agg #[.string ⟨#[]⟩,.string ⟨#[84,97,108,107]⟩,.string ⟨#[85,115,101,114]⟩,.string ⟨#[84,101,109,112,108,97,116,101]⟩,.string ⟨#[67,97,116,101,103,111,114,121]⟩,.string ⟨#[80,114,111,106,101,99,116]⟩])/\Below w.heap.size w w':=by
 go_enter Tryz.func196,Tryz.ntmps196
 go_wp2
 exact bodyPost_ret (v:=.agg #[.string ⟨#[]⟩,.string ⟨#[84,97,108,107]⟩,.string ⟨#[85,115,101,114]⟩,.string ⟨#[84,101,109,112,108,97,116,101]⟩,.string ⟨#[67,97,116,101,103,111,114,121]⟩,.string ⟨#[80,114,111,106,101,99,116]⟩]) (by simp [results,Tryz.results196,go_sem]) rfl ⟨rfl,Below.al (Below.refl _ _) _⟩
def CN (q:Nat):Q3 Q4:=match q with | 1=>[116,97,108,107] | 2=>[117,115,101,114] | 3=>[116,101,109,112,108,97,116,101] | 4=>[99,97,116,101,103,111,114,121] | 5=>[112,114,111,106,101,99,116] | _=>[]
theorem VY (n:Q3 Q4) (h:∀ j,1<=j->j<6->n≠CN j):CD n=0:=by{
have h1:=h 1 (by decide) (by decide)
have h2:=h 2 (by decide) (by decide)
have h3:=h 3 (by decide) (by decide)
have h4:=h 4 (by decide) (by decide)
have h5:=h 5 (by decide) (by decide)
simp only [CN] at h1 h2 h3 h4 h5
simp only [CD,h1,h2,h3,h4,h5,if_false]}
theorem cC (j:Nat) (h1:1<=j) (h6:j<6):CD (CN j)=j:=by
 obtain rfl | rfl | rfl | rfl | rfl:j=1\/j=2\/j=3\/j=4\/j=5:=by omega
 all_goals decide
theorem cD (s:Q1) (w:World) (hs:s.size<4294967281) (hG:PA w):Calls Tryz.prog 155 #[.string s] w fun e w'=>e = .returned (PB s.data.toList)/\Below w.heap.size w w':=by{
obtain ⟨m,hm⟩:=hG
have HF:Hid (PB s.data.toList=match BW s.data.toList with
 | some (n,r)=>.tuple #[.int .i64 n,.string ⟨r.toArray⟩,.bool true]
 | none=>.tuple #[.int .i64 0,.string ⟨#[]⟩,.bool false]):=Lib.hid rfl
unfold BW at HF
have hl1:(Lib.cut s.data.toList [58]).1.length<=s.data.toList.length:=xN _ _
go_enter Tryz.func155,Tryz.ntmps155
go_wp2_with fail
refine (Tryz.strings_Cut s _ m _ hs hm).mono ?_
rintro e w1 ⟨rfl,n1,rfl⟩
rw [show (⟨#[58]⟩:Q1).data.toList = [58] from rfl]
generalize Lib.cut s.data.toList [58]=C at *
obtain ⟨b,a,ok⟩:=C
cases ok
·go_wp2
 go_ret3
 exact ⟨by rw [HF.out];simp,Below.dn (Below.refl _ _) _⟩
·go_wp2_with fail
 refine (Tryz.strings_TrimSuffix _ _ _ (by have:=s.data.toList.length;simp only [ByteArray.size,YF,List.size_toArray] at hl1 hs ⊢;omega)).mono ?_
 rintro e w1 ⟨rfl,rfl⟩
 go_wp2_with fail
 refine (P9 _ _ (by have h2:=xO b [32];simp only [ByteArray.size,YF,List.size_toArray] at hl1 hs h2 ⊢;omega)).mono ?_
 rintro e w1 ⟨rfl,hb1⟩
 go_wp2_with fail
 refine (xP _).mono ?_
 rintro e w2 ⟨rfl,hb2⟩
 have HB:=Lib.hid (Below.tr (Below.tr (Below.dn (Below.refl _ _) _) hb1) hb2)
 clear hb1 hb2 hm hs hl1
 generalize AC (Lib.trimSuffix b [32])=N at *
 simp only [true_and] at HF
 go_wp2_with fail
 go_loopw [23] (fun i wr=>∃ z:Int,0<=z/\z<=6/\i = .int .i64 z/\Below w2.heap.size w2 wr/\Hid (∀ j:Nat,1<=j->(j:Int)<z->N≠CN j)) (fun i _=>6-(intOf i).toNat)
 case atStart=>exact ⟨0,by omega,by omega,rfl,Below.refl _ _,fun j _ h=>absurd h (by omega)⟩
 case round=>
  obtain ⟨z,hz0,hz6,rfl,hbw,hno⟩:=hrel
  have HQ:=Lib.hid hbw
  clear hbw
  by_cases h6:z=6
  ·subst h6
   have hz:CD N=0:=VY N fun j h1 h2=>hno.out j h1 (by omega)
   rw [hz] at HF
   clear hz
   go_wp2
   go_ret3
   exact ⟨by rw [HF.out];simp,Below.tr HB.out HQ.out⟩
  ·have hq6:z=0\/z=1\/z=2\/z=3\/z=4\/z=5:=by omega
   clear h6 hz0 hz6
   have ix:∀ w (z:Int) (x:Value),(#[Value.string { data:=#[] },Value.string { data:=#[84,97,108,107] },Value.string { data:=#[85,115,101,114] },Value.string { data:=#[84,101,109,112,108,97,116,101] },Value.string { data:=#[67,97,116,101,103,111,114,121] },Value.string { data:=#[80,114,111,106,101,99,116] }]:Array Value)[z.toNat]? = some x->0<=z->z<6->
    (Instr.index 202 (.agg #[Value.string { data:=#[] },Value.string { data:=#[84,97,108,107] },Value.string { data:=#[85,115,101,114] },Value.string { data:=#[84,101,109,112,108,97,116,101] },Value.string { data:=#[67,97,116,101,103,111,114,121] },Value.string { data:=#[80,114,111,106,101,99,116] }]) (.int .i64 z)).run Tryz.prog w = .ok x w:=by
    intro w z x h h0 h6
    obtain rfl | rfl | rfl | rfl | rfl | rfl:z=0\/z=1\/z=2\/z=3\/z=4\/z=5:=by omega
    all_goals
     (simp at h;subst h;kernel_rfl)
   rcases hq6 with rfl | rfl | rfl | rfl | rfl | rfl
   ·have i0:=fun w=>ix w 0 _ rfl (by decide) (by decide)
    clear ix
    go_wp2
    go_roundw
    case rel=>exact ⟨1,by omega,by omega,rfl,HQ.out,fun j h1 h2=>absurd h2 (by omega)⟩
    case measure=>simp [intOf]
   ·have i0:=fun w=>ix w 1 _ rfl (by decide) (by decide)
    clear ix
    go_wp2_with (go_at_call 195;refine (P9 _ _ (by decide)).mono ?_;rintro e w5 ⟨rfl,hb5⟩)
    ·have h:(N == AC [84,97,108,107])=true:=by assumption
     have hN:N=CN 1:=(DC.1 h).trans (by decide)
     have hz:CD N=1:=by rw [hN];decide
     go_ret3
     exact ⟨by rw [HF.out,hz];simp,Below.tr HB.out (Below.tr HQ.out hb5)⟩
    ·go_roundw
     case rel=>
      have h:(N == AC [84,97,108,107])=false:=by assumption
      have hN:N≠CN 1:=fun e=>YL.1 h (e.trans (by decide))
      refine ⟨1+1,by omega,by omega,rfl,Below.tr HQ.out hb5,fun j h1 h2=>?_⟩
      rcases J3 j 1 with hj | hj
      exact hno.out j h1 (by omega)
      obtain rfl:j=1:=by omega
      exact hN
     case measure=>simp [intOf]
   ·have i0:=fun w=>ix w 2 _ rfl (by decide) (by decide)
    clear ix
    go_wp2_with (go_at_call 195;refine (P9 _ _ (by decide)).mono ?_;rintro e w5 ⟨rfl,hb5⟩)
    ·have h:(N == AC [85,115,101,114])=true:=by assumption
     have hN:N=CN 2:=(DC.1 h).trans (by decide)
     have hz:CD N=2:=by rw [hN];decide
     go_ret3
     exact ⟨by rw [HF.out,hz];simp,Below.tr HB.out (Below.tr HQ.out hb5)⟩
    ·go_roundw
     case rel=>
      have h:(N == AC [85,115,101,114])=false:=by assumption
      have hN:N≠CN 2:=fun e=>YL.1 h (e.trans (by decide))
      refine ⟨2+1,by omega,by omega,rfl,Below.tr HQ.out hb5,fun j h1 h2=>?_⟩
      rcases J3 j 2 with hj | hj
      exact hno.out j h1 (by omega)
      obtain rfl:j=2:=by omega
      exact hN
     case measure=>simp [intOf]
   ·have i0:=fun w=>ix w 3 _ rfl (by decide) (by decide)
    clear ix
    go_wp2_with (go_at_call 195;refine (P9 _ _ (by decide)).mono ?_;rintro e w5 ⟨rfl,hb5⟩)
    ·have h:(N == AC [84,101,109,112,108,97,116,101])=true:=by assumption
     have hN:N=CN 3:=(DC.1 h).trans (by decide)
     have hz:CD N=3:=by rw [hN];decide
     go_ret3
     exact ⟨by rw [HF.out,hz];simp,Below.tr HB.out (Below.tr HQ.out hb5)⟩
    ·go_roundw
     case rel=>
      have h:(N == AC [84,101,109,112,108,97,116,101])=false:=by assumption
      have hN:N≠CN 3:=fun e=>YL.1 h (e.trans (by decide))
      refine ⟨3+1,by omega,by omega,rfl,Below.tr HQ.out hb5,fun j h1 h2=>?_⟩
      rcases J3 j 3 with hj | hj
      exact hno.out j h1 (by omega)
      obtain rfl:j=3:=by omega
      exact hN
     case measure=>simp [intOf]
   ·have i0:=fun w=>ix w 4 _ rfl (by decide) (by decide)
    clear ix
    go_wp2_with (go_at_call 195;refine (P9 _ _ (by decide)).mono ?_;rintro e w5 ⟨rfl,hb5⟩)
    ·have h:(N == AC [67,97,116,101,103,111,114,121])=true:=by assumption
     have hN:N=CN 4:=(DC.1 h).trans (by decide)
     have hz:CD N=4:=by rw [hN];decide
     go_ret3
     exact ⟨by rw [HF.out,hz];simp,Below.tr HB.out (Below.tr HQ.out hb5)⟩
    ·go_roundw
     case rel=>
      have h:(N == AC [67,97,116,101,103,111,114,121])=false:=by assumption
      have hN:N≠CN 4:=fun e=>YL.1 h (e.trans (by decide))
      refine ⟨4+1,by omega,by omega,rfl,Below.tr HQ.out hb5,fun j h1 h2=>?_⟩
      rcases J3 j 4 with hj | hj
      exact hno.out j h1 (by omega)
      obtain rfl:j=4:=by omega
      exact hN
     case measure=>simp [intOf]
   ·have i0:=fun w=>ix w 5 _ rfl (by decide) (by decide)
    clear ix
    go_wp2_with (go_at_call 195;refine (P9 _ _ (by decide)).mono ?_;rintro e w5 ⟨rfl,hb5⟩)
    ·have h:(N == AC [80,114,111,106,101,99,116])=true:=by assumption
     have hN:N=CN 5:=(DC.1 h).trans (by decide)
     have hz:CD N=5:=by rw [hN];decide
     go_ret3
     exact ⟨by rw [HF.out,hz];simp,Below.tr HB.out (Below.tr HQ.out hb5)⟩
    ·go_roundw
     case rel=>
      have h:(N == AC [80,114,111,106,101,99,116])=false:=by assumption
      have hN:N≠CN 5:=fun e=>YL.1 h (e.trans (by decide))
      refine ⟨5+1,by omega,by omega,rfl,Below.tr HQ.out hb5,fun j h1 h2=>?_⟩
      rcases J3 j 5 with hj | hj
      exact hno.out j h1 (by omega)
      obtain rfl:j=5:=by omega
      exact hN
     case measure=>simp [intOf]}
def LL:Q3 Q4:=[60,62,91,93,123,125,124,35,95]
def D5:Int->Q3 Q4->Bool | _,[]=>true | p,c::r=>if (c.toNat:Int)<32\/(c.toNat:Int)=127\/0<=Lib.indexByte LL c\/((c.toNat:Int)=32/\p=32) then false else D5 c.toNat r
theorem VZ {p:Int} {c:Q4} {r:Q3 Q4} (h:(c.toNat:Int)<32\/(c.toNat:Int)=127\/0<=Lib.indexByte LL c\/((c.toNat:Int)=32/\p=32)):D5 p (c::r)=false:=by
 simp only [D5,if_pos h]
theorem W2 {p:Int} {c:Q4} {r:Q3 Q4} (h:¬((c.toNat:Int)<32\/(c.toNat:Int)=127\/0<=Lib.indexByte LL c\/((c.toNat:Int)=32/\p=32))):D5 p (c::r)=D5 c.toNat r:=by
 simp only [D5,if_neg h]
def HM (s:Q1) (q:Nat):Int:=if h:0<q/\q-1<s.size then ((s[q-1]'h.2).toNat:Int) else -1
theorem jN (s:Q1) (w:World) (hs:s.size<=9223372036854775807):Calls Tryz.prog 200 #[.string s] w fun e w'=>e = .returned (.bool (D5 (-1) s.data.toList))/\w=w':=by{
go_enter Tryz.func200,Tryz.ntmps200
go_wp2
go_loop [3,4] (fun i _=>∃ q:Nat,q<=s.size/\i = .int .i64 q/\Hid (D5 (-1) s.data.toList=D5 (HM s q) (s.data.toList.drop q))) (fun i _=>s.size-(intOf i).toNat)
case atStart=>exact ⟨0,YJ _,rfl,rfl⟩
case round=>
 obtain ⟨q,hq,rfl,hC⟩:=hrel
 by_cases hlt:q<s.size
 have HD:Hid (s.data.toList.drop q=s[q]::s.data.toList.drop (q+1)):=Yt (by rw [YF];exact hlt)
 have HP':Hid (HM s (q+1)=((s[q]'hlt).toNat:Int)):=by unfold HM;rw [dif_pos ⟨RQ q,hlt⟩];rfl
 by_cases h0:q=0
 ·subst h0
  have HP:Hid (HM s 0 = -1):=rfl
  go_wp2_with (go_at_call 165;refine (Tryz.strings_IndexByte _ _ _).mono ?_;rintro e w' ⟨rfl,rfl⟩)
  all_goals (try simp only [DC,YL,ne_eq] at *)
  all_goals first
   | (exfalso;omega)
   | (go_ret;refine ⟨DV ?_,rfl⟩;rw [hC.out,HD.out];refine (VZ ?_).symm;rw [HP.out];unfold LL;omega)
   | (go_round;(case rel=>(refine ⟨1,by omega,rfl,?_⟩;rw [hC.out,HD.out,W2 (by rw [HP.out];unfold LL;omega)];exact CA (fun p=>D5 p (s.data.toList.drop (0+1))) HP'.out.symm));(case measure=>(simp [intOf];omega)))
 ·have HP:Hid (HM s q=((s[q-1]'(by omega)).toNat:Int)):=by unfold HM;rw [dif_pos ⟨by omega,by omega⟩];exact Lib.hid rfl
  have h1:0<q:=by omega
  clear h0
  go_wp2_with (go_at_call 165;refine (Tryz.strings_IndexByte _ _ _).mono ?_;rintro e w' ⟨rfl,rfl⟩)
  all_goals (try simp only [DC,YL,ne_eq] at *)
  all_goals first
   | (exfalso;omega)
   | (go_ret;refine ⟨DV ?_,rfl⟩;rw [hC.out,HD.out];refine (VZ ?_).symm;rw [HP.out];unfold LL;omega)
   | (go_round;(case rel=>(refine ⟨q+1,by omega,by go_num,?_⟩;rw [hC.out,HD.out,W2 (by rw [HP.out];unfold LL;omega)];exact CA (fun p=>D5 p (s.data.toList.drop (q+1))) HP'.out.symm));(case measure=>(simp [intOf];omega)))
 ·obtain rfl:q=s.size:=by omega
  have hz:s.data.toList.drop s.size = []:=YI (by rw [YF];exact Yn _)
  have HZ:Hid (D5 (-1) s.data.toList=true):=by rw [hC.out,hz];exact rfl
  clear hz hC
  go_wp2
  go_ret
  exact ⟨DV HZ.out.symm,rfl⟩}
theorem jO (s:Q1):Lib.countB s ⟨#[47]⟩<=s.size:=by{
have h:=Lib.countB_mul_le ⟨#[47]⟩ (by decide) s.size s (Yn _)
have e:(⟨#[47]⟩:Q1).size=1:=rfl
rw [e] at h
omega}
theorem xQ:∀ (l:Q3 Q4) (h:0<l.length),l.headD 0=l[0]
 | _::_,_=>rfl
theorem jP (s:Q1) (h:0<s.size):s.data.toList.headD 0=s[0]:=
 xQ _ (by rw [YF];exact h)
theorem xR (s:Q1) (w:World) (hs:s.size<4294967281) (hG:PA w) (h:BW s.data.toList=none):Calls Tryz.prog 155 #[.string s] w fun e w'=>e = .returned (.tuple #[.int .i64 0,.string ⟨#[]⟩,.bool false])/\Below w.heap.size w w':=
 (cD s w hs hG).mono fun _ _ ⟨he,hb⟩=>⟨he.trans (by unfold PB;rw [h]),hb⟩
theorem xS (s:Q1) (w:World) (hs:s.size<4294967281) (hG:PA w) {n:Int} {r:Q3 Q4} (h:BW s.data.toList=some (n,r)):Calls Tryz.prog 155 #[.string s] w fun e w'=>e = .returned (.tuple #[.int .i64 n,.string ⟨r.toArray⟩,.bool true])/\Below w.heap.size w w':=
 (cD s w hs hG).mono fun _ _ ⟨he,hb⟩=>⟨he.trans (by unfold PB;rw [h]),hb⟩
theorem W3 (sep:Q1):∀ (k:Nat) (s p:Q1),p ∈ Lib.splitB sep 0 k s->p.size<=s.size
 | 0,s,p,h=>by
   rw [Lib.splitB_zero] at h
   simp at h
   rw [h];exact Yn _
 | k+1,s,p,h=>by
   rcases Lib.index_spec s.data.toList sep.data.toList with ⟨h1,_⟩ | ⟨i,h1,_⟩
   rw [Lib.splitB_miss sep 0 (k+1) s h1] at h
   simp at h
   rw [h];exact Yn _
   rw [Lib.splitB_hit sep 0 k s i h1] at h
   rcases Ys.1 h with h | h
   rw [h,FE];omega
   have:=W3 sep k _ p h
   rw [FE] at this
   omega
def EC (p:Q3 Q4):Bool:=decide (p≠[])&&decide (p[0]?≠some 32)&&decide (p.getLast?≠some 32)
theorem jQ (a:Q4):decide (some a≠some 32) = !((a.toNat:Int) == 32):=by{
by_cases h:a=32
subst h;rfl
have h2:a.toNat≠32:=fun e=>h (GM.1 e)
have h3:((a.toNat:Int) == 32)=false:=by rw [YL];omega
rw [h3];simp [h]}
theorem jR (x:Q1) (h:0<x.size):EC x.data.toList = !((x[0].toNat:Int) == 32||((x[x.size-1]'(by omega)).toNat:Int) == 32):=by{
have hl:x.data.toList.length=x.size:=YF
have h1:x.data.toList≠[]:=fun e=>by rw [e] at hl;simp at hl;omega
have h2:x.data.toList[0]? = some x[0]:=Yc (by omega)
have h3:x.data.toList.getLast? = some (x[x.size-1]'(by omega)):=by
 rw [List.getLast?_eq_getElem?,hl]
 exact Yc (by omega)
unfold EC
rw [h2,h3,jQ,jQ]
simp [h1]}
def LM (c:Int):Bool:=decide (c≠58) && !(decide (97<=c)&&decide (c<=122))
theorem cE {c:Int} (h:c=58):LM c=false:=by subst h;rfl
theorem cG {c:Int} (h:97<=c) (h':c<=122):LM c=false:=by simp [LM,h,h']
theorem W4 {c:Int} (h:c≠58) (h':c<97\/122<c):LM c=true:=by
 unfold LM
 have:¬ (97<=c/\c<=122):=by omega
 simp [h];omega
def Title.valid (t:Title):Bool:=decide (0<=t.space)&&decide (t.space<6)&&decide (1<=t.name.size)&&decide (t.name.size<=100)&&D5 (-1) t.name.data.toList && (Lib.splitB ⟨#[47]⟩ 0 (Lib.countB t.name ⟨#[47]⟩) t.name).all (fun p=>EC p.data.toList) && LM (t.name.data.toList.headD 0).toNat && (decide (t.space≠0)||decide (BW t.name.data.toList=none))
theorem xT (t:Title) (w:World) (hG:PA w):Calls Tryz.prog 157 #[.agg #[.int .i64 t.space,.string t.name]] w fun e w'=>e = .returned (.bool t.valid)/\Below w.heap.size w w':=by{
obtain ⟨m,hm⟩:=hG
obtain ⟨sp,s⟩:=t
by_cases h:(0<=sp/\sp<6)/\(1<=s.size/\s.size<=100)/\D5 (-1) s.data.toList=true
·obtain ⟨⟨h1,h2⟩,⟨h3,h4⟩,h5⟩:=h
 go_enter Tryz.func157,Tryz.ntmps157
 go_wp2_with (first | (go_at_call 200;refine (jN _ _ (by omega)).mono ?_;rintro e w' ⟨rfl,rfl⟩) | (go_at_call 197;refine (Tryz.strings_Split _ _ m _ (by omega) (by exact re1 (Below.al (Below.refl _ _) _) (DU hm) hm) (by decide)).mono ?_;rintro e w' ⟨rfl,rfl⟩))
 have hcl:=Lib.splitB_all ⟨#[47]⟩ (by decide) 0 _ s rfl
 have hb:Below w.heap.size w ((w.alloc (Obj.cells #[Value.int IntKind.i64 sp,Value.string s] 29)).alloc (Obj.cells (List.map Value.string (Lib.splitB { data:=#[47] } 0 (Lib.countB s { data:=#[47] }) s)).toArray 9)):=Below.al (Below.al (Below.refl _ _) _) _
 have hS:=SlR.strs (w.alloc (Obj.cells #[Value.int IntKind.i64 sp,Value.string s] 29)) 9 (n:=Lib.countB s { data:=#[47] }+1) (Lib.splitB { data:=#[47] } 0 (Lib.countB s { data:=#[47] }) s) hcl.symm (by have:=jO s;omega)
 have e1:(w.alloc (Obj.cells #[Value.int IntKind.i64 sp,Value.string s] 29)).heap.size=w.heap.size+1:=by simp
 rw [e1] at hS
 have c0:((w.alloc (Obj.cells #[Value.int IntKind.i64 sp,Value.string s] 29)).alloc (Obj.cells (List.map Value.string (Lib.splitB { data:=#[47] } 0 (Lib.countB s { data:=#[47] }) s)).toArray 9)).cell? ⟨w.heap.size,0,none⟩=some (.int .i64 sp):=by go_simp
 generalize (w.alloc (Obj.cells #[Value.int IntKind.i64 sp,Value.string s] 29)).alloc (Obj.cells (List.map Value.string (Lib.splitB { data:=#[47] } 0 (Lib.countB s { data:=#[47] }) s)).toArray 9)=w2 at *
 have HB:=Lib.hid hb
 clear hb e1 hcl
 have hsp:Title.valid ⟨sp,s⟩=((Lib.splitB { data:=#[47] } 0 (Lib.countB s { data:=#[47] }) s).all (fun p=>EC p.data.toList)&&(LM (s.data.toList.headD 0).toNat &&
  (decide (sp≠0)||decide (BW s.data.toList=none)))):=by simp [Title.valid,h1,h2,h3,h4,h5,Bool.and_assoc]
 have splitB_sizes:=fun p h=>YX (W3 ⟨#[47]⟩ (Lib.countB s ⟨#[47]⟩) s p h) h4
 generalize Lib.countB s { data:=#[47] }=K at *
 generalize Lib.splitB { data:=#[47] } 0 K s=ps at *
 have HSP:=Lib.hid hsp
 have HK:=Lib.hid hS.1
 have hle:=hS.le
 clear hsp
 go_loopw [5,37] (fun _ i wr=>∃ q:Nat,q<=K+1/\i = .int .i64 q/\Below w2.heap.size w2 wr/\Hid (ps.all (fun p=>EC p.data.toList)=(ps.drop q).all (fun p=>EC p.data.toList))) (fun _ i _=>K+1-(intOf i).toNat)
 case atStart=>exact ⟨0,by omega,rfl,Below.refl _ _,rfl⟩
 case round=>
  obtain ⟨q,hq,rfl,hbw,hA⟩:=hrel
  have HW:=Lib.hid hbw
  by_cases hlt:q<K+1
  obtain ⟨b,off,x,cs,hA0,hbl,hx,hd,hR,hc⟩:=(hS.mono hbw).elem hlt
  obtain ⟨rfl,rfl⟩:w.heap.size+1=b/\0=off:=by injection hA0 with h;injection h with h1 h2;exact ⟨h1,h2⟩
  have d0:wr.cell? ⟨w.heap.size+1,q,none⟩=some (.string x):=by subst hR;simpa using hc 0 _ rfl
  have HD:=Lib.hid hd
  have hxs:=splitB_sizes x (Yj hx)
  clear hA0 hx hd hR hc hbw hS h5 h1 h2 hbl splitB_sizes
  by_cases hx0:x.size=0
  ·have hx1:x.toList = []:=by rw [ByteArray.toList_eq];exact Yl (by rw [YF];exact hx0)
   have HP:Hid (EC x.data.toList=false):=Lib.hid (by rw [<- ByteArray.toList_eq,hx1];rfl)
   clear hx0
   go_wp2
   go_ret
   exact ⟨DV (by rw [HSP.out,hA.out,HD.out,J1,HP.out];rfl),Below.tr HB.out HW.out⟩
  ·have hx1:¬ x.toList = []:=fun e=>by rw [ByteArray.toList_eq] at e;exact hx0 (by have:=CA List.length e;rw [YF] at this;exact this)
   have hx2:0<x.size:=by omega
   have hx3:(0:Int)<=(x.size:Int)-1:=by omega
   have HP:=Lib.hid (jR x hx2)
   clear hx0
   go_wp2
   all_goals (try simp only [DC,YL,ne_eq,List.isEmpty_iff,List.isEmpty_eq_false_iff] at *)
   all_goals first
    | (exfalso;omega)
    | (go_ret;refine ⟨DV ?_,Below.tr HB.out HW.out⟩;rw [HSP.out,hA.out,HD.out,J1,HP.out];simp_all;done)
    | (go_roundw;(case rel=>(refine ⟨q+1,by omega,by go_num,HW.out,?_⟩;refine Lib.hid ?_;rw [hA.out,HD.out,J1,HP.out];simp_all));(case measure=>(simp [intOf];omega)))
  obtain rfl:q=K+1:=by omega
  have hz:ps.all (fun p=>EC p.data.toList)=true:=by
   rw [hA.out,YI (by rw [<- HK.out];exact Yn _)];rfl
  rw [hz,RP] at HSP
  have c1:wr.cell? ⟨w.heap.size,0,none⟩=some (.int .i64 sp):=re1 hbw (DU c0) c0
  have hm1:wr.cell? ⟨0,0,none⟩=some (.int .i64 m):=re1 (Below.tr HB.out hbw) (DU hm) hm
  have hg:s.data.toList.headD 0=s[0]'(by omega):=jP s (by omega)
  rw [hg] at HSP
  have hs0:(0:Int)<s.size:=by omega
  clear hz hbw hS h5 hA c0 hle splitB_sizes hg hm
  rcases hp:BW s.data.toList with _ | ⟨n,r⟩
  ·rw [hp] at HSP
   have hpr:=fun W h1 h2=>xR s W h1 h2 hp
   clear hp
   go_wp2_with (go_at_call 155;refine (hpr _ (by omega) ⟨m,by assumption⟩).mono ?_;rintro e w5 ⟨rfl,hb5⟩;have c2:=re1 hb5 (DU c1) c1)
   all_goals
    go_ret
    refine ⟨DV ?_,?_⟩
    ·rw [HSP.out]
     simp only [DC,YL,ne_eq] at *
     first
      | (rw [cE (by omega)];rfl)
      | (rw [cG (by omega) (by omega)];rfl)
      | (rw [W4 (by omega) (by omega)];simp_all;done)
    first | exact Below.tr (Below.tr HB.out HW.out) (by assumption) | exact Below.tr HB.out HW.out
  ·rw [hp] at HSP
   have hpr:=fun W h1 h2=>xS s W h1 h2 hp
   clear hp
   go_wp2_with (go_at_call 155;refine (hpr _ (by omega) ⟨m,by assumption⟩).mono ?_;rintro e w5 ⟨rfl,hb5⟩;have c2:=re1 hb5 (DU c1) c1)
   all_goals
    go_ret
    refine ⟨DV ?_,?_⟩
    ·rw [HSP.out]
     simp only [DC,YL,ne_eq] at *
     first
      | (rw [cE (by omega)];rfl)
      | (rw [cG (by omega) (by omega)];rfl)
      | (rw [W4 (by omega) (by omega)];simp_all;done)
    first | exact Below.tr (Below.tr HB.out HW.out) (by assumption) | exact Below.tr HB.out HW.out
·go_enter Tryz.func157,Tryz.ntmps157
 have hv:Title.valid ⟨sp,s⟩=false:=by
  cases hV:Title.valid ⟨sp,s⟩ with
  | false=>rfl
  | true=>
    simp only [Title.valid,YH,YT] at hV
    obtain ⟨⟨⟨⟨⟨⟨⟨ha,hb⟩,hc⟩,hd⟩,hcl⟩,_⟩,_⟩,_⟩:=hV
    exact absurd ⟨⟨ha,hb⟩,⟨hc,hd⟩,hcl⟩ h
 have HV:=Lib.hid hv
 clear hv
 go_wp2_with (first | (go_at_call 200;refine (jN _ _ (by omega)).mono ?_;rintro e w' ⟨rfl,rfl⟩) | (go_at_call 197;exfalso;have h6:(!D5 (-1) s.data.toList)=false:=And.right (by assumption);simp at h6;exact h ⟨⟨by omega,by omega⟩,⟨by omega,by omega⟩,h6⟩))
 all_goals
  go_ret
  exact ⟨DV HV.out.symm,Below.al (Below.refl _ _) _⟩}
def W5 (b:Int):Int:=if 65<=b/\b<=90 then b+32 else b
theorem xU (b:Int) (h0:0<=b) (h1:b<256) (w:World):Calls Tryz.prog 201 #[.int .u8 b] w fun e w'=>e = .returned (.int .u8 (W5 b))/\w=w':=by{
go_enter Tryz.func201,Tryz.ntmps201
go_wp2
all_goals
 go_ret
 refine ⟨OG ?_,rfl⟩
 unfold W5
 first | (rw [if_pos (by omega)];done) | (rw [if_neg (by omega)];done)}
theorem xV (c:Q4):W5 c.toNat=(A4 c).toNat:=by{
unfold W5 A4
by_cases h:65<=c.toNat/\c.toNat<=90
rw [if_pos (by omega),if_pos h];simp;omega
rw [if_neg (by omega),if_neg h]}
theorem jS (c:Q4):0<=(c.toNat:Int)/\(c.toNat:Int)<256:=by have:=c.toNat_lt;omega
theorem jT (a b:Q1) (j:Nat) (hj:j+b.size<=a.size):((a.extract j (j+b.size)).toList == b.toList)=Lib.occAt a.data.toList b.data.toList j:=by
 rw [<- Lib.piece_eq_occAt a b j hj,beq_toListBytes]
theorem xW {a b:Q1} {j:Nat} (hj:¬ j+b.size<=a.size) (hl:j<=a.size):Lib.occAt a.data.toList b.data.toList j=false:=by{
cases ho:Lib.occAt a.data.toList b.data.toList j with
| false=>rfl
| true=>
  rcases Lib.occAt_room ho with h | h
  rw [<- Lib.size_eq,<- Lib.size_eq] at h;omega
  have:b.size=0:=by rw [Lib.size_eq,h];rfl
  omega}
theorem jU (s t:Q1) (w:World) (hs:s.size+t.size<=9223372036854775806):Calls Tryz.prog 93 #[.string s,.string t,.int .i64 0] w fun e w'=>e = .returned (.int .i64 (Lib.index s.data.toList t.data.toList))/\w=w':=by{
go_enter Tryz.func93,Tryz.ntmps93
go_wp2
go_loop [7] (fun i=>∃ q:Nat,q<=s.size+1/\i = .int .i64 q/\Hid (∀ j,j<q->Lib.occAt s.data.toList t.data.toList j=false)) (fun i=>s.size+1-(intOf i).toNat)
case atStart=>exact ⟨0,by omega,rfl,fun j h=>absurd h (by omega)⟩
case round=>
 obtain ⟨q,hq,rfl,hno⟩:=hrel
 by_cases hlt:q+t.size<=s.size
 ·have b1:(0:Int)<=q:=by omega
  have b2:(q:Int)+(t.size:Int)<=(s.size:Int):=by omega
  go_wp2
  ·rename_i hocc _
   go_ret
   refine ⟨OG ?_,rfl⟩
   rw [jT s t q hlt] at hocc
   rw [Lib.index_first (by rw [<- Lib.size_eq];omega) hocc hno.out]
  rename_i hocc
  rw [jT s t q hlt] at hocc
  refine ⟨⟨q+1,by omega,by simp,fun j hj=>?_⟩,by simp [intOf];omega⟩
  by_cases hjq:j<q
  exact hno.out j hjq
  have:j=q:=by omega
  subst this;exact hocc
 ·have b2:¬ (q:Int)+(t.size:Int)<=(s.size:Int):=by omega
  have b3:(s.size:Int)<(q:Int)+(t.size:Int):=by omega
  go_wp2
  all_goals
   first
   | (exfalso;omega)
   | (go_ret
      refine ⟨OG ?_,rfl⟩
      rw [Lib.index_none]
      intro j hj
      rw [<- Lib.size_eq] at hj
      by_cases hjq:j<q
      exact hno.out j hjq
      exact xW (by omega) hj)}
theorem xX (c:Q4) (w:World):Calls Tryz.prog 201 #[.int .u8 c.toNat] w fun e w'=>e = .returned (.int .u8 ((A4 c).toNat:Int))/\w=w':=by
 refine (xU _ (jS c).1 (jS c).2 w).mono ?_
 rintro e w' ⟨rfl,rfl⟩
 exact ⟨by rw [xV],rfl⟩
def FT (a b:Q1):Bool:=decide (AC a.data.toList=AC b.data.toList)
theorem SQ (l:Q3 Q4):(AC l).length=l.length:=by simp [AC]
theorem xY {a b:Q1} (h:a.size≠b.size):FT a b=false:=by{
unfold FT
refine Yf fun e=>h ?_
have:=CA List.length e
rw [SQ,SQ,YF,YF] at this
exact this}
theorem xZ {a b:Q1} (j:Nat) (ha:j<a.size) (hb:j<b.size) (h:A4 a[j]≠A4 b[j]):FT a b=false:=by{
unfold FT
refine Yf fun e=>h ?_
have:=CA (·[j]?) e
simp only [AC,Yw] at this
rw [show a.data.toList[j]? = some a[j] from Yc (by rw [YF];exact ha),show b.data.toList[j]? = some b[j] from Yc (by rw [YF];exact hb)] at this
simpa using this}
theorem y3 {a b:Q1} (hs:a.size=b.size) (h:∀ j (ha:j<a.size) (hb:j<b.size),A4 a[j]=A4 b[j]):FT a b=true:=by{
unfold FT
refine Yh (List.ext_getElem ?_ fun j h1 h2=>?_)
rw [SQ,SQ,YF,YF];exact hs
rw [SQ,YF] at h1 h2
simp only [AC,List.getElem_map]
exact h j h1 h2}
theorem y4 {c d:Q4} (h:¬ ((A4 c).toNat:Int)=(A4 d).toNat):A4 c≠A4 d:=fun e=>h (by rw [e])
theorem y5 {c d:Q4} (h:((A4 c).toNat:Int)=(A4 d).toNat):A4 c=A4 d:=GM.1 (by omega)
theorem cH (a b:Q1) (w:World) (hsz:a.size<=4611686018427387904):Calls Tryz.prog 158 #[.string a,.string b] w fun e w'=>e = .returned (.bool (FT a b))/\Below w.heap.size w w':=by{
by_cases hl:a.size=b.size
case neg=>
 have HE:=Lib.hid (xY hl)
 have h1:¬ (a.size:Int)=b.size:=by omega
 go_enter Tryz.func158,Tryz.ntmps158
 go_wp2
 all_goals first | (exfalso;omega) | (go_ret;exact ⟨DV HE.out.symm,Below.refl _ _⟩)
have HN:Hid (∀ j (ha:j<a.size) (hb:j<b.size),¬ ((A4 a[j]).toNat:Int)=(A4 b[j]).toNat->FT a b=false):=Lib.hid fun j ha hb h=>xZ j ha hb (y4 h)
have HG:Hid ((∀ j (ha:j<a.size) (hb:j<b.size),((A4 a[j]).toNat:Int)=(A4 b[j]).toNat)->FT a b=true):=Lib.hid fun h=>y3 hl fun j ha hb=>y5 (h j ha hb)
have HL:=Lib.hid hl
have hl1:(a.size:Int)=b.size:=by omega
clear hl
go_enter Tryz.func158,Tryz.ntmps158
go_wp2_with fail
clear hl1
go_loopw [5] (fun i wr=>∃ q:Nat,q<=a.size/\i = .int .i64 q/\Below w.heap.size w wr/\Hid (∀ j (ha:j<a.size) (hb:j<b.size),j<q->((A4 a[j]).toNat:Int)=(A4 b[j]).toNat)) (fun i _=>a.size-(intOf i).toNat)
case atStart=>exact ⟨0,by omega,rfl,Below.refl _ _,Lib.hid fun j _ _ h=>absurd h (by omega)⟩
case round=>
 obtain ⟨q,hq,rfl,hbw,hno⟩:=hrel
 have HQ:=Lib.hid hbw
 clear hbw
 by_cases hlt:q<a.size
 ·have hlb:q<b.size:=by rw [<- HL.out];exact hlt
  have HS:Hid (((A4 a[q]).toNat:Int)=(A4 b[q]).toNat->∀ j (ha:j<a.size) (hb:j<b.size),j<q+1->((A4 a[j]).toNat:Int)=(A4 b[j]).toNat):=Lib.hid fun h j hj hb hj2=>by
   by_cases e:j<q
   exact hno.out j hj hb e
   have:j=q:=by omega
   subst this;exact h
  have HN2:=Lib.hid (HN.out q hlt hlb)
  have b1:(0:Int)<=q:=by omega
  have b2:(q:Int)<(a.size:Int):=by omega
  have b3:(q:Int)<(b.size:Int):=by omega
  go_wp2_with fail
  go_quiet ((go_at_call 201;exact Calls.quiet_of_same ((xX _ _).mono (fun e w' h=>⟨h.1,h.2.symm⟩))))
  go_wp2
  all_goals (try simp only [L8,bne_eq_false_iff_eq,ne_eq] at *)
  ·rename_i h
   go_ret
   exact ⟨DV (HN2.out h).symm,Below.dn HQ.out _⟩
  rename_i h
  exact ⟨⟨q+1,by omega,by simp,Below.dn HQ.out _,Lib.hid (HS.out h)⟩,by simp [intOf];omega⟩
 ·have HE:=Lib.hid (HG.out fun j hj hb=>hno.out j hj hb (by omega))
  have b2:(a.size:Int)<=(q:Int):=by omega
  go_wp2
  all_goals first | (exfalso;omega) | (go_ret;exact ⟨DV HE.out.symm,HQ.out⟩)}
def JF (z:Int):Q1:=if z=1 then ⟨#[84,97,108,107]⟩ else if z=2 then ⟨#[85,115,101,114]⟩ else if z=3 then ⟨#[84,101,109,112,108,97,116,101]⟩ else if z=4 then ⟨#[67,97,116,101,103,111,114,121]⟩ else if z=5 then ⟨#[80,114,111,106,101,99,116]⟩ else ⟨#[]⟩
theorem cI (z:Int) (w:World):Calls Tryz.prog 159 #[.int .i64 z] w fun e w'=>e = .returned (.string (JF z))/\Below w.heap.size w w':=by{
have hz:z<0\/6<=z\/z=0\/z=1\/z=2\/z=3\/z=4\/z=5:=by omega
have HE:Hid (z<0\/6<=z->JF z=⟨#[]⟩):=Lib.hid fun h=>by
 unfold JF
 rw [if_neg (by omega),if_neg (by omega),if_neg (by omega),if_neg (by omega),if_neg (by omega)]
by_cases hin:0<=z/\z<6
·obtain ⟨h0,h6⟩:=hin
 obtain rfl | rfl | rfl | rfl | rfl | rfl:z=0\/z=1\/z=2\/z=3\/z=4\/z=5:=by omega
 all_goals
  go_enter Tryz.func159,Tryz.ntmps159
  go_wp2
  go_ret
  exact ⟨rfl,Below.al (Below.refl _ _) _⟩
·have HE2:=Lib.hid (HE.out (by omega))
 have hz2:z<0\/6<=z:=by omega
 clear hz hin HE
 go_enter Tryz.func159,Tryz.ntmps159
 rcases hz2 with hz2 | hz2
 all_goals
  go_wp2
 all_goals
  first
  | (exfalso;omega)
  | (go_ret
     exact ⟨by rw [HE2.out];rfl,Below.al (Below.refl _ _) _⟩)}
theorem cJ (z:Int) (h1:1<=z) (h2:z<6):AC (JF z).data.toList=CN z.toNat:=by
 obtain rfl | rfl | rfl | rfl | rfl:z=1\/z=2\/z=3\/z=4\/z=5:=by omega
 all_goals decide
def GV (p:Q1):Q1:=if h:0<p.size then (if (p[p.size-1]'(by omega)).toNat=32 then p.extract 0 (p.size-1) else p) else p
theorem y6 (s:Q1) (k:Nat) {h0:min k s.size-1<(s.extract 0 k).size} (h:(((s.extract 0 k)[min k s.size-1]'h0).toNat:Int)=32):GV (s.extract 0 k)=(s.extract 0 k).extract 0 (min k s.size-1):=by
 have hsz:(s.extract 0 k).size=min k s.size:=by simp [FE]
 unfold GV
 rw [dif_pos (by omega),if_pos (by simp only [hsz];omega),hsz]
theorem y7 (s:Q1) (k:Nat) {h0:min k s.size-1<(s.extract 0 k).size} (h:¬ (((s.extract 0 k)[min k s.size-1]'h0).toNat:Int)=32):GV (s.extract 0 k)=s.extract 0 k:=by
 have hsz:(s.extract 0 k).size=min k s.size:=by simp [FE]
 unfold GV
 rw [dif_pos (by omega),if_neg (by simp only [hsz];omega)]
theorem y8 (s:Q1) (k:Nat) (h:¬ 0<min k s.size):GV (s.extract 0 k)=s.extract 0 k:=by
 have hsz:(s.extract 0 k).size=min k s.size:=by simp [FE]
 unfold GV
 rw [dif_neg (by omega)]
def GW (s:Q1):Int×Int:=if Lib.index s.data.toList [58]<0 then (0,0) else if CD (AC (GV (s.extract 0 (Lib.index s.data.toList [58]).toNat)).data.toList)=0 then (0,0) else (CD (AC (GV (s.extract 0 (Lib.index s.data.toList [58]).toNat)).data.toList),Lib.index s.data.toList [58])
theorem y9:∀ {s:Q3 Q4} {c:Q4},0<=Lib.index s [c]->Lib.index s [c]<s.length:=by{
intro s
induction s with
| nil=>intro c h;exact absurd h (by simp [Lib.index])
| cons a r ih=>
  intro c h
  by_cases h1:List.isPrefixOf [c] (a::r)=true
  simp only [Lib.index,h1,if_true];simp
  simp only [Lib.index,h1] at h ⊢
  by_cases h2:(Lib.index r [c] == -1)=true
  simp [h2] at h
  simp only [h2] at h ⊢
  have hge:0<=Lib.index r [c]:=by
   have h3:Lib.index r [c]≠-1:=fun e=>h2 (by rw [e];rfl)
   simp at h
   omega
  have:=ih hge
  simp
  omega}
theorem yA {s:Q1} {c:Q4} (h:0<=Lib.index s.data.toList [c]):Lib.index s.data.toList [c]<s.size:=by
 have:=y9 h
 rw [YF] at this
 exact this
theorem jV (s:Q1) (w:World) (hs:s.size<=4611686018427387904):Calls Tryz.prog 92 #[.string s] w fun e w'=>e = .returned (.tuple #[.int .i64 (GW s).1,.int .i64 (GW s).2])/\Below w.heap.size w w':=by{
have HR:Hid (GW s=if Lib.index s.data.toList [58]<0 then (0,0) else if CD (AC (GV (s.extract 0 (Lib.index s.data.toList [58]).toNat)).data.toList)=0 then (0,0) else (CD (AC (GV (s.extract 0 (Lib.index s.data.toList [58]).toNat)).data.toList),Lib.index s.data.toList [58])):=Lib.hid rfl
have HI:Hid (0<=Lib.index s.data.toList [58]->Lib.index s.data.toList [58]<s.size):=Lib.hid yA
generalize GW s=R at *
go_enter Tryz.func92,Tryz.ntmps92
go_wp2_with fail
refine (jU s ⟨#[58]⟩ _ (by show s.size+1<=_;omega)).mono ?_
rintro e w1 ⟨rfl,rfl⟩
rw [show (⟨#[58]⟩:Q1).data.toList = [58] from rfl]
generalize Lib.index s.data.toList [58]=at0 at *
by_cases h0:at0<0
·obtain rfl:=HR.out.trans (if_pos h0)
 go_wp2
 all_goals first | (exfalso;omega) | (exact bodyPost_ret (v:=.tuple #[.int .i64 0,.int .i64 0]) (by simp [results,Tryz.results92,go_sem]) rfl ⟨rfl,Below.refl _ _⟩)
obtain ⟨k,rfl⟩:∃ k:Nat,at0=k:=⟨at0.toNat,by omega⟩
have hk:=HI.out (by omega)
have HR2:=Lib.hid (HR.out.trans (if_neg h0))
clear HR HI h0
simp only [DJ] at HR2
have b1:(0:Int)<=k:=by omega
by_cases hp:0<min k s.size
case neg=>
 rw [y8 s k (by omega)] at HR2
 go_wp2_with fail
 have hNs:Hid ((s.extract 0 k).size<=4611686018427387904):=Lib.hid (by simp only [FE];omega)
 clear hs
 go_loopw [6] (fun i wr=>∃ z:Int,1<=z/\z<=6/\i = .int .i64 z/\Below w.heap.size w wr/\Hid (∀ j:Nat,1<=j->(j:Int)<z->AC (s.extract 0 k).data.toList≠CN j)) (fun i _=>6-(intOf i).toNat)
 case atStart=>exact ⟨1,by omega,by omega,rfl,Below.refl _ _,fun j _ h=>absurd h (by omega)⟩
 case round=>
  obtain ⟨z,hz0,hz6,rfl,hbw,hno⟩:=hrel
  have HQ:=Lib.hid hbw
  clear hbw
  by_cases h6:z=6
  ·subst h6
   have hz:CD (AC (s.extract 0 k).data.toList)=0:=VY _ fun j h1 h2=>hno.out j h1 (by omega)
   obtain rfl:=HR2.out.trans (if_pos hz)
   clear hz
   go_wp2
   exact bodyPost_ret (v:=.tuple #[.int .i64 0,.int .i64 0]) (by simp [results,Tryz.results92,go_sem]) rfl ⟨rfl,HQ.out⟩
  ·have hz7:z<6:=by omega
   have HF:=Lib.hid (cJ z hz0 hz7)
   go_wp2_with fail
   refine (cI z _).mono ?_
   rintro e w5 ⟨rfl,hb5⟩
   go_wp2_with fail
   refine (cH _ _ _ hNs.out).mono ?_
   rintro e w6 ⟨rfl,hb6⟩
   have HB6:=Lib.hid (Below.tr HQ.out (Below.tr hb5 hb6))
   clear hb5 hb6
   by_cases hsame:FT (s.extract 0 k) (JF z)=true
   ·have hfl:AC (s.extract 0 k).data.toList=CN z.toNat:=(GK hsame).trans HF.out
    have hz:CD (AC (s.extract 0 k).data.toList)=z:=by rw [hfl,cC z.toNat (by omega) (by omega)];omega
    have hR:=HR2.out.trans (if_neg (by rw [hz];omega))
    rw [hz] at hR
    obtain rfl:=hR
    rw [hsame]
    clear hz hfl
    go_wp2
    exact bodyPost_ret (v:=.tuple #[.int .i64 z,.int .i64 k]) (by simp [results,Tryz.results92,go_sem]) rfl ⟨rfl,HB6.out⟩
   ·have hsame:FT (s.extract 0 k) (JF z)=false:=by simpa using hsame
    have hfl:AC (s.extract 0 k).data.toList≠CN z.toNat:=fun e=>UL hsame (e.trans HF.out.symm)
    have HN:=Lib.hid hfl
    rw [hsame]
    clear hfl
    go_wp2
    go_roundw
    case rel=>
     refine ⟨z+1,by omega,by omega,rfl,HB6.out,fun j h1 h2=>?_⟩
     by_cases e:(j:Int)<z
     exact hno.out j h1 e
     have:j=z.toNat:=by omega
     subst this;exact HN.out
    case measure=>simp [intOf];omega
have hq:min k s.size-1<(s.extract 0 k).size:=by simp only [FE];omega
have b3:(1:Int)<=(min k s.size:Nat):=by omega
by_cases h:(((s.extract 0 k)[min k s.size-1]'hq).toNat:Int)=32
·rw [y6 s k h] at HR2
 go_wp2_with fail
 clear h b3 hp
 have hNs:Hid (((s.extract 0 k).extract 0 (min k s.size-1)).size<=4611686018427387904):=Lib.hid (by simp only [FE];omega)
 clear hs
 go_loopw [6] (fun i wr=>∃ z:Int,1<=z/\z<=6/\i = .int .i64 z/\Below w.heap.size w wr/\Hid (∀ j:Nat,1<=j->(j:Int)<z->AC ((s.extract 0 k).extract 0 (min k s.size-1)).data.toList≠CN j)) (fun i _=>6-(intOf i).toNat)
 case atStart=>exact ⟨1,by omega,by omega,rfl,Below.refl _ _,fun j _ h=>absurd h (by omega)⟩
 case round=>
  obtain ⟨z,hz0,hz6,rfl,hbw,hno⟩:=hrel
  have HQ:=Lib.hid hbw
  clear hbw
  by_cases h6:z=6
  ·subst h6
   have hz:CD (AC ((s.extract 0 k).extract 0 (min k s.size-1)).data.toList)=0:=VY _ fun j h1 h2=>hno.out j h1 (by omega)
   obtain rfl:=HR2.out.trans (if_pos hz)
   clear hz
   go_wp2
   exact bodyPost_ret (v:=.tuple #[.int .i64 0,.int .i64 0]) (by simp [results,Tryz.results92,go_sem]) rfl ⟨rfl,HQ.out⟩
  ·have hz7:z<6:=by omega
   have HF:=Lib.hid (cJ z hz0 hz7)
   go_wp2_with fail
   refine (cI z _).mono ?_
   rintro e w5 ⟨rfl,hb5⟩
   go_wp2_with fail
   refine (cH _ _ _ hNs.out).mono ?_
   rintro e w6 ⟨rfl,hb6⟩
   have HB6:=Lib.hid (Below.tr HQ.out (Below.tr hb5 hb6))
   clear hb5 hb6
   by_cases hsame:FT ((s.extract 0 k).extract 0 (min k s.size-1)) (JF z)=true
   ·have hfl:AC ((s.extract 0 k).extract 0 (min k s.size-1)).data.toList=CN z.toNat:=(GK hsame).trans HF.out
    have hz:CD (AC ((s.extract 0 k).extract 0 (min k s.size-1)).data.toList)=z:=by rw [hfl,cC z.toNat (by omega) (by omega)];omega
    have hR:=HR2.out.trans (if_neg (by rw [hz];omega))
    rw [hz] at hR
    obtain rfl:=hR
    rw [hsame]
    clear hz hfl
    go_wp2
    exact bodyPost_ret (v:=.tuple #[.int .i64 z,.int .i64 k]) (by simp [results,Tryz.results92,go_sem]) rfl ⟨rfl,HB6.out⟩
   ·have hsame:FT ((s.extract 0 k).extract 0 (min k s.size-1)) (JF z)=false:=by simpa using hsame
    have hfl:AC ((s.extract 0 k).extract 0 (min k s.size-1)).data.toList≠CN z.toNat:=fun e=>UL hsame (e.trans HF.out.symm)
    have HN:=Lib.hid hfl
    rw [hsame]
    clear hfl
    go_wp2
    go_roundw
    case rel=>
     refine ⟨z+1,by omega,by omega,rfl,HB6.out,fun j h1 h2=>?_⟩
     by_cases e:(j:Int)<z
     exact hno.out j h1 e
     have:j=z.toNat:=by omega
     subst this;exact HN.out
    case measure=>simp [intOf];omega
·rw [y7 s k h] at HR2
 have h2:((((s.extract 0 k)[min k s.size-1]'hq).toNat:Int) == 32)=false:=YL.2 h
 clear h
 go_wp2_with fail
 clear h2 hp
 have hNs:Hid ((s.extract 0 k).size<=4611686018427387904):=Lib.hid (by simp only [FE];omega)
 clear hs
 go_loopw [6] (fun i wr=>∃ z:Int,1<=z/\z<=6/\i = .int .i64 z/\Below w.heap.size w wr/\Hid (∀ j:Nat,1<=j->(j:Int)<z->AC (s.extract 0 k).data.toList≠CN j)) (fun i _=>6-(intOf i).toNat)
 case atStart=>exact ⟨1,by omega,by omega,rfl,Below.refl _ _,fun j _ h=>absurd h (by omega)⟩
 case round=>
  obtain ⟨z,hz0,hz6,rfl,hbw,hno⟩:=hrel
  have HQ:=Lib.hid hbw
  clear hbw
  by_cases h6:z=6
  ·subst h6
   have hz:CD (AC (s.extract 0 k).data.toList)=0:=VY _ fun j h1 h2=>hno.out j h1 (by omega)
   obtain rfl:=HR2.out.trans (if_pos hz)
   clear hz
   go_wp2
   exact bodyPost_ret (v:=.tuple #[.int .i64 0,.int .i64 0]) (by simp [results,Tryz.results92,go_sem]) rfl ⟨rfl,HQ.out⟩
  ·have hz7:z<6:=by omega
   have HF:=Lib.hid (cJ z hz0 hz7)
   go_wp2_with fail
   refine (cI z _).mono ?_
   rintro e w5 ⟨rfl,hb5⟩
   go_wp2_with fail
   refine (cH _ _ _ hNs.out).mono ?_
   rintro e w6 ⟨rfl,hb6⟩
   have HB6:=Lib.hid (Below.tr HQ.out (Below.tr hb5 hb6))
   clear hb5 hb6
   by_cases hsame:FT (s.extract 0 k) (JF z)=true
   ·have hfl:AC (s.extract 0 k).data.toList=CN z.toNat:=(GK hsame).trans HF.out
    have hz:CD (AC (s.extract 0 k).data.toList)=z:=by rw [hfl,cC z.toNat (by omega) (by omega)];omega
    have hR:=HR2.out.trans (if_neg (by rw [hz];omega))
    rw [hz] at hR
    obtain rfl:=hR
    rw [hsame]
    clear hz hfl
    go_wp2
    exact bodyPost_ret (v:=.tuple #[.int .i64 z,.int .i64 k]) (by simp [results,Tryz.results92,go_sem]) rfl ⟨rfl,HB6.out⟩
   ·have hsame:FT (s.extract 0 k) (JF z)=false:=by simpa using hsame
    have hfl:AC (s.extract 0 k).data.toList≠CN z.toNat:=fun e=>UL hsame (e.trans HF.out.symm)
    have HN:=Lib.hid hfl
    rw [hsame]
    clear hfl
    go_wp2
    go_roundw
    case rel=>
     refine ⟨z+1,by omega,by omega,rfl,HB6.out,fun j h1 h2=>?_⟩
     by_cases e:(j:Int)<z
     exact hno.out j h1 e
     have:j=z.toNat:=by omega
     subst this;exact HN.out
    case measure=>simp [intOf];omega}
theorem cK:∀ (css:Q3 (Q3 Value)) (xs:Q3 Q1),css.length=xs.length->(∀ (i:Nat) (x:Q1) (cs:Q3 Value),xs[i]? = some x->css[i]? = some cs->cs = [.string x])->css.flatten=xs.map Value.string
 | [],[],_,_=>rfl
 | [],_::_,h,_=>by simp at h
 | _::_,[],h,_=>by simp at h
 | c::css,x::xs,h,hR=>by
   have h0:=hR 0 x c rfl rfl
   subst h0
   rw [G2,cK css xs (by simpa using h) (fun i y cs hy hcs=>hR (i+1) y cs (by simpa using hy) (by simpa using hcs))]
   rfl
theorem OwnL.row {w:World} {B:Nat} {E:TypeId} {v:Value} {xs:Q3 Q1} (h:OwnL w B E v xs):w.ownsRow B E 1 v xs.length (xs.map Value.string):=by
 obtain ⟨css,hl,hr,hR⟩:=h
 rw [cK css xs hl (fun i x cs hx hcs=>hR i x cs hx hcs)] at hr
 exact hr
theorem OwnL.of_row {w:World} {B:Nat} {E:TypeId} {v:Value} {xs:Q3 Q1} (h:w.ownsRow B E 1 v xs.length (xs.map Value.string)):OwnL w B E v xs:=by{
refine ⟨xs.map (fun x=>[.string x]),by simp,?_,fun i x cs hx hcs=>?_⟩
rw [cK _ xs (by simp) (fun i x cs hx hcs=>by rw [Yw,hx] at hcs;simpa using hcs.symm)]
exact h
rw [Yw,hx] at hcs
show cs = [.string x]
simpa using hcs.symm}
theorem OwnL.cellS {w:World} {B:Nat} {E:TypeId} {g n c:Nat} {xs:Q3 Q1} (h:OwnL w B E (.slice (some ⟨g,0,none⟩) n c) xs) (hn:n=xs.length) {i:Nat} {x:Q1} (hx:xs[i]? = some x):w.cell? ⟨g,i,none⟩=some (.string x):=by{
subst hn
have hi:=(Yd.1 hx).1
rw [h.row.cellAt i (by omega),Yw,hx]
rfl}
theorem OwnL.frozenS {w:World} {B:Nat} {E:TypeId} {g n c:Nat} {xs:Q3 Q1} (h:OwnL w B E (.slice (some ⟨g,0,none⟩) n c) xs) (hn:n=xs.length) (i:Nat):w.frozen? ⟨g,i,none⟩=false:=by
 subst hn
 exact h.row.frozenAt i
theorem OwnL.setS {w:World} {B:Nat} {E:TypeId} {g n c:Nat} {xs:Q3 Q1} (h:OwnL w B E (.slice (some ⟨g,0,none⟩) n c) xs) (hn:n=xs.length) (i:Nat) (y:Q1):OwnL (w.setCell ⟨g,i,none⟩ (.string y)) B E (.slice (some ⟨g,0,none⟩) n c) (xs.set i y):=by{
subst hn
have:=(h.row.stored i (.string y)).1
refine OwnL.of_row ?_
rw [H6,List.map_set]
exact this}
def IK (l:Q3 Q1) (c:Q4):Q3 Q1:=if c.toNat=47 then l ++ [⟨#[]⟩] else l.set (l.length-1) (l[l.length-1]?.getD ⟨#[]⟩++⟨#[c]⟩)
def GC (s:Q3 Q4):Q3 Q1:=s.foldl IK [⟨#[]⟩]
theorem okS:RW Tryz.prog 48 9 (Enc.k Q1) 16:=rT Tryz.underlying48 (by kernel_rfl)
theorem yB (s:Q1) (q:Nat) (h:q<s.size):GC (s.data.toList.take (q+1))=IK (GC (s.data.toList.take q)) s[q]:=by{
have h2:s.data.toList[q]? = some s[q]:=Yc (by rw [YF];exact h)
unfold GC
rw [Z3,h2,G3]
rfl}
theorem jW {l:Q3 Q1} {c:Q4} {q:Nat} (h:∀ p ∈ l,p.size<=q):∀ p ∈ IK l c,p.size<=q+1:=by{
intro p hp
unfold IK at hp
split at hp
rcases YD.1 hp with hp | hp
have:=h p hp;omega
rw [YG.1 hp];exact YJ _
rcases IX hp with hp | hp
have:=h p hp;omega
rw [hp,Y5]
have:(⟨#[c]⟩:Q1).size=1:=rfl
cases hx:l[l.length-1]? with
| none=>simp only [Option.getD_none];rw [this];have:(⟨#[]⟩:Q1).size=0:=rfl;omega
| some x=>have:=h x (Yj hx);simp only [E5];omega}
theorem cL (s:Q1) (q:Nat) (h:q<s.size):s.extract q (q+1)=⟨#[s[q]]⟩:=by{
have h2:s.data.toList[q]? = some s[q]:=Yc (by rw [YF];exact h)
refine toList_inj ?_
rw [Lib.extract_toList,ByteArray.toList_eq]
show _ = [s[q]]
rw [Nat.add_sub_cancel_left,List.take_one,List.head?_drop,h2]
rfl}
theorem yC (s:Q1) (w:World) (hs:s.size<=1099511627776):Calls Tryz.prog 95 #[.string s] w fun e w'=>∃ v,e = .returned v/\OwnL w' w.heap.size 9 v (GC s.data.toList)/\Below w.heap.size w w':=by{
go_enter Tryz.func95,Tryz.ntmps95
go_wp2_with fail
have hO:OwnL (w.alloc (Obj.cells #[Value.string { data:=#[] }] 9)) w.heap.size 9 (.slice (some ⟨w.heap.size,0,none⟩) 1 1) [(⟨#[]⟩:Q1)]:=
 OwnL.built [[.string ⟨#[]⟩]] _ (Yn _) rfl rfl (by decide) (fun i x cs hx hcs=>by
  rcases i with _ | i
  simp at hx hcs;subst hx;subst hcs;exact rfl
  simp at hx) rfl
have HO:=Lib.hid hO
clear hO
go_loopw [3,4] (fun l i wr=>∃ q g n c:Nat,q<=s.size/\i = .int .i64 q/\l = .slice (some ⟨g,0,none⟩) n c/\n=(GC (s.data.toList.take q)).length/\1<=n/\n<=q+1/\Hid (∀ p ∈ GC (s.data.toList.take q),p.size<=q)/\Below w.heap.size w wr/\OwnL wr w.heap.size 9 (.slice (some ⟨g,0,none⟩) n c) (GC (s.data.toList.take q))) (fun _ i _=>s.size-(intOf i).toNat)
case atStart=>exact ⟨0,w.heap.size,1,1,by omega,rfl,rfl,rfl,by omega,by omega,Lib.hid (fun p hp=>by rw [YG.1 hp];exact YJ _),Below.al (Below.refl _ _) _,HO.out⟩
case round=>
 obtain ⟨q,g,n,c,hq,rfl,rfl,hn,h1,h2,HSZ,hbw,hown⟩:=hrel
 have HN:=Lib.hid hn
 have HQ:=Lib.hid hbw
 have HW:=Lib.hid hown
 clear hn hbw hown HO
 by_cases hlt:q<s.size
 have b1:(0:Int)<=q:=by omega
 have b2:(q:Int)<(s.size:Int):=by omega
 have HP:=Lib.hid (yB s q hlt)
 generalize GC (s.data.toList.take q)=L at *
 by_cases h47:(s[q].toNat:Int)=47
 ·have hl:=HW.out
  have b3:n+1<=maxLen:=by unfold maxLen;omega
  have b4:(n+1) * 16<=140737488355328:=by omega
  have B3:Hid (L.length+1<=maxLen):=Lib.hid (by rw [<- HN.out];exact b3)
  have B4:Hid ((L.length+1) * 16<=140737488355328):=Lib.hid (by rw [<- HN.out];exact b4)
  have hg:w.heap.size<=wr.heap.size:=HQ.out.size
  clear hl b3 b4
  go_wp2_with (at_builtin;go_must (refine rW rfl _ _ 48 rfl okS (by decide) (B:=w.heap.size) (v:=.slice (some ⟨g,0,none⟩) n c) (xs:=L) rfl (HW.out.keep (Below.al (Below.refl _ _) _)) (ys:=[(⟨#[]⟩:Q1)]) rfl (SlR.made (fun x:Q1=>[.string x]) (fun _ _ _=>rfl) _ _ (by simp) rfl (by simp) rfl) (fun _ _ _ h=>h) B3.out B4.out (by simp;omega) ?_);intro v' w' hown hg2 hv')
  obtain ⟨A,c',rfl,_,hA⟩:=hown.sl
  obtain ⟨g',rfl,_,_⟩:=hA (by simp)
  have hst:IK L s[q]=L ++ [⟨#[]⟩]:=by unfold IK;rw [if_pos (by omega)]
  refine ⟨⟨q+1,g',_,c',by omega,rfl,rfl,?_,?_,?_,?_,?_,?_⟩,by simp [intOf];omega⟩
  rw [HP.out,hst]
  simp
  simp only [Yb,YC];rw [<- HN.out];omega
  rw [HP.out];exact Lib.hid (jW HSZ.out)
  exact (HQ.out.alloc hg _).grown hg2 (by simp;omega) (fun j hj=>by cases hj;exact HW.out.ge rfl)
  rw [HP.out,hst];exact hown
 ·obtain ⟨x,hx⟩:∃ x,L[n-1]? = some x:=⟨_,Yc (by have:=HN.out;omega)⟩
  have c0:=HW.out.cellS HN.out hx
  have f0:=HW.out.frozenS HN.out (n-1)
  have HX:=Lib.hid hx
  have hxs:=HSZ.out x (Yj hx)
  clear hx
  have hext:(s.extract q (q+1)).size=1:=by rw [cL s q hlt];rfl
  have b4:x.size+(s.extract q (q+1)).size<=9223372036854775807:=by rw [hext];omega
  have b5:x.size+(min (q+1) s.size-q)<=9223372036854775807:=by omega
  clear hext hxs
  have b3:(1:Int)<=n:=by omega
  obtain ⟨m,rfl⟩:∃ m:Nat,n=m+1:=⟨n-1,by omega⟩
  simp only [RK] at c0 f0 HX
  go_upto_region 7 with fail
  go_region
  go_wp2
  refine ⟨⟨q+1,g,m+1,c,by omega,rfl,rfl,?_,by omega,by omega,?_,?_,?_⟩,by simp [intOf];omega⟩
  rw [HP.out];unfold IK;rw [if_neg (by omega),H6];exact HN.out
  rw [HP.out];exact Lib.hid (jW HSZ.out)
  have hge:w.heap.size<=g:=HW.out.ge rfl
  have hbs:Below w.heap.size w (wr.setCell ⟨g,m,none⟩ (.string (x++s.extract q (q+1)))):=HQ.out.setCell hge _
  exact Below.drew hbs
  refine OwnL.keep (Below.refl _ _).drew ?_
  have hst:=HW.out.setS HN.out m (x++s.extract q (q+1))
  rw [HP.out]
  unfold IK
  rw [if_neg (by omega),<- HN.out,RK,HX.out,E5,<- cL s q hlt]
  exact hst
 ·have b2:(s.size:Int)<=(q:Int):=by omega
  obtain rfl:q=s.size:=by omega
  rw [H4 (by rw [YF];exact Yn _)] at HW
  go_wp2
  go_ret
  exact ⟨_,rfl,HW.out,HQ.out⟩}
def C7:Q3 Q4->Q3 Q4->Q3 (Q3 Q4) | a,[]=>[a] | a,c::r=>if c.toNat=47 then a::C7 [] r else C7 (a ++ [c]) r
theorem cM:∀ (s a r:Q3 Q4),(∀ k:Nat,s[k]?≠some 47)->C7 a (s++r)=C7 (a++s) r
 | [],a,r,_=>by simp
 | c::s,a,r,h=>by
   have h0:c.toNat≠47:=fun e=>h 0 (by simp;exact GM.1 e)
   rw [FG,C7,if_neg h0,cM s (a ++ [c]) r (fun k=>by have:=h (k+1);simpa using this),YM]
   rfl
theorem yD (l:Q3 Q1) (p:Q1) (c:Q4):IK (l ++ [p]) c=if c.toNat=47 then l ++ [p] ++ [⟨#[]⟩] else l ++ [p++⟨#[c]⟩]:=by{
unfold IK
by_cases h:c.toNat=47
rw [if_pos h,if_pos h]
rw [if_neg h,if_neg h]
have hl:(l ++ [p]).length-1=l.length:=by simp
rw [hl,YP (Yn _),E6,MD _ _ (Yn _),E6]
rfl}
theorem yE (p:Q1) (c:Q4):(p++⟨#[c]⟩:Q1).data.toList=p.data.toList ++ [c]:=by
 simp
theorem cN:∀ (s:Q3 Q4) (l:Q3 Q1) (p:Q1),(s.foldl IK (l ++ [p])).map (·.data.toList)=l.map (·.data.toList)++C7 p.data.toList s
 | [],l,p=>by simp [C7]
 | c::r,l,p=>by
   rw [List.foldl_cons,yD,C7]
   by_cases h:c.toNat=47
   rw [if_pos h,if_pos h,cN r (l ++ [p]) ⟨#[]⟩]
   simp
   rw [if_neg h,if_neg h,cN r l _,yE]
theorem yF (s:Q3 Q4):(GC s).map (·.data.toList)=C7 [] s:=by
 have:=cN s [] ⟨#[]⟩
 simpa [GC] using this
theorem cO:∀ (k:Nat) (s:Q1),Lib.countB s ⟨#[47]⟩=k->(Lib.splitB ⟨#[47]⟩ 0 k s).map (·.data.toList)=C7 [] s.data.toList
 | k,s,hk=>by
   have h1:Lib.indexB s ⟨#[47]⟩=Lib.indexByte s.data.toList 47:=Lib.index_one _ _
   rcases Lib.indexB_cases s ⟨#[47]⟩ with hi | ⟨i,hi,hlt⟩
   ·rw [Lib.splitB_miss _ _ _ _ hi]
    have:=cM s.data.toList [] [] (Lib.indexByte_none (h1.symm.trans hi))
    rw [YB] at this
    rw [this]
    rfl
   ·have hc:=Lib.countB_hit s ⟨#[47]⟩ i (by decide) hi
    obtain ⟨k',rfl⟩:∃ k',k=k'+1:=⟨k-1,by omega⟩
    rw [Lib.splitB_hit _ _ _ _ i hi,YO,cO k' _ (by omega)]
    have he:(⟨#[47]⟩:Q1).size=1:=rfl
    rw [he,Lib.extract_to_end,Lib.extract_data]
    obtain ⟨h2,h3⟩:=Lib.indexByte_some (h1.symm.trans hi)
    have hil:=(Yd.1 h2).1
    have hsplit:s.data.toList=s.data.toList.take i++(47::s.data.toList.drop (i+1)):=by
     have h4:s.data.toList.drop i=47::s.data.toList.drop (i+1):=by
      rw [Yt hil]
      rw [Yc hil] at h2
      rw [DB h2]
     rw [<- h4,YQ]
    conv=>rhs;rw [hsplit]
    rw [cM _ [] _ (fun k hk=>by
     rw [FF] at hk
     split at hk
     ·rename_i hki;exact h3 k hki hk
     ·cases hk),C7,if_pos (by decide)]
    simp
theorem jX (s:Q1) (f:Q3 Q4->Bool):(GC s.data.toList).all (fun p=>f p.data.toList)=(Lib.splitB ⟨#[47]⟩ 0 (Lib.countB s ⟨#[47]⟩) s).all (fun p=>f p.data.toList):=by{
have h1:=CA (·.all f) (yF s.data.toList)
have h2:=CA (·.all f) (cO _ s rfl)
simp only [List.all_map] at h1 h2
exact h1.trans h2.symm}
theorem yG (p:Q1):(GV p).data.toList=Lib.trimSuffix p.data.toList [32]:=by{
have hl:p.data.toList.length=p.size:=YF
unfold GV Lib.trimSuffix Lib.hasSuffix
by_cases h:0<p.size
have hd:p.data.toList.drop (p.data.toList.length - [(32:Q4)].length) = [p[p.size-1]]:=by
 rw [hl,YC,Yt (by omega),YI (by omega)]
 rfl
have hap:=YQ (p.data.toList.length - [(32:Q4)].length) p.data.toList
rw [hd] at hap
rw [dif_pos h]
by_cases h2:(p[p.size-1]'(by omega)).toNat=32
have h3:p[p.size-1]=(32:Q4):=GM.1 h2
rw [h3] at hap
rw [if_pos h2,if_pos (List.isSuffixOf_iff_suffix.2 ⟨_,hap⟩),Lib.extract_data,hl]
simp
have h3:p[p.size-1]≠(32:Q4):=fun e=>h2 (by rw [e];rfl)
rw [if_neg h2,if_neg]
intro hs
obtain ⟨t,ht⟩:=List.isSuffixOf_iff_suffix.1 hs
rw [<- hap] at ht
have:=(List.append_inj' ht rfl).2
simp at this
exact h3 this.symm
have h0:p.data.toList = []:=Yl (by omega)
rw [dif_neg h,h0]
rfl}
theorem jY (s:Q1):GW s=match BW s.data.toList with
  | some (n,_)=>(n,Lib.index s.data.toList [58])
  | none=>(0,0):=by{
unfold GW BW Lib.cut
by_cases h:Lib.index s.data.toList [58]<0
rw [if_pos h,if_neg (show ¬ 0<=Lib.index s.data.toList [58] by omega)]
simp
rw [if_neg h,if_pos (show 0<=Lib.index s.data.toList [58] by omega)]
have he:(GV (s.extract 0 (Lib.index s.data.toList [58]).toNat)).data.toList=Lib.trimSuffix (s.data.toList.take (Lib.index s.data.toList [58]).toNat) [32]:=by
 rw [yG,Lib.extract_data]
 simp
rw [he]
by_cases h2:CD (AC (Lib.trimSuffix (s.data.toList.take (Lib.index s.data.toList [58]).toNat) [32]))=0
rw [if_pos h2,if_neg (by simp [h2])]
rw [if_neg h2,if_pos ⟨rfl,h2⟩]}
theorem cP {s:Q3 Q4} {n:Int} {r:Q3 Q4} (h:BW s=some (n,r)):0<=Lib.index s [58]/\r=s.drop ((Lib.index s [58]).toNat+1)/\n=CD (AC (Lib.trimSuffix (s.take (Lib.index s [58]).toNat) [32]))/\n≠0:=by{
unfold BW Lib.cut at h
by_cases h0:0<=Lib.index s [58]
rw [if_pos h0] at h
simp only [true_and,YC] at h
split at h
rename_i h2
simp only [Yp,EM] at h
exact ⟨h0,h.2.symm,h.1.symm,h.1 ▸ h2⟩
cases h
rw [if_neg h0] at h
simp at h}
theorem yH (s:Q1):decide ((GW s).1=0)=decide (BW s.data.toList=none):=by{
rw [jY]
cases h:BW s.data.toList with
| none=>rfl
| some x=>
  obtain ⟨n,r⟩:=x
  have:=(cP h).2.2.2
  simp [this]}
end
end Go.Proofs.YtmgfammllddkhaaGreatDoor
