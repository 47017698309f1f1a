/- DERIVED: THE -/
import Derived.Shelf.Strings.OnBuilder
import Derived.Shelf.Strings.Trim
import Derived.Shelf.Small.Bits
import Derived.Shelf.Small.Wraps
import Derived.Shelf.Utf8.RuneCount
import Derived.Shelf.Strings.Shaped
import Derived.Shelf.Strings.SplitShaped
import Derived.Shelf.Unicode.Decode
import Derived.Shelf.Strings.RuneCount
import Derived.Shelf.Strings.IndexAnyAll
import Derived.Shelf.Strings.Repeat
import Derived.Shelf.Unicode.DecodeLast
import Derived.Shelf.Strings.BuilderCap
import Derived.Shelf.Slices.SearchI
import Derived.Test.YtmgfammllddkhaaGreatDoorCU03
set_option linter.unusedSimpArgs false
set_option maxHeartbeats 4000000
set_option maxRecDepth 100000
set_option linter.unusedVariables false
namespace Go.Proofs
open Go.Shelf
def Tryz.lays169_ren:Go.Shelf.Ren:=⟨fun | 169=>176 | n=>n,fun | 70=>184 | 9=>9 | 0=>0 | 72=>186 | 37=>141 | 127=>213 | 3=>3 | 5=>5 | n=>n,fun | n=>n⟩
theorem Tryz.lays169:Go.Proofs.Lays.n169 Tryz.prog Tryz.lays169_ren:={
 mixed:=by kernel_rfl
 f169:=Tryz.func176.trans (congrArg some (by kernel_rfl))
 t0:=Tryz.underlying0
 a0:=Tryz.isAgg0
 z0:=Tryz.sizeOf0
 v0:=Tryz.zeroValue0
 t3:=Tryz.underlying3
 a3:=Tryz.isAgg3
 z3:=Tryz.sizeOf3
 v3:=Tryz.zeroValue3
 t9:=Tryz.underlying9
 a9:=Tryz.isAgg9
 z9:=Tryz.sizeOf9
 v9:=Tryz.zeroValue9
 t37:=Tryz.underlying141
 a37:=Tryz.isAgg141
 z37:=Tryz.sizeOf141
 v37:=Tryz.zeroValue141
 t70:=Tryz.underlying184
 a70:=Tryz.isAgg184
 z70:=Tryz.sizeOf184
 v70:=Tryz.zeroValue184
 t72:=Tryz.underlying186
 a72:=Tryz.isAgg186
 z72:=Tryz.sizeOf186
 v72:=Tryz.zeroValue186
 t127:=Tryz.underlying213
 a127:=Tryz.isAgg213
 z127:=Tryz.sizeOf213
 v127:=Tryz.zeroValue213 }
theorem Tryz.Builder_Extra_169:Builder.Extra Tryz.prog Tryz.lays169_ren:={
 sizeBuilder:=by kernel_rfl
 liesBuilder:=by kernel_rfl
 t5:=Tryz.underlying5
 a5:=Tryz.isAgg5
 z5:=Tryz.sizeOf5
 v5:=Tryz.zeroValue5
 infoByte:=by kernel_rfl
 cellsByte:=by kernel_rfl
 sizeByte:=by kernel_rfl
 neB5:=by decide }
def Tryz.lays156_ren:Go.Shelf.Ren:=⟨fun | 156=>199 | 165=>173 | 166=>174 | 169=>176 | 240=>207 | 241=>208 | 276=>216 | 277=>217 | n=>n,fun | 31=>48 | 9=>9 | 3=>3 | 4=>4 | 0=>0 | 20=>20 | 72=>186 | 76=>189 | 70=>184 | 37=>141 | 75=>188 | 127=>213 | 164=>221 | 5=>5 | 80=>175 | n=>n,fun | n=>n⟩
theorem Tryz.lays156:Go.Proofs.Lays.n156 Tryz.prog Tryz.lays156_ren:={
 mixed:=by kernel_rfl
 f156:=Tryz.func199.trans (congrArg some (by kernel_rfl))
 f165:=Tryz.func173.trans (congrArg some (by kernel_rfl))
 f166:=Tryz.func174.trans (congrArg some (by kernel_rfl))
 f169:=Tryz.func176.trans (congrArg some (by kernel_rfl))
 f240:=Tryz.func207.trans (congrArg some (by kernel_rfl))
 f241:=Tryz.func208.trans (congrArg some (by kernel_rfl))
 f276:=Tryz.func216.trans (congrArg some (by kernel_rfl))
 f277:=Tryz.func217.trans (congrArg some (by kernel_rfl))
 t0:=Tryz.underlying0
 a0:=Tryz.isAgg0
 z0:=Tryz.sizeOf0
 v0:=Tryz.zeroValue0
 t3:=Tryz.underlying3
 a3:=Tryz.isAgg3
 z3:=Tryz.sizeOf3
 v3:=Tryz.zeroValue3
 t4:=Tryz.underlying4
 a4:=Tryz.isAgg4
 z4:=Tryz.sizeOf4
 v4:=Tryz.zeroValue4
 t9:=Tryz.underlying9
 a9:=Tryz.isAgg9
 z9:=Tryz.sizeOf9
 v9:=Tryz.zeroValue9
 t20:=Tryz.underlying20
 a20:=Tryz.isAgg20
 z20:=Tryz.sizeOf20
 v20:=Tryz.zeroValue20
 t31:=Tryz.underlying48
 a31:=Tryz.isAgg48
 z31:=Tryz.sizeOf48
 v31:=Tryz.zeroValue48
 t37:=Tryz.underlying141
 a37:=Tryz.isAgg141
 z37:=Tryz.sizeOf141
 v37:=Tryz.zeroValue141
 t70:=Tryz.underlying184
 a70:=Tryz.isAgg184
 z70:=Tryz.sizeOf184
 v70:=Tryz.zeroValue184
 t72:=Tryz.underlying186
 a72:=Tryz.isAgg186
 z72:=Tryz.sizeOf186
 v72:=Tryz.zeroValue186
 t75:=Tryz.underlying188
 a75:=Tryz.isAgg188
 z75:=Tryz.sizeOf188
 v75:=Tryz.zeroValue188
 t76:=Tryz.underlying189
 a76:=Tryz.isAgg189
 z76:=Tryz.sizeOf189
 v76:=Tryz.zeroValue189
 t127:=Tryz.underlying213
 a127:=Tryz.isAgg213
 z127:=Tryz.sizeOf213
 v127:=Tryz.zeroValue213
 t164:=Tryz.underlying221
 a164:=Tryz.isAgg221
 z164:=Tryz.sizeOf221
 v164:=Tryz.zeroValue221 }
theorem Tryz.Builder_Extra_156:Builder.Extra Tryz.prog Tryz.lays156_ren:={
 sizeBuilder:=by kernel_rfl
 liesBuilder:=by kernel_rfl
 t5:=Tryz.underlying5
 a5:=Tryz.isAgg5
 z5:=Tryz.sizeOf5
 v5:=Tryz.zeroValue5
 infoByte:=by kernel_rfl
 cellsByte:=by kernel_rfl
 sizeByte:=by kernel_rfl
 neB5:=by decide }
open Go.RowKit in
theorem Tryz.strings_Join (bk o c:Nat) (xs:List ByteArray) (sep:ByteArray) (w:World) (hcells:∀ (j:Nat) x,xs[j]? = some x->w.cell? ⟨bk,o+j,none⟩=some (.string x)) (hbk:bk<w.heap.size) (hN:xs.length<=140737488355328) (hcap:xs.length<=c) (hlen:(Lib.join (xs.map (·.data.toList)) sep.data.toList).length<=140737488355328) :
  Calls Tryz.prog 199 #[.slice (some ⟨bk,o,none⟩) xs.length c,.string sep] w fun e w'=>e = .returned (.string ⟨(Lib.join (xs.map (·.data.toList)) sep.data.toList).toArray⟩)/\Below w.heap.size w w':=Any.strings_Join Tryz.lays156 Tryz.Builder_Extra_156 bk o c xs sep w hcells hbk hN hcap hlen
def Tryz.lays213_ren:Go.Shelf.Ren:=⟨fun | 213=>129 | 265=>183 | n=>n,fun | 9=>9 | 3=>3 | n=>n,fun | n=>n⟩
def Tryz.lays106_ren:Go.Shelf.Ren:=⟨fun | 106=>71 | 213=>129 | 265=>183 | n=>n,fun | 9=>9 | 3=>3 | n=>n,fun | n=>n⟩
theorem Tryz.lays106:Go.Proofs.Lays.n106 Tryz.prog Tryz.lays106_ren:={
 mixed:=by kernel_rfl
 f106:=Tryz.func71.trans (congrArg some (by kernel_rfl))
 f213:=Tryz.func129.trans (congrArg some (by kernel_rfl))
 f265:=Tryz.func183.trans (congrArg some (by kernel_rfl))
 t3:=Tryz.underlying3
 a3:=Tryz.isAgg3
 z3:=Tryz.sizeOf3
 v3:=Tryz.zeroValue3
 t9:=Tryz.underlying9
 a9:=Tryz.isAgg9
 z9:=Tryz.sizeOf9
 v9:=Tryz.zeroValue9 }
open Go.RowKit in
theorem Tryz.strings_Compare (a b:ByteArray) (w:World) :
  Calls Tryz.prog 71 #[.string a,.string b] w fun e w'=>e = .returned (.int .i64 (Lib.compareBytes a.data.toList b.data.toList))/\w'=w:=Any.strings_Compare Tryz.lays106 a b w
def Tryz.lays137_ren:Go.Shelf.Ren:=⟨fun | 137=>165 | 217=>161 | 266=>202 | n=>n,fun | 9=>9 | 5=>5 | 3=>3 | n=>n,fun | n=>n⟩
theorem Tryz.lays137:Go.Proofs.Lays.n137 Tryz.prog Tryz.lays137_ren:={
 mixed:=by kernel_rfl
 f137:=Tryz.func165.trans (congrArg some (by kernel_rfl))
 f217:=Tryz.func161.trans (congrArg some (by kernel_rfl))
 f266:=Tryz.func202.trans (congrArg some (by kernel_rfl))
 t3:=Tryz.underlying3
 a3:=Tryz.isAgg3
 z3:=Tryz.sizeOf3
 v3:=Tryz.zeroValue3
 t5:=Tryz.underlying5
 a5:=Tryz.isAgg5
 z5:=Tryz.sizeOf5
 v5:=Tryz.zeroValue5
 t9:=Tryz.underlying9
 a9:=Tryz.isAgg9
 z9:=Tryz.sizeOf9
 v9:=Tryz.zeroValue9 }
open Go.RowKit in
theorem Tryz.strings_IndexByte (s:ByteArray) (c:Int) (w:World) :
  Calls Tryz.prog 165 #[.string s,.int .u8 c] w fun e w'=>e = .returned (.int .i64 (Lib.indexByte s.data.toList c.toNat.toUInt8))/\w'=w:=Any.strings_IndexByte Tryz.lays137 s c w
def Tryz.lays210_ren:Go.Shelf.Ren:=⟨fun | 210=>83 | 206=>148 | n=>n,fun | 9=>9 | 4=>4 | 3=>3 | n=>n,fun | n=>n⟩
def Tryz.lays215_ren:Go.Shelf.Ren:=⟨fun | 215=>70 | n=>n,fun | 3=>3 | 4=>4 | n=>n,fun | n=>n⟩
def Tryz.lays122_ren:Go.Shelf.Ren:=⟨fun | 122=>35 | 215=>70 | n=>n,fun | 3=>3 | 4=>4 | n=>n,fun | n=>n⟩
theorem Tryz.lays122:Go.Proofs.Lays.n122 Tryz.prog Tryz.lays122_ren:={
 mixed:=by kernel_rfl
 f122:=Tryz.func35.trans (congrArg some (by kernel_rfl))
 f215:=Tryz.func70.trans (congrArg some (by kernel_rfl))
 t3:=Tryz.underlying3
 a3:=Tryz.isAgg3
 z3:=Tryz.sizeOf3
 v3:=Tryz.zeroValue3
 t4:=Tryz.underlying4
 a4:=Tryz.isAgg4
 z4:=Tryz.sizeOf4
 v4:=Tryz.zeroValue4 }
open Go.RowKit in
theorem Tryz.cmp_Compare_int (x y:Int) (w:World) :
  Calls Tryz.prog 35 #[.int .i64 x,.int .i64 y] w fun e w'=>e = .returned (.int .i64 (Lib.compareInt x y))/\w'=w:=Any.cmp_Compare_int Tryz.lays122 x y w
open Go.RowKit in
theorem Tryz.Builder_String_any_f (B b:Nat) (l:List UInt8) (w:World) (h:Lib.IsBuilderF 186 5 B b (Lib.byteCells l) w) (hBw:B<=w.heap.size) :
  Calls Tryz.prog 176 #[.pointer (some ⟨b,0,none⟩)] w fun e w'=>e = .returned (.string ⟨l.toArray⟩)/\(Lib.IsBuilderF 186 5 B b (Lib.byteCells l) w'/\Below B w w'):=Any.Builder_String_any_f Tryz.lays169 Tryz.Builder_Extra_169 B b l w h hBw
def Tryz.lays219_ren:Go.Shelf.Ren:=⟨fun | 219=>96 | 217=>161 | 225=>162 | 224=>163 | 267=>164 | 266=>202 | 314=>203 | n=>n,fun | 9=>9 | 3=>3 | 4=>4 | 5=>5 | 46=>114 | 146=>207 | 51=>160 | n=>n,fun | 1=>0 | n=>n⟩
def Tryz.lays143_ren:Go.Shelf.Ren:=⟨fun | 143=>58 | 219=>96 | 217=>161 | 225=>162 | 224=>163 | 267=>164 | 266=>202 | 314=>203 | n=>n,fun | 9=>9 | 3=>3 | 4=>4 | 5=>5 | 46=>114 | 146=>207 | 51=>160 | n=>n,fun | 1=>0 | n=>n⟩
theorem Tryz.lays143:Go.Proofs.Lays.n143 Tryz.prog Tryz.lays143_ren:={
 mixed:=by kernel_rfl
 f143:=Tryz.func58.trans (congrArg some (by kernel_rfl))
 f217:=Tryz.func161.trans (congrArg some (by kernel_rfl))
 f219:=Tryz.func96.trans (congrArg some (by kernel_rfl))
 f224:=Tryz.func163.trans (congrArg some (by kernel_rfl))
 f225:=Tryz.func162.trans (congrArg some (by kernel_rfl))
 f266:=Tryz.func202.trans (congrArg some (by kernel_rfl))
 f267:=Tryz.func164.trans (congrArg some (by kernel_rfl))
 f314:=Tryz.func203.trans (congrArg some (by kernel_rfl))
 t3:=Tryz.underlying3
 a3:=Tryz.isAgg3
 z3:=Tryz.sizeOf3
 v3:=Tryz.zeroValue3
 t4:=Tryz.underlying4
 a4:=Tryz.isAgg4
 z4:=Tryz.sizeOf4
 v4:=Tryz.zeroValue4
 t5:=Tryz.underlying5
 a5:=Tryz.isAgg5
 z5:=Tryz.sizeOf5
 v5:=Tryz.zeroValue5
 t9:=Tryz.underlying9
 a9:=Tryz.isAgg9
 z9:=Tryz.sizeOf9
 v9:=Tryz.zeroValue9
 t46:=Tryz.underlying114
 a46:=Tryz.isAgg114
 z46:=Tryz.sizeOf114
 v46:=Tryz.zeroValue114
 t51:=Tryz.underlying160
 a51:=Tryz.isAgg160
 z51:=Tryz.sizeOf160
 v51:=Tryz.zeroValue160
 t146:=Tryz.underlying207
 a146:=Tryz.isAgg207
 z146:=Tryz.sizeOf207
 v146:=Tryz.zeroValue207
 g1:=by kernel_rfl }
open Go.RowKit Go.Lib in
theorem Tryz.strings_Index (s sub:ByteArray) (m:Int) (w:World) (hs:s.size<4294967281) (hm:w.cell? ⟨0,0,none⟩=some (.int .i64 m)) :
  Calls Tryz.prog 58 #[.string s,.string sub] w fun e w'=>e = .returned (.int .i64 (Lib.index s.data.toList sub.data.toList))/\w'=w:=Any.strings_Index Tryz.lays143 s sub m w hs hm
def Tryz.lays144_ren:Go.Shelf.Ren:=⟨fun | 144=>24 | 143=>58 | 219=>96 | 217=>161 | 225=>162 | 224=>163 | 267=>164 | 266=>202 | 314=>203 | n=>n,fun | 9=>9 | 4=>4 | 3=>3 | 5=>5 | 46=>114 | 146=>207 | 51=>160 | n=>n,fun | 1=>0 | n=>n⟩
theorem Tryz.lays144:Go.Proofs.Lays.n144 Tryz.prog Tryz.lays144_ren:={
 mixed:=by kernel_rfl
 f143:=Tryz.func58.trans (congrArg some (by kernel_rfl))
 f144:=Tryz.func24.trans (congrArg some (by kernel_rfl))
 f217:=Tryz.func161.trans (congrArg some (by kernel_rfl))
 f219:=Tryz.func96.trans (congrArg some (by kernel_rfl))
 f224:=Tryz.func163.trans (congrArg some (by kernel_rfl))
 f225:=Tryz.func162.trans (congrArg some (by kernel_rfl))
 f266:=Tryz.func202.trans (congrArg some (by kernel_rfl))
 f267:=Tryz.func164.trans (congrArg some (by kernel_rfl))
 f314:=Tryz.func203.trans (congrArg some (by kernel_rfl))
 t3:=Tryz.underlying3
 a3:=Tryz.isAgg3
 z3:=Tryz.sizeOf3
 v3:=Tryz.zeroValue3
 t4:=Tryz.underlying4
 a4:=Tryz.isAgg4
 z4:=Tryz.sizeOf4
 v4:=Tryz.zeroValue4
 t5:=Tryz.underlying5
 a5:=Tryz.isAgg5
 z5:=Tryz.sizeOf5
 v5:=Tryz.zeroValue5
 t9:=Tryz.underlying9
 a9:=Tryz.isAgg9
 z9:=Tryz.sizeOf9
 v9:=Tryz.zeroValue9
 t46:=Tryz.underlying114
 a46:=Tryz.isAgg114
 z46:=Tryz.sizeOf114
 v46:=Tryz.zeroValue114
 t51:=Tryz.underlying160
 a51:=Tryz.isAgg160
 z51:=Tryz.sizeOf160
 v51:=Tryz.zeroValue160
 t146:=Tryz.underlying207
 a146:=Tryz.isAgg207
 z146:=Tryz.sizeOf207
 v146:=Tryz.zeroValue207
 g1:=by kernel_rfl }
open Go.RowKit Go.Lib in
theorem Tryz.strings_Contains (s sub:ByteArray) (m:Int) (w:World) (hs:s.size<4294967281) (hm:w.cell? ⟨0,0,none⟩=some (.int .i64 m)) :
  Calls Tryz.prog 24 #[.string s,.string sub] w fun e w'=>e = .returned (.bool (Lib.contains s.data.toList sub.data.toList))/\w'=w:=Any.strings_Contains Tryz.lays144 s sub m w hs hm
def Tryz.lays145_ren:Go.Shelf.Ren:=⟨fun | 145=>88 | 220=>151 | 219=>96 | 217=>161 | 225=>162 | 224=>163 | 267=>164 | 266=>202 | 314=>203 | n=>n,fun | 9=>9 | 4=>4 | 59=>136 | 3=>3 | 5=>5 | 46=>114 | 146=>207 | 51=>160 | n=>n,fun | 1=>0 | n=>n⟩
theorem Tryz.lays145:Go.Proofs.Lays.n145 Tryz.prog Tryz.lays145_ren:={
 mixed:=by kernel_rfl
 f145:=Tryz.func88.trans (congrArg some (by kernel_rfl))
 f217:=Tryz.func161.trans (congrArg some (by kernel_rfl))
 f219:=Tryz.func96.trans (congrArg some (by kernel_rfl))
 f220:=Tryz.func151.trans (congrArg some (by kernel_rfl))
 f224:=Tryz.func163.trans (congrArg some (by kernel_rfl))
 f225:=Tryz.func162.trans (congrArg some (by kernel_rfl))
 f266:=Tryz.func202.trans (congrArg some (by kernel_rfl))
 f267:=Tryz.func164.trans (congrArg some (by kernel_rfl))
 f314:=Tryz.func203.trans (congrArg some (by kernel_rfl))
 t3:=Tryz.underlying3
 a3:=Tryz.isAgg3
 z3:=Tryz.sizeOf3
 v3:=Tryz.zeroValue3
 t4:=Tryz.underlying4
 a4:=Tryz.isAgg4
 z4:=Tryz.sizeOf4
 v4:=Tryz.zeroValue4
 t5:=Tryz.underlying5
 a5:=Tryz.isAgg5
 z5:=Tryz.sizeOf5
 v5:=Tryz.zeroValue5
 t9:=Tryz.underlying9
 a9:=Tryz.isAgg9
 z9:=Tryz.sizeOf9
 v9:=Tryz.zeroValue9
 t46:=Tryz.underlying114
 a46:=Tryz.isAgg114
 z46:=Tryz.sizeOf114
 v46:=Tryz.zeroValue114
 t51:=Tryz.underlying160
 a51:=Tryz.isAgg160
 z51:=Tryz.sizeOf160
 v51:=Tryz.zeroValue160
 t59:=Tryz.underlying136
 a59:=Tryz.isAgg136
 z59:=Tryz.sizeOf136
 v59:=Tryz.zeroValue136
 t146:=Tryz.underlying207
 a146:=Tryz.isAgg207
 z146:=Tryz.sizeOf207
 v146:=Tryz.zeroValue207
 g1:=by kernel_rfl }
open Go.RowKit Go.Lib in
theorem Tryz.strings_Cut (s sep:ByteArray) (m:Int) (w:World) (hs:s.size<4294967281) (hm:w.cell? ⟨0,0,none⟩=some (.int .i64 m)) :
  Calls Tryz.prog 88 #[.string s,.string sep] w fun e w'=>e = .returned (.tuple #[.string ⟨(Lib.cut s.data.toList sep.data.toList).1.toArray⟩,.string ⟨(Lib.cut s.data.toList sep.data.toList).2.1.toArray⟩,.bool (Lib.cut s.data.toList sep.data.toList).2.2])/\∃ n,w'=w.drewN n:=Any.strings_Cut Tryz.lays145 s sep m w hs hm
def Tryz.lays102_ren:Go.Shelf.Ren:=⟨fun | 102=>192 | 209=>214 | 207=>219 | n=>n,fun | 9=>9 | 4=>4 | 3=>3 | n=>n,fun | n=>n⟩
theorem Tryz.lays102:Go.Proofs.Lays.n102 Tryz.prog Tryz.lays102_ren:={
 mixed:=by kernel_rfl
 f102:=Tryz.func192.trans (congrArg some (by kernel_rfl))
 f207:=Tryz.func219.trans (congrArg some (by kernel_rfl))
 f209:=Tryz.func214.trans (congrArg some (by kernel_rfl))
 t3:=Tryz.underlying3
 a3:=Tryz.isAgg3
 z3:=Tryz.sizeOf3
 v3:=Tryz.zeroValue3
 t4:=Tryz.underlying4
 a4:=Tryz.isAgg4
 z4:=Tryz.sizeOf4
 v4:=Tryz.zeroValue4
 t9:=Tryz.underlying9
 a9:=Tryz.isAgg9
 z9:=Tryz.sizeOf9
 v9:=Tryz.zeroValue9 }
open Go.RowKit Go.Lib in
theorem Tryz.strings_TrimSuffix (s p:ByteArray) (w:World) (hs:s.size<=9223372036854775807) :
  Calls Tryz.prog 192 #[.string s,.string p] w fun e w'=>e = .returned (.string ⟨(Lib.trimSuffix s.data.toList p.data.toList).toArray⟩)/\w'=w:=Any.strings_TrimSuffix Tryz.lays102 s p w hs
def Tryz.lays221_ren:Go.Shelf.Ren:=⟨fun | 221=>215 | 268=>220 | 138=>26 | 143=>58 | 195=>60 | 197=>149 | 218=>61 | 219=>96 | 260=>191 | 217=>161 | 225=>162 | 224=>163 | 267=>164 | 266=>202 | 314=>203 | n=>n,fun | 9=>9 | 3=>3 | 31=>48 | 4=>4 | 0=>0 | 105=>169 | 21=>21 | 5=>5 | 46=>114 | 119=>216 | 139=>219 | 138=>218 | 146=>207 | 51=>160 | n=>n,fun | 1=>0 | 3=>1 | 4=>2 | n=>n⟩
def Tryz.lays146_ren:Go.Shelf.Ren:=⟨fun | 146=>197 | 221=>215 | 268=>220 | 138=>26 | 143=>58 | 195=>60 | 197=>149 | 218=>61 | 219=>96 | 260=>191 | 217=>161 | 225=>162 | 224=>163 | 267=>164 | 266=>202 | 314=>203 | n=>n,fun | 9=>9 | 31=>48 | 3=>3 | 4=>4 | 0=>0 | 105=>169 | 21=>21 | 5=>5 | 46=>114 | 119=>216 | 139=>219 | 138=>218 | 146=>207 | 51=>160 | n=>n,fun | 1=>0 | 3=>1 | 4=>2 | n=>n⟩
theorem Tryz.lays146:Go.Proofs.Lays.n146 Tryz.prog Tryz.lays146_ren:={
 mixed:=by kernel_rfl
 f138:=Tryz.func26.trans (congrArg some (by kernel_rfl))
 f143:=Tryz.func58.trans (congrArg some (by kernel_rfl))
 f146:=Tryz.func197.trans (congrArg some (by kernel_rfl))
 f195:=Tryz.func60.trans (congrArg some (by kernel_rfl))
 f197:=Tryz.func149.trans (congrArg some (by kernel_rfl))
 f217:=Tryz.func161.trans (congrArg some (by kernel_rfl))
 f218:=Tryz.func61.trans (congrArg some (by kernel_rfl))
 f219:=Tryz.func96.trans (congrArg some (by kernel_rfl))
 f221:=Tryz.func215.trans (congrArg some (by kernel_rfl))
 f224:=Tryz.func163.trans (congrArg some (by kernel_rfl))
 f225:=Tryz.func162.trans (congrArg some (by kernel_rfl))
 f260:=Tryz.func191.trans (congrArg some (by kernel_rfl))
 f266:=Tryz.func202.trans (congrArg some (by kernel_rfl))
 f267:=Tryz.func164.trans (congrArg some (by kernel_rfl))
 f268:=Tryz.func220.trans (congrArg some (by kernel_rfl))
 f314:=Tryz.func203.trans (congrArg some (by kernel_rfl))
 t0:=Tryz.underlying0
 a0:=Tryz.isAgg0
 z0:=Tryz.sizeOf0
 v0:=Tryz.zeroValue0
 t3:=Tryz.underlying3
 a3:=Tryz.isAgg3
 z3:=Tryz.sizeOf3
 v3:=Tryz.zeroValue3
 t4:=Tryz.underlying4
 a4:=Tryz.isAgg4
 z4:=Tryz.sizeOf4
 v4:=Tryz.zeroValue4
 t5:=Tryz.underlying5
 a5:=Tryz.isAgg5
 z5:=Tryz.sizeOf5
 v5:=Tryz.zeroValue5
 t9:=Tryz.underlying9
 a9:=Tryz.isAgg9
 z9:=Tryz.sizeOf9
 v9:=Tryz.zeroValue9
 t21:=Tryz.underlying21
 a21:=Tryz.isAgg21
 z21:=Tryz.sizeOf21
 v21:=Tryz.zeroValue21
 t31:=Tryz.underlying48
 a31:=Tryz.isAgg48
 z31:=Tryz.sizeOf48
 v31:=Tryz.zeroValue48
 t46:=Tryz.underlying114
 a46:=Tryz.isAgg114
 z46:=Tryz.sizeOf114
 v46:=Tryz.zeroValue114
 t51:=Tryz.underlying160
 a51:=Tryz.isAgg160
 z51:=Tryz.sizeOf160
 v51:=Tryz.zeroValue160
 t105:=Tryz.underlying169
 a105:=Tryz.isAgg169
 z105:=Tryz.sizeOf169
 v105:=Tryz.zeroValue169
 t119:=Tryz.underlying216
 a119:=Tryz.isAgg216
 z119:=Tryz.sizeOf216
 t138:=Tryz.underlying218
 a138:=Tryz.isAgg218
 z138:=Tryz.sizeOf218
 v138:=Tryz.zeroValue218
 t139:=Tryz.underlying219
 a139:=Tryz.isAgg219
 z139:=Tryz.sizeOf219
 v139:=Tryz.zeroValue219
 t146:=Tryz.underlying207
 a146:=Tryz.isAgg207
 z146:=Tryz.sizeOf207
 v146:=Tryz.zeroValue207
 g1:=by kernel_rfl
 g3:=by kernel_rfl
 g4:=by kernel_rfl }
open Go.RowKit Go.Lib in
theorem Tryz.strings_Split (s sep:ByteArray) (m:Int) (w:World) (hs:s.size<4294967281) (hm:w.cell? ⟨0,0,none⟩=some (.int .i64 m)) (h1:1<=sep.size) :
  Calls Tryz.prog 197 #[.string s,.string sep] w fun e w'=>
   e = .returned (.slice (some ⟨w.heap.size,0,none⟩) (Lib.countB s sep+1) (Lib.countB s sep+1))/\w'=w.alloc (.cells ((Lib.splitB sep 0 (Lib.countB s sep) s).map Value.string).toArray 9):=Any.strings_Split Tryz.lays146 (by kernel_rfl) s sep m w hs hm h1
def Tryz.lays154_ren:Go.Shelf.Ren:=⟨fun | 154=>193 | 138=>26 | 165=>173 | 143=>58 | 166=>174 | 197=>149 | 169=>176 | 195=>60 | 218=>61 | 240=>207 | 241=>208 | 219=>96 | 260=>191 | 276=>216 | 277=>217 | 217=>161 | 225=>162 | 224=>163 | 267=>164 | 266=>202 | 314=>203 | n=>n,fun | 9=>9 | 3=>3 | 4=>4 | 72=>186 | 0=>0 | 76=>189 | 105=>169 | 21=>21 | 5=>5 | 70=>184 | 20=>20 | 37=>141 | 75=>188 | 127=>213 | 164=>221 | 46=>114 | 119=>216 | 139=>219 | 138=>218 | 146=>207 | 51=>160 | 80=>175 | n=>n,fun | 1=>0 | 3=>1 | 4=>2 | n=>n⟩
def Tryz.lays155_ren:Go.Shelf.Ren:=⟨fun | 155=>153 | 154=>193 | 138=>26 | 165=>173 | 143=>58 | 166=>174 | 197=>149 | 169=>176 | 195=>60 | 218=>61 | 240=>207 | 241=>208 | 219=>96 | 260=>191 | 276=>216 | 277=>217 | 217=>161 | 225=>162 | 224=>163 | 267=>164 | 266=>202 | 314=>203 | n=>n,fun | 9=>9 | 3=>3 | 4=>4 | 72=>186 | 0=>0 | 76=>189 | 105=>169 | 21=>21 | 5=>5 | 70=>184 | 20=>20 | 37=>141 | 75=>188 | 127=>213 | 164=>221 | 46=>114 | 119=>216 | 139=>219 | 138=>218 | 146=>207 | 51=>160 | 80=>175 | n=>n,fun | 1=>0 | 3=>1 | 4=>2 | n=>n⟩
theorem Tryz.lays155:Go.Proofs.Lays.n155 Tryz.prog Tryz.lays155_ren:={
 mixed:=by kernel_rfl
 f138:=Tryz.func26.trans (congrArg some (by kernel_rfl))
 f143:=Tryz.func58.trans (congrArg some (by kernel_rfl))
 f154:=Tryz.func193.trans (congrArg some (by kernel_rfl))
 f155:=Tryz.func153.trans (congrArg some (by kernel_rfl))
 f165:=Tryz.func173.trans (congrArg some (by kernel_rfl))
 f166:=Tryz.func174.trans (congrArg some (by kernel_rfl))
 f169:=Tryz.func176.trans (congrArg some (by kernel_rfl))
 f195:=Tryz.func60.trans (congrArg some (by kernel_rfl))
 f197:=Tryz.func149.trans (congrArg some (by kernel_rfl))
 f217:=Tryz.func161.trans (congrArg some (by kernel_rfl))
 f218:=Tryz.func61.trans (congrArg some (by kernel_rfl))
 f219:=Tryz.func96.trans (congrArg some (by kernel_rfl))
 f224:=Tryz.func163.trans (congrArg some (by kernel_rfl))
 f225:=Tryz.func162.trans (congrArg some (by kernel_rfl))
 f240:=Tryz.func207.trans (congrArg some (by kernel_rfl))
 f241:=Tryz.func208.trans (congrArg some (by kernel_rfl))
 f260:=Tryz.func191.trans (congrArg some (by kernel_rfl))
 f266:=Tryz.func202.trans (congrArg some (by kernel_rfl))
 f267:=Tryz.func164.trans (congrArg some (by kernel_rfl))
 f276:=Tryz.func216.trans (congrArg some (by kernel_rfl))
 f277:=Tryz.func217.trans (congrArg some (by kernel_rfl))
 f314:=Tryz.func203.trans (congrArg some (by kernel_rfl))
 t0:=Tryz.underlying0
 a0:=Tryz.isAgg0
 z0:=Tryz.sizeOf0
 v0:=Tryz.zeroValue0
 t3:=Tryz.underlying3
 a3:=Tryz.isAgg3
 z3:=Tryz.sizeOf3
 v3:=Tryz.zeroValue3
 t4:=Tryz.underlying4
 a4:=Tryz.isAgg4
 z4:=Tryz.sizeOf4
 v4:=Tryz.zeroValue4
 t5:=Tryz.underlying5
 a5:=Tryz.isAgg5
 z5:=Tryz.sizeOf5
 v5:=Tryz.zeroValue5
 t9:=Tryz.underlying9
 a9:=Tryz.isAgg9
 z9:=Tryz.sizeOf9
 v9:=Tryz.zeroValue9
 t20:=Tryz.underlying20
 a20:=Tryz.isAgg20
 z20:=Tryz.sizeOf20
 v20:=Tryz.zeroValue20
 t21:=Tryz.underlying21
 a21:=Tryz.isAgg21
 z21:=Tryz.sizeOf21
 v21:=Tryz.zeroValue21
 t37:=Tryz.underlying141
 a37:=Tryz.isAgg141
 z37:=Tryz.sizeOf141
 v37:=Tryz.zeroValue141
 t46:=Tryz.underlying114
 a46:=Tryz.isAgg114
 z46:=Tryz.sizeOf114
 v46:=Tryz.zeroValue114
 t51:=Tryz.underlying160
 a51:=Tryz.isAgg160
 z51:=Tryz.sizeOf160
 v51:=Tryz.zeroValue160
 t70:=Tryz.underlying184
 a70:=Tryz.isAgg184
 z70:=Tryz.sizeOf184
 v70:=Tryz.zeroValue184
 t72:=Tryz.underlying186
 a72:=Tryz.isAgg186
 z72:=Tryz.sizeOf186
 v72:=Tryz.zeroValue186
 t75:=Tryz.underlying188
 a75:=Tryz.isAgg188
 z75:=Tryz.sizeOf188
 v75:=Tryz.zeroValue188
 t76:=Tryz.underlying189
 a76:=Tryz.isAgg189
 z76:=Tryz.sizeOf189
 v76:=Tryz.zeroValue189
 t105:=Tryz.underlying169
 a105:=Tryz.isAgg169
 z105:=Tryz.sizeOf169
 v105:=Tryz.zeroValue169
 t119:=Tryz.underlying216
 a119:=Tryz.isAgg216
 z119:=Tryz.sizeOf216
 t127:=Tryz.underlying213
 a127:=Tryz.isAgg213
 z127:=Tryz.sizeOf213
 v127:=Tryz.zeroValue213
 t138:=Tryz.underlying218
 a138:=Tryz.isAgg218
 z138:=Tryz.sizeOf218
 v138:=Tryz.zeroValue218
 t139:=Tryz.underlying219
 a139:=Tryz.isAgg219
 z139:=Tryz.sizeOf219
 v139:=Tryz.zeroValue219
 t146:=Tryz.underlying207
 a146:=Tryz.isAgg207
 z146:=Tryz.sizeOf207
 v146:=Tryz.zeroValue207
 t164:=Tryz.underlying221
 a164:=Tryz.isAgg221
 z164:=Tryz.sizeOf221
 v164:=Tryz.zeroValue221
 g1:=by kernel_rfl
 g3:=by kernel_rfl
 g4:=by kernel_rfl }
theorem Tryz.Builder_Extra_155:Builder.Extra Tryz.prog Tryz.lays155_ren:={
 sizeBuilder:=by kernel_rfl
 liesBuilder:=by kernel_rfl
 t5:=Tryz.underlying5
 a5:=Tryz.isAgg5
 z5:=Tryz.sizeOf5
 v5:=Tryz.zeroValue5
 infoByte:=by kernel_rfl
 cellsByte:=by kernel_rfl
 sizeByte:=by kernel_rfl
 neB5:=by decide }
open Go.RowKit Go.Lib in
theorem Tryz.strings_ReplaceAll (s old new:ByteArray) (m:Int) (w:World) (hs:s.size<4294967281) (hm:w.cell? ⟨0,0,none⟩=some (.int .i64 m)) (h1:1<=old.size) (hlen:s.size+Lib.countB s old * new.size<=140737488355328) :
  Calls Tryz.prog 153 #[.string s,.string old,.string new] w fun e w'=>
   e = .returned (.string ⟨(Lib.replaceAll s.data.toList old.data.toList new.data.toList).toArray⟩)/\Below w.heap.size w w':=Any.strings_ReplaceAll Tryz.lays155 Tryz.Builder_Extra_155 s old new m w hs hm h1 hlen
def Tryz.lays227_ren:Go.Shelf.Ren:=⟨fun | 227=>85 | n=>n,fun | 9=>9 | 116=>131 | 4=>4 | 0=>0 | 3=>3 | 5=>5 | n=>n,fun | n=>n⟩
theorem Tryz.lays227:Go.Proofs.Lays.n227 Tryz.prog Tryz.lays227_ren:={
 mixed:=by kernel_rfl
 f227:=Tryz.func85.trans (congrArg some (by kernel_rfl))
 t0:=Tryz.underlying0
 a0:=Tryz.isAgg0
 z0:=Tryz.sizeOf0
 v0:=Tryz.zeroValue0
 t3:=Tryz.underlying3
 a3:=Tryz.isAgg3
 z3:=Tryz.sizeOf3
 v3:=Tryz.zeroValue3
 t4:=Tryz.underlying4
 a4:=Tryz.isAgg4
 z4:=Tryz.sizeOf4
 v4:=Tryz.zeroValue4
 t5:=Tryz.underlying5
 a5:=Tryz.isAgg5
 z5:=Tryz.sizeOf5
 v5:=Tryz.zeroValue5
 t9:=Tryz.underlying9
 a9:=Tryz.isAgg9
 z9:=Tryz.sizeOf9
 v9:=Tryz.zeroValue9
 t116:=Tryz.underlying131
 a116:=Tryz.isAgg131
 z116:=Tryz.sizeOf131 }
open Go.RowKit Go.Lib in
theorem Tryz.strings_makeASCIISet (hv116:∀ w,(zeroValue 131).run Tryz.prog w = .ok (.agg (Array.replicate 256 (.bool false))) w) (chars:ByteArray) (w:World) (hs:chars.size<4294967281) (hascii:∀ (j:Nat) b,chars.data.toList[j]? = some b->b.toNat<128) :
  Calls Tryz.prog 85 #[.string chars] w fun e w'=>e = .returned (.tuple #[.agg (Lib.setCells chars.data.toList),.bool true])/\w'=w.alloc (.cells (Lib.setCells chars.data.toList) 131):=Any.strings_makeASCIISet Tryz.lays227 hv116 (by kernel_rfl) chars w hs hascii
def Tryz.lays105_ren:Go.Shelf.Ren:=⟨fun | 105=>113 | 212=>172 | 99=>115 | 165=>173 | 166=>174 | 170=>175 | 169=>176 | 263=>205 | 264=>206 | 206=>148 | 240=>207 | 241=>208 | 276=>216 | 277=>217 | n=>n,fun | 9=>9 | 3=>3 | 4=>4 | 20=>20 | 0=>0 | 46=>114 | 109=>182 | 5=>5 | 72=>186 | 76=>189 | 51=>160 | 146=>207 | 53=>162 | 148=>211 | 70=>184 | 37=>141 | 75=>188 | 127=>213 | 164=>221 | 80=>175 | n=>n,fun | n=>n⟩
theorem Tryz.lays105:Go.Proofs.Lays.n105 Tryz.prog Tryz.lays105_ren:={
 mixed:=by kernel_rfl
 f99:=Tryz.func115.trans (congrArg some (by kernel_rfl))
 f105:=Tryz.func113.trans (congrArg some (by kernel_rfl))
 f165:=Tryz.func173.trans (congrArg some (by kernel_rfl))
 f166:=Tryz.func174.trans (congrArg some (by kernel_rfl))
 f169:=Tryz.func176.trans (congrArg some (by kernel_rfl))
 f170:=Tryz.func175.trans (congrArg some (by kernel_rfl))
 f206:=Tryz.func148.trans (congrArg some (by kernel_rfl))
 f212:=Tryz.func172.trans (congrArg some (by kernel_rfl))
 f240:=Tryz.func207.trans (congrArg some (by kernel_rfl))
 f241:=Tryz.func208.trans (congrArg some (by kernel_rfl))
 f263:=Tryz.func205.trans (congrArg some (by kernel_rfl))
 f264:=Tryz.func206.trans (congrArg some (by kernel_rfl))
 f276:=Tryz.func216.trans (congrArg some (by kernel_rfl))
 f277:=Tryz.func217.trans (congrArg some (by kernel_rfl))
 t0:=Tryz.underlying0
 a0:=Tryz.isAgg0
 z0:=Tryz.sizeOf0
 v0:=Tryz.zeroValue0
 t3:=Tryz.underlying3
 a3:=Tryz.isAgg3
 z3:=Tryz.sizeOf3
 v3:=Tryz.zeroValue3
 t4:=Tryz.underlying4
 a4:=Tryz.isAgg4
 z4:=Tryz.sizeOf4
 v4:=Tryz.zeroValue4
 t5:=Tryz.underlying5
 a5:=Tryz.isAgg5
 z5:=Tryz.sizeOf5
 v5:=Tryz.zeroValue5
 t9:=Tryz.underlying9
 a9:=Tryz.isAgg9
 z9:=Tryz.sizeOf9
 v9:=Tryz.zeroValue9
 t20:=Tryz.underlying20
 a20:=Tryz.isAgg20
 z20:=Tryz.sizeOf20
 v20:=Tryz.zeroValue20
 t37:=Tryz.underlying141
 a37:=Tryz.isAgg141
 z37:=Tryz.sizeOf141
 v37:=Tryz.zeroValue141
 t46:=Tryz.underlying114
 a46:=Tryz.isAgg114
 z46:=Tryz.sizeOf114
 v46:=Tryz.zeroValue114
 t51:=Tryz.underlying160
 a51:=Tryz.isAgg160
 z51:=Tryz.sizeOf160
 v51:=Tryz.zeroValue160
 t53:=Tryz.underlying162
 a53:=Tryz.isAgg162
 z53:=Tryz.sizeOf162
 v53:=Tryz.zeroValue162
 t70:=Tryz.underlying184
 a70:=Tryz.isAgg184
 z70:=Tryz.sizeOf184
 v70:=Tryz.zeroValue184
 t72:=Tryz.underlying186
 a72:=Tryz.isAgg186
 z72:=Tryz.sizeOf186
 v72:=Tryz.zeroValue186
 t75:=Tryz.underlying188
 a75:=Tryz.isAgg188
 z75:=Tryz.sizeOf188
 v75:=Tryz.zeroValue188
 t76:=Tryz.underlying189
 a76:=Tryz.isAgg189
 z76:=Tryz.sizeOf189
 v76:=Tryz.zeroValue189
 t109:=Tryz.underlying182
 a109:=Tryz.isAgg182
 z109:=Tryz.sizeOf182
 v109:=Tryz.zeroValue182
 t127:=Tryz.underlying213
 a127:=Tryz.isAgg213
 z127:=Tryz.sizeOf213
 v127:=Tryz.zeroValue213
 t146:=Tryz.underlying207
 a146:=Tryz.isAgg207
 z146:=Tryz.sizeOf207
 v146:=Tryz.zeroValue207
 t148:=Tryz.underlying211
 a148:=Tryz.isAgg211
 z148:=Tryz.sizeOf211
 v148:=Tryz.zeroValue211
 t164:=Tryz.underlying221
 a164:=Tryz.isAgg221
 z164:=Tryz.sizeOf221
 v164:=Tryz.zeroValue221 }
theorem Tryz.Builder_Extra_105:Builder.Extra Tryz.prog Tryz.lays105_ren:={
 sizeBuilder:=by kernel_rfl
 liesBuilder:=by kernel_rfl
 t5:=Tryz.underlying5
 a5:=Tryz.isAgg5
 z5:=Tryz.sizeOf5
 v5:=Tryz.zeroValue5
 infoByte:=by kernel_rfl
 cellsByte:=by kernel_rfl
 sizeByte:=by kernel_rfl
 neB5:=by decide }
open Go.RowKit Go.Lib in
theorem Tryz.strings_Repeat (s:ByteArray) (c:Nat) (w:World) (hc:c<=9223372036854775807) (hlen:s.size * c<=140737488355328) :
  Calls Tryz.prog 113 #[.string s,.int .i64 c] w fun e w'=>e = .returned (.string ⟨(Lib.repeatL s.data.toList c).toArray⟩)/\Below w.heap.size w w':=Any.strings_Repeat Tryz.lays105 Tryz.Builder_Extra_105 s c w hc hlen
end Go.Proofs
namespace Go.Proofs.YtmgfammllddkhaaGreatDoor
section
open Go.RowKit
def orI:Q3 Int->Int | []=>0 | x::xs=>if x=0 then orI xs else x
theorem kN (x y:Int) (w:World):Calls Q7 35 #[.int .i64 x,.int .i64 y] w fun e w'=>e = .returned (.int .i64 (Lib.compareInt x y))/\w=w':=
 (Tryz.cmp_Compare_int x y w).mono fun _ _ ⟨a,b⟩=>⟨a,b.symm⟩
theorem kO (a b:Q1) (w:World):Calls Q7 71 #[.string a,.string b] w fun e w'=>e = .returned (.int .i64 (Lib.compareBytes a.data.toList b.data.toList))/\w=w':=
 (Tryz.strings_Compare a b w).mono fun _ _ ⟨a,b⟩=>⟨a,b.symm⟩
theorem kP (A:Q2 Addr) (n c:Nat) (xs:Q3 Int) (w:World) (h:SlR w A n c xs):Calls Q7 34 #[.slice A n c] w fun e w'=>e = .returned (.int .i64 (orI xs))/\w=w':=by{
have HN:=Lib.hid h.1
have hle:=h.le
go_enter Tryz.func34,Tryz.ntmps34
go_wp2
go_loop [5,8] (fun _ i=>∃ q:Nat,q<=n/\i = .int .i64 q/\orI xs=orI (xs.drop q)) (fun _ i=>n-(intOf i).toNat)
case atStart=>exact ⟨0,YJ _,rfl,rfl⟩
case round=>
 obtain ⟨q,hq,rfl,hO⟩:=hrel
 by_cases hlt:q<n
 obtain ⟨b,off,x,cs,rfl,hbl,hx,hd,hR,hc⟩:=h.elem hlt
 have c0:w.cell? ⟨b,off+q,none⟩=some (.int .i64 x):=by subst hR;simpa using hc 0 _ rfl
 have HO:=Lib.hid hO
 clear hO hc hx h
 have HD:=Lib.hid hd
 clear hd
 by_cases h0:x=0
 ·subst h0
  go_wp2
  go_round
  case rel=>exact ⟨q+1,by omega,by go_num,by rw [HO.out,HD.out];simp [orI]⟩
  case measure=>simp [intOf];omega
 ·have e0:(!(x == 0))=true:=by simpa using h0
  go_wp2
  go_ret
  exact ⟨OH (by rw [HO.out,HD.out];simp [orI,h0]),rfl⟩
 ·have hq':q=n:=by omega
  have hz:orI xs=0:=by rw [hO,hq',HN.out,GF];rfl
  have HZ:=Lib.hid hz
  clear hz hO h hq'
  go_wp2
  go_ret
  exact ⟨OH HZ.out.symm,rfl⟩}
def Title.cmp (a b:Title):Int:=orI [Lib.compareInt a.space b.space,Lib.compareBytes a.name.data.toList b.name.data.toList]
theorem kQ:∀ a b:Q3 Q4,Lib.compareBytes a b=if Op.bytesLess a b=true then -1 else if a=b then 0 else 1
 | [],[]=>by simp [Lib.compareBytes,Op.bytesLess]
 | [],_::_=>by simp [Lib.compareBytes,Op.bytesLess]
 | _::_,[]=>by simp [Lib.compareBytes,Op.bytesLess]
 | x::a,y::b=>by
   have h:=kQ a b
   have e:x<y\/x=y\/y<x:=by
    rcases Nat.lt_trichotomy x.toNat y.toNat with h | h | h
    ·exact .inl h
    ·exact .inr (.inl (GG.1 h))
    ·exact .inr (.inr h)
   rcases e with e | e | e
   ·simp [Lib.compareBytes,Op.bytesLess,e]
   ·subst e
    have hx:¬ x<x:=fun h=>by simp at h
    simp [Lib.compareBytes,Op.bytesLess,h]
   ·have hx:¬ x<y:=fun h=>by simp [UInt8.lt_iff_toNat_lt] at h e;omega
    have hne:¬ x=y:=fun h=>by subst h;simp at e
    simp [Lib.compareBytes,Op.bytesLess,hx,hne,e]
theorem zM (a b:Title):Title.cmp a b=if a.space<b.space then -1 else if b.space<a.space then 1 else if Op.bytesLess a.name.toList b.name.toList=true then -1 else if a.name.toList=b.name.toList then 0 else 1:=by{
unfold Title.cmp orI Lib.compareInt
rw [kQ,ByteArray.toList_eq,ByteArray.toList_eq]
by_cases h1:a.space<b.space
simp [h1]
by_cases h2:b.space<a.space
simp [h1,h2]
simp only [h1,h2,if_false,if_true,orI]
by_cases h:Op.bytesLess a.name.data.toList b.name.data.toList=true
simp [h]
by_cases h':a.name.data.toList=b.name.data.toList<;>simp [h,h']}
theorem zN (a b:Title) (w:World):Calls Q7 147 #[.agg #[.int .i64 a.space,.string a.name],.agg #[.int .i64 b.space,.string b.name]] w fun e w'=>e = .returned (.int .i64 (Title.cmp a b))/\Below w.heap.size w w':=by{
go_enter Tryz.func147,Tryz.ntmps147
go_wp2
all_goals
 go_ret
 refine ⟨OH ?_,((Below.refl _ _).alloc (Yn _) _).alloc (by simp) _⟩
 rw [zM]
 first
  | (rw [if_pos (by omega)];done)
  | (rw [if_neg (by omega),if_neg (by omega),if_pos (by assumption)];done)
  | (rw [if_neg (by omega),if_pos (by omega)];done)
  | (rw [if_neg (by omega),if_neg (by omega),if_neg (by simp_all),if_pos (by assumption)];done)
  | (rw [if_neg (by omega),if_neg (by omega),if_neg (by simp_all),if_neg (by assumption)];done)}
def A5 (c:Q4):Q4:=if 65<=c.toNat/\c.toNat<=90 then UInt8.ofNat (c.toNat+32) else c
def AD (l:Q3 Q4):Q3 Q4:=l.map A5
def BytesAt (w:World) (g:Nat) (l:Q3 Q4):Prop:=g<w.heap.size/\∀ j c,l[j]? = some c->w.cell? ⟨g,j,none⟩=some (.int .u8 (c.toNat:Int))/\w.frozen? ⟨g,j,none⟩=false
theorem BytesAt.set {w:World} {g:Nat} {l:Q3 Q4} (h:BytesAt w g l) (k:Nat) (c:Q4) (hk:k<l.length):BytesAt (w.setCell ⟨g,k,none⟩ (.int .u8 (c.toNat:Int))) g (l.set k c):=by{
refine ⟨by simpa [World.setCell] using h.1,fun j d hj=>?_⟩
by_cases e:j=k
subst e
rw [UR hk] at hj
obtain rfl:c=d:=by simpa using hj
obtain ⟨h1,h2⟩:=h.2 j _ (Yc hk)
exact ⟨World.cell?_setCell_same w ⟨g,j,none⟩ _ h1,by simpa using h2⟩
rw [UU (fun e'=>e e'.symm)] at hj
obtain ⟨h1,h2⟩:=h.2 j d hj
refine ⟨(World.cell?_setCell_other w ⟨g,k,none⟩ ⟨g,j,none⟩ _ (fun e'=>e (by injection e' with _ e2;exact e2.symm))).trans h1,by simpa using h2⟩}
theorem BytesAt.back {P:Program} {w:World} {g cap:Nat} {l:Q3 Q4} (h:BytesAt w g l) (src dst e:TypeId) (hs:P.underlying src=some (.slice e)) (he:P.underlying e=some (.int .u8)) (hd:P.underlying dst=some .string) :
  (convert src dst (.slice (some ⟨g,0,none⟩) l.length cap)).run P w = .ok (.string ⟨l.toArray⟩) w:=
 run_convert_bytes_back w src dst e ⟨g,0,none⟩ cap l hs he hd fun j hj=>by
  have:=(h.2 j _ (Yc hj)).1
  unfold Addr.add
  split
  rename_i h0;subst h0;exact this
  simpa using this
theorem zO {P:Program} (w:World) (src dst e:TypeId) (s:Q1) (hs:P.underlying src=some .string) (hd:P.underlying dst=some (.slice e)) (he:P.underlying e=some (.int .u8)) :
  ∃ cap w1,(convert src dst (.string s)).run P w = .ok (.slice (some ⟨w.heap.size,0,none⟩) s.size cap) w1/\Below w.heap.size w w1/\BytesAt w1 w.heap.size s.data.toList:=by{
refine ⟨_,_,run_bytes_of_string w src dst e s hs hd he,(Below.refl _ _).drew.alloc (Yn _) _,by simp,fun j c hj=>?_⟩
have hjl:j<s.data.size:=by have:=(Yd.1 hj).1;simpa using this
have hc:c=s.data[j]:=by
 rw [Yc (by simpa using hjl)] at hj
 simpa using hj.symm
constructor
exact (World.cell?_alloc_mark w.drew _ _ _ j).trans (by rw [bytesRow_at _ _ _ hjl,hc])
refine (World.frozen?_alloc_mark w.drew _ _ _ _ j).trans ?_
have:j<(bytesRow s (grownCap w s.size 0 e)).size:=by simp only [bytesRow,Array.size_append,Array.size_map];omega
simp;omega}
theorem kR (l:Q3 Q4) (q:Nat) (c:Q4) (hc:l[q]? = some c):(AD (l.take q)++l.drop q).set q (A5 c)=AD (l.take (q+1))++l.drop (q+1):=by{
have hq:q<l.length:=(Yd.1 hc).1
have hl:(AD (l.take q)).length=q:=by simp [AD];omega
have hg:l[q]=c:=by rw [Yc hq] at hc;simpa using hc
rw [MF _ _ (by omega),hl,E4,Yt hq,a8,RH hq,hg]
simp [AD]}
theorem zP (l:Q3 Q4) (q:Nat) (c:Q4) (hc:l[q]? = some c) (he:A5 c=c):AD (l.take q)++l.drop q=AD (l.take (q+1))++l.drop (q+1):=by{
rw [<- kR l q c hc,he]
have hq:q<l.length:=(Yd.1 hc).1
have hl:(AD (l.take q)).length=q:=by simp [AD];omega
have hg:l[q]=c:=by rw [Yc hq] at hc;simpa using hc
rw [MF _ _ (by omega),hl,E4,Yt hq,a8,hg]}
theorem zQ (l:Q3 Q4) (q:Nat) (c:Q4) (hc:l[q]? = some c):(AD (l.take q)++l.drop q)[q]? = some c:=by{
have hq:q<l.length:=(Yd.1 hc).1
have hl:(AD (l.take q)).length=q:=by simp [AD];omega
rw [YP (by omega),hl,E4,FX]
simpa using hc}
theorem P9 (s:Q1) (w:World) (hs:s.size<=9223372036854775807):Calls Q7 195 #[.string s] w fun e w'=>e = .returned (.string ⟨(AD s.data.toList).toArray⟩)/\Below w.heap.size w w':=by{
obtain ⟨cap,w1,hconv,hb,hB⟩:=zO (P:=Q7) w 9 141 5 s Tryz.underlying9 Tryz.underlying141 Tryz.underlying5
have HB:=Lib.hid hb
have HBB:=Lib.hid hB
clear hb hB
have HL:Hid (s.data.toList.length=s.size):=Lib.hid (YF)
go_enter Tryz.func195,Tryz.ntmps195
go_wp2
go_loopw [4,5,10] (fun _ _ i wr=>∃ q:Nat,q<=s.size/\i = .int .i64 q/\Below w.heap.size w wr/\BytesAt wr w.heap.size (AD (s.data.toList.take q)++s.data.toList.drop q)) (fun _ _ i _=>s.size-(intOf i).toNat)
case atStart=>exact ⟨0,YJ _,rfl,HB.out,by simpa [AD] using HBB.out⟩
case round=>
 obtain ⟨q,hq,rfl,hbw,hBw⟩:=hrel
 by_cases hlt:q<s.size
 obtain ⟨x,hx⟩:∃ x,s.data.toList[q]? = some x:=⟨_,Yc (by rw [HL.out];exact hlt)⟩
 obtain ⟨c0,f0⟩:=hBw.2 q x (zQ _ _ _ hx)
 have HX:=Lib.hid hx
 have HW:=Lib.hid hBw
 have HQ:=Lib.hid hbw
 clear hx hBw hbw hconv
 have hx1:(x.toNat:Int)<256:=by have:=x.toNat_lt;omega
 by_cases h1:(65:Int)<=x.toNat/\(x.toNat:Int)<=90
 ·obtain ⟨h1,h2⟩:=h1
  go_wp2
  go_roundw
  case rel=>
   refine ⟨q+1,by omega,by go_num,HQ.out.setCell (Yn _) _,?_⟩
   have hl:A5 x=UInt8.ofNat (x.toNat+32):=by unfold A5;rw [if_pos (by omega)]
   have hl2:((A5 x).toNat:Int)=(x.toNat:Int)+32:=by rw [hl];simp;omega
   rw [<- kR _ _ _ HX.out,<- hl2]
   exact HW.out.set q _ (by rw [Yb];simp [AD];omega)
  case measure=>simp [intOf];omega
 ·have hk:A5 x=x:=by unfold A5;rw [if_neg (by omega)]
  have HK:=Lib.hid hk
  clear hk
  have h3:(x.toNat:Int)<65\/((65:Int)<=x.toNat/\(90:Int)<x.toNat):=by omega
  clear h1
  rcases h3 with h2 | ⟨h2,h3⟩
  all_goals
   go_wp2
   go_roundw
   case rel=>exact ⟨q+1,by omega,by go_num,HQ.out,by rw [<- zP _ _ _ HX.out HK.out];exact HW.out⟩
   case measure=>simp [intOf];omega
 ·obtain rfl:q=s.size:=by omega
  have hz:AD (s.data.toList.take s.size)++s.data.toList.drop s.size=AD s.data.toList:=by
   rw [GW (by rw [HL.out];omega),YI (by rw [HL.out];omega),YB]
  rw [hz] at hBw
  have hback:=hBw.back (P:=Q7) (cap:=cap) 141 9 5 Tryz.underlying141 Tryz.underlying5 Tryz.underlying9
  rw [show (AD s.data.toList).length=s.size by rw [AD,Yv];exact HL.out] at hback
  have HQ:=Lib.hid hbw
  clear hz hBw hbw hconv
  go_wp2
  go_ret
  exact ⟨rfl,HQ.out⟩}
def PA (w:World):Prop:=∃ m,w.cell? ⟨0,0,none⟩=some (.int .i64 m)
theorem zR (s sep:Q3 Q4):(Lib.cut s sep).1.length<=s.length:=by{
unfold Lib.cut
split
simp;omega
exact Yn _}
theorem zS (s p:Q3 Q4):(Lib.trimSuffix s p).length<=s.length:=by{
unfold Lib.trimSuffix
split
rw [YE];omega
exact Yn _}
def CD (n:Q3 Q4):Int:=if n = [116,97,108,107] then 1 else if n = [117,115,101,114] then 2 else if n = [116,101,109,112,108,97,116,101] then 3 else if n = [99,97,116,101,103,111,114,121] then 4 else if n = [112,114,111,106,101,99,116] then 5 else 0
def BV (s:Q3 Q4):Q2 (Int×Q3 Q4):=if (Lib.cut s [58]).2.2=true/\CD (AD (Lib.trimSuffix (Lib.cut s [58]).1 [32]))≠0 then some (CD (AD (Lib.trimSuffix (Lib.cut s [58]).1 [32])),(Lib.cut s [58]).2.1) else none
def PD (s:Q3 Q4):Value:=match BV s with | some (n,r)=>.tuple #[.int .i64 n,.string ⟨r.toArray⟩,.bool true] | none=>.tuple #[.int .i64 0,.string ⟨#[]⟩,.bool false]
theorem zT (w:World):Calls Q7 196 #[] w fun e w'=>e = .returned (.agg #[.string ⟨#[]⟩,.string ⟨#[84,97,108,107]⟩,.string ⟨#[85,115,101,114]⟩,.string ⟨#[84,101,109,112,108,97,116,101]⟩,.string ⟨#[67,97,116,101,103,111,114,121]⟩,.string ⟨#[80,114,111,106,101,99,116]⟩])/\Below w.heap.size w w':=by
 go_enter Tryz.func196,Tryz.ntmps196
 go_wp2
 exact bodyPost_ret (v:=.agg #[.string ⟨#[]⟩,.string ⟨#[84,97,108,107]⟩,.string ⟨#[85,115,101,114]⟩,.string ⟨#[84,101,109,112,108,97,116,101]⟩,.string ⟨#[67,97,116,101,103,111,114,121]⟩,.string ⟨#[80,114,111,106,101,99,116]⟩]) (by simp [results,Tryz.results196,go_sem]) rfl ⟨rfl,Below.al (Below.refl _ _) _⟩
def CL (q:Nat):Q3 Q4:=match q with | 1=>[116,97,108,107] | 2=>[117,115,101,114] | 3=>[116,101,109,112,108,97,116,101] | 4=>[99,97,116,101,103,111,114,121] | 5=>[112,114,111,106,101,99,116] | _=>[]
theorem WB (n:Q3 Q4) (h:∀ j,1<=j->j<6->n≠CL j):CD n=0:=by{
have h1:=h 1 (by decide) (by decide)
have h2:=h 2 (by decide) (by decide)
have h3:=h 3 (by decide) (by decide)
have h4:=h 4 (by decide) (by decide)
have h5:=h 5 (by decide) (by decide)
simp only [CL] at h1 h2 h3 h4 h5
simp only [CD,h1,h2,h3,h4,h5,if_false]}
theorem cM (j:Nat) (h1:1<=j) (h6:j<6):CD (CL j)=j:=by
 obtain rfl | rfl | rfl | rfl | rfl:j=1\/j=2\/j=3\/j=4\/j=5:=by omega
 all_goals decide
theorem cN (s:Q1) (w:World) (hs:s.size<4294967281) (hG:PA w):Calls Q7 155 #[.string s] w fun e w'=>e = .returned (PD s.data.toList)/\Below w.heap.size w w':=by{
obtain ⟨m,hm⟩:=hG
have HF:Hid (PD s.data.toList=match BV s.data.toList with
 | some (n,r)=>.tuple #[.int .i64 n,.string ⟨r.toArray⟩,.bool true]
 | none=>.tuple #[.int .i64 0,.string ⟨#[]⟩,.bool false]):=Lib.hid rfl
unfold BV at HF
have hl1:(Lib.cut s.data.toList [58]).1.length<=s.data.toList.length:=zR _ _
go_enter Tryz.func155,Tryz.ntmps155
go_wp2_with fail
refine (Tryz.strings_Cut s _ m _ hs hm).mono ?_
rintro e w1 ⟨rfl,n1,rfl⟩
rw [show (⟨#[58]⟩:Q1).data.toList = [58] from rfl]
generalize Lib.cut s.data.toList [58]=C at *
obtain ⟨b,a,ok⟩:=C
cases ok
·go_wp2
 go_ret3
 exact ⟨by rw [HF.out];simp,Below.dn (Below.refl _ _) _⟩
·go_wp2_with fail
 refine (Tryz.strings_TrimSuffix _ _ _ (by have:=s.data.toList.length;simp only [ByteArray.size,YF,List.size_toArray] at hl1 hs ⊢;omega)).mono ?_
 rintro e w1 ⟨rfl,rfl⟩
 go_wp2_with fail
 refine (P9 _ _ (by have h2:=zS b [32];simp only [ByteArray.size,YF,List.size_toArray] at hl1 hs h2 ⊢;omega)).mono ?_
 rintro e w1 ⟨rfl,hb1⟩
 go_wp2_with fail
 refine (zT _).mono ?_
 rintro e w2 ⟨rfl,hb2⟩
 have HB:=Lib.hid (Below.tr (Below.tr (Below.dn (Below.refl _ _) _) hb1) hb2)
 clear hb1 hb2 hm hs hl1
 generalize AD (Lib.trimSuffix b [32])=N at *
 simp only [true_and] at HF
 go_wp2_with fail
 go_loopw [23] (fun i wr=>∃ z:Int,0<=z/\z<=6/\i = .int .i64 z/\Below w2.heap.size w2 wr/\Hid (∀ j:Nat,1<=j->(j:Int)<z->N≠CL j)) (fun i _=>6-(intOf i).toNat)
 case atStart=>exact ⟨0,by omega,by omega,rfl,Below.refl _ _,fun j _ h=>absurd h (by omega)⟩
 case round=>
  obtain ⟨z,hz0,hz6,rfl,hbw,hno⟩:=hrel
  have HQ:=Lib.hid hbw
  clear hbw
  by_cases h6:z=6
  ·subst h6
   have hz:CD N=0:=WB N fun j h1 h2=>hno.out j h1 (by omega)
   rw [hz] at HF
   clear hz
   go_wp2
   go_ret3
   exact ⟨by rw [HF.out];simp,Below.tr HB.out HQ.out⟩
  ·have hq6:z=0\/z=1\/z=2\/z=3\/z=4\/z=5:=by omega
   clear h6 hz0 hz6
   have ix:∀ w (z:Int) (x:Value),(#[Value.string { data:=#[] },Value.string { data:=#[84,97,108,107] },Value.string { data:=#[85,115,101,114] },Value.string { data:=#[84,101,109,112,108,97,116,101] },Value.string { data:=#[67,97,116,101,103,111,114,121] },Value.string { data:=#[80,114,111,106,101,99,116] }]:Array Value)[z.toNat]? = some x->0<=z->z<6->
    (Instr.index 202 (.agg #[Value.string { data:=#[] },Value.string { data:=#[84,97,108,107] },Value.string { data:=#[85,115,101,114] },Value.string { data:=#[84,101,109,112,108,97,116,101] },Value.string { data:=#[67,97,116,101,103,111,114,121] },Value.string { data:=#[80,114,111,106,101,99,116] }]) (.int .i64 z)).run Q7 w = .ok x w:=by
    intro w z x h h0 h6
    obtain rfl | rfl | rfl | rfl | rfl | rfl:z=0\/z=1\/z=2\/z=3\/z=4\/z=5:=by omega
    all_goals
     (simp at h;subst h;kernel_rfl)
   rcases hq6 with rfl | rfl | rfl | rfl | rfl | rfl
   ·have i0:=fun w=>ix w 0 _ rfl (by decide) (by decide)
    clear ix
    go_wp2
    go_roundw
    case rel=>exact ⟨1,by omega,by omega,rfl,HQ.out,fun j h1 h2=>absurd h2 (by omega)⟩
    case measure=>simp [intOf]
   ·have i0:=fun w=>ix w 1 _ rfl (by decide) (by decide)
    clear ix
    go_wp2_with (go_at_call 195;refine (P9 _ _ (by decide)).mono ?_;rintro e w5 ⟨rfl,hb5⟩)
    ·have h:(N == AD [84,97,108,107])=true:=by assumption
     have hN:N=CL 1:=(D8.1 h).trans (by decide)
     have hz:CD N=1:=by rw [hN];decide
     go_ret3
     exact ⟨by rw [HF.out,hz];simp,Below.tr HB.out (Below.tr HQ.out hb5)⟩
    ·go_roundw
     case rel=>
      have h:(N == AD [84,97,108,107])=false:=by assumption
      have hN:N≠CL 1:=fun e=>YL.1 h (e.trans (by decide))
      refine ⟨1+1,by omega,by omega,rfl,Below.tr HQ.out hb5,fun j h1 h2=>?_⟩
      rcases I7 j 1 with hj | hj
      exact hno.out j h1 (by omega)
      obtain rfl:j=1:=by omega
      exact hN
     case measure=>simp [intOf]
   ·have i0:=fun w=>ix w 2 _ rfl (by decide) (by decide)
    clear ix
    go_wp2_with (go_at_call 195;refine (P9 _ _ (by decide)).mono ?_;rintro e w5 ⟨rfl,hb5⟩)
    ·have h:(N == AD [85,115,101,114])=true:=by assumption
     have hN:N=CL 2:=(D8.1 h).trans (by decide)
     have hz:CD N=2:=by rw [hN];decide
     go_ret3
     exact ⟨by rw [HF.out,hz];simp,Below.tr HB.out (Below.tr HQ.out hb5)⟩
    ·go_roundw
     case rel=>
      have h:(N == AD [85,115,101,114])=false:=by assumption
      have hN:N≠CL 2:=fun e=>YL.1 h (e.trans (by decide))
      refine ⟨2+1,by omega,by omega,rfl,Below.tr HQ.out hb5,fun j h1 h2=>?_⟩
      rcases I7 j 2 with hj | hj
      exact hno.out j h1 (by omega)
      obtain rfl:j=2:=by omega
      exact hN
     case measure=>simp [intOf]
   ·have i0:=fun w=>ix w 3 _ rfl (by decide) (by decide)
    clear ix
    go_wp2_with (go_at_call 195;refine (P9 _ _ (by decide)).mono ?_;rintro e w5 ⟨rfl,hb5⟩)
    ·have h:(N == AD [84,101,109,112,108,97,116,101])=true:=by assumption
     have hN:N=CL 3:=(D8.1 h).trans (by decide)
     have hz:CD N=3:=by rw [hN];decide
     go_ret3
     exact ⟨by rw [HF.out,hz];simp,Below.tr HB.out (Below.tr HQ.out hb5)⟩
    ·go_roundw
     case rel=>
      have h:(N == AD [84,101,109,112,108,97,116,101])=false:=by assumption
      have hN:N≠CL 3:=fun e=>YL.1 h (e.trans (by decide))
      refine ⟨3+1,by omega,by omega,rfl,Below.tr HQ.out hb5,fun j h1 h2=>?_⟩
      rcases I7 j 3 with hj | hj
      exact hno.out j h1 (by omega)
      obtain rfl:j=3:=by omega
      exact hN
     case measure=>simp [intOf]
   ·have i0:=fun w=>ix w 4 _ rfl (by decide) (by decide)
    clear ix
    go_wp2_with (go_at_call 195;refine (P9 _ _ (by decide)).mono ?_;rintro e w5 ⟨rfl,hb5⟩)
    ·have h:(N == AD [67,97,116,101,103,111,114,121])=true:=by assumption
     have hN:N=CL 4:=(D8.1 h).trans (by decide)
     have hz:CD N=4:=by rw [hN];decide
     go_ret3
     exact ⟨by rw [HF.out,hz];simp,Below.tr HB.out (Below.tr HQ.out hb5)⟩
    ·go_roundw
     case rel=>
      have h:(N == AD [67,97,116,101,103,111,114,121])=false:=by assumption
      have hN:N≠CL 4:=fun e=>YL.1 h (e.trans (by decide))
      refine ⟨4+1,by omega,by omega,rfl,Below.tr HQ.out hb5,fun j h1 h2=>?_⟩
      rcases I7 j 4 with hj | hj
      exact hno.out j h1 (by omega)
      obtain rfl:j=4:=by omega
      exact hN
     case measure=>simp [intOf]
   ·have i0:=fun w=>ix w 5 _ rfl (by decide) (by decide)
    clear ix
    go_wp2_with (go_at_call 195;refine (P9 _ _ (by decide)).mono ?_;rintro e w5 ⟨rfl,hb5⟩)
    ·have h:(N == AD [80,114,111,106,101,99,116])=true:=by assumption
     have hN:N=CL 5:=(D8.1 h).trans (by decide)
     have hz:CD N=5:=by rw [hN];decide
     go_ret3
     exact ⟨by rw [HF.out,hz];simp,Below.tr HB.out (Below.tr HQ.out hb5)⟩
    ·go_roundw
     case rel=>
      have h:(N == AD [80,114,111,106,101,99,116])=false:=by assumption
      have hN:N≠CL 5:=fun e=>YL.1 h (e.trans (by decide))
      refine ⟨5+1,by omega,by omega,rfl,Below.tr HQ.out hb5,fun j h1 h2=>?_⟩
      rcases I7 j 5 with hj | hj
      exact hno.out j h1 (by omega)
      obtain rfl:j=5:=by omega
      exact hN
     case measure=>simp [intOf]}
def LL:Q3 Q4:=[60,62,91,93,123,125,124,35,95]
def CZ:Int->Q3 Q4->Bool | _,[]=>true | p,c::r=>if (c.toNat:Int)<32\/(c.toNat:Int)=127\/0<=Lib.indexByte LL c\/((c.toNat:Int)=32/\p=32) then false else CZ c.toNat r
theorem WC {p:Int} {c:Q4} {r:Q3 Q4} (h:(c.toNat:Int)<32\/(c.toNat:Int)=127\/0<=Lib.indexByte LL c\/((c.toNat:Int)=32/\p=32)):CZ p (c::r)=false:=by
 simp only [CZ,if_pos h]
theorem WD {p:Int} {c:Q4} {r:Q3 Q4} (h:¬((c.toNat:Int)<32\/(c.toNat:Int)=127\/0<=Lib.indexByte LL c\/((c.toNat:Int)=32/\p=32))):CZ p (c::r)=CZ c.toNat r:=by
 simp only [CZ,if_neg h]
def H6 (s:Q1) (q:Nat):Int:=if h:0<q/\q-1<s.size then ((s[q-1]'h.2).toNat:Int) else -1
theorem kT (s:Q1) (w:World) (hs:s.size<=9223372036854775807):Calls Q7 200 #[.string s] w fun e w'=>e = .returned (.bool (CZ (-1) s.data.toList))/\w=w':=by{
go_enter Tryz.func200,Tryz.ntmps200
go_wp2
go_loop [3,4] (fun i _=>∃ q:Nat,q<=s.size/\i = .int .i64 q/\Hid (CZ (-1) s.data.toList=CZ (H6 s q) (s.data.toList.drop q))) (fun i _=>s.size-(intOf i).toNat)
case atStart=>exact ⟨0,YJ _,rfl,rfl⟩
case round=>
 obtain ⟨q,hq,rfl,hC⟩:=hrel
 by_cases hlt:q<s.size
 have HD:Hid (s.data.toList.drop q=s[q]::s.data.toList.drop (q+1)):=Yt (by rw [YF];exact hlt)
 have HP':Hid (H6 s (q+1)=((s[q]'hlt).toNat:Int)):=by unfold H6;rw [dif_pos ⟨RX q,hlt⟩];rfl
 by_cases h0:q=0
 ·subst h0
  have HP:Hid (H6 s 0 = -1):=rfl
  go_wp2_with (go_at_call 165;refine (Tryz.strings_IndexByte _ _ _).mono ?_;rintro e w' ⟨rfl,rfl⟩)
  all_goals (try simp only [D8,YL,ne_eq] at *)
  all_goals first
   | (exfalso;omega)
   | (go_ret;refine ⟨DT ?_,rfl⟩;rw [hC.out,HD.out];refine (WC ?_).symm;rw [HP.out];unfold LL;omega)
   | (go_round;(case rel=>(refine ⟨1,by omega,rfl,?_⟩;rw [hC.out,HD.out,WD (by rw [HP.out];unfold LL;omega)];exact CC (fun p=>CZ p (s.data.toList.drop (0+1))) HP'.out.symm));(case measure=>(simp [intOf];omega)))
 ·have HP:Hid (H6 s q=((s[q-1]'(by omega)).toNat:Int)):=by unfold H6;rw [dif_pos ⟨by omega,by omega⟩];exact Lib.hid rfl
  have h1:0<q:=by omega
  clear h0
  go_wp2_with (go_at_call 165;refine (Tryz.strings_IndexByte _ _ _).mono ?_;rintro e w' ⟨rfl,rfl⟩)
  all_goals (try simp only [D8,YL,ne_eq] at *)
  all_goals first
   | (exfalso;omega)
   | (go_ret;refine ⟨DT ?_,rfl⟩;rw [hC.out,HD.out];refine (WC ?_).symm;rw [HP.out];unfold LL;omega)
   | (go_round;(case rel=>(refine ⟨q+1,by omega,by go_num,?_⟩;rw [hC.out,HD.out,WD (by rw [HP.out];unfold LL;omega)];exact CC (fun p=>CZ p (s.data.toList.drop (q+1))) HP'.out.symm));(case measure=>(simp [intOf];omega)))
 ·obtain rfl:q=s.size:=by omega
  have hz:s.data.toList.drop s.size = []:=YI (by rw [YF];exact Yn _)
  have HZ:Hid (CZ (-1) s.data.toList=true):=by rw [hC.out,hz];exact rfl
  clear hz hC
  go_wp2
  go_ret
  exact ⟨DT HZ.out.symm,rfl⟩}
theorem kU (s:Q1):Lib.countB s ⟨#[47]⟩<=s.size:=by{
have h:=Lib.countB_mul_le ⟨#[47]⟩ (by decide) s.size s (Yn _)
have e:(⟨#[47]⟩:Q1).size=1:=rfl
rw [e] at h
omega}
theorem zU:∀ (l:Q3 Q4) (h:0<l.length),l.headD 0=l[0]
 | _::_,_=>rfl
theorem kV (s:Q1) (h:0<s.size):s.data.toList.headD 0=s[0]:=
 zU _ (by rw [YF];exact h)
theorem zV (s:Q1) (w:World) (hs:s.size<4294967281) (hG:PA w) (h:BV s.data.toList=none):Calls Q7 155 #[.string s] w fun e w'=>e = .returned (.tuple #[.int .i64 0,.string ⟨#[]⟩,.bool false])/\Below w.heap.size w w':=
 (cN s w hs hG).mono fun _ _ ⟨he,hb⟩=>⟨he.trans (by unfold PD;rw [h]),hb⟩
theorem zW (s:Q1) (w:World) (hs:s.size<4294967281) (hG:PA w) {n:Int} {r:Q3 Q4} (h:BV s.data.toList=some (n,r)):Calls Q7 155 #[.string s] w fun e w'=>e = .returned (.tuple #[.int .i64 n,.string ⟨r.toArray⟩,.bool true])/\Below w.heap.size w w':=
 (cN s w hs hG).mono fun _ _ ⟨he,hb⟩=>⟨he.trans (by unfold PD;rw [h]),hb⟩
theorem WE (sep:Q1):∀ (k:Nat) (s p:Q1),p ∈ Lib.splitB sep 0 k s->p.size<=s.size
 | 0,s,p,h=>by
   rw [Lib.splitB_zero] at h
   simp at h
   rw [h];exact Yn _
 | k+1,s,p,h=>by
   rcases Lib.index_spec s.data.toList sep.data.toList with ⟨h1,_⟩ | ⟨i,h1,_⟩
   rw [Lib.splitB_miss sep 0 (k+1) s h1] at h
   simp at h
   rw [h];exact Yn _
   rw [Lib.splitB_hit sep 0 k s i h1] at h
   rcases Ys.1 h with h | h
   rw [h,FA];omega
   have:=WE sep k _ p h
   rw [FA] at this
   omega
def EA (p:Q3 Q4):Bool:=decide (p≠[])&&decide (p[0]?≠some 32)&&decide (p.getLast?≠some 32)
theorem kW (a:Q4):decide (some a≠some 32) = !((a.toNat:Int) == 32):=by{
by_cases h:a=32
subst h;rfl
have h2:a.toNat≠32:=fun e=>h (GG.1 e)
have h3:((a.toNat:Int) == 32)=false:=by rw [YL];omega
rw [h3];simp [h]}
theorem kX (x:Q1) (h:0<x.size):EA x.data.toList = !((x[0].toNat:Int) == 32||((x[x.size-1]'(by omega)).toNat:Int) == 32):=by{
have hl:x.data.toList.length=x.size:=YF
have h1:x.data.toList≠[]:=fun e=>by rw [e] at hl;simp at hl;omega
have h2:x.data.toList[0]? = some x[0]:=Yc (by omega)
have h3:x.data.toList.getLast? = some (x[x.size-1]'(by omega)):=by
 rw [List.getLast?_eq_getElem?,hl]
 exact Yc (by omega)
unfold EA
rw [h2,h3,kW,kW]
simp [h1]}
def LM (c:Int):Bool:=decide (c≠58) && !(decide (97<=c)&&decide (c<=122))
theorem cO {c:Int} (h:c=58):LM c=false:=by subst h;rfl
theorem cP {c:Int} (h:97<=c) (h':c<=122):LM c=false:=by simp [LM,h,h']
theorem WF {c:Int} (h:c≠58) (h':c<97\/122<c):LM c=true:=by
 unfold LM
 have:¬ (97<=c/\c<=122):=by omega
 simp [h];omega
def Title.valid (t:Title):Bool:=decide (0<=t.space)&&decide (t.space<6)&&decide (1<=t.name.size)&&decide (t.name.size<=100)&&CZ (-1) t.name.data.toList && (Lib.splitB ⟨#[47]⟩ 0 (Lib.countB t.name ⟨#[47]⟩) t.name).all (fun p=>EA p.data.toList) && LM (t.name.data.toList.headD 0).toNat && (decide (t.space≠0)||decide (BV t.name.data.toList=none))
theorem zX (t:Title) (w:World) (hG:PA w):Calls Q7 157 #[.agg #[.int .i64 t.space,.string t.name]] w fun e w'=>e = .returned (.bool t.valid)/\Below w.heap.size w w':=by{
obtain ⟨m,hm⟩:=hG
obtain ⟨sp,s⟩:=t
by_cases h:(0<=sp/\sp<6)/\(1<=s.size/\s.size<=100)/\CZ (-1) s.data.toList=true
·obtain ⟨⟨h1,h2⟩,⟨h3,h4⟩,h5⟩:=h
 go_enter Tryz.func157,Tryz.ntmps157
 go_wp2_with (first | (go_at_call 200;refine (kT _ _ (by omega)).mono ?_;rintro e w' ⟨rfl,rfl⟩) | (go_at_call 197;refine (Tryz.strings_Split _ _ m _ (by omega) (by exact re1 (Below.al (Below.refl _ _) _) (DK hm) hm) (by decide)).mono ?_;rintro e w' ⟨rfl,rfl⟩))
 have hcl:=Lib.splitB_all ⟨#[47]⟩ (by decide) 0 _ s rfl
 have hb:Below w.heap.size w ((w.alloc (Obj.cells #[Value.int IntKind.i64 sp,Value.string s] 29)).alloc (Obj.cells (List.map Value.string (Lib.splitB { data:=#[47] } 0 (Lib.countB s { data:=#[47] }) s)).toArray 9)):=Below.al (Below.al (Below.refl _ _) _) _
 have hS:=SlR.strs (w.alloc (Obj.cells #[Value.int IntKind.i64 sp,Value.string s] 29)) 9 (n:=Lib.countB s { data:=#[47] }+1) (Lib.splitB { data:=#[47] } 0 (Lib.countB s { data:=#[47] }) s) hcl.symm (by have:=kU s;omega)
 have e1:(w.alloc (Obj.cells #[Value.int IntKind.i64 sp,Value.string s] 29)).heap.size=w.heap.size+1:=by simp
 rw [e1] at hS
 have c0:((w.alloc (Obj.cells #[Value.int IntKind.i64 sp,Value.string s] 29)).alloc (Obj.cells (List.map Value.string (Lib.splitB { data:=#[47] } 0 (Lib.countB s { data:=#[47] }) s)).toArray 9)).cell? ⟨w.heap.size,0,none⟩=some (.int .i64 sp):=by go_simp
 generalize (w.alloc (Obj.cells #[Value.int IntKind.i64 sp,Value.string s] 29)).alloc (Obj.cells (List.map Value.string (Lib.splitB { data:=#[47] } 0 (Lib.countB s { data:=#[47] }) s)).toArray 9)=w2 at *
 have HB:=Lib.hid hb
 clear hb e1 hcl
 have hsp:Title.valid ⟨sp,s⟩=((Lib.splitB { data:=#[47] } 0 (Lib.countB s { data:=#[47] }) s).all (fun p=>EA p.data.toList)&&(LM (s.data.toList.headD 0).toNat &&
  (decide (sp≠0)||decide (BV s.data.toList=none)))):=by simp [Title.valid,h1,h2,h3,h4,h5,Bool.and_assoc]
 have splitB_sizes:=fun p h=>YX (WE ⟨#[47]⟩ (Lib.countB s ⟨#[47]⟩) s p h) h4
 generalize Lib.countB s { data:=#[47] }=K at *
 generalize Lib.splitB { data:=#[47] } 0 K s=ps at *
 have HSP:=Lib.hid hsp
 have HK:=Lib.hid hS.1
 have hle:=hS.le
 clear hsp
 go_loopw [5,37] (fun _ i wr=>∃ q:Nat,q<=K+1/\i = .int .i64 q/\Below w2.heap.size w2 wr/\Hid (ps.all (fun p=>EA p.data.toList)=(ps.drop q).all (fun p=>EA p.data.toList))) (fun _ i _=>K+1-(intOf i).toNat)
 case atStart=>exact ⟨0,by omega,rfl,Below.refl _ _,rfl⟩
 case round=>
  obtain ⟨q,hq,rfl,hbw,hA⟩:=hrel
  have HW:=Lib.hid hbw
  by_cases hlt:q<K+1
  obtain ⟨b,off,x,cs,hA0,hbl,hx,hd,hR,hc⟩:=(hS.mono hbw).elem hlt
  obtain ⟨rfl,rfl⟩:w.heap.size+1=b/\0=off:=by injection hA0 with h;injection h with h1 h2;exact ⟨h1,h2⟩
  have d0:wr.cell? ⟨w.heap.size+1,q,none⟩=some (.string x):=by subst hR;simpa using hc 0 _ rfl
  have HD:=Lib.hid hd
  have hxs:=splitB_sizes x (Yj hx)
  clear hA0 hx hd hR hc hbw hS h5 h1 h2 hbl splitB_sizes
  by_cases hx0:x.size=0
  ·have hx1:x.toList = []:=by rw [ByteArray.toList_eq];exact Yl (by rw [YF];exact hx0)
   have HP:Hid (EA x.data.toList=false):=Lib.hid (by rw [<- ByteArray.toList_eq,hx1];rfl)
   clear hx0
   go_wp2
   go_ret
   exact ⟨DT (by rw [HSP.out,hA.out,HD.out,IU,HP.out];rfl),Below.tr HB.out HW.out⟩
  ·have hx1:¬ x.toList = []:=fun e=>by rw [ByteArray.toList_eq] at e;exact hx0 (by have:=CC List.length e;rw [YF] at this;exact this)
   have hx2:0<x.size:=by omega
   have hx3:(0:Int)<=(x.size:Int)-1:=by omega
   have HP:=Lib.hid (kX x hx2)
   clear hx0
   go_wp2
   all_goals (try simp only [D8,YL,ne_eq,List.isEmpty_iff,List.isEmpty_eq_false_iff] at *)
   all_goals first
    | (exfalso;omega)
    | (go_ret;refine ⟨DT ?_,Below.tr HB.out HW.out⟩;rw [HSP.out,hA.out,HD.out,IU,HP.out];simp_all;done)
    | (go_roundw;(case rel=>(refine ⟨q+1,by omega,by go_num,HW.out,?_⟩;refine Lib.hid ?_;rw [hA.out,HD.out,IU,HP.out];simp_all));(case measure=>(simp [intOf];omega)))
  obtain rfl:q=K+1:=by omega
  have hz:ps.all (fun p=>EA p.data.toList)=true:=by
   rw [hA.out,YI (by rw [<- HK.out];exact Yn _)];rfl
  rw [hz,RW] at HSP
  have c1:wr.cell? ⟨w.heap.size,0,none⟩=some (.int .i64 sp):=re1 hbw (DK c0) c0
  have hm1:wr.cell? ⟨0,0,none⟩=some (.int .i64 m):=re1 (Below.tr HB.out hbw) (DK hm) hm
  have hg:s.data.toList.headD 0=s[0]'(by omega):=kV s (by omega)
  rw [hg] at HSP
  have hs0:(0:Int)<s.size:=by omega
  clear hz hbw hS h5 hA c0 hle splitB_sizes hg hm
  rcases hp:BV s.data.toList with _ | ⟨n,r⟩
  ·rw [hp] at HSP
   have hpr:=fun W h1 h2=>zV s W h1 h2 hp
   clear hp
   go_wp2_with (go_at_call 155;refine (hpr _ (by omega) ⟨m,by assumption⟩).mono ?_;rintro e w5 ⟨rfl,hb5⟩;have c2:=re1 hb5 (DK c1) c1)
   all_goals
    go_ret
    refine ⟨DT ?_,?_⟩
    ·rw [HSP.out]
     simp only [D8,YL,ne_eq] at *
     first
      | (rw [cO (by omega)];rfl)
      | (rw [cP (by omega) (by omega)];rfl)
      | (rw [WF (by omega) (by omega)];simp_all;done)
    first | exact Below.tr (Below.tr HB.out HW.out) (by assumption) | exact Below.tr HB.out HW.out
  ·rw [hp] at HSP
   have hpr:=fun W h1 h2=>zW s W h1 h2 hp
   clear hp
   go_wp2_with (go_at_call 155;refine (hpr _ (by omega) ⟨m,by assumption⟩).mono ?_;rintro e w5 ⟨rfl,hb5⟩;have c2:=re1 hb5 (DK c1) c1)
   all_goals
    go_ret
    refine ⟨DT ?_,?_⟩
    ·rw [HSP.out]
     simp only [D8,YL,ne_eq] at *
     first
      | (rw [cO (by omega)];rfl)
      | (rw [cP (by omega) (by omega)];rfl)
      | (rw [WF (by omega) (by omega)];simp_all;done)
    first | exact Below.tr (Below.tr HB.out HW.out) (by assumption) | exact Below.tr HB.out HW.out
·go_enter Tryz.func157,Tryz.ntmps157
 have hv:Title.valid ⟨sp,s⟩=false:=by
  cases hV:Title.valid ⟨sp,s⟩ with
  | false=>rfl
  | true=>
    simp only [Title.valid,YH,YT] at hV
    obtain ⟨⟨⟨⟨⟨⟨⟨ha,hb⟩,hc⟩,hd⟩,hcl⟩,_⟩,_⟩,_⟩:=hV
    exact absurd ⟨⟨ha,hb⟩,⟨hc,hd⟩,hcl⟩ h
 have HV:=Lib.hid hv
 clear hv
 go_wp2_with (first | (go_at_call 200;refine (kT _ _ (by omega)).mono ?_;rintro e w' ⟨rfl,rfl⟩) | (go_at_call 197;exfalso;have h6:(!CZ (-1) s.data.toList)=false:=And.right (by assumption);simp at h6;exact h ⟨⟨by omega,by omega⟩,⟨by omega,by omega⟩,h6⟩))
 all_goals
  go_ret
  exact ⟨DT HV.out.symm,Below.al (Below.refl _ _) _⟩}
def WG (b:Int):Int:=if 65<=b/\b<=90 then b+32 else b
theorem zY (b:Int) (h0:0<=b) (h1:b<256) (w:World):Calls Q7 201 #[.int .u8 b] w fun e w'=>e = .returned (.int .u8 (WG b))/\w=w':=by{
go_enter Tryz.func201,Tryz.ntmps201
go_wp2
all_goals
 go_ret
 refine ⟨OH ?_,rfl⟩
 unfold WG
 first | (rw [if_pos (by omega)];done) | (rw [if_neg (by omega)];done)}
theorem zZ (c:Q4):WG c.toNat=(A5 c).toNat:=by{
unfold WG A5
by_cases h:65<=c.toNat/\c.toNat<=90
rw [if_pos (by omega),if_pos h];simp;omega
rw [if_neg (by omega),if_neg h]}
theorem kY (c:Q4):0<=(c.toNat:Int)/\(c.toNat:Int)<256:=by have:=c.toNat_lt;omega
theorem kZ (a b:Q1) (j:Nat) (hj:j+b.size<=a.size):((a.extract j (j+b.size)).toList == b.toList)=Lib.occAt a.data.toList b.data.toList j:=by
 rw [<- Lib.piece_eq_occAt a b j hj,beq_toListBytes]
theorem ZzD {a b:Q1} {j:Nat} (hj:¬ j+b.size<=a.size) (hl:j<=a.size):Lib.occAt a.data.toList b.data.toList j=false:=by{
cases ho:Lib.occAt a.data.toList b.data.toList j with
| false=>rfl
| true=>
  rcases Lib.occAt_room ho with h | h
  rw [<- Lib.size_eq,<- Lib.size_eq] at h;omega
  have:b.size=0:=by rw [Lib.size_eq,h];rfl
  omega}
theorem l5 (s t:Q1) (w:World) (hs:s.size+t.size<=9223372036854775806):Calls Q7 93 #[.string s,.string t,.int .i64 0] w fun e w'=>e = .returned (.int .i64 (Lib.index s.data.toList t.data.toList))/\w=w':=by{
go_enter Tryz.func93,Tryz.ntmps93
go_wp2
go_loop [7] (fun i=>∃ q:Nat,q<=s.size+1/\i = .int .i64 q/\Hid (∀ j,j<q->Lib.occAt s.data.toList t.data.toList j=false)) (fun i=>s.size+1-(intOf i).toNat)
case atStart=>exact ⟨0,by omega,rfl,fun j h=>absurd h (by omega)⟩
case round=>
 obtain ⟨q,hq,rfl,hno⟩:=hrel
 by_cases hlt:q+t.size<=s.size
 ·have b1:(0:Int)<=q:=by omega
  have b2:(q:Int)+(t.size:Int)<=(s.size:Int):=by omega
  go_wp2
  ·rename_i hocc _
   go_ret
   refine ⟨OH ?_,rfl⟩
   rw [kZ s t q hlt] at hocc
   rw [Lib.index_first (by rw [<- Lib.size_eq];omega) hocc hno.out]
  rename_i hocc
  rw [kZ s t q hlt] at hocc
  refine ⟨⟨q+1,by omega,by simp,fun j hj=>?_⟩,by simp [intOf];omega⟩
  by_cases hjq:j<q
  exact hno.out j hjq
  have:j=q:=by omega
  subst this;exact hocc
 ·have b2:¬ (q:Int)+(t.size:Int)<=(s.size:Int):=by omega
  have b3:(s.size:Int)<(q:Int)+(t.size:Int):=by omega
  go_wp2
  all_goals
   first
   | (exfalso;omega)
   | (go_ret
      refine ⟨OH ?_,rfl⟩
      rw [Lib.index_none]
      intro j hj
      rw [<- Lib.size_eq] at hj
      by_cases hjq:j<q
      exact hno.out j hjq
      exact ZzD (by omega) hj)}
theorem Zp1 (c:Q4) (w:World):Calls Q7 201 #[.int .u8 c.toNat] w fun e w'=>e = .returned (.int .u8 ((A5 c).toNat:Int))/\w=w':=by
 refine (zY _ (kY c).1 (kY c).2 w).mono ?_
 rintro e w' ⟨rfl,rfl⟩
 exact ⟨by rw [zZ],rfl⟩
def FP (a b:Q1):Bool:=decide (AD a.data.toList=AD b.data.toList)
theorem SZ (l:Q3 Q4):(AD l).length=l.length:=by simp [AD]
theorem Zr8 {a b:Q1} (h:a.size≠b.size):FP a b=false:=by{
unfold FP
refine Yf fun e=>h ?_
have:=CC List.length e
rw [SZ,SZ,YF,YF] at this
exact this}
theorem Zwo {a b:Q1} (j:Nat) (ha:j<a.size) (hb:j<b.size) (h:A5 a[j]≠A5 b[j]):FP a b=false:=by{
unfold FP
refine Yf fun e=>h ?_
have:=CC (·[j]?) e
simp only [AD,Yw] at this
rw [show a.data.toList[j]? = some a[j] from Yc (by rw [YF];exact ha),show b.data.toList[j]? = some b[j] from Yc (by rw [YF];exact hb)] at this
simpa using this}
theorem ZtZ {a b:Q1} (hs:a.size=b.size) (h:∀ j (ha:j<a.size) (hb:j<b.size),A5 a[j]=A5 b[j]):FP a b=true:=by{
unfold FP
refine Yh (List.ext_getElem ?_ fun j h1 h2=>?_)
rw [SZ,SZ,YF,YF];exact hs
rw [SZ,YF] at h1 h2
simp only [AD,List.getElem_map]
exact h j h1 h2}
theorem Zyn {c d:Q4} (h:¬ ((A5 c).toNat:Int)=(A5 d).toNat):A5 c≠A5 d:=fun e=>h (by rw [e])
theorem Zyo {c d:Q4} (h:((A5 c).toNat:Int)=(A5 d).toNat):A5 c=A5 d:=GG.1 (by omega)
theorem cQ (a b:Q1) (w:World) (hsz:a.size<=4611686018427387904):Calls Q7 158 #[.string a,.string b] w fun e w'=>e = .returned (.bool (FP a b))/\Below w.heap.size w w':=by{
by_cases hl:a.size=b.size
case neg=>
 have HE:=Lib.hid (Zr8 hl)
 have h1:¬ (a.size:Int)=b.size:=by omega
 go_enter Tryz.func158,Tryz.ntmps158
 go_wp2
 all_goals first | (exfalso;omega) | (go_ret;exact ⟨DT HE.out.symm,Below.refl _ _⟩)
have HN:Hid (∀ j (ha:j<a.size) (hb:j<b.size),¬ ((A5 a[j]).toNat:Int)=(A5 b[j]).toNat->FP a b=false):=Lib.hid fun j ha hb h=>Zwo j ha hb (Zyn h)
have HG:Hid ((∀ j (ha:j<a.size) (hb:j<b.size),((A5 a[j]).toNat:Int)=(A5 b[j]).toNat)->FP a b=true):=Lib.hid fun h=>ZtZ hl fun j ha hb=>Zyo (h j ha hb)
have HL:=Lib.hid hl
have hl1:(a.size:Int)=b.size:=by omega
clear hl
go_enter Tryz.func158,Tryz.ntmps158
go_wp2_with fail
clear hl1
go_loopw [5] (fun i wr=>∃ q:Nat,q<=a.size/\i = .int .i64 q/\Below w.heap.size w wr/\Hid (∀ j (ha:j<a.size) (hb:j<b.size),j<q->((A5 a[j]).toNat:Int)=(A5 b[j]).toNat)) (fun i _=>a.size-(intOf i).toNat)
case atStart=>exact ⟨0,by omega,rfl,Below.refl _ _,Lib.hid fun j _ _ h=>absurd h (by omega)⟩
case round=>
 obtain ⟨q,hq,rfl,hbw,hno⟩:=hrel
 have HQ:=Lib.hid hbw
 clear hbw
 by_cases hlt:q<a.size
 ·have hlb:q<b.size:=by rw [<- HL.out];exact hlt
  have HS:Hid (((A5 a[q]).toNat:Int)=(A5 b[q]).toNat->∀ j (ha:j<a.size) (hb:j<b.size),j<q+1->((A5 a[j]).toNat:Int)=(A5 b[j]).toNat):=Lib.hid fun h j hj hb hj2=>by
   by_cases e:j<q
   exact hno.out j hj hb e
   have:j=q:=by omega
   subst this;exact h
  have HN2:=Lib.hid (HN.out q hlt hlb)
  have b1:(0:Int)<=q:=by omega
  have b2:(q:Int)<(a.size:Int):=by omega
  have b3:(q:Int)<(b.size:Int):=by omega
  go_wp2_with fail
  go_quiet ((go_at_call 201;exact Calls.quiet_of_same ((Zp1 _ _).mono (fun e w' h=>⟨h.1,h.2.symm⟩))))
  go_wp2
  all_goals (try simp only [KY,bne_eq_false_iff_eq,ne_eq] at *)
  ·rename_i h
   go_ret
   exact ⟨DT (HN2.out h).symm,Below.dn HQ.out _⟩
  rename_i h
  exact ⟨⟨q+1,by omega,by simp,Below.dn HQ.out _,Lib.hid (HS.out h)⟩,by simp [intOf];omega⟩
 ·have HE:=Lib.hid (HG.out fun j hj hb=>hno.out j hj hb (by omega))
  have b2:(a.size:Int)<=(q:Int):=by omega
  go_wp2
  all_goals first | (exfalso;omega) | (go_ret;exact ⟨DT HE.out.symm,HQ.out⟩)}
def J7 (z:Int):Q1:=if z=1 then ⟨#[84,97,108,107]⟩ else if z=2 then ⟨#[85,115,101,114]⟩ else if z=3 then ⟨#[84,101,109,112,108,97,116,101]⟩ else if z=4 then ⟨#[67,97,116,101,103,111,114,121]⟩ else if z=5 then ⟨#[80,114,111,106,101,99,116]⟩ else ⟨#[]⟩
theorem cR (z:Int) (w:World):Calls Q7 159 #[.int .i64 z] w fun e w'=>e = .returned (.string (J7 z))/\Below w.heap.size w w':=by{
have hz:z<0\/6<=z\/z=0\/z=1\/z=2\/z=3\/z=4\/z=5:=by omega
have HE:Hid (z<0\/6<=z->J7 z=⟨#[]⟩):=Lib.hid fun h=>by
 unfold J7
 rw [if_neg (by omega),if_neg (by omega),if_neg (by omega),if_neg (by omega),if_neg (by omega)]
by_cases hin:0<=z/\z<6
·obtain ⟨h0,h6⟩:=hin
 obtain rfl | rfl | rfl | rfl | rfl | rfl:z=0\/z=1\/z=2\/z=3\/z=4\/z=5:=by omega
 all_goals
  go_enter Tryz.func159,Tryz.ntmps159
  go_wp2
  go_ret
  exact ⟨rfl,Below.al (Below.refl _ _) _⟩
·have HE2:=Lib.hid (HE.out (by omega))
 have hz2:z<0\/6<=z:=by omega
 clear hz hin HE
 go_enter Tryz.func159,Tryz.ntmps159
 rcases hz2 with hz2 | hz2
 all_goals
  go_wp2
 all_goals
  first
  | (exfalso;omega)
  | (go_ret
     exact ⟨by rw [HE2.out];rfl,Below.al (Below.refl _ _) _⟩)}
theorem cT (z:Int) (h1:1<=z) (h2:z<6):AD (J7 z).data.toList=CL z.toNat:=by
 obtain rfl | rfl | rfl | rfl | rfl:z=1\/z=2\/z=3\/z=4\/z=5:=by omega
 all_goals decide
def GM (p:Q1):Q1:=if h:0<p.size then (if (p[p.size-1]'(by omega)).toNat=32 then p.extract 0 (p.size-1) else p) else p
theorem Zt0 (s:Q1) (k:Nat) {h0:min k s.size-1<(s.extract 0 k).size} (h:(((s.extract 0 k)[min k s.size-1]'h0).toNat:Int)=32):GM (s.extract 0 k)=(s.extract 0 k).extract 0 (min k s.size-1):=by
 have hsz:(s.extract 0 k).size=min k s.size:=by simp [FA]
 unfold GM
 rw [dif_pos (by omega),if_pos (by simp only [hsz];omega),hsz]
theorem Zr9 (s:Q1) (k:Nat) {h0:min k s.size-1<(s.extract 0 k).size} (h:¬ (((s.extract 0 k)[min k s.size-1]'h0).toNat:Int)=32):GM (s.extract 0 k)=s.extract 0 k:=by
 have hsz:(s.extract 0 k).size=min k s.size:=by simp [FA]
 unfold GM
 rw [dif_pos (by omega),if_neg (by simp only [hsz];omega)]
theorem Zsa (s:Q1) (k:Nat) (h:¬ 0<min k s.size):GM (s.extract 0 k)=s.extract 0 k:=by
 have hsz:(s.extract 0 k).size=min k s.size:=by simp [FA]
 unfold GM
 rw [dif_neg (by omega)]
def GN (s:Q1):Int×Int:=if Lib.index s.data.toList [58]<0 then (0,0) else if CD (AD (GM (s.extract 0 (Lib.index s.data.toList [58]).toNat)).data.toList)=0 then (0,0) else (CD (AD (GM (s.extract 0 (Lib.index s.data.toList [58]).toNat)).data.toList),Lib.index s.data.toList [58])
theorem Zt1:∀ {s:Q3 Q4} {c:Q4},0<=Lib.index s [c]->Lib.index s [c]<s.length:=by{
intro s
induction s with
| nil=>intro c h;exact absurd h (by simp [Lib.index])
| cons a r ih=>
  intro c h
  by_cases h1:List.isPrefixOf [c] (a::r)=true
  simp only [Lib.index,h1,if_true];simp
  simp only [Lib.index,h1] at h ⊢
  by_cases h2:(Lib.index r [c] == -1)=true
  simp [h2] at h
  simp only [h2] at h ⊢
  have hge:0<=Lib.index r [c]:=by
   have h3:Lib.index r [c]≠-1:=fun e=>h2 (by rw [e];rfl)
   simp at h
   omega
  have:=ih hge
  simp
  omega}
theorem Zwp {s:Q1} {c:Q4} (h:0<=Lib.index s.data.toList [c]):Lib.index s.data.toList [c]<s.size:=by
 have:=Zt1 h
 rw [YF] at this
 exact this
theorem l7 (s:Q1) (w:World) (hs:s.size<=4611686018427387904):Calls Q7 92 #[.string s] w fun e w'=>e = .returned (.tuple #[.int .i64 (GN s).1,.int .i64 (GN s).2])/\Below w.heap.size w w':=by{
have HR:Hid (GN s=if Lib.index s.data.toList [58]<0 then (0,0) else if CD (AD (GM (s.extract 0 (Lib.index s.data.toList [58]).toNat)).data.toList)=0 then (0,0) else (CD (AD (GM (s.extract 0 (Lib.index s.data.toList [58]).toNat)).data.toList),Lib.index s.data.toList [58])):=Lib.hid rfl
have HI:Hid (0<=Lib.index s.data.toList [58]->Lib.index s.data.toList [58]<s.size):=Lib.hid Zwp
generalize GN s=R at *
go_enter Tryz.func92,Tryz.ntmps92
go_wp2_with fail
refine (l5 s ⟨#[58]⟩ _ (by show s.size+1<=_;omega)).mono ?_
rintro e w1 ⟨rfl,rfl⟩
rw [show (⟨#[58]⟩:Q1).data.toList = [58] from rfl]
generalize Lib.index s.data.toList [58]=at0 at *
by_cases h0:at0<0
·obtain rfl:=HR.out.trans (if_pos h0)
 go_wp2
 all_goals first | (exfalso;omega) | (exact bodyPost_ret (v:=.tuple #[.int .i64 0,.int .i64 0]) (by simp [results,Tryz.results92,go_sem]) rfl ⟨rfl,Below.refl _ _⟩)
obtain ⟨k,rfl⟩:∃ k:Nat,at0=k:=⟨at0.toNat,by omega⟩
have hk:=HI.out (by omega)
have HR2:=Lib.hid (HR.out.trans (if_neg h0))
clear HR HI h0
simp only [DH] at HR2
have b1:(0:Int)<=k:=by omega
by_cases hp:0<min k s.size
case neg=>
 rw [Zsa s k (by omega)] at HR2
 go_wp2_with fail
 have hNs:Hid ((s.extract 0 k).size<=4611686018427387904):=Lib.hid (by simp only [FA];omega)
 clear hs
 go_loopw [6] (fun i wr=>∃ z:Int,1<=z/\z<=6/\i = .int .i64 z/\Below w.heap.size w wr/\Hid (∀ j:Nat,1<=j->(j:Int)<z->AD (s.extract 0 k).data.toList≠CL j)) (fun i _=>6-(intOf i).toNat)
 case atStart=>exact ⟨1,by omega,by omega,rfl,Below.refl _ _,fun j _ h=>absurd h (by omega)⟩
 case round=>
  obtain ⟨z,hz0,hz6,rfl,hbw,hno⟩:=hrel
  have HQ:=Lib.hid hbw
  clear hbw
  by_cases h6:z=6
  ·subst h6
   have hz:CD (AD (s.extract 0 k).data.toList)=0:=WB _ fun j h1 h2=>hno.out j h1 (by omega)
   obtain rfl:=HR2.out.trans (if_pos hz)
   clear hz
   go_wp2
   exact bodyPost_ret (v:=.tuple #[.int .i64 0,.int .i64 0]) (by simp [results,Tryz.results92,go_sem]) rfl ⟨rfl,HQ.out⟩
  ·have hz7:z<6:=by omega
   have HF:=Lib.hid (cT z hz0 hz7)
   go_wp2_with fail
   refine (cR z _).mono ?_
   rintro e w5 ⟨rfl,hb5⟩
   go_wp2_with fail
   refine (cQ _ _ _ hNs.out).mono ?_
   rintro e w6 ⟨rfl,hb6⟩
   have HB6:=Lib.hid (Below.tr HQ.out (Below.tr hb5 hb6))
   clear hb5 hb6
   by_cases hsame:FP (s.extract 0 k) (J7 z)=true
   ·have hfl:AD (s.extract 0 k).data.toList=CL z.toNat:=(FE hsame).trans HF.out
    have hz:CD (AD (s.extract 0 k).data.toList)=z:=by rw [hfl,cM z.toNat (by omega) (by omega)];omega
    have hR:=HR2.out.trans (if_neg (by rw [hz];omega))
    rw [hz] at hR
    obtain rfl:=hR
    rw [hsame]
    clear hz hfl
    go_wp2
    exact bodyPost_ret (v:=.tuple #[.int .i64 z,.int .i64 k]) (by simp [results,Tryz.results92,go_sem]) rfl ⟨rfl,HB6.out⟩
   ·have hsame:FP (s.extract 0 k) (J7 z)=false:=by simpa using hsame
    have hfl:AD (s.extract 0 k).data.toList≠CL z.toNat:=fun e=>UX hsame (e.trans HF.out.symm)
    have HN:=Lib.hid hfl
    rw [hsame]
    clear hfl
    go_wp2
    go_roundw
    case rel=>
     refine ⟨z+1,by omega,by omega,rfl,HB6.out,fun j h1 h2=>?_⟩
     by_cases e:(j:Int)<z
     exact hno.out j h1 e
     have:j=z.toNat:=by omega
     subst this;exact HN.out
    case measure=>simp [intOf];omega
have hq:min k s.size-1<(s.extract 0 k).size:=by simp only [FA];omega
have b3:(1:Int)<=(min k s.size:Nat):=by omega
by_cases h:(((s.extract 0 k)[min k s.size-1]'hq).toNat:Int)=32
·rw [Zt0 s k h] at HR2
 go_wp2_with fail
 clear h b3 hp
 have hNs:Hid (((s.extract 0 k).extract 0 (min k s.size-1)).size<=4611686018427387904):=Lib.hid (by simp only [FA];omega)
 clear hs
 go_loopw [6] (fun i wr=>∃ z:Int,1<=z/\z<=6/\i = .int .i64 z/\Below w.heap.size w wr/\Hid (∀ j:Nat,1<=j->(j:Int)<z->AD ((s.extract 0 k).extract 0 (min k s.size-1)).data.toList≠CL j)) (fun i _=>6-(intOf i).toNat)
 case atStart=>exact ⟨1,by omega,by omega,rfl,Below.refl _ _,fun j _ h=>absurd h (by omega)⟩
 case round=>
  obtain ⟨z,hz0,hz6,rfl,hbw,hno⟩:=hrel
  have HQ:=Lib.hid hbw
  clear hbw
  by_cases h6:z=6
  ·subst h6
   have hz:CD (AD ((s.extract 0 k).extract 0 (min k s.size-1)).data.toList)=0:=WB _ fun j h1 h2=>hno.out j h1 (by omega)
   obtain rfl:=HR2.out.trans (if_pos hz)
   clear hz
   go_wp2
   exact bodyPost_ret (v:=.tuple #[.int .i64 0,.int .i64 0]) (by simp [results,Tryz.results92,go_sem]) rfl ⟨rfl,HQ.out⟩
  ·have hz7:z<6:=by omega
   have HF:=Lib.hid (cT z hz0 hz7)
   go_wp2_with fail
   refine (cR z _).mono ?_
   rintro e w5 ⟨rfl,hb5⟩
   go_wp2_with fail
   refine (cQ _ _ _ hNs.out).mono ?_
   rintro e w6 ⟨rfl,hb6⟩
   have HB6:=Lib.hid (Below.tr HQ.out (Below.tr hb5 hb6))
   clear hb5 hb6
   by_cases hsame:FP ((s.extract 0 k).extract 0 (min k s.size-1)) (J7 z)=true
   ·have hfl:AD ((s.extract 0 k).extract 0 (min k s.size-1)).data.toList=CL z.toNat:=(FE hsame).trans HF.out
    have hz:CD (AD ((s.extract 0 k).extract 0 (min k s.size-1)).data.toList)=z:=by rw [hfl,cM z.toNat (by omega) (by omega)];omega
    have hR:=HR2.out.trans (if_neg (by rw [hz];omega))
    rw [hz] at hR
    obtain rfl:=hR
    rw [hsame]
    clear hz hfl
    go_wp2
    exact bodyPost_ret (v:=.tuple #[.int .i64 z,.int .i64 k]) (by simp [results,Tryz.results92,go_sem]) rfl ⟨rfl,HB6.out⟩
   ·have hsame:FP ((s.extract 0 k).extract 0 (min k s.size-1)) (J7 z)=false:=by simpa using hsame
    have hfl:AD ((s.extract 0 k).extract 0 (min k s.size-1)).data.toList≠CL z.toNat:=fun e=>UX hsame (e.trans HF.out.symm)
    have HN:=Lib.hid hfl
    rw [hsame]
    clear hfl
    go_wp2
    go_roundw
    case rel=>
     refine ⟨z+1,by omega,by omega,rfl,HB6.out,fun j h1 h2=>?_⟩
     by_cases e:(j:Int)<z
     exact hno.out j h1 e
     have:j=z.toNat:=by omega
     subst this;exact HN.out
    case measure=>simp [intOf];omega
·rw [Zr9 s k h] at HR2
 have h2:((((s.extract 0 k)[min k s.size-1]'hq).toNat:Int) == 32)=false:=YL.2 h
 clear h
 go_wp2_with fail
 clear h2 hp
 have hNs:Hid ((s.extract 0 k).size<=4611686018427387904):=Lib.hid (by simp only [FA];omega)
 clear hs
 go_loopw [6] (fun i wr=>∃ z:Int,1<=z/\z<=6/\i = .int .i64 z/\Below w.heap.size w wr/\Hid (∀ j:Nat,1<=j->(j:Int)<z->AD (s.extract 0 k).data.toList≠CL j)) (fun i _=>6-(intOf i).toNat)
 case atStart=>exact ⟨1,by omega,by omega,rfl,Below.refl _ _,fun j _ h=>absurd h (by omega)⟩
 case round=>
  obtain ⟨z,hz0,hz6,rfl,hbw,hno⟩:=hrel
  have HQ:=Lib.hid hbw
  clear hbw
  by_cases h6:z=6
  ·subst h6
   have hz:CD (AD (s.extract 0 k).data.toList)=0:=WB _ fun j h1 h2=>hno.out j h1 (by omega)
   obtain rfl:=HR2.out.trans (if_pos hz)
   clear hz
   go_wp2
   exact bodyPost_ret (v:=.tuple #[.int .i64 0,.int .i64 0]) (by simp [results,Tryz.results92,go_sem]) rfl ⟨rfl,HQ.out⟩
  ·have hz7:z<6:=by omega
   have HF:=Lib.hid (cT z hz0 hz7)
   go_wp2_with fail
   refine (cR z _).mono ?_
   rintro e w5 ⟨rfl,hb5⟩
   go_wp2_with fail
   refine (cQ _ _ _ hNs.out).mono ?_
   rintro e w6 ⟨rfl,hb6⟩
   have HB6:=Lib.hid (Below.tr HQ.out (Below.tr hb5 hb6))
   clear hb5 hb6
   by_cases hsame:FP (s.extract 0 k) (J7 z)=true
   ·have hfl:AD (s.extract 0 k).data.toList=CL z.toNat:=(FE hsame).trans HF.out
    have hz:CD (AD (s.extract 0 k).data.toList)=z:=by rw [hfl,cM z.toNat (by omega) (by omega)];omega
    have hR:=HR2.out.trans (if_neg (by rw [hz];omega))
    rw [hz] at hR
    obtain rfl:=hR
    rw [hsame]
    clear hz hfl
    go_wp2
    exact bodyPost_ret (v:=.tuple #[.int .i64 z,.int .i64 k]) (by simp [results,Tryz.results92,go_sem]) rfl ⟨rfl,HB6.out⟩
   ·have hsame:FP (s.extract 0 k) (J7 z)=false:=by simpa using hsame
    have hfl:AD (s.extract 0 k).data.toList≠CL z.toNat:=fun e=>UX hsame (e.trans HF.out.symm)
    have HN:=Lib.hid hfl
    rw [hsame]
    clear hfl
    go_wp2
    go_roundw
    case rel=>
     refine ⟨z+1,by omega,by omega,rfl,HB6.out,fun j h1 h2=>?_⟩
     by_cases e:(j:Int)<z
     exact hno.out j h1 e
     have:j=z.toNat:=by omega
     subst this;exact HN.out
    case measure=>simp [intOf];omega}
theorem cU:∀ (css:Q3 (Q3 Value)) (xs:Q3 Q1),css.length=xs.length->(∀ (i:Nat) (x:Q1) (cs:Q3 Value),xs[i]? = some x->css[i]? = some cs->cs = [.string x])->css.flatten=xs.map Value.string
 | [],[],_,_=>rfl
 | [],_::_,h,_=>by simp at h
 | _::_,[],h,_=>by simp at h
 | c::css,x::xs,h,hR=>by
   have h0:=hR 0 x c rfl rfl
   subst h0
   rw [FY,cU css xs (by simpa using h) (fun i y cs hy hcs=>hR (i+1) y cs (by simpa using hy) (by simpa using hcs))]
   rfl
theorem OwnL.row {w:World} {B:Nat} {E:TypeId} {v:Value} {xs:Q3 Q1} (h:OwnL w B E v xs):w.ownsRow B E 1 v xs.length (xs.map Value.string):=by
 obtain ⟨css,hl,hr,hR⟩:=h
 rw [cU css xs hl (fun i x cs hx hcs=>hR i x cs hx hcs)] at hr
 exact hr
theorem OwnL.of_row {w:World} {B:Nat} {E:TypeId} {v:Value} {xs:Q3 Q1} (h:w.ownsRow B E 1 v xs.length (xs.map Value.string)):OwnL w B E v xs:=by{
refine ⟨xs.map (fun x=>[.string x]),by simp,?_,fun i x cs hx hcs=>?_⟩
rw [cU _ xs (by simp) (fun i x cs hx hcs=>by rw [Yw,hx] at hcs;simpa using hcs.symm)]
exact h
rw [Yw,hx] at hcs
show cs = [.string x]
simpa using hcs.symm}
theorem OwnL.cellS {w:World} {B:Nat} {E:TypeId} {g n c:Nat} {xs:Q3 Q1} (h:OwnL w B E (.slice (some ⟨g,0,none⟩) n c) xs) (hn:n=xs.length) {i:Nat} {x:Q1} (hx:xs[i]? = some x):w.cell? ⟨g,i,none⟩=some (.string x):=by{
subst hn
have hi:=(Yd.1 hx).1
rw [h.row.cellAt i (by omega),Yw,hx]
rfl}
theorem OwnL.frozenS {w:World} {B:Nat} {E:TypeId} {g n c:Nat} {xs:Q3 Q1} (h:OwnL w B E (.slice (some ⟨g,0,none⟩) n c) xs) (hn:n=xs.length) (i:Nat):w.frozen? ⟨g,i,none⟩=false:=by
 subst hn
 exact h.row.frozenAt i
theorem OwnL.setS {w:World} {B:Nat} {E:TypeId} {g n c:Nat} {xs:Q3 Q1} (h:OwnL w B E (.slice (some ⟨g,0,none⟩) n c) xs) (hn:n=xs.length) (i:Nat) (y:Q1):OwnL (w.setCell ⟨g,i,none⟩ (.string y)) B E (.slice (some ⟨g,0,none⟩) n c) (xs.set i y):=by{
subst hn
have:=(h.row.stored i (.string y)).1
refine OwnL.of_row ?_
rw [GY,List.map_set]
exact this}
def II (l:Q3 Q1) (c:Q4):Q3 Q1:=if c.toNat=47 then l ++ [⟨#[]⟩] else l.set (l.length-1) (l[l.length-1]?.getD ⟨#[]⟩++⟨#[c]⟩)
def G7 (s:Q3 Q4):Q3 Q1:=s.foldl II [⟨#[]⟩]
theorem okS:S4 Q7 48 9 (Enc.k Q1) 16:=u9 Tryz.underlying48 (by kernel_rfl)
theorem Zqk (s:Q1) (q:Nat) (h:q<s.size):G7 (s.data.toList.take (q+1))=II (G7 (s.data.toList.take q)) s[q]:=by{
have h2:s.data.toList[q]? = some s[q]:=Yc (by rw [YF];exact h)
unfold G7
rw [aD,h2,FZ]
rfl}
theorem l9 {l:Q3 Q1} {c:Q4} {q:Nat} (h:∀ p ∈ l,p.size<=q):∀ p ∈ II l c,p.size<=q+1:=by{
intro p hp
unfold II at hp
split at hp
rcases YD.1 hp with hp | hp
have:=h p hp;omega
rw [YG.1 hp];exact YJ _
rcases IT hp with hp | hp
have:=h p hp;omega
rw [hp,Z7]
have:(⟨#[c]⟩:Q1).size=1:=rfl
cases hx:l[l.length-1]? with
| none=>simp only [Option.getD_none];rw [this];have:(⟨#[]⟩:Q1).size=0:=rfl;omega
| some x=>have:=h x (Yj hx);simp only [DZ];omega}
theorem cV (s:Q1) (q:Nat) (h:q<s.size):s.extract q (q+1)=⟨#[s[q]]⟩:=by{
have h2:s.data.toList[q]? = some s[q]:=Yc (by rw [YF];exact h)
refine toList_inj ?_
rw [Lib.extract_toList,ByteArray.toList_eq]
show _ = [s[q]]
rw [Nat.add_sub_cancel_left,List.take_one,List.head?_drop,h2]
rfl}
theorem Zpc (s:Q1) (w:World) (hs:s.size<=1099511627776):Calls Q7 95 #[.string s] w fun e w'=>∃ v,e = .returned v/\OwnL w' w.heap.size 9 v (G7 s.data.toList)/\Below w.heap.size w w':=by{
go_enter Tryz.func95,Tryz.ntmps95
go_wp2_with fail
have hO:OwnL (w.alloc (Obj.cells #[Value.string { data:=#[] }] 9)) w.heap.size 9 (.slice (some ⟨w.heap.size,0,none⟩) 1 1) [(⟨#[]⟩:Q1)]:=
 OwnL.built [[.string ⟨#[]⟩]] _ (Yn _) rfl rfl (by decide) (fun i x cs hx hcs=>by
  rcases i with _ | i
  simp at hx hcs;subst hx;subst hcs;exact rfl
  simp at hx) rfl
have HO:=Lib.hid hO
clear hO
go_loopw [3,4] (fun l i wr=>∃ q g n c:Nat,q<=s.size/\i = .int .i64 q/\l = .slice (some ⟨g,0,none⟩) n c/\n=(G7 (s.data.toList.take q)).length/\1<=n/\n<=q+1/\Hid (∀ p ∈ G7 (s.data.toList.take q),p.size<=q)/\Below w.heap.size w wr/\OwnL wr w.heap.size 9 (.slice (some ⟨g,0,none⟩) n c) (G7 (s.data.toList.take q))) (fun _ i _=>s.size-(intOf i).toNat)
case atStart=>exact ⟨0,w.heap.size,1,1,by omega,rfl,rfl,rfl,by omega,by omega,Lib.hid (fun p hp=>by rw [YG.1 hp];exact YJ _),Below.al (Below.refl _ _) _,HO.out⟩
case round=>
 obtain ⟨q,g,n,c,hq,rfl,rfl,hn,h1,h2,HSZ,hbw,hown⟩:=hrel
 have HN:=Lib.hid hn
 have HQ:=Lib.hid hbw
 have HW:=Lib.hid hown
 clear hn hbw hown HO
 by_cases hlt:q<s.size
 have b1:(0:Int)<=q:=by omega
 have b2:(q:Int)<(s.size:Int):=by omega
 have HP:=Lib.hid (Zqk s q hlt)
 generalize G7 (s.data.toList.take q)=L at *
 by_cases h47:(s[q].toNat:Int)=47
 ·have hl:=HW.out
  have b3:n+1<=maxLen:=by unfold maxLen;omega
  have b4:(n+1) * 16<=140737488355328:=by omega
  have B3:Hid (L.length+1<=maxLen):=Lib.hid (by rw [<- HN.out];exact b3)
  have B4:Hid ((L.length+1) * 16<=140737488355328):=Lib.hid (by rw [<- HN.out];exact b4)
  have hg:w.heap.size<=wr.heap.size:=HQ.out.size
  clear hl b3 b4
  go_wp2_with (at_builtin;go_must (refine uC rfl _ _ 48 rfl okS (by decide) (B:=w.heap.size) (v:=.slice (some ⟨g,0,none⟩) n c) (xs:=L) rfl (HW.out.keep (Below.al (Below.refl _ _) _)) (ys:=[(⟨#[]⟩:Q1)]) rfl (SlR.made (fun x:Q1=>[.string x]) (fun _ _ _=>rfl) _ _ (by simp) rfl (by simp) rfl) (fun _ _ _ h=>h) B3.out B4.out (by simp;omega) ?_);intro v' w' hown hg2 hv')
  obtain ⟨A,c',rfl,_,hA⟩:=hown.sl
  obtain ⟨g',rfl,_,_⟩:=hA (by simp)
  have hst:II L s[q]=L ++ [⟨#[]⟩]:=by unfold II;rw [if_pos (by omega)]
  refine ⟨⟨q+1,g',_,c',by omega,rfl,rfl,?_,?_,?_,?_,?_,?_⟩,by simp [intOf];omega⟩
  rw [HP.out,hst]
  simp
  simp only [Yb,YC];rw [<- HN.out];omega
  rw [HP.out];exact Lib.hid (l9 HSZ.out)
  exact (HQ.out.alloc hg _).grown hg2 (by simp;omega) (fun j hj=>by cases hj;exact HW.out.ge rfl)
  rw [HP.out,hst];exact hown
 ·obtain ⟨x,hx⟩:∃ x,L[n-1]? = some x:=⟨_,Yc (by have:=HN.out;omega)⟩
  have c0:=HW.out.cellS HN.out hx
  have f0:=HW.out.frozenS HN.out (n-1)
  have HX:=Lib.hid hx
  have hxs:=HSZ.out x (Yj hx)
  clear hx
  have hext:(s.extract q (q+1)).size=1:=by rw [cV s q hlt];rfl
  have b4:x.size+(s.extract q (q+1)).size<=9223372036854775807:=by rw [hext];omega
  have b5:x.size+(min (q+1) s.size-q)<=9223372036854775807:=by omega
  clear hext hxs
  have b3:(1:Int)<=n:=by omega
  obtain ⟨m,rfl⟩:∃ m:Nat,n=m+1:=⟨n-1,by omega⟩
  simp only [RP] at c0 f0 HX
  go_upto_region 7 with fail
  go_region
  go_wp2
  refine ⟨⟨q+1,g,m+1,c,by omega,rfl,rfl,?_,by omega,by omega,?_,?_,?_⟩,by simp [intOf];omega⟩
  rw [HP.out];unfold II;rw [if_neg (by omega),GY];exact HN.out
  rw [HP.out];exact Lib.hid (l9 HSZ.out)
  have hge:w.heap.size<=g:=HW.out.ge rfl
  have hbs:Below w.heap.size w (wr.setCell ⟨g,m,none⟩ (.string (x++s.extract q (q+1)))):=HQ.out.setCell hge _
  exact Below.drew hbs
  refine OwnL.keep (Below.refl _ _).drew ?_
  have hst:=HW.out.setS HN.out m (x++s.extract q (q+1))
  rw [HP.out]
  unfold II
  rw [if_neg (by omega),<- HN.out,RP,HX.out,DZ,<- cV s q hlt]
  exact hst
 ·have b2:(s.size:Int)<=(q:Int):=by omega
  obtain rfl:q=s.size:=by omega
  rw [GW (by rw [YF];exact Yn _)] at HW
  go_wp2
  go_ret
  exact ⟨_,rfl,HW.out,HQ.out⟩}
def C9:Q3 Q4->Q3 Q4->Q3 (Q3 Q4) | a,[]=>[a] | a,c::r=>if c.toNat=47 then a::C9 [] r else C9 (a ++ [c]) r
theorem cW:∀ (s a r:Q3 Q4),(∀ k:Nat,s[k]?≠some 47)->C9 a (s++r)=C9 (a++s) r
 | [],a,r,_=>by simp
 | c::s,a,r,h=>by
   have h0:c.toNat≠47:=fun e=>h 0 (by simp;exact GG.1 e)
   rw [FC,C9,if_neg h0,cW s (a ++ [c]) r (fun k=>by have:=h (k+1);simpa using this),YM]
   rfl
theorem Zod (l:Q3 Q1) (p:Q1) (c:Q4):II (l ++ [p]) c=if c.toNat=47 then l ++ [p] ++ [⟨#[]⟩] else l ++ [p++⟨#[c]⟩]:=by{
unfold II
by_cases h:c.toNat=47
rw [if_pos h,if_pos h]
rw [if_neg h,if_neg h]
have hl:(l ++ [p]).length-1=l.length:=by simp
rw [hl,YP (Yn _),E4,MF _ _ (Yn _),E4]
rfl}
theorem Zw6 (p:Q1) (c:Q4):(p++⟨#[c]⟩:Q1).data.toList=p.data.toList ++ [c]:=by
 simp
theorem cX:∀ (s:Q3 Q4) (l:Q3 Q1) (p:Q1),(s.foldl II (l ++ [p])).map (·.data.toList)=l.map (·.data.toList)++C9 p.data.toList s
 | [],l,p=>by simp [C9]
 | c::r,l,p=>by
   rw [List.foldl_cons,Zod,C9]
   by_cases h:c.toNat=47
   rw [if_pos h,if_pos h,cX r (l ++ [p]) ⟨#[]⟩]
   simp
   rw [if_neg h,if_neg h,cX r l _,Zw6]
theorem Zqu (s:Q3 Q4):(G7 s).map (·.data.toList)=C9 [] s:=by
 have:=cX s [] ⟨#[]⟩
 simpa [G7] using this
theorem cY:∀ (k:Nat) (s:Q1),Lib.countB s ⟨#[47]⟩=k->(Lib.splitB ⟨#[47]⟩ 0 k s).map (·.data.toList)=C9 [] s.data.toList
 | k,s,hk=>by
   have h1:Lib.indexB s ⟨#[47]⟩=Lib.indexByte s.data.toList 47:=Lib.index_one _ _
   rcases Lib.indexB_cases s ⟨#[47]⟩ with hi | ⟨i,hi,hlt⟩
   ·rw [Lib.splitB_miss _ _ _ _ hi]
    have:=cW s.data.toList [] [] (Lib.indexByte_none (h1.symm.trans hi))
    rw [YB] at this
    rw [this]
    rfl
   ·have hc:=Lib.countB_hit s ⟨#[47]⟩ i (by decide) hi
    obtain ⟨k',rfl⟩:∃ k',k=k'+1:=⟨k-1,by omega⟩
    rw [Lib.splitB_hit _ _ _ _ i hi,YO,cY k' _ (by omega)]
    have he:(⟨#[47]⟩:Q1).size=1:=rfl
    rw [he,Lib.extract_to_end,Lib.extract_data]
    obtain ⟨h2,h3⟩:=Lib.indexByte_some (h1.symm.trans hi)
    have hil:=(Yd.1 h2).1
    have hsplit:s.data.toList=s.data.toList.take i++(47::s.data.toList.drop (i+1)):=by
     have h4:s.data.toList.drop i=47::s.data.toList.drop (i+1):=by
      rw [Yt hil]
      rw [Yc hil] at h2
      rw [D7 h2]
     rw [<- h4,YQ]
    conv=>rhs;rw [hsplit]
    rw [cW _ [] _ (fun k hk=>by
     rw [FB] at hk
     split at hk
     ·rename_i hki;exact h3 k hki hk
     ·cases hk),C9,if_pos (by decide)]
    simp
theorem lB (s:Q1) (f:Q3 Q4->Bool):(G7 s.data.toList).all (fun p=>f p.data.toList)=(Lib.splitB ⟨#[47]⟩ 0 (Lib.countB s ⟨#[47]⟩) s).all (fun p=>f p.data.toList):=by{
have h1:=CC (·.all f) (Zqu s.data.toList)
have h2:=CC (·.all f) (cY _ s rfl)
simp only [List.all_map] at h1 h2
exact h1.trans h2.symm}
theorem ZsH (p:Q1):(GM p).data.toList=Lib.trimSuffix p.data.toList [32]:=by{
have hl:p.data.toList.length=p.size:=YF
unfold GM Lib.trimSuffix Lib.hasSuffix
by_cases h:0<p.size
have hd:p.data.toList.drop (p.data.toList.length - [(32:Q4)].length) = [p[p.size-1]]:=by
 rw [hl,YC,Yt (by omega),YI (by omega)]
 rfl
have hap:=YQ (p.data.toList.length - [(32:Q4)].length) p.data.toList
rw [hd] at hap
rw [dif_pos h]
by_cases h2:(p[p.size-1]'(by omega)).toNat=32
have h3:p[p.size-1]=(32:Q4):=GG.1 h2
rw [h3] at hap
rw [if_pos h2,if_pos (List.isSuffixOf_iff_suffix.2 ⟨_,hap⟩),Lib.extract_data,hl]
simp
have h3:p[p.size-1]≠(32:Q4):=fun e=>h2 (by rw [e];rfl)
rw [if_neg h2,if_neg]
intro hs
obtain ⟨t,ht⟩:=List.isSuffixOf_iff_suffix.1 hs
rw [<- hap] at ht
have:=(List.append_inj' ht rfl).2
simp at this
exact h3 this.symm
have h0:p.data.toList = []:=Yl (by omega)
rw [dif_neg h,h0]
rfl}
theorem lF (s:Q1):GN s=match BV s.data.toList with
  | some (n,_)=>(n,Lib.index s.data.toList [58])
  | none=>(0,0):=by{
unfold GN BV Lib.cut
by_cases h:Lib.index s.data.toList [58]<0
rw [if_pos h,if_neg (show ¬ 0<=Lib.index s.data.toList [58] by omega)]
simp
rw [if_neg h,if_pos (show 0<=Lib.index s.data.toList [58] by omega)]
have he:(GM (s.extract 0 (Lib.index s.data.toList [58]).toNat)).data.toList=Lib.trimSuffix (s.data.toList.take (Lib.index s.data.toList [58]).toNat) [32]:=by
 rw [ZsH,Lib.extract_data]
 simp
rw [he]
by_cases h2:CD (AD (Lib.trimSuffix (s.data.toList.take (Lib.index s.data.toList [58]).toNat) [32]))=0
rw [if_pos h2,if_neg (by simp [h2])]
rw [if_neg h2,if_pos ⟨rfl,h2⟩]}
theorem cZ {s:Q3 Q4} {n:Int} {r:Q3 Q4} (h:BV s=some (n,r)):0<=Lib.index s [58]/\r=s.drop ((Lib.index s [58]).toNat+1)/\n=CD (AD (Lib.trimSuffix (s.take (Lib.index s [58]).toNat) [32]))/\n≠0:=by{
unfold BV Lib.cut at h
by_cases h0:0<=Lib.index s [58]
rw [if_pos h0] at h
simp only [true_and,YC] at h
split at h
rename_i h2
simp only [Yp,DJ] at h
exact ⟨h0,h.2.symm,h.1.symm,h.1 ▸ h2⟩
cases h
rw [if_neg h0] at h
simp at h}
theorem Zqv (s:Q1):decide ((GN s).1=0)=decide (BV s.data.toList=none):=by{
rw [lF]
cases h:BV s.data.toList with
| none=>rfl
| some x=>
  obtain ⟨n,r⟩:=x
  have:=(cZ h).2.2.2
  simp [this]}
theorem lG (s:Q1) (q:Nat) (hq:q<s.size) (w:World):Calls Q7 93 #[.string ⟨#[60,62,91,93,123,125,124,35,95]⟩,.string (s.extract q (q+1)),.int .i64 0] w fun e w'=>e = .returned (.int .i64 (Lib.indexByte LL s[q]))/\w=w':=by{
rw [cV s q hq]
refine (l5 _ _ w (by show 9+1<=_;omega)).mono ?_
rintro e w' ⟨rfl,rfl⟩
refine ⟨?_,rfl⟩
rw [<- Lib.index_one]
rfl}
theorem Zop (t:Title) (w:World):Calls Q7 57 #[.agg #[.int .i64 t.space,.string t.name]] w fun e w'=>e = .returned (.bool t.valid)/\Below w.heap.size w w':=by{
obtain ⟨sp,s⟩:=t
by_cases h:0<=sp/\sp<6/\1<=s.size/\s.size<=100
case neg=>
 have hv:Title.valid ⟨sp,s⟩=false:=by
  cases hV:Title.valid ⟨sp,s⟩ with
  | false=>rfl
  | true=>
    simp only [Title.valid,YH,YT] at hV
    obtain ⟨⟨⟨⟨⟨⟨⟨ha,hb⟩,hc⟩,hd⟩,hcl⟩,_⟩,_⟩,_⟩:=hV
    exact absurd ⟨ha,hb,hc,hd⟩ h
 have HV:=Lib.hid hv
 have h':sp<0\/6<=sp\/(s.size:Int)<1\/(100:Int)<s.size:=by omega
 clear h hv
 go_enter Tryz.func57,Tryz.ntmps57
 go_wp2
 all_goals
  first
  | (exfalso;omega)
  | (go_ret
     exact ⟨DT HV.out.symm,Below.al (Below.refl _ _) _⟩)
obtain ⟨h1,h2,h3,h4⟩:=h
have hs1:(1:Int)<=s.size:=by omega
have hs2:(s.size:Int)<=100:=by omega
have HSP:Hid (Title.valid ⟨sp,s⟩=(CZ (-1) s.data.toList&&((G7 s.data.toList).all (fun p=>EA p.data.toList)&&(LM (s[0]'(by omega)).toNat&&(decide (sp≠0)||decide ((GN s).1=0)))))):=Lib.hid (by
 rw [lB s EA,Zqv,<- kV s (by omega)]
 simp [Title.valid,h1,h2,h3,h4,Bool.and_assoc])
go_enter Tryz.func57,Tryz.ntmps57
go_wp2_with fail
all_goals try (exfalso;omega)
generalize hw1:w.alloc _=w1
have c0_0:w1.cell? ⟨w.heap.size,0,none⟩=some (.int .i64 sp):=by subst hw1;go_simp
have c0_1:w1.cell? ⟨w.heap.size,1,none⟩=some (.string s):=by subst hw1;go_simp
have HB:Hid (Below w.heap.size w w1):=by subst hw1;exact Below.al (Below.refl _ _) _
clear hw1
have HF:Hid (∀ W,Below w1.heap.size w1 W->W.cell? ⟨w.heap.size,0,none⟩=some (.int .i64 sp)/\W.cell? ⟨w.heap.size,1,none⟩=some (.string s)):=fun W h=>⟨re1 h (DK c0_0) c0_0,re1 h (DK c0_1) c0_1⟩
go_loopw [4] (fun i wr=>∃ q:Nat,q<=s.size/\i = .int .i64 q/\wr=w1/\Hid (CZ (-1) s.data.toList=CZ (H6 s q) (s.data.toList.drop q))) (fun i _=>s.size-(intOf i).toNat)
case atStart=>exact ⟨0,YJ _,rfl,rfl,rfl⟩
case round=>
 obtain ⟨q,hq,rfl,rfl,hC⟩:=hrel
 by_cases hlt:q<s.size
 have HD:Hid (s.data.toList.drop q=s[q]::s.data.toList.drop (q+1)):=Yt (by rw [YF];exact hlt)
 have HP':Hid (H6 s (q+1)=((s[q]'hlt).toNat:Int)):=by unfold H6;rw [dif_pos ⟨RX q,hlt⟩];rfl
 have b1:(0:Int)<=q:=by omega
 have b2:(q:Int)<(s.size:Int):=by omega
 by_cases h0:q=0
 ·subst h0
  have HP:Hid (H6 s 0 = -1):=rfl
  go_wp2_with (go_at_call 93;refine (lG s 0 hlt _).mono ?_;rintro e w' ⟨rfl,rfl⟩)
  all_goals (try simp only [D8,YL,ne_eq] at *)
  all_goals first
   | (exfalso;omega)
   | (go_ret;refine ⟨DT ?_,HB.out⟩;rw [HSP.out,hC.out,HD.out,WC (by rw [HP.out];omega)];rfl)
   | (go_roundw;(case rel=>(refine ⟨1,by omega,rfl,by trivial,?_⟩;rw [hC.out,HD.out,WD (by rw [HP.out];omega)];exact CC (fun p=>CZ p (s.data.toList.drop (0+1))) HP'.out.symm));(case measure=>(simp [intOf];omega)))
 ·have HP:Hid (H6 s q=((s[q-1]'(by omega)).toNat:Int)):=by unfold H6;rw [dif_pos ⟨by omega,by omega⟩];exact Lib.hid rfl
  have hq1:0<q:=by omega
  have b3:(1:Int)<=q:=by omega
  clear h0
  go_wp2_with (go_at_call 93;refine (lG s q hlt _).mono ?_;rintro e w' ⟨rfl,rfl⟩)
  all_goals (try simp only [D8,YL,ne_eq] at *)
  all_goals first
   | (exfalso;omega)
   | (go_ret;refine ⟨DT ?_,HB.out⟩;rw [HSP.out,hC.out,HD.out,WC (by rw [HP.out];omega)];rfl)
   | (go_roundw;(case rel=>(refine ⟨q+1,by omega,by go_num,by trivial,?_⟩;rw [hC.out,HD.out,WD (by rw [HP.out];omega)];exact CC (fun p=>CZ p (s.data.toList.drop (q+1))) HP'.out.symm));(case measure=>(simp [intOf];omega)))
 ·obtain rfl:q=s.size:=by omega
  have hz:s.data.toList.drop s.size = []:=YI (by rw [YF];exact Yn _)
  have HZ:Hid (CZ (-1) s.data.toList=true):=by rw [hC.out,hz];exact rfl
  rw [HZ.out,RW] at HSP
  clear hz hC HZ
  go_wp2_with fail
  refine (Zpc s _ (by omega)).mono ?_
  rintro e w2 ⟨v,rfl,hown,hb2⟩
  have hps:Hid (∀ p ∈ G7 s.data.toList,p.size<=100):=Lib.hid (by
   have hall:=lB s (fun l=>decide (l.length<=100))
   have h5:(Lib.splitB ⟨#[47]⟩ 0 (Lib.countB s ⟨#[47]⟩) s).all (fun p=>decide (p.data.toList.length<=100))=true:=by
    rw [Yq]
    intro p hp
    have:=WE ⟨#[47]⟩ _ s p hp
    rw [YF]
    exact Yh (YX this h4)
   rw [h5,Yq] at hall
   intro p hp
   have:=FE (hall p hp)
   rw [YF] at this
   exact this)
  generalize G7 s.data.toList=ps at *
  obtain ⟨A,c,rfl,hS,_⟩:=hown.sl
  have c1:w2.cell? ⟨w.heap.size,0,none⟩=some (.int .i64 sp):=re1 hb2 (DK c0_0) c0_0
  have HB2:=Lib.hid (Below.tr HB.out hb2)
  have HS:=Lib.hid hS
  have hle:=hS.le
  have hle2:(ps.length:Int)<=9223372036854775807:=by omega
  clear hown hb2 hS c0_0 c0_1 HF HB
  go_wp2_with fail
  go_loopw [6] (fun i wr=>∃ q:Nat,q<=ps.length/\i = .int .i64 q/\Below w2.heap.size w2 wr/\Hid (ps.all (fun p=>EA p.data.toList)=(ps.drop q).all (fun p=>EA p.data.toList))) (fun i _=>ps.length-(intOf i).toNat)
  case atStart=>exact ⟨0,by omega,rfl,Below.refl _ _,rfl⟩
  case round=>
   obtain ⟨q,hq,rfl,hbw,hA⟩:=hrel
   have HW:=Lib.hid hbw
   clear hbw
   by_cases hlt:q<ps.length
   have b1:(0:Int)<=q:=by omega
   have b2:(q:Int)<(ps.length:Int):=by omega
   obtain ⟨b,off,x,cs,hA,hbl,hx,hd,hR,hc⟩:=(HS.out.mono HW.out).elem hlt
   obtain rfl:=hA
   have d0:wr.cell? ⟨b,off+q,none⟩=some (.string x):=by subst hR;simpa using hc 0 _ rfl
   have HD:=Lib.hid hd
   have HX:=Lib.hid hx
   clear hx hd hR hc
   have hxs:=hps.out x (Yj HX.out)
   by_cases hx0:x.size=0
   ·have hx1:x.toList = []:=by rw [ByteArray.toList_eq];exact Yl (by rw [YF];exact hx0)
    have HP:Hid (EA x.data.toList=false):=Lib.hid (by rw [<- ByteArray.toList_eq,hx1];rfl)
    clear hx0
    go_wp2_with fail
    go_quiet (fail)
    go_wp2
    go_ret
    exact ⟨DT (by rw [HSP.out,hA.out,HD.out,IU,HP.out];rfl),Below.tr HB2.out (Below.dn HW.out _)⟩
   have hx1:¬ x.toList = []:=fun e=>by rw [ByteArray.toList_eq] at e;exact hx0 (by have:=CC List.length e;rw [YF] at this;exact this)
   have hx2:0<x.size:=by omega
   have hx3:(0:Int)<=(x.size:Int)-1:=by omega
   have hx4:(0:Int)<(x.size:Int):=by omega
   have hx5:(1:Int)<=(x.size:Int):=by omega
   have hx9:(x.size:Int)-1<(x.size:Int):=by omega
   have hx6:x.toList.isEmpty=false:=by rw [List.isEmpty_eq_false_iff];exact hx1
   have hx7:(x.toList == [])=false:=YL.2 hx1
   have hx8:decide (x.toList = [])=false:=Yf hx1
   have HP:=Lib.hid (kX x hx2)
   clear hx0
   by_cases hf:(x[0].toNat:Int)=32
   ·have HP2:Hid (EA x.data.toList=false):=Lib.hid (by rw [HP.out,hf];rfl)
    go_wp2_with fail
    go_quiet (fail)
    go_wp2
    go_ret
    exact ⟨DT (by rw [HSP.out,hA.out,HD.out,IU,HP2.out];rfl),Below.tr HB2.out (Below.dn HW.out _)⟩
   by_cases hl:((x[x.size-1]'(by omega)).toNat:Int)=32
   ·have HP2:Hid (EA x.data.toList=false):=Lib.hid (by rw [HP.out,hl];simp)
    have hf:((x[0].toNat:Int) == 32)=false:=YL.2 hf
    go_wp2_with fail
    go_quiet (fail)
    go_wp2
    go_ret
    exact ⟨DT (by rw [HSP.out,hA.out,HD.out,IU,HP2.out];rfl),Below.tr HB2.out (Below.dn HW.out _)⟩
   ·have HP2:Hid (EA x.data.toList=true):=Lib.hid (by rw [HP.out,YL.2 hf,YL.2 hl];rfl)
    have hf:((x[0].toNat:Int) == 32)=false:=YL.2 hf
    have hl:(((x[x.size-1]'(by omega)).toNat:Int) == 32)=false:=YL.2 hl
    go_wp2_with fail
    go_quiet (fail)
    go_wp2
    go_roundw
    case rel=>exact ⟨q+1,by omega,by go_num,Below.dn HW.out _,Lib.hid (by rw [hA.out,HD.out,IU,HP2.out];rfl)⟩
    case measure=>simp [intOf];omega
   ·obtain rfl:q=ps.length:=by omega
    have hz:ps.all (fun p=>EA p.data.toList)=true:=by
     rw [hA.out,YI (Yn _)];rfl
    rw [hz,RW] at HSP
    have c2:wr.cell? ⟨w.heap.size,0,none⟩=some (.int .i64 sp):=re1 HW.out (DK c1) c1
    clear hz hA c1 hps
    have hs0:(0:Int)<s.size:=by omega
    go_wp2_with (go_at_call 92;refine (l7 s _ (by omega)).mono ?_;rintro e w5 ⟨rfl,hb5⟩;have c3:=re1 hb5 (DK c2) c2)
    all_goals
     go_ret
     refine ⟨DT ?_,?_⟩
     ·rw [HSP.out]
      simp only [D8,YL,ne_eq] at *
      first
       | (rw [cO (by omega)];rfl)
       | (rw [cP (by omega) (by omega)];rfl)
       | (rw [WF (by omega) (by omega)];simp_all;done)
       | (rw [WF (by omega) (by omega)];simp_all;rfl)
     first | exact Below.tr (Below.tr HB2.out HW.out) (by assumption) | exact Below.tr HB2.out HW.out}
end
section
open VL Go.RowKit
def d8 (t:Title):Q2 Bool:=some t.valid
theorem Zsi (t:Title) (r:Bool) (h:d8 t=some r):Zg Q7 57 [t.pv] (.bool r):=by
 cases h
 exact H3 (vals:=[.agg #[.int .i64 t.space,.string t.name]]) (by kernel_rfl) rfl rfl (fun x=>.bool _) fun w _=>Zop t w
def d9 (t:Title):Q2 Bool:=some t.valid
theorem ZnT (t:Title) (r:Bool) (h:d9 t=some r):Zg Q7 157 [t.pv] (.bool r):=by
 cases h
 exact H3 (vals:=[.agg #[.int .i64 t.space,.string t.name]]) (by kernel_rfl) rfl rfl (fun x=>.bool _) fun w hw=>zX t w hw.1
def dA (a b:Title):Q2 Int:=some (Title.cmp a b)
theorem lH (a b:Title) (r:Int) (h:dA a b=some r):Zg Q7 147 [a.pv,b.pv] (.int .i64 r):=by
 cases h
 exact H3 (vals:=[.agg #[.int .i64 a.space,.string a.name],.agg #[.int .i64 b.space,.string b.name]]) (by kernel_rfl) rfl rfl (fun x=>.int _ _) fun w _=>zN a b w
def strings_Index (s c:Q1):Q2 Int:=if s.size<4294967281 then some (Lib.index s.data.toList c.data.toList) else none
theorem dB (s c:Q1) (r:Int) (h:strings_Index s c=some r):Zg Q7 58 [.str s,.str c] (.int .i64 r):=by{
unfold strings_Index at h
split at h
rename_i hc
cases h
exact H3 (vals:=[.string s,.string c]) (by kernel_rfl) rfl rfl (fun x=>.int _ _) fun w hw=>by
 obtain ⟨m,hm⟩:=hw.1
 exact (Tryz.strings_Index s c m w hc hm).mono fun e w' ⟨e1,e2⟩=>⟨e1,e2 ▸ Below.refl _ _⟩
cases h}
def strings_Contains (s c:Q1):Q2 Bool:=if s.size<4294967281 then some (Lib.contains s.data.toList c.data.toList) else none
theorem WH (s c:Q1) (r:Bool) (h:strings_Contains s c=some r):Zg Q7 24 [.str s,.str c] (.bool r):=by{
unfold strings_Contains at h
split at h
rename_i hc
cases h
exact H3 (vals:=[.string s,.string c]) (by kernel_rfl) rfl rfl (fun x=>.bool _) fun w hw=>by
 obtain ⟨m,hm⟩:=hw.1
 exact (Tryz.strings_Contains s c m w hc hm).mono fun e w' ⟨e1,e2⟩=>⟨e1,e2 ▸ Below.refl _ _⟩
cases h}
def strings_Cut (s c:Q1):Q2 (Q1×Q1×Bool):=if s.size<4294967281 then some (⟨(Lib.cut s.data.toList c.data.toList).1.toArray⟩,⟨(Lib.cut s.data.toList c.data.toList).2.1.toArray⟩,(Lib.cut s.data.toList c.data.toList).2.2) else none
theorem ZAE {x:Ctx} (a b:Q1) (c:Bool):Rep x (.tup [.str a,.str b,.bool c]) (.tuple #[.string a,.string b,.bool c]):=.tup _ _ rfl fun i p v hp hv=>by
 match i,hp,hv with
 | 0,hp,hv=>injection hp with hp;injection hv with hv;subst hp hv;exact .str _
 | 1,hp,hv=>injection hp with hp;injection hv with hv;subst hp hv;exact .str _
 | 2,hp,hv=>injection hp with hp;injection hv with hv;subst hp hv;exact .bool _
 | i+3,hp,_=>simp at hp
theorem lK (s c:Q1) (r:Q1×Q1×Bool) (h:strings_Cut s c=some r):Zg Q7 88 [.str s,.str c] (.tup [.str r.1,.str r.2.1,.bool r.2.2]):=by{
unfold strings_Cut at h
split at h
rename_i hc
cases h
exact H3 (vals:=[.string s,.string c]) (by kernel_rfl) rfl rfl (fun x=>ZAE _ _ _) fun w hw=>by
 obtain ⟨m,hm⟩:=hw.1
 refine (Tryz.strings_Cut s c m w hc hm).mono ?_
 rintro e w' ⟨rfl,n,rfl⟩
 exact ⟨rfl,Below.dn (Below.refl _ _) n⟩
cases h}
def strings_Split (s c:Q1):Q2 (Q3 Q1):=if (s.size<4294967281/\1<=c.size)/\Lib.countB s c<=1000000 then some (Lib.splitB c 0 (Lib.countB s c) s) else none
theorem ZlD (s c:Q1) (r:Q3 Q1) (h:strings_Split s c=some r):ContractN Q7 197 [.str s,.str c] (.row 9 1 false (List.map csS r)):=by{
unfold strings_Split at h
split at h
rename_i hc
injection h with h
have hlen:r.length=Lib.countB s c+1:=by rw [<- h];exact Lib.splitB_all c hc.1.2 0 _ s rfl
refine zK (α:=Q1) (vals:=[.string s,.string c]) (enc:=fun x=>[.string x]) (by kernel_rfl) rfl (fun x=>rfl) (fun S w x cs h=>h) (fun x=>rfl) fun w hw=>?_
obtain ⟨m,hm⟩:=hw.1
refine (Tryz.strings_Split s c m w hc.1.1 hm hc.1.2).mono ?_
rintro e w' ⟨rfl,rfl⟩
rw [h,<- hlen]
refine ⟨_,rfl,OwnL.of_row ⟨by simp,.inr ⟨w.heap.size,r.length,_,rfl,Yn _,heap_alloc_new w _,Yn _,?_,by simp,?_⟩⟩,Below.al (Below.refl _ _) _⟩
unfold maxLen;omega
rw [Nat.mul_one,GW (by simp)]
cases h}
def strings_Join (L:Q3 Q1) (s:Q1):Q2 Q1:=if (0<L.length/\L.length<=140737488355328)/\(Lib.join (L.map (·.data.toList)) s.data.toList).length<=140737488355328 then some ⟨(Lib.join (L.map (·.data.toList)) s.data.toList).toArray⟩ else none
theorem Zmo (L:Q3 Q1) (s:Q1) (r:Q1) (h:strings_Join L s=some r):Zg Q7 199 [.sl (List.map csS L),.str s] (.str r):=by{
unfold strings_Join at h
split at h
rename_i hc
cases h
refine bN (by kernel_rfl) rfl (fun x=>.str _) fun x vs hp _=>?_
obtain ⟨v,w,rfl,h1,h2⟩:=args2 hp
obtain rfl:=zL h2
obtain ⟨A,n,c,rfl,hS⟩:=wZ hp.flt h1
obtain ⟨q1,q2,q3,q4⟩:=hS
let ⟨b,off,css,hA,_,hlt,hx⟩:=q4 (by omega)
subst hA
subst q1
refine Tryz.strings_Join b off c L s x.W (fun j y hy=>?_) hlt hc.1.2 q2 hc.2
let ⟨p1,p2⟩:=hx j y hy
have e1:css j = [.string y]:=p1
have:=p2 0 (.string y) (by rw [e1];rfl)
rw [show off+j=off+j * Enc.k Q1+0 by show off+j=off+j * 1+0;omega]
exact this
cases h}
def strings_Repeat (s:Q1) (c:Int):Q2 Q1:=if 0<=c/\c<=9223372036854775807/\s.size * c.toNat<=140737488355328 then some ⟨(Lib.repeatL s.data.toList c.toNat).toArray⟩ else none
theorem dC (s:Q1) (c:Int) (r:Q1) (h:strings_Repeat s c=some r):Zg Q7 113 [.str s,.int .i64 c] (.str r):=by{
unfold strings_Repeat at h
split at h
rename_i hc
cases h
obtain ⟨n,rfl⟩:∃ n:Nat,c=n:=⟨c.toNat,by omega⟩
exact H3 (vals:=[.string s,.int .i64 n]) (by kernel_rfl) rfl rfl (fun x=>.str _) fun w hw=>Tryz.strings_Repeat s n w (by omega) (by simpa using hc.2.2)
cases h}
def T0 (s:Q1):Q2 (Int×Q1×Bool):=if s.size<4294967281 then (match BV s.data.toList with | some q=>some (q.1,⟨q.2.toArray⟩,true) | none=>some (0,⟨#[]⟩,false)) else none
theorem ZAF {x:Ctx} (a:Int) (b:Q1) (c:Bool):Rep x (.tup [.int .i64 a,.str b,.bool c]) (.tuple #[.int .i64 a,.string b,.bool c]):=.tup _ _ rfl fun i p v hp hv=>by
 match i,hp,hv with
 | 0,hp,hv=>injection hp with hp;injection hv with hv;subst hp hv;exact .int _ _
 | 1,hp,hv=>injection hp with hp;injection hv with hv;subst hp hv;exact .str _
 | 2,hp,hv=>injection hp with hp;injection hv with hv;subst hp hv;exact .bool _
 | i+3,hp,_=>simp at hp
theorem Zmp (s:Q1) (r:Int×Q1×Bool) (h:T0 s=some r):Zg Q7 155 [.str s] (.tup [.int .i64 r.1,.str r.2.1,.bool r.2.2]):=by{
unfold T0 at h
split at h
rename_i hc
have hv:PD s.data.toList = .tuple #[.int .i64 r.1,.string r.2.1,.bool r.2.2]:=by
 unfold PD
 cases hp:BV s.data.toList with
 | none=>rw [hp] at h;injection h with h;subst h;rfl
 | some q=>rw [hp] at h;injection h with h;subst h;rfl
exact H3 (vals:=[.string s]) (by kernel_rfl) rfl rfl (fun x=>ZAF _ _ _) fun w hw=>by
 rw [<- hv]
 exact cN s w hc hw.1
cases h}
def T1 (s o n:Q1):Q2 Q1:=if (s.size<4294967281/\1<=o.size)/\s.size+Lib.countB s o * n.size<=140737488355328 then some ⟨(Lib.replaceAll s.data.toList o.data.toList n.data.toList).toArray⟩ else none
theorem ZgW (s o n r:Q1) (h:T1 s o n=some r):Zg Q7 153 [.str s,.str o,.str n] (.str r):=by{
unfold T1 at h
split at h
rename_i hc
cases h
exact H3 (vals:=[.string s,.string o,.string n]) (by kernel_rfl) rfl rfl (fun x=>.str _) fun w hw=>by
 obtain ⟨m,hm⟩:=hw.1
 exact (Tryz.strings_ReplaceAll s o n m w hc.1.1 hm hc.1.2 hc.2).mono fun e w' h=>h
cases h}
end
namespace VL
section
variable {P:Program} [WInv P] {α β:Type} {cs:Q3 Code} {Q:Ex->FS->Prop} {s:FS} {tm:Q3 (Nat×PV)} {ob:Q3 (Nat×Q2 (Gen×VObj))} {ng:Nat}
theorem rg {draw:Bool} {id:Nat} {l:Q3 Oper} {q:Prop} (k:q) (h:q->GoL P l.toArray draw 0 l [] s fun s'=>PWs P cs Q ⟨s'.tm,s'.ob,s'.ng+1⟩:=by
 (intro k)
 (refine Zi ?_)
 (exact k)):PWs P (.region id l.toArray draw::cs) Q s:=Zc (h k)
theorem bl {id:Nat} {c:Code} {q:Prop} (k:q) (h:q->PWs P [c] (OQ id (PWs P cs Q) Q) s:=by
 (intro k)
 (refine Zi ?_)
 (exact k)):PWs P (.block id c::cs) Q s:=iI (h k)
theorem cS {A B:Q2 β} {r:β} {c:Operand} {x y:Code} {t:Bool} {q1 q2:Prop} (hF:(if t=true then A else B)=some r) (hc:evL tm c = .bool t) (k1:A=some r->q1) (k2:B=some r->q2)
  (h1:q1->PWs P (x::cs) Q (mkS tm ob ng):=by
 (intro k)
 (refine Zi ?_)
 (exact k)) (h2:q2->PWs P (y::cs) Q (mkS tm ob ng):=by
 (intro k)
 (refine Zi ?_)
 (exact k)):PWs P (.cond c x y::cs) Q (mkS tm ob ng):=
 w9 hc (fun h=>h1 (k1 (ifT h hF))) fun h=>h2 (k2 (ifF h hF))
theorem kS (t:Nat) {A B:Q2 β} {r:β} {ops:Array Oper} {draw:Bool} {i:Nat} {L:Q3 Oper} {acc:Q3 (Q3 Nat×Q3 Nat)} {K:FS->Prop} {b:Bool} {q1 q2:Prop} (hF:(if b=true then A else B)=some r) (hx:look tm t = .bool b) (k1:A=some r->q1) (k2:B=some r->q2)
  (h1:q1->GoL P ops draw i L acc (mkS ((t,.bool true)::tm) ob ng) K:=by
 (intro k)
 (refine Zi ?_)
 (exact k)) (h2:q2->GoL P ops draw i L acc (mkS ((t,.bool false)::tm) ob ng) K:=by
 (intro k)
 (refine Zi ?_)
 (exact k)):GoL P ops draw i L acc (mkS tm ob ng) K:=
 xO t hx (fun h=>h1 (k1 (ifT h hF))) fun h=>h2 (k2 (ifF h hF))
theorem cF {F:Q2 β} (R:β->PV) {f:FuncId} {fn:Func} {c:Code} {args:Q3 PV} {r:β} (hF:F=some r) (hmix:P.follows .mixedOrders=true) (hf:P.funcs[f]? = some fn)
  (h:∀ r,F=some r->PWs P [c] (MX P fn.results.toList (R r)) (mkS (C4 0 args) [] 1)) (hg:isGo P f=true:=by kernel_rfl) (hb:fn.body=some c:=by exact rfl) (hok:(decide (args.length<=fn.ntmps)&&B6 fn.ntmps c)=true:=by kernel_rfl):Zg P f args (R r):=
 xX hF hmix hf hg hb hok h
omit [WInv P] in
theorem rQ {res:PV} {rs:Q3 ResultVar} {ps qs:Q3 PV} {us:Q3 (Nat×Q2 (Gen×VObj))} (h1:BC P s rs=some ps:=by exact rfl) (h2:AW s.ob ps=some (qs,us):=by exact rfl) (h3:BD qs=res:=by exact rfl):MX P rs res .ret s:=FI h1 h2 h3
def sg (σ:Q3 (Nat×Nat×Nat)):Q3 (Gen×Gen):=σ.map fun q=>((1,q.1),q.2)
theorem sR (σ:Q3 (Nat×Nat×Nat)) {tm':Q3 (Nat×PV)} {ob':Q3 (Nat×Q2 (Gen×VObj))} {ng':Nat} (h1:SQ (sg σ) tm tm':=by
 (repeat (refine ⟨rfl,?_⟩))
 (exact trivial)) (h2:N3 (sg σ) ob ob':=by
 (repeat (refine ⟨⟨rfl,rfl⟩,?_⟩))
 (exact trivial)) (h3:(decide (0<ng')&&(sg σ).all fun q=>decide (q.1.1<ng'))=true:=by exact rfl):Shift (mkS tm ob ng) (mkS tm' ob' ng'):=
 OU (sg σ) h1 h2 h3
theorem jn {St:α->Nat->FS} {J:α->Prop} (a:α) (h1:J a) (h3:Shift s (St a 2)):SO St J Q .normal s:=LG a 2 h1 h3
theorem rn {St:α->Nat->FS} {J:α->Prop} {m:α->Nat} {a:α} (a':α) (h1:J a') (h3:Shift s (St a' 2)) (h2:m a'<m a:=by exact EI _):SH St J m a Q .normal s:=C7 a' 2 h1 h2 h3
theorem jL {K:α->Q2 β} {f:(α->Q2 β)->Q2 β} {r:β} {c c2:Code} {q1:(α->Q2 β)->Prop} {q2:α->Prop} (hF:letk K f=some r) (St:α->FS) (h1:∀ k,f k=some r->q1 k) (h2:∀ x,K x=some r->q2 x)
  (g1:∀ k:α->Q2 β,q1 k->PWs P [c] (SO (fun a _=>St a) (fun x=>k x=some r) Q) s:=by
 (intro k h)
 (refine Zi ?_)
 (exact h)) (g2:∀ x,q2 x->PWs P (c2::cs) Q (St x):=by
 (intro x h)
 (try dsimp only)
 (refine Zi ?_)
 (exact h)):PWs P (c::c2::cs) Q s:=
 DA (fun a _=>St a) (fun x=>K x=some r) (g1 K (h1 K hF)) fun a _ hJ=>g2 a (h2 a hJ)
end
open Go.RowKit
def PV.dryF:PV->Bool | .fn _ ps=>ps.isEmpty | p=>p.dry1
theorem Rep.dryF {x y:Ctx} {p:PV} {v:Value} (h:Rep x p v) (hp:p.dryF=true):Rep y p v:=by{
cases h with
| fn f ps cs hl hh=>
  have:ps = []:=List.isEmpty_iff.1 hp
  subst this
  exact .fn f [] cs hl fun i p v hq=>by simp at hq
| bool b=>exact .bool b
| int k n=>exact .int k n
| str s=>exact .str s
| _=>simp [PV.dryF,PV.dry1] at hp}
def Dr (x:Ctx) (b:Nat):Prop:=blk (x.ρ (0,0))=some b
structure PreR (x:Ctx) (args:List PV) (E k:Nat) (els:List (List PV)) (vs:Array Value):Prop where
 size:args.length+1=vs.size
 rep:∀ (i:Nat) (p:PV) (v:Value),(PV.row 0 (0,0)::args)[i]? = some p->vs[i]? = some v->Rep x p v
 ob:x.G (0,0)/\ObRep x x.W.heap.size (Dr x) (0,0) (.row E k false els)
 gen:∀ g,x.G g->g.1=0
 flt:∀ b o,x.F b o->b<x.W.heap.size
structure PostR (x y:Ctx) (E k:Nat) (r:PV) (els':List (List PV)) (v:Value):Prop where
 step:Step x y
 gr:Gr (Dr x) x.W y.W
 fnew:∀ b o,y.F b o->x.F b o\/x.W.heap.size<=b\/Dr x b
 flt:∀ b o,y.F b o->b<y.W.heap.size
 rep:Rep y r v
 ob:ObRep y x.W.heap.size (Dr x) (0,0) (.row E k false els')
structure ContractR (P:Program) [WInv P] (f:FuncId) (args:List PV) (E k:Nat) (els:List (List PV)) (r:PV) (els':List (List PV)):Prop where
 isGo:VL.isGo P f=true
 calls:∀ (x:Ctx) (vs:Array Value),PreR x args E k els vs->(∀ W',Gr (Dr x) x.W W'->WInv.I P W')->Calls P f vs x.W fun e W'=>∃ y v,y.W=W'/\e = .returned v/\PostR x y E k r els' v
section
variable {P:Program} [WInv P] {r:Run} {ops:Array Oper} {o:Oper} {i:Nat} {s s':FS}
theorem Zwz {f:FuncId} {es:Array Operand} {ts:Array TypeId} {post:Q3 PV} {t:Nat} {g:Gen} {E k:Nat} {els els':Q3 (Q3 PV)} {res res':PV} (ho:o.op = .call { callee:=.value (.func f),args:=es,argTypes:=ts })
  (he:es.toList.map (ev s) = .row t g::post) (hob:s.ob t=some (g,.row E k false els)) (hp:post.all PV.dryF=true) (hc:ContractR P f post E k els res els') (hres:res.dry=true/\res'=res\/res = .row 0 (0,0)/\res' = .row t g) (hI:r.I=WInv.I P):OpOK P r o i s ⟨res',[(t,some (g,.row E k false els'))]⟩:=by{
intro S a x Q hX hi hd
have hrep:∀ (j:Nat) (p:PV),(PV.row t g::post)[j]? = some p->Rep x p ((es.map a.eval).getD j undef):=fun j p hp=>by
 rw [<- he,Yw] at hp
 cases he:es.toList[j]? with
 | none=>rw [he] at hp;simp at hp
 | some e=>
   rw [he] at hp
   simp only [Yo,Yp] at hp
   subst hp
   have hea:es[j]? = some e:=by simpa using he
   have:(es.map a.eval).getD j undef=a.eval e:=by simp [hea]
   rw [this]
   exact AE hX e
obtain ⟨hG,hO⟩:=hX.ob t g _ hob
have hlt:=fun b hb=>hO.lt b hb
obtain ⟨q1,q2,vs2,q3,q4,q5⟩:=hO
let z:Ctx:=⟨fun g'=>g'=(0,0),x.F,x.W,fun _=>x.ρ g⟩
have hpre:PreR z post E k els (es.map a.eval):=by
 refine ⟨?_,fun j p v hj hv=>?_,⟨rfl,q1,q2,vs2,q3,fun m p v hm hv=>?_,fun b hb=>⟨.inr hb,(q5 b hb).2⟩⟩,fun g' e=>?_,hX.flt⟩
 have:=CC List.length he
 simp at this
 simp [this]
 cases j with
 | zero=>
   simp only [GD,Yp] at hj
   subst hj
   have:=hrep 0 (.row t g) rfl
   rw [Ym,hv] at this
   simp only [DZ] at this
   cases this with
   | row _ _ A n c _ hvv=>exact .row _ _ A n c rfl hvv
 | succ j=>
   have hj':post[j]? = some p:=by simpa using hj
   have:=hrep (j+1) p hj
   rw [Ym,hv] at this
   exact Rep.dryF this (Yq.1 hp p (Yj hj'))
 obtain ⟨e,he,hpe⟩:=FD.1 (Yj hm)
 exact (q4 m p v hm hv).pure_mono (q2 e he p hpe) (fun _ _ h=>h) (fun _ _ _ _ h=>h)
 rw [show g'=(0,0) from e]
have hbig:r.W0.heap.size<=x.W.heap.size:=hX.gr.size
have hcalls:=hc.calls z _ hpre fun W' hW=>by
 rw [<- hI]
 exact hX.inv.1 W' (hX.gr.trans' hW.os hW.tape hW.output hW.size fun b hb hD=>hW.block b (YU hb hbig) fun e=>by
  rcases (hlt b e).2 with h | h
  omega
  exact hD h)
unfold Oper.wp
rw [MS ho hc.isGo,Oper.upon_enter]
refine hcalls.mono ?_
rintro e' W' ⟨y,v,rfl,rfl,hpost⟩
obtain ⟨w1,w2,vs3,w3,w4,w5⟩:=hpost.ob
have hρ:y.ρ (0,0)=x.ρ g:=(hpost.step.G (0,0) rfl).2
rw [hρ] at w3 w5
let y':Ctx:=⟨x.G,y.F,y.W,x.ρ⟩
have k2:Step x y':=⟨fun _ h=>⟨h,rfl⟩,fun b o h=>hpost.step.F b o h,fun b o w hF hw=>hpost.step.W b o w hF hw⟩
refine ⟨y',rfl,hX.change k2 hd hpost.gr.os hpost.gr.tape hpost.gr.output hpost.gr.size (fun b hb hne=>hpost.gr.block b hb fun e=>hne g _ hob e) (fun b o h=>?_) hpost.flt
 (fun g' hg'=>(hX.gens g' hg').imp id fun ⟨e1,e2⟩=>⟨e1,.inl e2⟩) hG ⟨w1,w2,vs3,w3,fun m p v hm hv=>?_,fun b hb=>⟨(hlt b hb).2,(w5 b hb).2⟩⟩ (fun b hb=>.inr ⟨g,_,hob,hb⟩) ?_⟩
rcases hpost.fnew b o h with h1 | h1 | h1
exact .inl h1
exact .inr h1
have:=((w5 b h1).2 o h).1
cases this
obtain ⟨e,he,hpe⟩:=FD.1 (Yj hm)
exact (w4 m p v hm hv).pure_mono (w2 e he p hpe) (fun _ _ h=>h) (fun _ _ _ _ h=>h)
have hr:=hpost.rep
rcases hres with ⟨h1,rfl⟩ | ⟨rfl,rfl⟩
exact hr.dry h1
cases hr with
| row _ _ A n c _ hvv=>exact .row _ _ A n c hG (hρ.symm.trans hvv)}
theorem Zui {f:FuncId} {es:Array Operand} {ts:Array TypeId} {post:Q3 PV} {t:Nat} {g:Gen} {E k:Nat} {els els':Q3 (Q3 PV)} {res res':PV} (hw:Zh ops s o=some true) (ho:o.op = .call { callee:=.value (.func f),args:=es,argTypes:=ts })
  (he:es.toList.map (ev s) = .row t g::post) (hob:s.ob t=some (g,.row E k false els)) (hp:post.all PV.dryF=true) (hc:ContractR P f post E k els res els') (hres:res.dry=true/\res'=res\/res = .row 0 (0,0)/\res' = .row t g):OpR P ops i o s ⟨res',[(t,some (g,.row E k false els'))]⟩:=.any hw fun s' r hA hI=>by
 obtain ⟨e1,e2,_⟩:=OV ho hA
 refine Zwz ho (by rw [e1,he]) ?_ hp hc hres hI
 rw [<- e2 (.row t g) (by rw [he];simp) t (by simp [IB,CP,C0,AC])]
 exact hob
end
section
variable {P:Program} [WInv P] {ops:Array Oper} {draw:Bool} {i:Nat} {L:Q3 Oper} {acc:Q3 (Q3 Nat×Q3 Nat)} {K:FS->Prop} {tm:Q3 (Nat×PV)} {ob:Q3 (Nat×Q2 (Gen×VObj))} {ng:Nat}
 {d:Q2 Tmp} {ty:TypeId} {pos:String} {after:Array Edge} {gd:Q2 (Nat×Bool)}
theorem GO {f:FuncId} {es:Array Operand} {ts:Array TypeId} {post:Q3 PV} {t:Nat} {g:Gen} {E k:Nat} {els els':Q3 (Q3 PV)} {res:PV} (hc:ContractR P f post E k els res els') (hw:Zh ops (mkS tm ob ng) ⟨d,.call ⟨.value (.func f),es,ts⟩,ty,pos,after,gd⟩=some true)
  (he:es.toList.map (evL tm) = .row t g::post) (hob:Zn ob t=some (g,.row E k false els)) (hp:post.all PV.dryF=true) (hd:res.dry=true)
  (kk:GoL P ops draw (i+1) L (acc ++ [(ZE (mkS tm ob ng) ⟨d,.call ⟨.value (.func f),es,ts⟩,ty,pos,after,gd⟩,[t])]) (mkS (A6 d res tm) ((t,some (g,.row E k false els'))::ob) ng) K) :
  GoL P ops draw i (⟨d,.call ⟨.value (.func f),es,ts⟩,ty,pos,after,gd⟩::L) acc (mkS tm ob ng) K:=by
 refine CH (Zui hw rfl (by rw [AB];exact he) hob hp hc (.inl ⟨hd,rfl⟩)) ?_
 rw [CG]
 exact kk
end
def N8 (args:Q3 PV) (E k:Nat) (els:Q3 (Q3 PV)):FS:=⟨fun t=>(PV.row 0 (0,0)::args).getD t (.tup []),Zn [(0,some ((0,0),.row E k false els))],1⟩
theorem PE {args:Q3 PV} {E k:Nat} {els:Q3 (Q3 PV)} {t:Nat} {g:Gen} {o:VObj} (h:(N8 args E k els).ob t=some (g,o)):t=0/\g=(0,0)/\o = .row E k false els:=by{
change (if t=0 then some ((0,0),VObj.row E k false els) else none)=some (g,o) at h
split at h
rename_i e
injection h with h
injection h with e1 e2
exact ⟨e,e1.symm,e2.symm⟩
cases h}
def WI (P:Program) (rs:Q3 ResultVar) (res:PV) (E k:Nat) (els':Q3 (Q3 PV)):Ex->FS->Prop | .exit _,_=>False | _,s=>∃ ps,BC P s rs=some ps/\BD ps=res/\s.ob 0=some ((0,0),.row E k false els')
theorem lN {P:Program} {s:FS} {rs:Q3 ResultVar} {res:PV} {E k:Nat} {els':Q3 (Q3 PV)} {ps:Q3 PV} (h1:BC P s rs=some ps) (h2:BD ps=res) (h3:s.ob 0=some ((0,0),.row E k false els')):WI P rs res E k els' .ret s:=⟨ps,h1,h2,h3⟩
theorem N9 {P:Program} {s:FS} {rs:Q3 ResultVar} {res:PV} {E k:Nat} {els':Q3 (Q3 PV)} {ps:Q3 PV} (h1:BC P s rs=some ps) (h2:BD ps=res) (h3:s.ob 0=some ((0,0),.row E k false els')):WI P rs res E k els' .normal s:=⟨ps,h1,h2,h3⟩
section
variable {P:Program} [WInv P]
theorem lO (hmix:P.follows .mixedOrders=true) {f:FuncId} {fn:Func} {c:Code} {args:Q3 PV} {E k:Nat} {els els':Q3 (Q3 PV)} {e:Ex} {s1:FS} {ps:Q3 PV} {res:PV}
  (hg:isGo P f=true) (hf:P.funcs[f]? = some fn) (hb:fn.body=some c) (hn:args.length+1<=fn.ntmps) (hok:B6 fn.ntmps c=true) (hrun:RunC P c (N8 args E k els) e s1) (he:e = .normal\/e = .ret)
  (hres:BC P s1 fn.results.toList=some ps) (hps:BD ps=res) (hob:s1.ob 0=some ((0,0),.row E k false els')):ContractR P f args E k els res els':=by{
subst hps
refine ⟨hg,fun x vs hpre hinv=>?_⟩
let r:Run:=⟨x.W,Dr x,(vs++Array.replicate (fn.ntmps-vs.size) undef).size,x.F,x.G,x.ρ,WInv.I P⟩
have hNr:r.N=fn.ntmps:=by
 have:=hpre.size
 simp [r]
 omega
have hX:RstX r (fun _=>False) (N8 args E k els) { tmps:=vs++Array.replicate (fn.ntmps-vs.size) undef,defers:=[] } x:=by
 refine ⟨rfl,rfl,Gr.refl _ _,fun g hg=>?_,fun t=>?_,fun t g o ho=>?_,fun t t' g g' o o' b hne h1 h2 hb1 hb2=>?_,hpre.flt,fun _ _ h=>h,fun _ _ h=>.inl h,fun _ h=>⟨h,rfl⟩,⟨hinv,hpre.gen⟩,fun _ _ _ _ h=>h⟩
 rw [hpre.gen g hg]
 exact .inl RV
 show Rep x ((PV.row 0 (0,0)::args).getD t (.tup [])) _
 rw [Ym,MJ,I1]
 by_cases ht:t<vs.size
 have hl:t<(PV.row 0 (0,0)::args).length:=by
  rw [Yr,hpre.size]
  exact ht
 rw [if_pos ht,Yc hl,Yu ht]
 exact hpre.rep t _ _ (Yc hl) (Yu ht)
 rw [if_neg ht,YZ (by rw [Yr,hpre.size];omega)]
 have:(Array.replicate (fn.ntmps-vs.size) undef)[t-vs.size]?.getD undef=undef:=by
  rw [OA]
  split<;>rfl
 rw [this]
 exact .tup [] #[] rfl (fun i p v hp=>by simp at hp)
 obtain ⟨rfl,rfl,rfl⟩:=PE ho
 exact hpre.ob
 exact absurd ((PE h1).1.trans (PE h2).1.symm) hne
refine calls_of_wp hf hb ?_
refine (OO hmix hrun).1 r _ x _ ⟨rfl,by rw [hNr];exact hok⟩ hX fun a' y hY=>?_
obtain ⟨ws,h1,h2,h3⟩:=MV hY fn.results.toList hres
have hstep:Step x y:=⟨fun g hg=>hY.rho g hg,fun b o hb=>hY.f0 b o hb,fun b o v hb hv=>hY.keep b o v hb hv⟩
have hend:(results fn a'.tmps).run P y.W = .ok (if ws.length=1 then ws.getD 0 undef else .tuple ws.toArray) y.W:=by
 have:(fn.results.mapM (FH a')).run P y.W = .ok ws.toArray y.W:=by
  rw [ME,KW,Sem.run_bind,h1]
  rfl
 have e:results fn a'.tmps=(fn.results.mapM (FH a') >>= fun vs=>pure (if h:vs.size=1 then vs[0] else .tuple vs)):=by
  unfold results
  congr 1
 rw [e,Sem.run_bind,this]
 simp only [Result.andThen_ok,Sem.run_pure]
 congr 1
 by_cases hl:ws.length=1
 simp [hl]
 simp [hl]
have hfin:∃ v,(results fn a'.tmps).run P y.W = .ok v y.W/\(fun e W'=>∃ y v,y.W=W'/\e=Ending.returned v/\PostR x y E k (BD ps) els' v) (Ending.returned v) y.W:=by
 refine ⟨_,hend,y,_,rfl,rfl,hstep,hY.gr,hY.fnew,hY.flt,?_,(hY.ob 0 _ _ hob).2⟩
 have hlq:ps.length=ws.length:=h2.symm
 unfold BD
 split
 rename_i p
 rw [if_pos (by simpa using hlq.symm)]
 exact h3 0 p rfl
 rename_i hne
 have hn1:¬ ws.length=1:=fun h=>by
  rw [h] at hlq
  match ps,hlq with
  | [q],_=>exact hne q rfl
 rw [if_neg hn1]
 refine .tup ps ws.toArray (by simpa using hlq) fun j q v hq hv=>?_
 have:=h3 j q hq
 have hv':ws[j]? = some v:=by simpa using hv
 rw [I1,hv'] at this
 exact this
rcases he with rfl | rfl
exact ⟨hY.defers,hfin⟩
exact ⟨hY.defers,hfin⟩}
theorem ZnR (hmix:P.follows .mixedOrders=true) {f:FuncId} {fn:Func} {c:Code} {args:Q3 PV} {E k:Nat} {els els':Q3 (Q3 PV)} {res:PV} (hf:P.funcs[f]? = some fn) (hg:isGo P f=true) (hb:fn.body=some c) (hok:(decide (args.length+1<=fn.ntmps)&&B6 fn.ntmps c)=true)
  (h:PWs P [c] (WI P fn.results.toList res E k els') (mkS (C4 0 (.row 0 (0,0)::args)) [(0,some ((0,0),.row E k false els))] 1)):ContractR P f args E k els res els':=by{
simp only [YH,YT] at hok
obtain ⟨e,s',h1,h2⟩:=IC h
have hsh:Shift (N8 args E k els) (mkS (C4 0 (.row 0 (0,0)::args)) [(0,some ((0,0),.row E k false els))] 1):=MW (fun t=>by
 rcases LC (PV.row 0 (0,0)::args) 0 t with h | ⟨_,h⟩
 exact .inl h
 exact .inr h) (fun t=>.inr rfl) (Yn _)
cases e with
| exit id=>exact h2.elim
| normal=>
  obtain ⟨ps,q1,q2,q3⟩:=h2
  exact lO hmix hg hf hb hok.1 hok.2 (.shift hsh h1) (.inl rfl) q1 q2 q3
| ret=>
  obtain ⟨ps,q1,q2,q3⟩:=h2
  exact lO hmix hg hf hb hok.1 hok.2 (.shift hsh h1) (.inr rfl) q1 q2 q3}
end
open Go.RowKit
theorem PF {P:Program} [WInv P] {β:Type} {F:Q2 β} {R:β->PV} {O:β->Q3 (Q3 PV)} {f:FuncId} {fn:Func} {c:Code} {args:Q3 PV} {E k:Nat} {els:Q3 (Q3 PV)} {r:β} (hF:F=some r) (hmix:P.follows .mixedOrders=true) (hf:P.funcs[f]? = some fn) (hg:isGo P f=true) (hb:fn.body=some c) (hok:(decide (args.length+1<=fn.ntmps)&&B6 fn.ntmps c)=true)
  (h:∀ r,F=some r->PWs P [c] (WI P fn.results.toList (R r) E k (O r)) (mkS (C4 0 (.row 0 (0,0)::args)) [(0,some ((0,0),.row E k false els))] 1)):ContractR P f args E k els (R r) (O r):=ZnR hmix hf hg hb hok (h r hF)
def dn:PV->PV | .nil=>.sl [] | p=>p
theorem lP {x:Ctx} {p:PV} {v:Value} (h:Rep x p v):Rep x (dn p) v:=by{
cases h with
| nil=>exact .sl [] none 0 0 0 0 0 (fun _ _=>.int .i64 0) rfl (Yn _) (by omega) (by simp) (by omega) (by simp) (by simp)
| bool b=>exact .bool b
| int k n=>exact .int k n
| str s=>exact .str s
| un v=>exact .un v
| agg ps cs hl h=>exact .agg ps cs hl h
| tup ps cs hl h=>exact .tup ps cs hl h
| sl els A n c k b off f h1 h2 h3 h4 h5 h6 h7=>exact .sl els A n c k b off f h1 h2 h3 h4 h5 h6 h7
| ptr t g off b h1 h2=>exact .ptr t g off b h1 h2
| elp t g i k off b h1 h2=>exact .elp t g i k off b h1 h2
| row t g A n c h1 h2=>exact .row t g A n c h1 h2
| suf t g i k A A' n c c' h1 h2 h3 h4 h5=>exact .suf t g i k A A' n c c' h1 h2 h3 h4 h5
| cel cs b off f h1 h2=>exact .cel cs b off f h1 h2
| fn f ps cs hl h=>exact .fn f ps cs hl h}
open Go.RowKit
section
variable {P:Program} {r:Run} {o:Oper} {i:Nat} {s:FS}
theorem WJ {x:Ctx} {B:Nat} {D:Nat->Prop} {g:Gen} {E k m c:Nat} {sh:Bool} {els:Q3 (Q3 PV)} {A:Q2 Addr} (h:ObRep x B D g (.row E k sh els)) (hv:x.ρ g = .slice A m c) :
  m=els.length/\els.length<=c/\c<=9223372036854775807/\(0<els.length->∃ b,A=some ⟨b,0,none⟩):=by{
obtain ⟨_,_,vs,h3,_,_⟩:=h
rcases h3.2 with ⟨hn,hl⟩ | ⟨b,cap,cur,hv2,_,_,hc,hm,_⟩
rw [hv] at hn
injection hn with e1 e2 e3
exact ⟨by omega,by omega,by omega,fun h=>by omega⟩
rw [hv] at hv2
injection hv2 with e1 e2 e3
subst e3
exact ⟨e2,hc,by unfold maxLen at hm;omega,fun _=>⟨b,e1⟩⟩}
theorem ZzJ {T:TypeId} {e w:Operand} {E E' a1 a2 t k n:Nat} {a3:Q3 PV} {te:TI} {g:Gen} {sh:Bool} {els:Q3 (Q3 PV)} (ho:o.op = .slice T e (some w) none none) (ht:tyI P T=some ⟨.slice E,a1,a2,a3⟩) (hte:tyI P E=some te)
  (he:ev s e = .row t g) (hob:A8 s.ob t g=some (.row E' k sh els)) (hn:toNat? (ev s w)=some n) (hnl:n<=els.length) (hk:k=te.size):OpOK P r o i s ⟨.suf t g n k,[]⟩:=by{
intro S a x Q hX hi hd
subst hk
obtain ⟨inf,z,h1,_⟩:=ZP ht
obtain ⟨inf',z',h1',h2',_,h4',_,_⟩:=ZP hte
have hr:=AE hX e
obtain ⟨kd,hw⟩:=IA hn (AE hX w)
obtain ⟨hg,hO⟩:=hX.ob t g _ (C6 hob)
rw [he] at hr
generalize hv:a.eval e=v at hr
cases hr with
| row _ _ A m c hG hvv=>
  obtain ⟨rfl,hlc,hcm,hA⟩:=WJ hO hvv
  have hb:(Instr.sliceBounds true els.length c (some (a.eval w)) none none).run P x.W = .ok (n,els.length,c) x.W:=by
   simp [Instr.sliceBounds,Instr.sliceBound,asIntOf,hw,hnl]
  refine ZX (v:=.slice (if c=n then A else A.map (·.add (n * te.size))) (els.length-n) (c-n)) (W':=x.W) ?_ (hX.val hd ?_)
  unfold execOp
  rw [ho]
  simp [hv,Instr.sliceAt,Instr.slice,run_underlying h1,hb,sizeOf,typeInfo,h2',h4']
  refine .suf t g n te.size A _ els.length c _ hG hvv hnl ⟨hlc,hcm⟩ fun hlt=>?_
  obtain ⟨b,rfl⟩:=hA (by omega)
  exact ⟨b,rfl,by rw [if_neg (by omega)];simp only [Yo,EL,YY]⟩}
theorem Zyz {T:TypeId} {e:Operand} {E E' a1 a2 t k k' n:Nat} {a3:Q3 PV} {g:Gen} {sh:Bool} {els:Q3 (Q3 PV)} (ho:o.op = .call { callee:=.builtin .len,args:=#[e],argTypes:=#[T] }) (ht:tyI P T=some ⟨.slice E,a1,a2,a3⟩)
  (he:ev s e = .suf t g n k) (hob:A8 s.ob t g=some (.row E' k' sh els)):OpOK P r o i s ⟨.int .i64 ((els.length-n:Nat):Int),[]⟩:=by{
intro S a x Q hX hi hd
obtain ⟨inf,z,h1,_⟩:=ZP ht
have hr:=AE hX e
obtain ⟨hg,hO⟩:=hX.ob t g _ (C6 hob)
rw [he] at hr
generalize hv:a.eval e=v at hr
cases hr with
| suf _ _ _ _ A A' m c c' hG hvv h3 h4 h5=>
  obtain ⟨rfl,_⟩:=WJ hO hvv
  refine ZX (v:=.int .i64 ((els.length-n:Nat):Int)) (W':=x.W) ?_ (hX.val hd (.int _ _))
  unfold execOp
  rw [ho]
  simp [resolve,invoke,builtin,Builtin.len_,hv,run_underlying h1,goInt]}
theorem Zuw {T:TypeId} {e e':Operand} {E E' a1 a2 t k q n:Nat} {a3:Q3 PV} {te:TI} {g:Gen} {sh:Bool} {els:Q3 (Q3 PV)} (ho:o.op = .indexAddr T e e') (ht:tyI P T=some ⟨.slice E,a1,a2,a3⟩) (hte:tyI P E=some te) (he:ev s e = .suf t g q k)
  (hn:toNat? (ev s e')=some n) (hob:A8 s.ob t g=some (.row E' k sh els)) (hnl:q+n<els.length) (hk:k=te.size):OpOK P r o i s ⟨.elp t g (q+n) k 0,[]⟩:=by{
intro S a x Q hX hi hd
subst hk
obtain ⟨inf,z,h1,_⟩:=ZP ht
obtain ⟨inf',z',h1',h2',_,h4',_,_⟩:=ZP hte
have hr:=AE hX e
obtain ⟨kd,hidx⟩:=IA hn (AE hX e')
have key:∀ (ad:Addr) (len cap:Nat),a.eval e = .slice (some ad) len cap->n<len->(execOp a.eval o).run P x.W = .ok (.value (.pointer (some (ad.add (n * te.size))))) x.W:=fun ad len cap hv hlt=>by
 unfold execOp
 rw [ho]
 have:(0:Int)<=n/\(n:Int)<len:=by omega
 simp [hv,hidx,Instr.indexAt,asIntOf,run_underlying h1,sizeOf,typeInfo,h2',h4',hlt]
rw [he] at hr
obtain ⟨hg,hO⟩:=hX.ob t g _ (C6 hob)
generalize hv:a.eval e=v at hr key
cases hr with
| suf _ _ _ _ A A' m c c' hG hvv h3 h4 h5=>
  obtain ⟨rfl,_⟩:=WJ hO hvv
  obtain ⟨b,rfl,rfl⟩:=h5 (by omega)
  refine ZX (key _ _ _ rfl (by omega)) (hX.val hd ?_)
  rw [EL,<- RZ]
  have:=Rep.elp (x:=x) t g (q+n) te.size 0 b hG (by rw [hvv];rfl)
  rw [DS] at this
  exact this}
theorem Zux {T:TypeId} {e w:Operand} {E E0 a1 a2 t k n:Nat} {a3:Q3 PV} {te:TI} {g:Gen} {els:Q3 (Q3 PV)} (ho:o.op = .slice T e none (some w) none) (ht:tyI P T=some ⟨.slice E,a1,a2,a3⟩) (hte:tyI P E=some te)
  (he:ev s e = .row t g) (hob:A8 s.ob t g=some (.row E0 k false els)) (hn:toNat? (ev s w)=some n) (hnl:n<=els.length):OpOK P r o i s ⟨.row t (s.ng,i),[(t,some ((s.ng,i),.row E0 k false (els.take n)))]⟩:=by{
intro S a x Q hX hi hd
obtain ⟨inf,z,h1,_⟩:=ZP ht
obtain ⟨inf',z',h1',h2',_,h4',_,_⟩:=ZP hte
have hr:=AE hX e
obtain ⟨kd,hw⟩:=IA hn (AE hX w)
have hob':=C6 hob
obtain ⟨hg,hO⟩:=hX.ob t g _ hob'
obtain ⟨q1,q2,vs,h3,q4,q5⟩:=hO
rw [he] at hr
generalize hv:a.eval e=v at hr
cases hr with
| row _ _ A m c hG hvv=>
  rw [hvv] at h3
  have hmc:m=els.length/\els.length<=c/\(A=none/\c=0/\els.length=0\/∃ b,A=some ⟨b,0,none⟩):=by
   rcases h3.2 with ⟨hn0,hl⟩ | ⟨b,cap,cur,hv2,_,_,hc,_⟩
   injection hn0 with e1 e2 e3
   exact ⟨by omega,by omega,.inl ⟨e1,by omega,hl⟩⟩
   injection hv2 with e1 e2 e3
   subst e3
   exact ⟨e2,hc,.inr ⟨b,e1⟩⟩
  obtain ⟨rfl,hlc,hA⟩:=hmc
  have hb:(Instr.sliceBounds true els.length c none (some (a.eval w)) none).run P x.W = .ok (0,n,c) x.W:=by
   have hhc:(0:Int)<=n/\(n:Int)<=c:=by omega
   have hhc2:n<=c:=by omega
   simp [Instr.sliceBounds,Instr.sliceBound,asIntOf,hw,hhc2]
  have hsame:(if c=0 then A else A.map (·.add (0 * te.size)))=A:=by
   rcases hA with ⟨rfl,rfl,_⟩ | ⟨b,rfl⟩
   rfl
   split
   rfl
   simp only [Yo,EL,KZ,DS]
  refine ZX (v:=.slice A n c) (W':=x.W) ?_ ?_
  unfold execOp
  rw [ho]
  have hb':=hb
  simp [hv,Instr.sliceAt,Instr.slice,run_underlying h1,hb',sizeOf,typeInfo,h2',h4']
  have:=hsame
  simp at this
  exact this
  refine hX.newObj hi hd rfl rfl rfl (Yn _) (fun b hb _=>rfl) (fun b o v hF hv=>hv) (v0:=.slice A n c) (fun b hb=>.inr ⟨g,_,hob',?_⟩) (fun y st hF hW hρ=>⟨fun el hel=>q1 el (EH hel),fun el hel=>q2 el (EH hel),vs.take (n * k),?_,fun m' q u hq hu=>?_,fun b hb=>⟨?_,fun o ho=>?_⟩⟩) (fun y st hW hG hρ=>.row _ _ _ _ _ hG hρ)
  rw [hvv]
  rcases hA with ⟨rfl,rfl,_⟩ | ⟨b',rfl⟩
  simp [blk] at hb
  exact hb
  rw [hρ,hW]
  have hlt:(els.take n).length=n:=by rw [YE];omega
  rw [hlt]
  have hvl:vs.length=els.length * k:=h3.1
  have hnk:n * k<=els.length * k:=GX _ hnl
  refine ⟨by rw [YE];omega,?_⟩
  rcases h3.2 with ⟨hn0,hl⟩ | ⟨b,cap,cur,hv2,hB,hh,hc,hm,hs,htk⟩
  injection hn0 with e1 e2 e3
  exact .inl ⟨by rw [e1,e3,show n=0 by omega],by omega⟩
  injection hv2 with e1 e2 e3
  subst e1 e3
  refine .inr ⟨b,c,cur,rfl,hB,hh,by omega,hm,hs,?_⟩
  rw [<- htk,List.take_take,Nat.min_eq_left hnk]
  have hlf:(els.take n).flatten=els.flatten.take (n * k):=by
   have h6:els.flatten=(els.take n).flatten++(els.drop n).flatten:=by rw [<- MI,YQ]
   have h7:(els.take n).flatten.length=n * k:=by
    rw [BM (k:=k) _ (fun el hel=>q1 el (EH hel)),YE]
    have:min n els.length=n:=by omega
    rw [this]
   rw [h6,<- h7,List.take_left']
   rfl
  rw [hlf,FB] at hq
  rw [FB] at hu
  split at hq
  rename_i hm'
  rw [if_pos hm'] at hu
  exact (q4 m' q u hq hu).step st
  cases hq
  rw [hρ] at hb
  refine (q5 b ?_).1
  rw [hvv]
  rcases hA with ⟨rfl,rfl,_⟩ | ⟨b',rfl⟩
  simp [blk] at hb
  exact hb
  rw [hρ] at hb
  rw [hF] at ho
  refine absurd ((q5 b ?_).2 o ho).1 (by decide)
  rw [hvv]
  rcases hA with ⟨rfl,rfl,_⟩ | ⟨b',rfl⟩
  simp [blk] at hb
  exact hb}
theorem Zuy {T:TypeId} {e:Operand} {E E' a1 a2 t k q:Nat} {a3 zc:Q3 PV} {te:TI} {g:Gen} {els:Q3 (Q3 PV)} (ho:o.op = .call { callee:=.builtin .clear,args:=#[e],argTypes:=#[T] }) (ht:tyI P T=some ⟨.slice E,a1,a2,a3⟩) (hte:tyI P E=some te)
  (he:ev s e = .suf t g q k) (hob:A8 s.ob t g=some (.row E' k false els)) (hk:k=te.size) (hz:te.zero.map dn=zc) (hp:∀ p ∈ zc,p.pure=true) (hlen:te.zero.length=te.size) (hpos:0<te.size) :
  OpOK P r o i s ⟨.tup [],[(t,some (g,.row E' k false (els.take q++List.replicate (els.length-q) zc)))]⟩:=by{
intro S a x Q hX hi hd
subst hk
obtain ⟨inf,z,h1,_⟩:=ZP ht
obtain ⟨inf',z',h1',h2',h3',h4',h5',h6'⟩:=ZP hte
have hr:=AE hX e
have hob':=C6 hob
obtain ⟨hg,hO⟩:=hX.ob t g _ hob'
have hO':=hO
obtain ⟨h1e,h2e,vs,h3e,h4e,h5e⟩:=hO
rw [he] at hr
generalize hv:a.eval e=v at hr
have htup:Rep x (.tup []) (.tuple #[]):=.tup [] #[] rfl (fun i p v hp=>by simp at hp)
cases hr with
| suf _ _ _ _ A A' m c c' hG hvv h3 h4 h5=>
  obtain ⟨rfl,_,_,_⟩:=WJ hO' hvv
  by_cases hlt:q<els.length
  obtain ⟨b,rfl,rfl⟩:=h5 hlt
  rcases h3e.2 with ⟨hn,_⟩ | ⟨b2,cap,cur,hv2,hB2,hh,hnc,hcm2,hcs,htake⟩
  rw [hvv] at hn
  cases hn
  rw [hvv] at hv2
  injection hv2 with q1 q2 q3
  injection q1 with q1
  injection q1 with q1
  subst q1 q3
  obtain ⟨m,hm⟩:∃ m,els.length-q=m+1:=⟨els.length-q-1,by omega⟩
  have hzs:z'.cells.size=te.size:=by rw [<- hlen,h6'];simp
  have hzl:zc.length=te.size:=by rw [<- hz,Yv,hlen]
  have hvl:vs.length=els.length * te.size:=h3e.1
  have hcap:els.length * te.size<=c * te.size:=GX _ hnc
  have hsum:q * te.size+(els.length-q) * te.size=els.length * te.size:=by rw [<- RZ];congr 1;omega
  generalize hcl:(Builtin.zeroCells z'.cells (els.length-q)).toList=zs
  have hzsl:zs.length=(els.length-q) * te.size:=by rw [<- hcl];simp [Builtin.zeroCells,hzs]
  have hzone:∀ v ∈ zs,v.oneCell'=true:=fun v hv=>by
   rw [<- hcl] at hv
   obtain ⟨j,hj⟩:=YA hv
   have hj2:=hj
   simp only [Builtin.zeroCells,GE,OD] at hj
   have hjl:j<(els.length-q) * z'.cells.size:=by
    have:=(Yd.1 hj2).1
    simpa [Builtin.zeroCells] using this
   rw [RL,if_pos hjl] at hj
   simp only [Yo,Yp] at hj
   have hj3:j % z'.cells.size<z'.cells.size:=JQ _ (by omega)
   rw [JP z'.cells _ hj3] at hj
   have hq:zc[j % z'.cells.size]? = some (dn (E5 z'.cells[j % z'.cells.size])):=by rw [<- hz,h6'];simp [hj3]
   have:=(lP (JT x z'.cells[j % z'.cells.size])).one (PV.cell_of_pure (hp _ (Yj hq)))
   rw [hj] at this
   exact this
  have hreps:∀ (j:Nat) (p:PV) (v:Value),(List.replicate (els.length-q) zc).flatten[j]? = some p->zs[j]? = some v->Rep x p v:=fun j p v hp hv=>by
   have hk:∀ e ∈ List.replicate (els.length-q) zc,e.length=te.size:=fun e he=>by rw [YW he,hzl]
   have hjl:j<(els.length-q) * te.size:=by
    have:=(Yd.1 hp).1
    rw [BM _ hk] at this
    simpa using this
   have hi':j / te.size<els.length-q:=KU (by rw [EK];exact hjl)
   have hj':j % te.size<te.size:=JQ _ hpos
   have hem:j / te.size * te.size+j % te.size=j:=by rw [EK];exact ML j _
   have he:(List.replicate (els.length-q) zc)[j / te.size]? = some zc:=by rw [UQ,if_pos hi']
   have hj2:j % te.size<z'.cells.size:=by rw [hzs];exact hj'
   have hq:zc[j % te.size]? = some (dn (E5 z'.cells[j % te.size])):=by rw [<- hz,h6'];simp [hj2]
   have:=I9 (k:=te.size) (List.replicate (els.length-q) zc) hk _ _ _ _ he hq
   rw [hem,hp] at this
   cases this
   rw [<- hcl] at hv
   simp only [Builtin.zeroCells,GE,OD] at hv
   rw [RL,if_pos (by rw [hzs];exact hjl),hzs] at hv
   simp only [Yo,Yp] at hv
   rw [JP z'.cells (j % te.size) hj2] at hv
   subst hv
   exact lP (JT x _)
  have hst:=run_storeCells_at P b (q * te.size) E' zs 0 cur x.W hh (by omega) hzone
  simp only [DS] at hst
  have hF:∀ b' o',x.F b' o'->b'≠b:=fun b' o' hFF e=>by
   subst e
   have:=((h5e b' (by rw [hvv];rfl)).2 o' hFF).1
   cases this
  let W':=x.W.setRow b (cur.toList.take (q * te.size)++zs++cur.toList.drop (q * te.size+zs.length)).toArray
  have k2:Step x ⟨x.G,x.F,W',x.ρ⟩:=⟨fun _ h=>⟨h,rfl⟩,fun _ _ h=>h,fun b' o' v' hFF hv'=>(V9 x.W b _ (hF b' o' hFF)).trans hv'⟩
  have hsz:W'.heap.size=x.W.heap.size:=by simp [W',World.setRow]
  have hlen2:(els.take q++List.replicate (els.length-q) zc).length=els.length:=by simp;omega
  refine ZX (v:=.tuple #[]) (W':=W') ?_ ⟨⟨x.G,x.F,W',x.ρ⟩,rfl,?_⟩
  unfold execOp
  rw [ho]
  have hzv:∀ w,(zeroValue E).run P w = .ok z' w:=fun w=>by simp [zeroValue,typeInfo,h2',h3']
  simp [resolve,invoke,builtin,Builtin.clear_,hv,run_underlying h1,hzv,hm]
  rw [<- hm,hcl,hst]
  simp [W']
  refine hX.change k2 hd rfl rfl rfl (by rw [hsz];exact Yn _) (fun b' hb' hne=>setRow_other x.W b b' _ (fun e=>hne g _ hob' (by rw [hvv,e];rfl))) (fun _ _ h=>.inl h) (fun b' o' hb'=>by show b'<W'.heap.size;rw [hsz];exact hX.flt b' o' hb')
   (fun g' hg'=>(hX.gens g' hg').imp id fun ⟨e1,e2⟩=>⟨e1,.inl e2⟩) hg ?_ (fun b' hb'=>.inr ⟨g,_,hob',hb'⟩) (htup.step k2)
  refine ⟨fun e2 he2=>?_,fun e2 he2 p hpp=>?_,vs.take (q * te.size)++zs++vs.drop (q * te.size+zs.length),?_,fun m' p v' hpp hvv'=>?_,fun b' hb'=>⟨(h5e b' hb').1,fun o' hFF=>?_⟩⟩
  rcases YD.1 he2 with h | h
  exact h1e e2 (EH h)
  rw [YW h,hzl]
  rcases YD.1 he2 with h | h
  exact h2e e2 (EH h) p hpp
  rw [YW h] at hpp
  exact hp p hpp
  refine ⟨?_,.inr ⟨b,c,_,by change x.ρ g=_;rw [hvv,hlen2],hB2,setRow_heap x.W b cur _ E' (0,0) hh,by rw [hlen2];exact hnc,hcm2,?_,?_⟩⟩
  rw [hlen2];simp;omega
  simp;omega
  rw [hlen2,<- htake]
  exact aW cur.toList zs (q * te.size) (els.length * te.size) (by omega) (by have e:cur.toList.length=cur.size:=(by simp);omega)
  have hflat:(els.take q++List.replicate (els.length-q) zc).flatten=els.flatten.take (q * te.size)++(List.replicate (els.length-q) zc).flatten++els.flatten.drop (q * te.size+((List.replicate (els.length-q) zc).flatten).length):=by
   have hkz:∀ e ∈ List.replicate (els.length-q) zc,e.length=te.size:=fun e he=>by rw [YW he,hzl]
   have e1:(els.take q).flatten=els.flatten.take (q * te.size):=by
    conv=>rhs;rw [<- YQ q els,MI]
    have:(els.take q).flatten.length=q * te.size:=by
     rw [BM _ (fun e he=>h1e e (EH he)),YE]
     congr 1
     omega
    rw [<- this,MN]
   rw [MI,e1,BM _ hkz,MH,hsum,<- BM els h1e,GF,YB]
  have hpp':=hpp
  rw [hflat] at hpp'
  have hkz:∀ e ∈ List.replicate (els.length-q) zc,e.length=te.size:=fun e he=>by rw [YW he,hzl]
  have hrl:(List.replicate (els.length-q) zc).flatten.length=zs.length:=by rw [BM _ hkz,MH,hzsl]
  rcases written (by rw [BM els h1e,hvl]) hrl (by rw [BM els h1e,hrl,hzsl];omega) hpp' hvv' with ⟨e1,e2⟩ | ⟨j,e1,e2⟩
  exact (h4e m' p v' e1 e2).step k2
  exact (hreps j p v' e1 e2).step k2
  rw [hlen2]
  exact (h5e b' hb').2 o' hFF
  have e0:els.take q++List.replicate (els.length-q) zc=els:=by
   rw [show els.length-q=0 by omega,List.replicate_zero,YB,GW (by omega)]
  rw [e0]
  refine ZX (v:=.tuple #[]) (W':=x.W) ?_ ⟨x,rfl,?_⟩
  unfold execOp
  rw [ho]
  rw [show els.length-q=0 by omega] at hv
  cases A'<;>simp [resolve,invoke,builtin,Builtin.clear_,hv,run_underlying h1]
  exact hX.change (Step.refl x) hd rfl rfl rfl (Yn _) (fun _ _ _=>rfl) (fun _ _ h=>.inl h) hX.flt (fun g' hg'=>(hX.gens g' hg').imp id fun ⟨e1,e2⟩=>⟨e1,.inl e2⟩) hg hO' (fun b' hb'=>.inr ⟨g,_,hob',hb'⟩) htup}
end
section
variable {P:Program} [WInv P] {ops:Array Oper} {o:Oper} {i:Nat} {s:FS} {T:TypeId} {e e' w:Operand} {E E' a1 a2 t k q n:Nat} {a3:Q3 PV} {te:TI} {g:Gen} {sh:Bool} {els:Q3 (Q3 PV)}
theorem ZyA (hw:Zh ops s o=some true) (ho:o.op = .slice T e (some w) none none) (ht:tyI P T=some ⟨.slice E,a1,a2,a3⟩) (hte:tyI P E=some te) (he:ev s e = .row t g) (hob:A8 s.ob t g=some (.row E' k sh els)) (hn:toNat? (ev s w)=some n) (hnl:n<=els.length) (hk:k=te.size) :
  OpR P ops i o s ⟨.suf t g n k,[]⟩:=.any hw fun s' r hA hI=>by
 have hm:e ∈ o.op.operands:=by rw [ho];simp [Op.operands]
 have hm':w ∈ o.op.operands:=by rw [ho];simp [Op.operands]
 exact ZzJ ho ht hte (by rw [<- hA.ev e hm];exact he) (by rw [K3 hA hm (by rw [ho];rfl) (by rw [ho];rfl) (by rw [he];simp [AC])];exact hob) (by rw [<- hA.ev w hm'];exact hn) hnl hk
theorem ZwF (hw:Zh ops s o=some true) (ho:o.op = .call { callee:=.builtin .len,args:=#[e],argTypes:=#[T] }) (ht:tyI P T=some ⟨.slice E,a1,a2,a3⟩) (he:ev s e = .suf t g n k) (hob:A8 s.ob t g=some (.row E' k sh els)):OpR P ops i o s ⟨.int .i64 ((els.length-n:Nat):Int),[]⟩:=.any hw fun s' r hA hI=>by
 have hm:e ∈ o.op.operands:=by rw [ho];simp [Op.operands,Call.operands]
 exact Zyz ho ht (by rw [<- hA.ev e hm];exact he) (by rw [K3 hA hm (by rw [ho];rfl) (by rw [ho];rfl) (by rw [he];simp [AC])];exact hob)
theorem Zsm (hw:Zh ops s o=some true) (ho:o.op = .indexAddr T e e') (ht:tyI P T=some ⟨.slice E,a1,a2,a3⟩) (hte:tyI P E=some te) (he:ev s e = .suf t g q k) (hn:toNat? (ev s e')=some n) (hob:A8 s.ob t g=some (.row E' k sh els)) (hnl:q+n<els.length) (hk:k=te.size) :
  OpR P ops i o s ⟨.elp t g (q+n) k 0,[]⟩:=.any hw fun s' r hA hI=>by
 have hm:e ∈ o.op.operands:=by rw [ho];simp [Op.operands]
 have hm':e' ∈ o.op.operands:=by rw [ho];simp [Op.operands]
 exact Zuw ho ht hte (by rw [<- hA.ev e hm];exact he) (by rw [<- hA.ev e' hm'];exact hn) (by rw [K3 hA hm (by rw [ho];rfl) (by rw [ho];rfl) (by rw [he];simp [AC])];exact hob) hnl hk
theorem Zsn {w:Operand} (hw:Zh ops s o=some true) (ho:o.op = .slice T e none (some w) none) (ht:tyI P T=some ⟨.slice E,a1,a2,a3⟩) (hte:tyI P E=some te) (he:ev s e = .row t g) (hob:A8 s.ob t g=some (.row E' k false els)) (hn:toNat? (ev s w)=some n) (hnl:n<=els.length) :
  OpR P ops i o s ⟨.row t (s.ng,i),[(t,some ((s.ng,i),.row E' k false (els.take n)))]⟩:=.any hw fun s' r hA hI=>by
 have hm:e ∈ o.op.operands:=by rw [ho];simp [Op.operands]
 have hm':w ∈ o.op.operands:=by rw [ho];simp [Op.operands]
 rw [hA.ng]
 exact Zux ho ht hte (by rw [<- hA.ev e hm];exact he) (by rw [K3 hA hm (by rw [ho];rfl) (by rw [ho];rfl) (by rw [he];simp [AC])];exact hob) (by rw [<- hA.ev w hm'];exact hn) hnl
theorem Zso {zc:Q3 PV} (hw:Zh ops s o=some true) (ho:o.op = .call { callee:=.builtin .clear,args:=#[e],argTypes:=#[T] }) (ht:tyI P T=some ⟨.slice E,a1,a2,a3⟩) (hte:tyI P E=some te) (he:ev s e = .suf t g q k) (hob:A8 s.ob t g=some (.row E' k false els)) (hk:k=te.size)
  (hz:te.zero.map dn=zc) (hp:∀ p ∈ zc,p.pure=true) (hlen:te.zero.length=te.size) (hpos:0<te.size):OpR P ops i o s ⟨.tup [],[(t,some (g,.row E' k false (els.take q++List.replicate (els.length-q) zc)))]⟩:=.any hw fun s' r hA hI=>by
 have hm:e ∈ o.op.operands:=by rw [ho];simp [Op.operands,Call.operands]
 exact Zuy ho ht hte (by rw [<- hA.ev e hm];exact he) (by rw [K3 hA hm (by rw [ho];rfl) (by rw [ho];rfl) (by rw [he];simp [AC])];exact hob) hk hz hp hlen hpos
end
section
variable {P:Program} [WInv P] {ops:Array Oper} {draw:Bool} {i:Nat} {L:Q3 Oper} {acc:Q3 (Q3 Nat×Q3 Nat)} {K:FS->Prop} {tm:Q3 (Nat×PV)} {ob:Q3 (Nat×Q2 (Gen×VObj))} {ng:Nat}
 {d:Q2 Tmp} {ty:TypeId} {pos:String} {after:Array Edge} {gd:Q2 (Nat×Bool)} {T:TypeId} {x y:Operand} {E kk by_:Nat} {z:Q3 PV} {t:Nat} {g:Gen} {els:Q3 (Q3 PV)}
theorem ZzK {w:Operand} {kd:IntKind} {n:Nat} {E':Nat} {sh:Bool} [Sl P T E kk by_ z] (hw:Zh ops (mkS tm ob ng) ⟨d,.slice T x (some w) none none,ty,pos,after,gd⟩=some true) (hx:evL tm x = .row t g) (hb:A8 (Zn ob) t g=some (.row E' kk sh els)) (hy:evL tm w = .int kd (n:Int)) (hn:n<=els.length)
  (k:GoL P ops draw (i+1) L (acc ++ [(ZE (mkS tm ob ng) ⟨d,.slice T x (some w) none none,ty,pos,after,gd⟩,[])]) (mkS (A6 d (.suf t g n kk) tm) ob ng) K):GoL P ops draw i (⟨d,.slice T x (some w) none none,ty,pos,after,gd⟩::L) acc (mkS tm ob ng) K:=by{
obtain ⟨s,b,zz,te,q1,q2,q3,_,_,_,_⟩:=D9 (P:=P) (T:=T) (E:=E) (k:=kk) (by_:=by_) (z:=z)
refine CH (ZyA hw rfl q1 q2 (by rw [AB];exact hx) hb (by rw [AB,hy];exact JW) hn q3.symm) ?_
rw [CG]
exact k}
theorem ZzL {n k':Nat} {E':Nat} {sh:Bool} [Sl P T E kk by_ z] (hw:Zh ops (mkS tm ob ng) ⟨d,.call ⟨.builtin .len,#[x],#[T]⟩,ty,pos,after,gd⟩=some true) (hx:evL tm x = .suf t g n k') (hb:A8 (Zn ob) t g=some (.row E' k' sh els)) {v:Int} (hv:((els.length-n:Nat):Int)=v)
  (k:GoL P ops draw (i+1) L (acc ++ [(ZE (mkS tm ob ng) ⟨d,.call ⟨.builtin .len,#[x],#[T]⟩,ty,pos,after,gd⟩,[])]) (mkS (A6 d (.int .i64 v) tm) ob ng) K):GoL P ops draw i (⟨d,.call ⟨.builtin .len,#[x],#[T]⟩,ty,pos,after,gd⟩::L) acc (mkS tm ob ng) K:=by{
obtain ⟨s,b,zz,te,q1,q2,q3,_,_,_,_⟩:=D9 (P:=P) (T:=T) (E:=E) (k:=kk) (by_:=by_) (z:=z)
subst hv
refine CH (ZwF hw rfl q1 (by rw [AB];exact hx) hb) ?_
rw [CG]
exact k}
theorem ZwG {E':Nat} {sh:Bool} {kd:IntKind} {q n m:Nat} [Sl P T E kk by_ z] (hw:Zh ops (mkS tm ob ng) ⟨d,.indexAddr T x y,ty,pos,after,gd⟩=some true) (hx:evL tm x = .suf t g q kk) (hb:A8 (Zn ob) t g=some (.row E' kk sh els)) (hy:evL tm y = .int kd (n:Int)) (hm:q+n=m) (hn:m<els.length)
  (k:GoL P ops draw (i+1) L (acc ++ [(ZE (mkS tm ob ng) ⟨d,.indexAddr T x y,ty,pos,after,gd⟩,[])]) (mkS (A6 d (.elp t g m kk 0) tm) ob ng) K):GoL P ops draw i (⟨d,.indexAddr T x y,ty,pos,after,gd⟩::L) acc (mkS tm ob ng) K:=by{
obtain ⟨s,b,zz,te,q1,q2,q3,_,_,_,_⟩:=D9 (P:=P) (T:=T) (E:=E) (k:=kk) (by_:=by_) (z:=z)
subst hm
refine CH (Zsm hw rfl q1 q2 (by rw [AB];exact hx) (by rw [AB,hy];exact JW) hb hn q3.symm) ?_
rw [CG]
exact k}
theorem ZwH {w:Operand} {E':Nat} {kd:IntKind} {n:Nat} {els':Q3 (Q3 PV)} [Sl P T E kk by_ z] (hw:Zh ops (mkS tm ob ng) ⟨d,.slice T x none (some w) none,ty,pos,after,gd⟩=some true) (hx:evL tm x = .row t g) (hb:A8 (Zn ob) t g=some (.row E' kk false els)) (hy:evL tm w = .int kd (n:Int)) (hn:n<=els.length) (hs:els.take n=els')
  (k:GoL P ops draw (i+1) L (acc ++ [(ZE (mkS tm ob ng) ⟨d,.slice T x none (some w) none,ty,pos,after,gd⟩,[t])]) (mkS (A6 d (.row t (ng,i)) tm) ((t,some ((ng,i),.row E' kk false els'))::ob) ng) K):GoL P ops draw i (⟨d,.slice T x none (some w) none,ty,pos,after,gd⟩::L) acc (mkS tm ob ng) K:=by{
obtain ⟨s,b,zz,te,q1,q2,q3,_,_,_,_⟩:=D9 (P:=P) (T:=T) (E:=E) (k:=kk) (by_:=by_) (z:=z)
subst hs
refine CH (Zsn hw rfl q1 q2 (by rw [AB];exact hx) hb (by rw [AB,hy];exact JW) hn) ?_
rw [CG]
exact k}
theorem ZwI {q:Nat} {E':Nat} {zc:Q3 PV} [Sl P T E kk by_ z] (hw:Zh ops (mkS tm ob ng) ⟨d,.call ⟨.builtin .clear,#[x],#[T]⟩,ty,pos,after,gd⟩=some true) (hx:evL tm x = .suf t g q kk) (hb:A8 (Zn ob) t g=some (.row E' kk false els)) (hz:z.map dn=zc) (hp:zc.all PV.pure=true) {els':Q3 (Q3 PV)} (hs:els.take q++List.replicate (els.length-q) zc=els')
  (k:GoL P ops draw (i+1) L (acc ++ [(ZE (mkS tm ob ng) ⟨d,.call ⟨.builtin .clear,#[x],#[T]⟩,ty,pos,after,gd⟩,[t])]) (mkS (A6 d (.tup []) tm) ((t,some (g,.row E' kk false els'))::ob) ng) K):GoL P ops draw i (⟨d,.call ⟨.builtin .clear,#[x],#[T]⟩,ty,pos,after,gd⟩::L) acc (mkS tm ob ng) K:=by{
obtain ⟨s,b,zz,te,q1,q2,q3,q4,q5,q6,q7⟩:=D9 (P:=P) (T:=T) (E:=E) (k:=kk) (by_:=by_) (z:=z)
subst hs
refine CH (Zso hw rfl q1 q2 (by rw [AB];exact hx) hb q3.symm (by rw [q5];exact hz) (fun p hpp=>Yq.1 hp p hpp) (by rw [q5,q7,q3]) (by rw [q3];exact q6)) ?_
rw [CG]
exact k}
end
open Go.RowKit
structure PostS (x y:Ctx) (E k:Nat) (els':List (List PV)) (v:Value):Prop where
 step:Step x y
 gr:Gr (Dr x) x.W y.W
 fnew:∀ b o,y.F b o->x.F b o\/x.W.heap.size<=b\/Dr x b
 flt:∀ b o,y.F b o->b<y.W.heap.size
 ob:∃ g,y.ρ g=v/\ObRep y x.W.heap.size (Dr x) g (.row E k false els')
structure ContractS (P:Program) [WInv P] (f:FuncId) (args:List PV) (E k:Nat) (els els':List (List PV)):Prop where
 isGo:VL.isGo P f=true
 calls:∀ (x:Ctx) (vs:Array Value),PreR x args E k els vs->(∀ W',Gr (Dr x) x.W W'->WInv.I P W')->Calls P f vs x.W fun e W'=>∃ y v,y.W=W'/\e = .returned v/\PostS x y E k els' v
section
variable {P:Program} {r:Run} {S:Nat->Prop} {s:FS} {a:Act} {x:Ctx}
theorem RstX.changeF (h:RstX r S s a x) {S':Nat->Prop} {y:Ctx} (k:Step x y) {d:Q2 Tmp} {v:Value} {val:PV} (hd:∀ k,d=some k->k<r.N) {t:Nat} {g':Gen} {o:VObj}
  (os:y.W.os=x.W.os) (tape:y.W.tape=x.W.tape) (out:y.W.output=x.W.output) (size:x.W.heap.size<=y.W.heap.size)
  (hblock:∀ b,b<x.W.heap.size->(∀ g o,s.ob t=some (g,o)->blk (x.ρ g)≠some b)->y.W.heap[b]? = x.W.heap[b]?)
  (hF:∀ b o,y.F b o->x.F b o\/x.W.heap.size<=b\/∃ g o',s.ob t=some (g,o')/\blk (x.ρ g)=some b) (hflt:∀ b o,y.F b o->b<y.W.heap.size) (gens:∀ g,y.G g->g.1<s.ng\/(g.1=s.ng/\S' g.2)) (hG:y.G g') (hob:ObRep y r.W0.heap.size r.D g' o)
  (hfresh:∀ b,blk (y.ρ g')=some b->x.W.heap.size<=b\/∃ g o,s.ob t=some (g,o)/\blk (x.ρ g)=some b) (hval:Rep y val v) :
  RstX r S' (s.app d ⟨val,[(t,some (g',o))]⟩) (a.put d v) y:=by{
have far:∀ t' g2 o2 b,t'≠t->s.ob t'=some (g2,o2)->blk (x.ρ g2)=some b->b<x.W.heap.size/\∀ g o,s.ob t=some (g,o)->blk (x.ρ g)≠some b:=fun t' g2 o2 b ht h2 hb=>
 ⟨((h.ob t' g2 o2 h2).2.lt b hb).1,fun g o ho=>h.apart t' t g2 g o2 o b ht h2 ho hb⟩
have hobs:∀ t',(s.app d ⟨val,[(t,some (g',o))]⟩).ob t'=if t'=t then some (g',o) else s.ob t':=fun t'=>rfl
have hnew:∀ t' g2 o2 b,t'≠t->s.ob t'=some (g2,o2)->blk (x.ρ g2)=some b->blk (y.ρ g')≠some b:=fun t' g2 o2 b ht h2 hb e=>by
 obtain ⟨h3,h4⟩:=far t' g2 o2 b ht h2 hb
 rcases hfresh b e with h5 | ⟨g,o,h5,h6⟩
 omega
 exact h4 g o h5 h6
refine ⟨by rw [S7];exact h.defers,by rw [S6];exact h.size,?_,gens,fun t'=>?_,fun t' g2 o2 h2=>?_,fun t1 t2 g1 g2 o1 o2 b hne h1 h2 hb=>?_,
 hflt,fun b o hb=>k.F b o (h.f0 b o hb),fun b o hb=>?_,fun g hg=>⟨(k.G g (h.rho g hg).1).1,(k.G g (h.rho g hg).1).2.trans (h.rho g hg).2⟩,h.inv,fun b o v hF hv=>k.W b o v (h.f0 b o hF) (h.keep b o v hF hv)⟩
refine h.gr.trans' os tape out size fun b hb hD=>hblock b (YU hb h.gr.size) fun g o ho e=>?_
rcases ((h.ob t g o ho).2.lt b e).2 with h3 | h3
omega
exact hD h3
rw [V8 h.size hd]
cases d with
| none=>exact (h.tm t').step k
| some q=>
  show Rep y (if t'=q then val else s.tm t') (if t'=q then v else a.tmps.getD t' undef)
  split
  exact hval
  exact (h.tm t').step k
rw [hobs] at h2
split at h2
injection h2 with h2
injection h2 with e1 e2
subst e1 e2
exact ⟨hG,hob⟩
rename_i hne
obtain ⟨h3,h4⟩:=h.ob t' g2 o2 h2
exact ⟨(k.G g2 h3).1,h4.step h3 k fun b hb=>⟨hblock b (far t' g2 o2 b hne h2 hb).1 (far t' g2 o2 b hne h2 hb).2,fun o ho=>by
 rcases hF b o ho with h5 | h5 | ⟨g5,o5,h5,h6⟩
 exact h5
 have:=(far t' g2 o2 b hne h2 hb).1;omega
 exact absurd h6 ((far t' g2 o2 b hne h2 hb).2 g5 o5 h5)⟩⟩
rw [hobs] at h1 h2
split at h1<;>split at h2
rename_i e1 e2;exact absurd (e1.trans e2.symm) hne
rename_i e1 e2
injection h1 with h1
injection h1 with e3 e4
subst e3 e4
rw [(k.G g2 (h.ob t2 g2 o2 h2).1).2]
exact fun e=>hnew t2 g2 o2 b e2 h2 e hb
rename_i e1 e2
injection h2 with h2
injection h2 with e3 e4
subst e3 e4
rw [(k.G g1 (h.ob t1 g1 o1 h1).1).2] at hb
exact hnew t1 g1 o1 b e1 h1 hb
rw [(k.G g1 (h.ob t1 g1 o1 h1).1).2] at hb
rw [(k.G g2 (h.ob t2 g2 o2 h2).1).2]
exact h.apart t1 t2 g1 g2 o1 o2 b hne h1 h2 hb
rcases hF b o hb with h3 | h3 | ⟨g5,o5,h5,h6⟩
exact h.fnew b o h3
exact .inr (.inl (YX h.gr.size h3))
exact .inr ((h.ob t g5 o5 h5).2.lt b h6).2}
end
theorem Zu1 {x:Ctx} {B:Nat} {D:Nat->Prop} {g:Gen} {E k:Nat} {sh:Bool} {els:Q3 (Q3 PV)} (h:ObRep x B D g (.row E k sh els)):∃ A n c,x.ρ g = .slice A n c:=by{
obtain ⟨_,_,vs,h3,_⟩:=h
rcases h3.2 with ⟨hn,_⟩ | ⟨b,cap,cur,hv,_⟩
exact ⟨_,_,_,hn⟩
exact ⟨_,_,_,hv⟩}
section
variable {P:Program} [WInv P] {r:Run} {ops:Array Oper} {o:Oper} {i:Nat} {s s':FS}
theorem Zw1 {f:FuncId} {es:Array Operand} {ts:Array TypeId} {post:Q3 PV} {t:Nat} {g:Gen} {E k:Nat} {els els':Q3 (Q3 PV)} (ho:o.op = .call { callee:=.value (.func f),args:=es,argTypes:=ts })
  (he:es.toList.map (ev s) = .row t g::post) (hob:s.ob t=some (g,.row E k false els)) (hp:post.all PV.dryF=true) (hc:ContractS P f post E k els els') (hI:r.I=WInv.I P):OpOK P r o i s ⟨.row t (s.ng,i),[(t,some ((s.ng,i),.row E k false els'))]⟩:=by{
intro S a x Q hX hi hd
have hrep:∀ (j:Nat) (p:PV),(PV.row t g::post)[j]? = some p->Rep x p ((es.map a.eval).getD j undef):=fun j p hp=>by
 rw [<- he,Yw] at hp
 cases he:es.toList[j]? with
 | none=>rw [he] at hp;simp at hp
 | some e=>
   rw [he] at hp
   simp only [Yo,Yp] at hp
   subst hp
   have hea:es[j]? = some e:=by simpa using he
   have:(es.map a.eval).getD j undef=a.eval e:=by simp [hea]
   rw [this]
   exact AE hX e
obtain ⟨hG,hO⟩:=hX.ob t g _ hob
have hlt:=fun b hb=>hO.lt b hb
obtain ⟨q1,q2,vs2,q3,q4,q5⟩:=hO
let z:Ctx:=⟨fun g'=>g'=(0,0),x.F,x.W,fun _=>x.ρ g⟩
have hpre:PreR z post E k els (es.map a.eval):=by
 refine ⟨?_,fun j p v hj hv=>?_,⟨rfl,q1,q2,vs2,q3,fun m p v hm hv=>?_,fun b hb=>⟨.inr hb,(q5 b hb).2⟩⟩,fun g' e=>?_,hX.flt⟩
 have:=CC List.length he
 simp at this
 simp [this]
 cases j with
 | zero=>
   simp only [GD,Yp] at hj
   subst hj
   have:=hrep 0 (.row t g) rfl
   rw [Ym,hv] at this
   simp only [DZ] at this
   cases this with
   | row _ _ A n c _ hvv=>exact .row _ _ A n c rfl hvv
 | succ j=>
   have hj':post[j]? = some p:=by simpa using hj
   have:=hrep (j+1) p hj
   rw [Ym,hv] at this
   exact Rep.dryF this (Yq.1 hp p (Yj hj'))
 obtain ⟨e,he,hpe⟩:=FD.1 (Yj hm)
 exact (q4 m p v hm hv).pure_mono (q2 e he p hpe) (fun _ _ h=>h) (fun _ _ _ _ h=>h)
 rw [show g'=(0,0) from e]
have hbig:r.W0.heap.size<=x.W.heap.size:=hX.gr.size
have hcalls:=hc.calls z _ hpre fun W' hW=>by
 rw [<- hI]
 exact hX.inv.1 W' (hX.gr.trans' hW.os hW.tape hW.output hW.size fun b hb hD=>hW.block b (YU hb hbig) fun e=>by
  rcases (hlt b e).2 with h | h
  omega
  exact hD h)
unfold Oper.wp
rw [MS ho hc.isGo,Oper.upon_enter]
refine hcalls.mono ?_
rintro e' W' ⟨y,v,rfl,rfl,hpost⟩
obtain ⟨g0,hv0,hob0⟩:=hpost.ob
obtain ⟨A,n,c,hsl⟩:=Zu1 hob0
obtain ⟨w1,w2,vs3,w3,w4,w5⟩:=hob0
rw [hv0] at w3 w5 hsl
have hnew:¬ x.G (s.ng,i):=fun hg=>by
 rcases hX.gens _ hg with e | ⟨_,e⟩
 exact absurd e (JO _)
 exact hi e
let y':Ctx:=⟨fun g=>x.G g\/g=(s.ng,i),y.F,y.W,fun g=>if g=(s.ng,i) then v else x.ρ g⟩
have hρ:y'.ρ (s.ng,i)=v:=if_pos rfl
have k2:Step x y':=⟨fun g hg=>⟨.inl hg,if_neg (fun (e:g=(s.ng,i))=>hnew (by rw [<- e];exact hg))⟩,fun b o h=>hpost.step.F b o h,fun b o w hF hw=>hpost.step.W b o w hF hw⟩
refine ⟨y',rfl,hX.changeF k2 hd hpost.gr.os hpost.gr.tape hpost.gr.output hpost.gr.size (fun b hb hne=>hpost.gr.block b hb fun e=>hne g _ hob e) (fun b o h=>?_) hpost.flt
 (fun g' hg'=>?_) (.inr rfl) ⟨w1,w2,vs3,?_,fun m p v hm hv=>?_,fun b hb=>?_⟩ (fun b hb=>?_) ?_⟩
rcases hpost.fnew b o h with h1 | h1 | h1
exact .inl h1
exact .inr (.inl h1)
exact .inr (.inr ⟨g,_,hob,h1⟩)
rcases hg' with hg' | rfl
exact (hX.gens g' hg').imp id fun ⟨e1,e2⟩=>⟨e1,.inl e2⟩
exact .inr ⟨rfl,.inr rfl⟩
rw [hρ]
exact w3
obtain ⟨e,he,hpe⟩:=FD.1 (Yj hm)
exact (w4 m p v hm hv).pure_mono (w2 e he p hpe) (fun _ _ h=>h) (fun _ _ _ _ h=>h)
rw [hρ] at hb
refine ⟨?_,(w5 b hb).2⟩
rcases (w5 b hb).1 with h | h
exact .inl (YX hbig h)
exact (hlt b h).2
rw [hρ] at hb
rcases (w5 b hb).1 with h | h
exact .inl h
exact .inr ⟨g,_,hob,h⟩
rw [hsl]
exact .row _ _ A n c (show x.G (s.ng,i)\/(s.ng,i)=(s.ng,i) from .inr rfl) (hρ.trans hsl)}
theorem Zu2 {f:FuncId} {es:Array Operand} {ts:Array TypeId} {post:Q3 PV} {t:Nat} {g:Gen} {E k:Nat} {els els':Q3 (Q3 PV)} (hw:Zh ops s o=some true) (ho:o.op = .call { callee:=.value (.func f),args:=es,argTypes:=ts })
  (he:es.toList.map (ev s) = .row t g::post) (hob:s.ob t=some (g,.row E k false els)) (hp:post.all PV.dryF=true) (hc:ContractS P f post E k els els'):OpR P ops i o s ⟨.row t (s.ng,i),[(t,some ((s.ng,i),.row E k false els'))]⟩:=.any hw fun s' r hA hI=>by
 rw [hA.ng]
 obtain ⟨e1,e2,_⟩:=OV ho hA
 refine Zw1 ho (by rw [e1,he]) ?_ hp hc hI
 rw [<- e2 (.row t g) (by rw [he];simp) t (by simp [IB,CP,C0,AC])]
 exact hob
end
section
variable {P:Program} [WInv P] {ops:Array Oper} {draw:Bool} {i:Nat} {L:Q3 Oper} {acc:Q3 (Q3 Nat×Q3 Nat)} {K:FS->Prop} {tm:Q3 (Nat×PV)} {ob:Q3 (Nat×Q2 (Gen×VObj))} {ng:Nat}
 {d:Q2 Tmp} {ty:TypeId} {pos:String} {after:Array Edge} {gd:Q2 (Nat×Bool)}
theorem lQ {f:FuncId} {es:Array Operand} {ts:Array TypeId} {post:Q3 PV} {t:Nat} {g:Gen} {E k:Nat} {els els':Q3 (Q3 PV)} (hc:ContractS P f post E k els els') (hw:Zh ops (mkS tm ob ng) ⟨d,.call ⟨.value (.func f),es,ts⟩,ty,pos,after,gd⟩=some true)
  (he:es.toList.map (evL tm) = .row t g::post) (hob:Zn ob t=some (g,.row E k false els)) (hp:post.all PV.dryF=true)
  (kk:GoL P ops draw (i+1) L (acc ++ [(ZE (mkS tm ob ng) ⟨d,.call ⟨.value (.func f),es,ts⟩,ty,pos,after,gd⟩,[t])]) (mkS (A6 d (.row t (ng,i)) tm) ((t,some ((ng,i),.row E k false els'))::ob) ng) K) :
  GoL P ops draw i (⟨d,.call ⟨.value (.func f),es,ts⟩,ty,pos,after,gd⟩::L) acc (mkS tm ob ng) K:=by
 refine CH (Zu2 hw rfl (by rw [AB];exact he) hob hp hc) ?_
 rw [CG]
 exact kk
end
def dD (P:Program) (rs:Q3 ResultVar) (E k:Nat) (els':Q3 (Q3 PV)):Ex->FS->Prop | .exit _,_=>False | _,s=>∃ g,BC P s rs=some [.row 0 g]/\s.ob 0=some (g,.row E k false els')
theorem PG {P:Program} {s:FS} {rs:Q3 ResultVar} {E k:Nat} {els':Q3 (Q3 PV)} {g:Gen} (h1:BC P s rs=some [.row 0 g]) (h3:s.ob 0=some (g,.row E k false els')):dD P rs E k els' .ret s:=⟨g,h1,h3⟩
section
variable {P:Program} [WInv P]
theorem lR (hmix:P.follows .mixedOrders=true) {f:FuncId} {fn:Func} {c:Code} {args:Q3 PV} {E k:Nat} {els els':Q3 (Q3 PV)} {e:Ex} {s1:FS} {g0:Gen}
  (hg:isGo P f=true) (hf:P.funcs[f]? = some fn) (hb:fn.body=some c) (hn:args.length+1<=fn.ntmps) (hok:B6 fn.ntmps c=true) (hrun:RunC P c (N8 args E k els) e s1) (he:e = .normal\/e = .ret)
  (hres:BC P s1 fn.results.toList=some [.row 0 g0]) (hob:s1.ob 0=some (g0,.row E k false els')):ContractS P f args E k els els':=by{
refine ⟨hg,fun x vs hpre hinv=>?_⟩
let r:Run:=⟨x.W,Dr x,(vs++Array.replicate (fn.ntmps-vs.size) undef).size,x.F,x.G,x.ρ,WInv.I P⟩
have hNr:r.N=fn.ntmps:=by
 have:=hpre.size
 simp [r]
 omega
have hX:RstX r (fun _=>False) (N8 args E k els) { tmps:=vs++Array.replicate (fn.ntmps-vs.size) undef,defers:=[] } x:=by
 refine ⟨rfl,rfl,Gr.refl _ _,fun g hg=>?_,fun t=>?_,fun t g o ho=>?_,fun t t' g g' o o' b hne h1 h2 hb1 hb2=>?_,hpre.flt,fun _ _ h=>h,fun _ _ h=>.inl h,fun _ h=>⟨h,rfl⟩,⟨hinv,hpre.gen⟩,fun _ _ _ _ h=>h⟩
 rw [hpre.gen g hg]
 exact .inl RV
 show Rep x ((PV.row 0 (0,0)::args).getD t (.tup [])) _
 rw [Ym,MJ,I1]
 by_cases ht:t<vs.size
 have hl:t<(PV.row 0 (0,0)::args).length:=by
  rw [Yr,hpre.size]
  exact ht
 rw [if_pos ht,Yc hl,Yu ht]
 exact hpre.rep t _ _ (Yc hl) (Yu ht)
 rw [if_neg ht,YZ (by rw [Yr,hpre.size];omega)]
 have:(Array.replicate (fn.ntmps-vs.size) undef)[t-vs.size]?.getD undef=undef:=by
  rw [OA]
  split<;>rfl
 rw [this]
 exact .tup [] #[] rfl (fun i p v hp=>by simp at hp)
 obtain ⟨rfl,rfl,rfl⟩:=PE ho
 exact hpre.ob
 exact absurd ((PE h1).1.trans (PE h2).1.symm) hne
refine calls_of_wp hf hb ?_
refine (OO hmix hrun).1 r _ x _ ⟨rfl,by rw [hNr];exact hok⟩ hX fun a' y hY=>?_
obtain ⟨ws,h1,h2,h3⟩:=MV hY fn.results.toList hres
have hstep:Step x y:=⟨fun g hg=>hY.rho g hg,fun b o hb=>hY.f0 b o hb,fun b o v hb hv=>hY.keep b o v hb hv⟩
have hend:(results fn a'.tmps).run P y.W = .ok (if ws.length=1 then ws.getD 0 undef else .tuple ws.toArray) y.W:=by
 have:(fn.results.mapM (FH a')).run P y.W = .ok ws.toArray y.W:=by
  rw [ME,KW,Sem.run_bind,h1]
  rfl
 have e:results fn a'.tmps=(fn.results.mapM (FH a') >>= fun vs=>pure (if h:vs.size=1 then vs[0] else .tuple vs)):=by
  unfold results
  congr 1
 rw [e,Sem.run_bind,this]
 simp only [Result.andThen_ok,Sem.run_pure]
 congr 1
 by_cases hl:ws.length=1
 simp [hl]
 simp [hl]
have hfin:∃ v,(results fn a'.tmps).run P y.W = .ok v y.W/\(fun e W'=>∃ y v,y.W=W'/\e=Ending.returned v/\PostS x y E k els' v) (Ending.returned v) y.W:=by
 refine ⟨_,hend,y,_,rfl,rfl,hstep,hY.gr,hY.fnew,hY.flt,g0,?_,(hY.ob 0 _ _ hob).2⟩
 rw [if_pos (by simpa using h2)]
 have h5:=h3 0 (.row 0 g0) rfl
 generalize ws.getD 0 undef=u at h5 ⊢
 cases h5 with
 | row _ _ A n c _ hvv=>exact hvv
rcases he with rfl | rfl
exact ⟨hY.defers,hfin⟩
exact ⟨hY.defers,hfin⟩}
theorem Zmt (hmix:P.follows .mixedOrders=true) {f:FuncId} {fn:Func} {c:Code} {args:Q3 PV} {E k:Nat} {els els':Q3 (Q3 PV)} (hf:P.funcs[f]? = some fn) (hg:isGo P f=true) (hb:fn.body=some c) (hok:(decide (args.length+1<=fn.ntmps)&&B6 fn.ntmps c)=true)
  (h:PWs P [c] (dD P fn.results.toList E k els') (mkS (C4 0 (.row 0 (0,0)::args)) [(0,some ((0,0),.row E k false els))] 1)):ContractS P f args E k els els':=by{
simp only [YH,YT] at hok
obtain ⟨e,s',h1,h2⟩:=IC h
have hsh:Shift (N8 args E k els) (mkS (C4 0 (.row 0 (0,0)::args)) [(0,some ((0,0),.row E k false els))] 1):=MW (fun t=>by
 rcases LC (PV.row 0 (0,0)::args) 0 t with h | ⟨_,h⟩
 exact .inl h
 exact .inr h) (fun t=>.inr rfl) (Yn _)
cases e with
| exit id=>exact h2.elim
| normal=>
  obtain ⟨g0,q1,q3⟩:=h2
  exact lR hmix hg hf hb hok.1 hok.2 (.shift hsh h1) (.inl rfl) q1 q3
| ret=>
  obtain ⟨g0,q1,q3⟩:=h2
  exact lR hmix hg hf hb hok.1 hok.2 (.shift hsh h1) (.inr rfl) q1 q3}
end
section
variable {P:Program} [WInv P] {α β γ:Type} {ops:Array Oper} {draw:Bool} {i:Nat} {L:Q3 Oper} {acc:Q3 (Q3 Nat×Q3 Nat)} {K:FS->Prop} {tm:Q3 (Nat×PV)} {ob:Q3 (Nat×Q2 (Gen×VObj))} {ng:Nat}
 {d:Q2 Tmp} {ty T:TypeId} {pos:String} {after:Array Edge} {gd:Q2 (Nat×Bool)} {x y:Operand} {r:γ} {q:β->Prop}
theorem aC {F:Q2 β} {G:β->Q2 γ} {R:β->PV} {f:FuncId} {es:Array Operand} {ts:Array TypeId} {args:Q3 PV} {us:Q3 (Nat×Q2 (Gen×VObj))} (hF:F.bind G=some r) (hc:∀ v,F=some v->Zg P f args (R v)) (k:∀ v,G v=some r->q v)
  (hw:Zh ops (mkS tm ob ng) ⟨d,.call ⟨.value (.func f),es,ts⟩,ty,pos,after,gd⟩=some true:=by exact rfl) (ha:AW (Zn ob) (es.toList.map (evL tm))=some (args,us):=by exact rfl)
  (h:∀ v,q v->GoL P ops draw (i+1) L (acc ++ [(ZE (mkS tm ob ng) ⟨d,.call ⟨.value (.func f),es,ts⟩,ty,pos,after,gd⟩,us.map (·.1))]) (mkS (A6 d (R v) tm) (us.reverse++ob) ng) K:=by
 (intro v k)
 (refine Zi ?_)
 (exact k)):GoL P ops draw i (⟨d,.call ⟨.value (.func f),es,ts⟩,ty,pos,after,gd⟩::L) acc (mkS tm ob ng) K:=by
 obtain ⟨v,hv,hG⟩:=bnd hF
 exact DU (hc v hv) hw ha (h v (k v hG))
theorem aL {F:Q2 β} {G:β->Q2 γ} {R:β->PV} {f:FuncId} {es:Array Operand} {ts:Array TypeId} {args:Q3 PV} (hF:F.bind G=some r) (hc:∀ v,F=some v->Zg P f args (R v)) (k:∀ v,G v=some r->q v)
  (hw:Zh ops (mkS tm ob ng) ⟨d,.call ⟨.value (.func f),es,ts⟩,ty,pos,after,gd⟩=some true:=by exact rfl) (ha:BK (frz (Zn ob)) (es.toList.map (evL tm))=some args:=by exact rfl) (hp:∀ v,(R v).dry=true:=by exact fun _=>rfl)
  (h:∀ v,q v->GoL P ops draw (i+1) L (acc ++ [(ZE (mkS tm ob ng) ⟨d,.call ⟨.value (.func f),es,ts⟩,ty,pos,after,gd⟩,[])]) (mkS (A6 d (R v) tm) ob ng) K:=by
 (intro v k)
 (refine Zi ?_)
 (exact k)):GoL P ops draw i (⟨d,.call ⟨.value (.func f),es,ts⟩,ty,pos,after,gd⟩::L) acc (mkS tm ob ng) K:=by
 obtain ⟨v,hv,hG⟩:=bnd hF
 exact N4 (hc v hv) hw ha (hp v) (h v (k v hG))
theorem aN {dd:Nat} {F:Q2 β} {G:β->Q2 γ} {O:β->VObj} {f:FuncId} {es:Array Operand} {ts:Array TypeId} {args:Q3 PV} {us:Q3 (Nat×Q2 (Gen×VObj))} (hF:F.bind G=some r) (hc:∀ v,F=some v->ContractN P f args (O v)) (k:∀ v,G v=some r->q v)
  (hw:Zh ops (mkS tm ob ng) ⟨some dd,.call ⟨.value (.func f),es,ts⟩,ty,pos,after,gd⟩=some true:=by exact rfl) (ha:AW (Zn ob) (es.toList.map (evL tm))=some (args,us):=by exact rfl)
  (h:∀ v,q v->GoL P ops draw (i+1) L (acc ++ [(ZE (mkS tm ob ng) ⟨some dd,.call ⟨.value (.func f),es,ts⟩,ty,pos,after,gd⟩,(us ++ [(dd,some ((ng,i),O v))]).map (·.1))])
   (mkS ((dd,JY (O v) dd (ng,i))::tm) ((us ++ [(dd,some ((ng,i),O v))]).reverse++ob) ng) K:=by
 (intro v k)
 (refine Zi ?_)
 (exact k)):GoL P ops draw i (⟨some dd,.call ⟨.value (.func f),es,ts⟩,ty,pos,after,gd⟩::L) acc (mkS tm ob ng) K:=by
 obtain ⟨v,hv,hG⟩:=bnd hF
 exact wR (hc v hv) hw ha (h v (k v hG))
theorem aO {F:Q2 β} {G:β->Q2 γ} {R:β->PV} {O:β->Q3 PV} {f:FuncId} {es:Array Operand} {ts:Array TypeId} {post post':Q3 PV} {t:Nat} {g:Gen} {cs qs:Q3 PV} {us2 us3:Q3 (Nat×Q2 (Gen×VObj))} (hF:F.bind G=some r)
  (hc:∀ v,F=some v->Contract P f (.ptr 0 (0,0) 0::post') (some (0,qs)) (R v) (O v)) (k:∀ v,G v=some r->q v) (hw:Zh ops (mkS tm ob ng) ⟨d,.call ⟨.value (.func f),es,ts⟩,ty,pos,after,gd⟩=some true:=by exact rfl)
  (he:es.toList.map (evL tm) = .ptr t g 0::post:=by exact rfl) (hob:A8 (Zn ob) t g=some (.box cs):=by exact rfl) (h2:AI (Zn ob) cs=some (qs,us2):=by exact rfl) (h3:AW (Zn ob) post=some (post',us3):=by exact rfl)
  (h:∀ v,q v->GoL P ops draw (i+1) L (acc ++ [(ZE (mkS tm ob ng) ⟨d,.call ⟨.value (.func f),es,ts⟩,ty,pos,after,gd⟩,(us2++us3 ++ [(t,some (g,VObj.box (O v)))]).map (·.1))])
   (mkS (A6 d (R v) tm) ((us2++us3 ++ [(t,some (g,VObj.box (O v)))]).reverse++ob) ng) K:=by
 (intro v k)
 (refine Zi ?_)
 (exact k)):GoL P ops draw i (⟨d,.call ⟨.value (.func f),es,ts⟩,ty,pos,after,gd⟩::L) acc (mkS tm ob ng) K:=by
 obtain ⟨v,hv,hG⟩:=bnd hF
 exact E7 (hc v hv) hw he hob h2 h3 (h v (k v hG))
theorem aI (f:β->Q3 PV) {M:Q3 β} {n:Int} {G:β->Q2 γ} {E kk by_:Nat} {z:Q3 PV} [Sl P T E kk by_ z] {kd:IntKind} (hF:(atI M n).bind G=some r) (k:∀ v,G v=some r->q v)
  (hw:Zh ops (mkS tm ob ng) ⟨d,.indexAddr T x y,ty,pos,after,gd⟩=some true:=by exact rfl) (hx:evL tm x = .sl (M.map f):=by exact rfl) (hy:evL tm y = .int kd n:=by exact rfl) (hl:∀ e,(f e).length=kk:=by exact fun _=>rfl)
  (h:∀ e,q e->GoL P ops draw (i+1) L (acc ++ [(ZE (mkS tm ob ng) ⟨d,.indexAddr T x y,ty,pos,after,gd⟩,[])]) (mkS (A6 d (.cel (f e)) tm) ob ng) K:=by
 (intro v k)
 (refine Zi ?_)
 (exact k)):GoL P ops draw i (⟨d,.indexAddr T x y,ty,pos,after,gd⟩::L) acc (mkS tm ob ng) K:=by
 obtain ⟨v,hv,hG⟩:=bnd hF
 exact xQ hw hv hx hy (hl v) (h v (k v hG))
theorem aS {a:Q1} {n:Int} {G:Int->Q2 γ} {q:Int->Prop} {kd:IntKind} (hF:(atS a n).bind G=some r) (k:∀ v,G v=some r->q v) [hT:StrT P T]
  (hw:Zh ops (mkS tm ob ng) ⟨d,.index T x y,ty,pos,after,gd⟩=some true:=by exact rfl) (hx:evL tm x = .str a:=by exact rfl) (hy:evL tm y = .int kd n:=by exact rfl)
  (h:∀ c,q c->GoL P ops draw (i+1) L (acc ++ [(ZE (mkS tm ob ng) ⟨d,.index T x y,ty,pos,after,gd⟩,[])]) (mkS (A6 d (.int .u8 c) tm) ob ng) K:=by
 (intro v k)
 (refine Zi ?_)
 (exact k)):GoL P ops draw i (⟨d,.index T x y,ty,pos,after,gd⟩::L) acc (mkS tm ob ng) K:=by
 obtain ⟨v,hv,hG⟩:=bnd hF
 exact xS StrT.eq hw hv hx hy (h v (k v hG))
theorem sS {a:Q1} {l m:Int} {G:Q1->Q2 γ} {q:Q1->Prop} {lo hi:Q2 Operand} (hF:(AJ a l m).bind G=some r) (k:∀ v,G v=some r->q v) [hT:StrT P T]
  (hw:Zh ops (mkS tm ob ng) ⟨d,.slice T x lo hi none,ty,pos,after,gd⟩=some true:=by exact rfl) (hx:evL tm x = .str a:=by exact rfl) (hlo:loI tm lo=some l:=by exact rfl) (hhi:hiI tm a.size hi=some m:=by exact rfl)
  (h:∀ b,q b->GoL P ops draw (i+1) L (acc ++ [(ZE (mkS tm ob ng) ⟨d,.slice T x lo hi none,ty,pos,after,gd⟩,[])]) (mkS (A6 d (.str b) tm) ob ng) K:=by
 (intro v k)
 (refine Zi ?_)
 (exact k)):GoL P ops draw i (⟨d,.slice T x lo hi none,ty,pos,after,gd⟩::L) acc (mkS tm ob ng) K:=by
 obtain ⟨v,hv,hG⟩:=bnd hF
 exact jV StrT.eq hw hv hx hlo hhi (h v (k v hG))
theorem sT {a b:Q1} {G:Q1->Q2 γ} {q:Q1->Prop} {T':TypeId} (hF:(A7 a b).bind G=some r) (k:∀ v,G v=some r->q v)
  (hw:Zh ops (mkS tm ob ng) ⟨d,.binOp .add T x y T',ty,pos,after,gd⟩=some true:=by exact rfl) (hx:evL tm x = .str a:=by exact rfl) (hy:evL tm y = .str b:=by exact rfl)
  (h:∀ c,q c->GoL P ops draw (i+1) L (acc ++ [(ZE (mkS tm ob ng) ⟨d,.binOp .add T x y T',ty,pos,after,gd⟩,[])]) (mkS (A6 d (.str c) tm) ob ng) K:=by
 (intro v k)
 (refine Zi ?_)
 (exact k)):GoL P ops draw i (⟨d,.binOp .add T x y T',ty,pos,after,gd⟩::L) acc (mkS tm ob ng) K:=by
 obtain ⟨v,hv,hG⟩:=bnd hF
 exact VS hw hv hx hy (h v (k v hG))
theorem pR (f:β->Q3 PV) {dd:Nat} {E kk by_:Nat} {z:Q3 PV} [Sl P T E kk by_ z] {M0 M:Q3 β} {G:Q3 β->Q2 γ} {q:Q3 β->Prop} {t:Nat} {g:Gen} {sh:Bool} {new:Q3 (Q3 PV)} (hF:(AA by_ M0 M).bind G=some r) (k:∀ v,G v=some r->q v)
  (hw:Zh ops (mkS tm ob ng) ⟨some dd,.call ⟨.builtin .append,#[x,y],#[T,T]⟩,ty,pos,after,gd⟩=some true:=by exact rfl) (hf:∀ x,(f x).length=kk:=by exact fun _=>rfl) (hx:evL tm x = .row t g:=by exact rfl) (ho:A8 (Zn ob) t g=some (.row E kk sh (M0.map f)):=by exact rfl) (hy:BT (Zn ob) (evL tm y)=some new:=by exact rfl) (hm:new=M.map f:=by exact rfl)
  (h:∀ R,q R->GoL P ops draw (i+1) L (acc ++ [(ZE (mkS tm ob ng) ⟨some dd,.call ⟨.builtin .append,#[x,y],#[T,T]⟩,ty,pos,after,gd⟩,[t])]) (mkS ((dd,.row t (ng,i))::tm) ((t,some ((ng,i),.row E kk sh (R.map f)))::ob) ng) K:=by
 (intro v k)
 (refine Zi ?_)
 (exact k)):GoL P ops draw i (⟨some dd,.call ⟨.builtin .append,#[x,y],#[T,T]⟩,ty,pos,after,gd⟩::L) acc (mkS tm ob ng) K:=by
 obtain ⟨v,hv,hG⟩:=bnd hF
 exact xT hw hv hf hx ho hy hm (h v (k v hG))
theorem sM (f:β->Q3 PV) {E kk by_:Nat} {z:Q3 PV} [Sl P T E kk by_ z] {lo hi:Q2 Operand} {M:Q3 β} {l m:Int} {G:Q3 β->Q2 γ} {q:Q3 β->Prop} {us:Q3 (Nat×Q2 (Gen×VObj))} (hF:(CJ M l m).bind G=some r) (k:∀ v,G v=some r->q v)
  (hw:Zh ops (mkS tm ob ng) ⟨d,.slice T x lo hi none,ty,pos,after,gd⟩=some true:=by exact rfl) (hf:∀ x,(f x).length=kk:=by exact fun _=>rfl) (hx:BT (Zn ob) (evL tm x)=some (M.map f):=by exact rfl) (hlo:loI tm lo=some l:=by exact rfl) (hhi:hiI tm M.length hi=some m:=by exact rfl) (hus:IW (Zn ob) (evL tm x)=us:=by exact rfl)
  (h:∀ R,q R->GoL P ops draw (i+1) L (acc ++ [(ZE (mkS tm ob ng) ⟨d,.slice T x lo hi none,ty,pos,after,gd⟩,us.map (·.1))]) (mkS (A6 d (.sl (R.map f)) tm) (us.reverse++ob) ng) K:=by
 (intro v k)
 (refine Zi ?_)
 (exact k)):GoL P ops draw i (⟨d,.slice T x lo hi none,ty,pos,after,gd⟩::L) acc (mkS tm ob ng) K:=by
 obtain ⟨v,hv,hG⟩:=bnd hF
 exact xR hw hv hf hx hlo hhi hus (h v (k v hG))
theorem lM (f:β->Q3 PV) (M:Q3 β) {E kk by_:Nat} {z:Q3 PV} [Sl P T E kk by_ z] {q:Prop} (k:q)
  (hw:Zh ops (mkS tm ob ng) ⟨d,.call ⟨.builtin .len,#[x],#[T]⟩,ty,pos,after,gd⟩=some true:=by exact rfl) (hx:BT (Zn ob) (evL tm x)=some (M.map f):=by exact rfl)
  (h:q->GoL P ops draw (i+1) L (acc ++ [(ZE (mkS tm ob ng) ⟨d,.call ⟨.builtin .len,#[x],#[T]⟩,ty,pos,after,gd⟩,[])]) (mkS (A6 d (.int .i64 (M.length:Int)) tm) ob ng) K:=by
 (intro k)
 (refine Zi ?_)
 (exact k)):GoL P ops draw i (⟨d,.call ⟨.builtin .len,#[x],#[T]⟩,ty,pos,after,gd⟩::L) acc (mkS tm ob ng) K:=xP hw hx (h k)
theorem bM (f:β->Q3 PV) (M:Q3 β) {dd:Nat} {E kk by_:Nat} {z:Q3 PV} [Sl P T E kk by_ z] {n:Nat} {parts:Array (Nat×Operand)} {q:Prop} {cs qs:Q3 PV} {us:Q3 (Nat×Q2 (Gen×VObj))} (k:q)
  (hw:Zh ops (mkS tm ob ng) ⟨some dd,.buildSlice T n parts,ty,pos,after,gd⟩=some true:=by exact rfl) (hf:C5 (fun i=>some (i * kk,kk)) (List.replicate n z).flatten (evs tm parts.toList)=some cs:=by exact rfl) (hr:AI (Zn ob) cs=some (qs,us):=by exact rfl) (hl:qs.length=n * kk:=by exact rfl) (hm:n * kk<=16777216:=by exact (Yk rfl)) (hc:chunks kk n qs=M.map f:=by exact rfl)
  (h:q->GoL P ops draw (i+1) L (acc ++ [(ZE (mkS tm ob ng) ⟨some dd,.buildSlice T n parts,ty,pos,after,gd⟩,us.map (·.1) ++ [dd])]) (mkS ((dd,.row dd (ng,i))::tm) ((dd,some ((ng,i),.row E kk false (M.map f)))::(us.reverse++ob)) ng) K:=by
 (intro k)
 (refine Zi ?_)
 (exact k)):GoL P ops draw i (⟨some dd,.buildSlice T n parts,ty,pos,after,gd⟩::L) acc (mkS tm ob ng) K:=CR M hw hf hr hl hm hc (h k)
end
open Go.RowKit
def H7 {α:Type} (l:Q3 α) (q:Int):Q2 Unit:=if 0<=q/\q<=(l.length:Int) then some () else none
def atQ {α:Type} (l:Q3 α) (q i:Int):Q2 α:=if 0<=q/\0<=i then atI l (q+i) else none
def PH {α:Type} (l:Q3 α) (q:Int):Int:=((l.length-q.toNat:Nat):Int)
def NA {α:Type} (l:Q3 α) (q:Int) (z:α):Q3 α:=l.take q.toNat++List.replicate (l.length-q.toNat) z
theorem NB {α:Type} {l:Q3 α} {q i:Int} {e:α} (h:atQ l q i=some e):atI l (q+i)=some e:=by{
unfold atQ at h
split at h
exact h
cases h}
section
variable {P:Program} [WInv P] {ops:Array Oper} {draw:Bool} {i:Nat} {L:Q3 Oper} {acc:Q3 (Q3 Nat×Q3 Nat)} {K:FS->Prop} {tm:Q3 (Nat×PV)} {ob:Q3 (Nat×Q2 (Gen×VObj))} {ng:Nat}
 {d:Q2 Tmp} {ty:TypeId} {pos:String} {after:Array Edge} {gd:Q2 (Nat×Bool)} {T:TypeId} {x y:Operand} {E kk by_:Nat} {z:Q3 PV} {t:Nat} {g:Gen} {α:Type} {f:α->Q3 PV}
theorem WK {w:Operand} {kd:IntKind} {q:Int} {E':Nat} {sh:Bool} {u:Unit} {M:Q3 α} [Sl P T E kk by_ z] (hw:Zh ops (mkS tm ob ng) ⟨d,.slice T x (some w) none none,ty,pos,after,gd⟩=some true) (hs:H7 M q=some u) (hx:evL tm x = .row t g) (hb:A8 (Zn ob) t g=some (.row E' kk sh (M.map f))) (hy:evL tm w = .int kd q)
  (k:GoL P ops draw (i+1) L (acc ++ [(ZE (mkS tm ob ng) ⟨d,.slice T x (some w) none none,ty,pos,after,gd⟩,[])]) (mkS (A6 d (.suf t g q.toNat kk) tm) ob ng) K):GoL P ops draw i (⟨d,.slice T x (some w) none none,ty,pos,after,gd⟩::L) acc (mkS tm ob ng) K:=by{
unfold H7 at hs
split at hs
rename_i hc
exact ZzK (n:=q.toNat) hw hx hb (by rw [hy,RN hc.1]) (by rw [Yv];omega) k
cases hs}
theorem lS {q:Int} {k' E':Nat} {sh:Bool} {M:Q3 α} [Sl P T E kk by_ z] (hw:Zh ops (mkS tm ob ng) ⟨d,.call ⟨.builtin .len,#[x],#[T]⟩,ty,pos,after,gd⟩=some true) (hx:evL tm x = .suf t g q.toNat k') (hb:A8 (Zn ob) t g=some (.row E' k' sh (M.map f)))
  (k:GoL P ops draw (i+1) L (acc ++ [(ZE (mkS tm ob ng) ⟨d,.call ⟨.builtin .len,#[x],#[T]⟩,ty,pos,after,gd⟩,[])]) (mkS (A6 d (.int .i64 (PH M q)) tm) ob ng) K):GoL P ops draw i (⟨d,.call ⟨.builtin .len,#[x],#[T]⟩,ty,pos,after,gd⟩::L) acc (mkS tm ob ng) K:=
 ZzL hw hx hb (by rw [Yv];rfl) k
theorem PI {E':Nat} {sh:Bool} {kd:IntKind} {q n:Int} {M:Q3 α} {e:α} [Sl P T E kk by_ z] (hw:Zh ops (mkS tm ob ng) ⟨d,.indexAddr T x y,ty,pos,after,gd⟩=some true) (he:atQ M q n=some e) (hx:evL tm x = .suf t g q.toNat kk) (hb:A8 (Zn ob) t g=some (.row E' kk sh (M.map f))) (hy:evL tm y = .int kd n)
  (k:GoL P ops draw (i+1) L (acc ++ [(ZE (mkS tm ob ng) ⟨d,.indexAddr T x y,ty,pos,after,gd⟩,[])]) (mkS (A6 d (.elp t g (q+n).toNat kk 0) tm) ob ng) K):GoL P ops draw i (⟨d,.indexAddr T x y,ty,pos,after,gd⟩::L) acc (mkS tm ob ng) K:=by{
have h2:=(P2 (NB he)).2
unfold atQ at he
split at he
rename_i hc
exact ZwG (n:=n.toNat) hw hx hb (by rw [hy,RN hc.2]) (by omega) (by rw [Yv];exact (Yd.1 h2).1) k
cases he}
theorem lT {q:Int} {E':Nat} {zr:α} {M:Q3 α} [Sl P T E kk by_ z] (hw:Zh ops (mkS tm ob ng) ⟨d,.call ⟨.builtin .clear,#[x],#[T]⟩,ty,pos,after,gd⟩=some true) (hx:evL tm x = .suf t g q.toNat kk) (hb:A8 (Zn ob) t g=some (.row E' kk false (M.map f))) (hz:z.map dn=f zr) (hp:(f zr).all PV.pure=true)
  (k:GoL P ops draw (i+1) L (acc ++ [(ZE (mkS tm ob ng) ⟨d,.call ⟨.builtin .clear,#[x],#[T]⟩,ty,pos,after,gd⟩,[t])]) (mkS (A6 d (.tup []) tm) ((t,some (g,.row E' kk false ((NA M q zr).map f)))::ob) ng) K):GoL P ops draw i (⟨d,.call ⟨.builtin .clear,#[x],#[T]⟩,ty,pos,after,gd⟩::L) acc (mkS tm ob ng) K:=
 ZwI hw hx hb hz hp (by unfold NA;rw [YR,List.map_take,List.map_replicate,Yv]) k
theorem lW {w:Operand} {E':Nat} {kd:IntKind} {h:Int} {M R:Q3 α} [Sl P T E kk by_ z] (hw:Zh ops (mkS tm ob ng) ⟨d,.slice T x none (some w) none,ty,pos,after,gd⟩=some true) (hs:CJ M 0 h=some R) (hx:evL tm x = .row t g) (hb:A8 (Zn ob) t g=some (.row E' kk false (M.map f))) (hy:evL tm w = .int kd h)
  (k:GoL P ops draw (i+1) L (acc ++ [(ZE (mkS tm ob ng) ⟨d,.slice T x none (some w) none,ty,pos,after,gd⟩,[t])]) (mkS (A6 d (.row t (ng,i)) tm) ((t,some ((ng,i),.row E' kk false (R.map f)))::ob) ng) K):GoL P ops draw i (⟨d,.slice T x none (some w) none,ty,pos,after,gd⟩::L) acc (mkS tm ob ng) K:=by{
obtain ⟨h0,h1,h2,rfl⟩:=jS hs
refine ZwH (n:=h.toNat) hw hx hb (by rw [hy,RN h1]) (by rw [Yv];omega) (?_:_=_) k
rw [<- List.map_take]
rfl}
end
theorem lZ {P:Program} [WInv P] {β:Type} {F:Q2 β} {O:β->Q3 (Q3 PV)} {f:FuncId} {fn:Func} {c:Code} {args:Q3 PV} {E k:Nat} {els:Q3 (Q3 PV)} {r:β} (hF:F=some r) (hmix:P.follows .mixedOrders=true) (hf:P.funcs[f]? = some fn) (hg:isGo P f=true) (hb:fn.body=some c) (hok:(decide (args.length+1<=fn.ntmps)&&B6 fn.ntmps c)=true)
  (h:∀ r,F=some r->PWs P [c] (dD P fn.results.toList E k (O r)) (mkS (C4 0 (.row 0 (0,0)::args)) [(0,some ((0,0),.row E k false els))] 1)):ContractS P f args E k els (O r):=Zmt hmix hf hg hb hok (h r hF)
end VL
end Go.Proofs.YtmgfammllddkhaaGreatDoor
