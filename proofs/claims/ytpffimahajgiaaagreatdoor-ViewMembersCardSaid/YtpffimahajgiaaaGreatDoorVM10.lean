/- Functions of the program as Lean functions. Written by fxgen.py. | Strings as lists of bytes. | The tape's texts: they are made, and not long. | Names of users and groups. | The reference's Has, BuiltIn, exists; the program's builtIn. | IsName and Has of the reference, as the others are written. -/
import Derived.Test.YtpffimahajgiaaaGreatDoorVM09
import Derived.Test.YtpffimahajgiaaaGreatDoorVM05
import Derived.Test.YtpffimahajgiaaaGreatDoorVM04
import Derived.Test.YtpffimahajgiaaaGreatDoorVM06
import Derived.Test.YtpffimahajgiaaaGreatDoorVM03
import Derived.Test.YtpffimahajgiaaaGreatDoorVM02
set_option linter.unusedVariables false
set_option maxHeartbeats 4000000
set_option maxRecDepth 100000
namespace Go.Proofs.YtpffimahajgiaaaGreatDoor
open VL
def Zrp (p0:List Int):Option TapeF:=(some (⟨p0,0⟩:TapeF):Option TapeF)
theorem Ztr (p0:List Int) (r:TapeF) (h:Zrp p0=some r):ContractN Tryz.prog 7 [.sl (List.map csI p0)] (.box r.cs):=by{
refine ZnK (O:=fun r=>.box r.cs) h mix Tryz.func7 (by kernel_rfl) rfl (by kernel_rfl) fun r h=>?_
unfold Zrp at h
refine Zn ?_
refine rg ?_
refine rg ?_
injection h with h
subst h
exact ZvK (t:=5) (g:=(2,2)) (o2:=.box [.sl (List.map csI p0),.int .i64 0]) rfl rfl rfl}
def ZL (p0:TapeF) (p1:Int):Option (Int×TapeF):=if (decide ((p0.l.length:Int)<=p0.pos)) then (some (0,p0):Option (Int×TapeF)) else (atI p0.l p0.pos).bind fun e1=>(ZvX .i64 (Zwj .and .i64 e1 16777215) p1).bind fun q2=>(some (q2,(⟨p0.l,(w64 (p0.pos+1))⟩:TapeF)):Option (Int×TapeF))
theorem ZI (p0:TapeF) (p1:Int) (r:Int×TapeF) (h:ZL p0 p1=some r):Contract Tryz.prog 23 [.ptr 0 (0,0) 0,.int .i64 p1] (some (0,p0.cs)) (.int .i64 r.1) (r.2).cs:=by{
refine Zbb (R:=fun r=>.int .i64 r.1) (O:=fun r=>(r.2).cs) h mix Tryz.func23 (by kernel_rfl) rfl (by kernel_rfl) fun r h=>?_
unfold ZL at h
refine Zn ?_
refine rg ?_
refine rg ?_
refine lM csI p0.l ?_
refine cS h rfl (fun h=>?_) fun h=>?_
refine rg ?_
cases h
exact Za5 rfl rfl rfl rfl rfl
refine rg ?_
refine aI csI h fun e1 h=>?_
refine rg ?_
refine rg ?_
obtain ⟨q2,h2,h⟩:=bnd h
refine Zv3 rfl h2 rfl rfl (Zn ?_)
cases h
exact Za5 rfl rfl rfl rfl rfl}
def Zy (p0:TapeF) (p1:List ByteArray):Option (ByteArray×TapeF):=(ZL p0 (p1.length:Int)).bind fun r1=>(atI p1 r1.1).bind fun e2=>some (e2,r1.2)
theorem Zx (p0:TapeF) (p1:List ByteArray) (r:ByteArray×TapeF) (h:Zy p0 p1=some r):Contract Tryz.prog 15 [.ptr 0 (0,0) 0,.sl (List.map csS p1)] (some (0,p0.cs)) (.str r.1) (r.2).cs:=by{
refine Zbb (R:=fun r=>.str r.1) (O:=fun r=>(r.2).cs) h mix Tryz.func15 (by kernel_rfl) rfl (by kernel_rfl) fun r h=>?_
unfold Zy at h
refine Zn ?_
refine rg ?_
refine rg ?_
refine lM csS p1 ?_
refine aO h (ZI _ _) fun r1 h=>?_
refine aI csS h fun e2 h=>?_
cases h
exact Za5 rfl rfl rfl rfl rfl}
def ZbN (p0:TapeF):Option (ByteArray×TapeF):=(Zy p0 [(⟨#[97]⟩:ByteArray),(⟨#[120,32,121]⟩:ByteArray),(⟨#[49,50]⟩:ByteArray),(⟨#[]⟩:ByteArray),(⟨#[98]⟩:ByteArray),(⟨#[48]⟩:ByteArray),(⟨#[45,51]⟩:ByteArray),(⟨#[65,98]⟩:ByteArray),(⟨#[32]⟩:ByteArray),(⟨#[122]⟩:ByteArray)]).bind fun r1=>some (r1.1,r1.2)
theorem Zdt (p0:TapeF) (r:ByteArray×TapeF) (h:ZbN p0=some r):Contract Tryz.prog 176 [.ptr 0 (0,0) 0] (some (0,p0.cs)) (.str r.1) (r.2).cs:=by{
refine Zbb (R:=fun r=>.str r.1) (O:=fun r=>(r.2).cs) h mix Tryz.func176 (by kernel_rfl) rfl (by kernel_rfl) fun r h=>?_
unfold ZbN at h
refine Zn ?_
refine rg ?_
refine rg ?_
refine Zdb ([(⟨#[97]⟩:ByteArray),(⟨#[120,32,121]⟩:ByteArray),(⟨#[49,50]⟩:ByteArray),(⟨#[]⟩:ByteArray),(⟨#[98]⟩:ByteArray),(⟨#[48]⟩:ByteArray),(⟨#[45,51]⟩:ByteArray),(⟨#[65,98]⟩:ByteArray),(⟨#[32]⟩:ByteArray),(⟨#[122]⟩:ByteArray)]:List ByteArray) rfl rfl rfl rfl (by decide) (Zn ?_)
refine aO h (Zx _ _) fun r1 h=>?_
cases h
exact Za5 rfl rfl rfl rfl rfl}
def ZP:Nat->TapeF->Int->Option (ByteArray×TapeF) | 0,_,_=>none | mF+1,p0,p1=>if (decide (p1<=0)) then (ZbN p0).bind fun r2=>some (r2.1,r2.2) else (ZL p0 24).bind fun r3=>if (decide (r3.1=0)) then (Zy r3.2 [(⟨#[84]⟩:ByteArray),(⟨#[85,47,120]⟩:ByteArray),(⟨#[58,65]⟩:ByteArray),(⟨#[58,66]⟩:ByteArray),(⟨#[58,67]⟩:ByteArray),(⟨#[47,120]⟩:ByteArray),(⟨#[65]⟩:ByteArray),(⟨#[66]⟩:ByteArray),(⟨#[58,84,97,108,107,58,65]⟩:ByteArray),(⟨#[88]⟩:ByteArray)]).bind fun r110=>(Zbs (⟨#[123,123]⟩:ByteArray) r110.1).bind fun s111=>(Zbs s111 (⟨#[124]⟩:ByteArray)).bind fun s112=>(ZP mF r110.2 (w64 (p1-1))).bind fun r113=>(Zbs s112 r113.1).bind fun s114=>(Zbs s114 (⟨#[124]⟩:ByteArray)).bind fun s115=>(Zy r113.2 [(⟨#[107]⟩:ByteArray),(⟨#[49]⟩:ByteArray),(⟨#[110]⟩:ByteArray)]).bind fun r116=>(Zbs s115 r116.1).bind fun s117=>(Zbs s117 (⟨#[61]⟩:ByteArray)).bind fun s118=>(ZP mF r116.2 (w64 (p1-1))).bind fun r119=>(Zbs s118 r119.1).bind fun s120=>(Zbs s120 (⟨#[125,125]⟩:ByteArray)).bind fun s121=>some (s121,r119.2) else if (decide (r3.1=1)) then (Zy r3.2 [(⟨#[84]⟩:ByteArray),(⟨#[65]⟩:ByteArray),(⟨#[66]⟩:ByteArray),(⟨#[58,65]⟩:ByteArray),(⟨#[58,65,47,66]⟩:ByteArray)]).bind fun r122=>(Zbs (⟨#[123,123]⟩:ByteArray) r122.1).bind fun s123=>(Zbs s123 (⟨#[125,125]⟩:ByteArray)).bind fun s124=>some (s124,r122.2) else if (decide (r3.1=2)) then (Zy r3.2 [(⟨#[49]⟩:ByteArray),(⟨#[107]⟩:ByteArray),(⟨#[110]⟩:ByteArray),(⟨#[105]⟩:ByteArray),(⟨#[120]⟩:ByteArray)]).bind fun r125=>(Zbs (⟨#[123,123,123]⟩:ByteArray) r125.1).bind fun s126=>(Zy r125.2 [(⟨#[]⟩:ByteArray),(⟨#[124]⟩:ByteArray),(⟨#[124,100]⟩:ByteArray)]).bind fun r127=>(Zbs s126 r127.1).bind fun s128=>(Zbs s128 (⟨#[125,125,125]⟩:ByteArray)).bind fun s129=>some (s129,r127.2) else if (decide (r3.1=3)) then (ZP mF r3.2 (w64 (p1-1))).bind fun r130=>(Zbs (⟨#[123,123,35,105,102,58]⟩:ByteArray) r130.1).bind fun s131=>(Zbs s131 (⟨#[124]⟩:ByteArray)).bind fun s132=>(ZP mF r130.2 (w64 (p1-1))).bind fun r133=>(Zbs s132 r133.1).bind fun s134=>(Zbs s134 (⟨#[124]⟩:ByteArray)).bind fun s135=>(ZP mF r133.2 (w64 (p1-1))).bind fun r136=>(Zbs s135 r136.1).bind fun s137=>(Zbs s137 (⟨#[125,125]⟩:ByteArray)).bind fun s138=>some (s138,r136.2) else if (decide (r3.1=4)) then (ZP mF r3.2 (w64 (p1-1))).bind fun r139=>(Zbs (⟨#[123,123,35,105,102,101,113,58]⟩:ByteArray) r139.1).bind fun s140=>(Zbs s140 (⟨#[124]⟩:ByteArray)).bind fun s141=>(ZP mF r139.2 (w64 (p1-1))).bind fun r142=>(Zbs s141 r142.1).bind fun s143=>(Zbs s143 (⟨#[124,121,101,115,124]⟩:ByteArray)).bind fun s144=>(ZP mF r142.2 (w64 (p1-1))).bind fun r145=>(Zbs s144 r145.1).bind fun s146=>(Zbs s146 (⟨#[125,125]⟩:ByteArray)).bind fun s147=>some (s147,r145.2) else if (decide (r3.1=5)) then (ZbN r3.2).bind fun r148=>(Zbs (⟨#[123,123,35,115,119,105,116,99,104,58]⟩:ByteArray) r148.1).bind fun s149=>(Zbs s149 (⟨#[124,97,61,49,124,98,124,49,50,61]⟩:ByteArray)).bind fun s150=>(ZP mF r148.2 (w64 (p1-1))).bind fun r151=>(Zbs s150 r151.1).bind fun s152=>(Zbs s152 (⟨#[124,35,100,101,102,97,117,108,116,61,100,124]⟩:ByteArray)).bind fun s153=>(Zy r151.2 [(⟨#[122,61,50]⟩:ByteArray),(⟨#[108,97,115,116]⟩:ByteArray)]).bind fun r154=>(Zbs s153 r154.1).bind fun s155=>(Zbs s155 (⟨#[125,125]⟩:ByteArray)).bind fun s156=>some (s156,r154.2) else if (decide (r3.1=6)) then (Zy r3.2 [(⟨#[65]⟩:ByteArray),(⟨#[66]⟩:ByteArray),(⟨#[84,101,109,112,108,97,116,101,58,84]⟩:ByteArray),(⟨#[67]⟩:ByteArray),(⟨#[91]⟩:ByteArray),(⟨#[84,97,108,107,58,65]⟩:ByteArray)]).bind fun r157=>(Zbs (⟨#[123,123,35,105,102,101,120,105,115,116,58]⟩:ByteArray) r157.1).bind fun s158=>(Zbs s158 (⟨#[124]⟩:ByteArray)).bind fun s159=>(ZP mF r157.2 (w64 (p1-1))).bind fun r160=>(Zbs s159 r160.1).bind fun s161=>(Zbs s161 (⟨#[124,110,111,125,125]⟩:ByteArray)).bind fun s162=>some (s162,r160.2) else if (decide (r3.1=7)) then (Zy r3.2 [(⟨#[49,44,50,44,51]⟩:ByteArray),(⟨#[97,44,98]⟩:ByteArray),(⟨#[]⟩:ByteArray),(⟨#[120]⟩:ByteArray)]).bind fun r163=>(Zbs (⟨#[123,123,35,102,111,114,58]⟩:ByteArray) r163.1).bind fun s164=>(Zbs s164 (⟨#[124,124,105,124]⟩:ByteArray)).bind fun s165=>(ZP mF r163.2 (w64 (p1-1))).bind fun r166=>(Zbs s165 r166.1).bind fun s167=>(Zbs s167 (⟨#[123,123,123,105,125,125,125,124,44,32,125,125]⟩:ByteArray)).bind fun s168=>some (s168,r166.2) else if (decide (r3.1=8)) then (Zy r3.2 [(⟨#[89]⟩:ByteArray),(⟨#[70,32,89]⟩:ByteArray),(⟨#[106,46,110,46]⟩:ByteArray),(⟨#[72]⟩:ByteArray),(⟨#[72,58,105]⟩:ByteArray),(⟨#[78]⟩:ByteArray),(⟨#[92,89]⟩:ByteArray)]).bind fun r169=>(Zbs (⟨#[123,123,35,100,97,116,101,58]⟩:ByteArray) r169.1).bind fun s170=>(Zbs s170 (⟨#[125,125]⟩:ByteArray)).bind fun s171=>some (s171,r169.2) else if (decide (r3.1=9)) then (Zy r3.2 [(⟨#[88]⟩:ByteArray),(⟨#[65]⟩:ByteArray),(⟨#[66]⟩:ByteArray)]).bind fun r172=>(Zbs (⟨#[123,123,35,99,111,117,110,116,58]⟩:ByteArray) r172.1).bind fun s173=>(Zbs s173 (⟨#[125,125]⟩:ByteArray)).bind fun s174=>some (s174,r172.2) else if (decide (r3.1=10)) then (Zy r3.2 [(⟨#[88]⟩:ByteArray),(⟨#[65]⟩:ByteArray),(⟨#[]⟩:ByteArray)]).bind fun r175=>(Zbs (⟨#[123,123,35,109,101,109,98,101,114,115,58]⟩:ByteArray) r175.1).bind fun s176=>(Zbs s176 (⟨#[125,125]⟩:ByteArray)).bind fun s177=>some (s177,r175.2) else if (decide (r3.1=11)) then (Zy r3.2 [(⟨#[114,101,97,100]⟩:ByteArray),(⟨#[101,100,105,116]⟩:ByteArray),(⟨#[120]⟩:ByteArray)]).bind fun r178=>(Zbs (⟨#[123,123,35,114,105,103,104,116,58]⟩:ByteArray) r178.1).bind fun s179=>(Zbs s179 (⟨#[124]⟩:ByteArray)).bind fun s180=>(Zy r178.2 [(⟨#[65]⟩:ByteArray),(⟨#[66]⟩:ByteArray),(⟨#[84,97,108,107,58,65]⟩:ByteArray)]).bind fun r181=>(Zbs s180 r181.1).bind fun s182=>(Zbs s182 (⟨#[124,109,97,121,124,109,97,121,32,110,111,116,125,125]⟩:ByteArray)).bind fun s183=>some (s183,r181.2) else if (decide (r3.1=12)) then (Zy r3.2 [(⟨#[65]⟩:ByteArray),(⟨#[66]⟩:ByteArray),(⟨#[67]⟩:ByteArray)]).bind fun r184=>(Zbs (⟨#[123,123,35,114,101,118,105,115,105,111,110,58]⟩:ByteArray) r184.1).bind fun s185=>(Zbs s185 (⟨#[125,125]⟩:ByteArray)).bind fun s186=>some (s186,r184.2) else if (decide (r3.1=13)) then (ZbN r3.2).bind fun r187=>(Zbs (⟨#[117,99,58]⟩:ByteArray) r187.1).bind fun s188=>(Zy r187.2 [(⟨#[102,111,114,109,117,108,97,58,49,43,50,42,51]⟩:ByteArray),(⟨#[102,111,114,109,117,108,97,58,49,47,48]⟩:ByteArray),(⟨#[108,101,110,58,97,98,99]⟩:ByteArray),s188,(⟨#[115,117,98,58,97,98,99,100,101,102,124,49,124,50]⟩:ByteArray),(⟨#[110,111,110,101,58,120]⟩:ByteArray),(⟨#[112,97,103,101]⟩:ByteArray),(⟨#[110,97,109,101]⟩:ByteArray),(⟨#[115,112,97,99,101]⟩:ByteArray),(⟨#[105,102,102,111,114,109,117,108,97,58,49,62,50,124,97,124,98]⟩:ByteArray)]).bind fun r189=>(Zbs (⟨#[123,123,35]⟩:ByteArray) r189.1).bind fun s190=>(Zbs s190 (⟨#[125,125]⟩:ByteArray)).bind fun s191=>some (s191,r189.2) else if (decide (r3.1=14)) then (Zy r3.2 [(⟨#[65]⟩:ByteArray),(⟨#[66]⟩:ByteArray),(⟨#[84,97,108,107,58,65]⟩:ByteArray),(⟨#[67,124,99]⟩:ByteArray),(⟨#[67,97,116,101,103,111,114,121,58,88]⟩:ByteArray),(⟨#[67,97,116,101,103,111,114,121,58,88,124,115]⟩:ByteArray),(⟨#[58,67,97,116,101,103,111,114,121,58,88]⟩:ByteArray),(⟨#[65,35,115]⟩:ByteArray),(⟨#[35,115]⟩:ByteArray),(⟨#[91]⟩:ByteArray),(⟨#[67,97,116,101,103,111,114,121,58,65]⟩:ByteArray)]).bind fun r192=>(Zbs (⟨#[91,91]⟩:ByteArray) r192.1).bind fun s193=>(Zbs s193 (⟨#[93,93]⟩:ByteArray)).bind fun s194=>some (s194,r192.2) else if (decide (r3.1=15)) then (ZP mF r3.2 (w64 (p1-1))).bind fun r195=>(Zbs (⟨#[39,39,39]⟩:ByteArray) r195.1).bind fun s196=>(Zbs s196 (⟨#[39,39,39]⟩:ByteArray)).bind fun s197=>some (s197,r195.2) else if (decide (r3.1=16)) then (ZP mF r3.2 (w64 (p1-1))).bind fun r198=>(Zbs (⟨#[39,39]⟩:ByteArray) r198.1).bind fun s199=>(Zbs s199 (⟨#[39,39]⟩:ByteArray)).bind fun s200=>some (s200,r198.2) else if (decide (r3.1=17)) then (Zy r3.2 [(⟨#[]⟩:ByteArray),(⟨#[32,110,97,109,101,61,110]⟩:ByteArray),(⟨#[32,110,97,109,101,61,109]⟩:ByteArray)]).bind fun r201=>(Zbs (⟨#[60,114,101,102]⟩:ByteArray) r201.1).bind fun s202=>(Zbs s202 (⟨#[62]⟩:ByteArray)).bind fun s203=>(ZP mF r201.2 (w64 (p1-1))).bind fun r204=>(Zbs s203 r204.1).bind fun s205=>(Zbs s205 (⟨#[60,47,114,101,102,62]⟩:ByteArray)).bind fun s206=>some (s206,r204.2) else if (decide (r3.1=18)) then (Zy r3.2 [(⟨#[123,123,84,125,125]⟩:ByteArray),(⟨#[39,39]⟩:ByteArray),(⟨#[91,91,65,93,93]⟩:ByteArray),(⟨#[97]⟩:ByteArray)]).bind fun r207=>(Zbs (⟨#[60,110,111,119,105,107,105,62]⟩:ByteArray) r207.1).bind fun s208=>(Zbs s208 (⟨#[60,47,110,111,119,105,107,105,62]⟩:ByteArray)).bind fun s209=>some (s209,r207.2) else if (decide (r3.1=19)) then (Zy r3.2 [(⟨#[60,110,111,105,110,99,108,117,100,101,62]⟩:ByteArray),(⟨#[60,105,110,99,108,117,100,101,111,110,108,121,62]⟩:ByteArray),(⟨#[60,111,110,108,121,105,110,99,108,117,100,101,62]⟩:ByteArray)]).bind fun r210=>(ZP mF r210.2 (w64 (p1-1))).bind fun r211=>(Zbs r210.1 r211.1).bind fun s212=>(Zy r211.2 [(⟨#[60,47,110,111,105,110,99,108,117,100,101,62]⟩:ByteArray),(⟨#[60,47,105,110,99,108,117,100,101,111,110,108,121,62]⟩:ByteArray),(⟨#[60,47,111,110,108,121,105,110,99,108,117,100,101,62]⟩:ByteArray)]).bind fun r213=>(Zbs s212 r213.1).bind fun s214=>some (s214,r213.2) else if (decide (r3.1=20)) then (Zy r3.2 [(⟨#[60,33,45,45,99,45,45,62]⟩:ByteArray),(⟨#[60,114,101,102,32,110,97,109,101,61,110,47,62]⟩:ByteArray),(⟨#[60,98,114,62]⟩:ByteArray),(⟨#[38,108,116,59]⟩:ByteArray),(⟨#[38,35,57,49,59]⟩:ByteArray),(⟨#[123,123]⟩:ByteArray),(⟨#[125,125]⟩:ByteArray),(⟨#[91,91]⟩:ByteArray),(⟨#[93,93]⟩:ByteArray),(⟨#[124]⟩:ByteArray),(⟨#[61]⟩:ByteArray)]).bind fun r215=>some (r215.1,r215.2) else (ZbN r3.2).bind fun r216=>some (r216.1,r216.2)
theorem ZjT (mF:Nat):∀ (p0:TapeF) (p1:Int) (r:ByteArray×TapeF),ZP mF p0 p1=some r->Contract Tryz.prog 111 [.ptr 0 (0,0) 0,.int .i64 p1] (some (0,p0.cs)) (.str r.1) (r.2).cs:=by{
induction mF with
| zero=>intro p0 p1 r h;cases h
| succ mF ihF=>
intro p0 p1 r h
refine Zbb (R:=fun r=>.str r.1) (O:=fun r=>(r.2).cs) h mix Tryz.func111 (by kernel_rfl) rfl (by kernel_rfl) fun r h=>?_
simp only [ZP] at h
refine Zn ?_
refine rg ?_
refine rg ?_
refine cS h rfl (fun h=>?_) fun h=>?_
refine rg ?_
refine aO h (Zdt _) fun r2 h=>?_
cases h
exact Za5 rfl rfl rfl rfl rfl
refine rg ?_
refine rg ?_
refine aO h (ZI _ _) fun r3 h=>?_
refine bl ?_
refine rg ?_
refine cS h rfl (fun h=>?_) fun h=>?_
refine rg ?_
refine Zdb ([(⟨#[84]⟩:ByteArray),(⟨#[85,47,120]⟩:ByteArray),(⟨#[58,65]⟩:ByteArray),(⟨#[58,66]⟩:ByteArray),(⟨#[58,67]⟩:ByteArray),(⟨#[47,120]⟩:ByteArray),(⟨#[65]⟩:ByteArray),(⟨#[66]⟩:ByteArray),(⟨#[58,84,97,108,107,58,65]⟩:ByteArray),(⟨#[88]⟩:ByteArray)]:List ByteArray) rfl rfl rfl rfl (by decide) (Zn ?_)
refine aO h (Zx _ _) fun r110 h=>?_
refine sT h fun s111 h=>?_
refine sT h fun s112 h=>?_
obtain ⟨r113,h113,h⟩:=bnd h
refine Zce (ihF _ _ _ h113) rfl rfl rfl rfl rfl (Zn ?_)
refine sT h fun s114 h=>?_
refine sT h fun s115 h=>?_
refine bM csS ([(⟨#[107]⟩:ByteArray),(⟨#[49]⟩:ByteArray),(⟨#[110]⟩:ByteArray)]:List ByteArray) ?_
refine aO h (Zx _ _) fun r116 h=>?_
refine sT h fun s117 h=>?_
refine sT h fun s118 h=>?_
obtain ⟨r119,h119,h⟩:=bnd h
refine Zce (ihF _ _ _ h119) rfl rfl rfl rfl rfl (Zn ?_)
refine sT h fun s120 h=>?_
refine sT h fun s121 h=>?_
cases h
exact Za5 rfl rfl rfl rfl rfl
refine rg ?_
refine cS h rfl (fun h=>?_) fun h=>?_
refine rg ?_
refine bM csS ([(⟨#[84]⟩:ByteArray),(⟨#[65]⟩:ByteArray),(⟨#[66]⟩:ByteArray),(⟨#[58,65]⟩:ByteArray),(⟨#[58,65,47,66]⟩:ByteArray)]:List ByteArray) ?_
refine aO h (Zx _ _) fun r122 h=>?_
refine sT h fun s123 h=>?_
refine sT h fun s124 h=>?_
cases h
exact Za5 rfl rfl rfl rfl rfl
refine rg ?_
refine cS h rfl (fun h=>?_) fun h=>?_
refine rg ?_
refine bM csS ([(⟨#[49]⟩:ByteArray),(⟨#[107]⟩:ByteArray),(⟨#[110]⟩:ByteArray),(⟨#[105]⟩:ByteArray),(⟨#[120]⟩:ByteArray)]:List ByteArray) ?_
refine aO h (Zx _ _) fun r125 h=>?_
refine sT h fun s126 h=>?_
refine bM csS ([(⟨#[]⟩:ByteArray),(⟨#[124]⟩:ByteArray),(⟨#[124,100]⟩:ByteArray)]:List ByteArray) ?_
refine aO h (Zx _ _) fun r127 h=>?_
refine sT h fun s128 h=>?_
refine sT h fun s129 h=>?_
cases h
exact Za5 rfl rfl rfl rfl rfl
refine rg ?_
refine cS h rfl (fun h=>?_) fun h=>?_
refine rg ?_
obtain ⟨r130,h130,h⟩:=bnd h
refine Zce (ihF _ _ _ h130) rfl rfl rfl rfl rfl (Zn ?_)
refine sT h fun s131 h=>?_
refine sT h fun s132 h=>?_
obtain ⟨r133,h133,h⟩:=bnd h
refine Zce (ihF _ _ _ h133) rfl rfl rfl rfl rfl (Zn ?_)
refine sT h fun s134 h=>?_
refine sT h fun s135 h=>?_
obtain ⟨r136,h136,h⟩:=bnd h
refine Zce (ihF _ _ _ h136) rfl rfl rfl rfl rfl (Zn ?_)
refine sT h fun s137 h=>?_
refine sT h fun s138 h=>?_
cases h
exact Za5 rfl rfl rfl rfl rfl
refine rg ?_
refine cS h rfl (fun h=>?_) fun h=>?_
refine rg ?_
obtain ⟨r139,h139,h⟩:=bnd h
refine Zce (ihF _ _ _ h139) rfl rfl rfl rfl rfl (Zn ?_)
refine sT h fun s140 h=>?_
refine sT h fun s141 h=>?_
obtain ⟨r142,h142,h⟩:=bnd h
refine Zce (ihF _ _ _ h142) rfl rfl rfl rfl rfl (Zn ?_)
refine sT h fun s143 h=>?_
refine sT h fun s144 h=>?_
obtain ⟨r145,h145,h⟩:=bnd h
refine Zce (ihF _ _ _ h145) rfl rfl rfl rfl rfl (Zn ?_)
refine sT h fun s146 h=>?_
refine sT h fun s147 h=>?_
cases h
exact Za5 rfl rfl rfl rfl rfl
refine rg ?_
refine cS h rfl (fun h=>?_) fun h=>?_
refine rg ?_
refine aO h (Zdt _) fun r148 h=>?_
refine sT h fun s149 h=>?_
refine sT h fun s150 h=>?_
obtain ⟨r151,h151,h⟩:=bnd h
refine Zce (ihF _ _ _ h151) rfl rfl rfl rfl rfl (Zn ?_)
refine sT h fun s152 h=>?_
refine sT h fun s153 h=>?_
refine bM csS ([(⟨#[122,61,50]⟩:ByteArray),(⟨#[108,97,115,116]⟩:ByteArray)]:List ByteArray) ?_
refine aO h (Zx _ _) fun r154 h=>?_
refine sT h fun s155 h=>?_
refine sT h fun s156 h=>?_
cases h
exact Za5 rfl rfl rfl rfl rfl
refine rg ?_
refine cS h rfl (fun h=>?_) fun h=>?_
refine rg ?_
refine bM csS ([(⟨#[65]⟩:ByteArray),(⟨#[66]⟩:ByteArray),(⟨#[84,101,109,112,108,97,116,101,58,84]⟩:ByteArray),(⟨#[67]⟩:ByteArray),(⟨#[91]⟩:ByteArray),(⟨#[84,97,108,107,58,65]⟩:ByteArray)]:List ByteArray) ?_
refine aO h (Zx _ _) fun r157 h=>?_
refine sT h fun s158 h=>?_
refine sT h fun s159 h=>?_
obtain ⟨r160,h160,h⟩:=bnd h
refine Zce (ihF _ _ _ h160) rfl rfl rfl rfl rfl (Zn ?_)
refine sT h fun s161 h=>?_
refine sT h fun s162 h=>?_
cases h
exact Za5 rfl rfl rfl rfl rfl
refine rg ?_
refine cS h rfl (fun h=>?_) fun h=>?_
refine rg ?_
refine bM csS ([(⟨#[49,44,50,44,51]⟩:ByteArray),(⟨#[97,44,98]⟩:ByteArray),(⟨#[]⟩:ByteArray),(⟨#[120]⟩:ByteArray)]:List ByteArray) ?_
refine aO h (Zx _ _) fun r163 h=>?_
refine sT h fun s164 h=>?_
refine sT h fun s165 h=>?_
obtain ⟨r166,h166,h⟩:=bnd h
refine Zce (ihF _ _ _ h166) rfl rfl rfl rfl rfl (Zn ?_)
refine sT h fun s167 h=>?_
refine sT h fun s168 h=>?_
cases h
exact Za5 rfl rfl rfl rfl rfl
refine rg ?_
refine cS h rfl (fun h=>?_) fun h=>?_
refine rg ?_
refine bM csS ([(⟨#[89]⟩:ByteArray),(⟨#[70,32,89]⟩:ByteArray),(⟨#[106,46,110,46]⟩:ByteArray),(⟨#[72]⟩:ByteArray),(⟨#[72,58,105]⟩:ByteArray),(⟨#[78]⟩:ByteArray),(⟨#[92,89]⟩:ByteArray)]:List ByteArray) ?_
refine aO h (Zx _ _) fun r169 h=>?_
refine sT h fun s170 h=>?_
refine sT h fun s171 h=>?_
cases h
exact Za5 rfl rfl rfl rfl rfl
refine rg ?_
refine cS h rfl (fun h=>?_) fun h=>?_
refine rg ?_
refine bM csS ([(⟨#[88]⟩:ByteArray),(⟨#[65]⟩:ByteArray),(⟨#[66]⟩:ByteArray)]:List ByteArray) ?_
refine aO h (Zx _ _) fun r172 h=>?_
refine sT h fun s173 h=>?_
refine sT h fun s174 h=>?_
cases h
exact Za5 rfl rfl rfl rfl rfl
refine rg ?_
refine cS h rfl (fun h=>?_) fun h=>?_
refine rg ?_
refine bM csS ([(⟨#[88]⟩:ByteArray),(⟨#[65]⟩:ByteArray),(⟨#[]⟩:ByteArray)]:List ByteArray) ?_
refine aO h (Zx _ _) fun r175 h=>?_
refine sT h fun s176 h=>?_
refine sT h fun s177 h=>?_
cases h
exact Za5 rfl rfl rfl rfl rfl
refine rg ?_
refine cS h rfl (fun h=>?_) fun h=>?_
refine rg ?_
refine bM csS ([(⟨#[114,101,97,100]⟩:ByteArray),(⟨#[101,100,105,116]⟩:ByteArray),(⟨#[120]⟩:ByteArray)]:List ByteArray) ?_
refine aO h (Zx _ _) fun r178 h=>?_
refine sT h fun s179 h=>?_
refine sT h fun s180 h=>?_
refine bM csS ([(⟨#[65]⟩:ByteArray),(⟨#[66]⟩:ByteArray),(⟨#[84,97,108,107,58,65]⟩:ByteArray)]:List ByteArray) ?_
refine aO h (Zx _ _) fun r181 h=>?_
refine sT h fun s182 h=>?_
refine sT h fun s183 h=>?_
cases h
exact Za5 rfl rfl rfl rfl rfl
refine rg ?_
refine cS h rfl (fun h=>?_) fun h=>?_
refine rg ?_
refine bM csS ([(⟨#[65]⟩:ByteArray),(⟨#[66]⟩:ByteArray),(⟨#[67]⟩:ByteArray)]:List ByteArray) ?_
refine aO h (Zx _ _) fun r184 h=>?_
refine sT h fun s185 h=>?_
refine sT h fun s186 h=>?_
cases h
exact Za5 rfl rfl rfl rfl rfl
refine rg ?_
refine cS h rfl (fun h=>?_) fun h=>?_
refine rg ?_
refine aO h (Zdt _) fun r187 h=>?_
refine sT h fun s188 h=>?_
refine Zdb ([(⟨#[102,111,114,109,117,108,97,58,49,43,50,42,51]⟩:ByteArray),(⟨#[102,111,114,109,117,108,97,58,49,47,48]⟩:ByteArray),(⟨#[108,101,110,58,97,98,99]⟩:ByteArray),s188,(⟨#[115,117,98,58,97,98,99,100,101,102,124,49,124,50]⟩:ByteArray),(⟨#[110,111,110,101,58,120]⟩:ByteArray),(⟨#[112,97,103,101]⟩:ByteArray),(⟨#[110,97,109,101]⟩:ByteArray),(⟨#[115,112,97,99,101]⟩:ByteArray),(⟨#[105,102,102,111,114,109,117,108,97,58,49,62,50,124,97,124,98]⟩:ByteArray)]:List ByteArray) rfl rfl rfl rfl (by decide) (Zn ?_)
refine aO h (Zx _ _) fun r189 h=>?_
refine sT h fun s190 h=>?_
refine sT h fun s191 h=>?_
cases h
exact Za5 rfl rfl rfl rfl rfl
refine rg ?_
refine cS h rfl (fun h=>?_) fun h=>?_
refine rg ?_
refine Zdb ([(⟨#[65]⟩:ByteArray),(⟨#[66]⟩:ByteArray),(⟨#[84,97,108,107,58,65]⟩:ByteArray),(⟨#[67,124,99]⟩:ByteArray),(⟨#[67,97,116,101,103,111,114,121,58,88]⟩:ByteArray),(⟨#[67,97,116,101,103,111,114,121,58,88,124,115]⟩:ByteArray),(⟨#[58,67,97,116,101,103,111,114,121,58,88]⟩:ByteArray),(⟨#[65,35,115]⟩:ByteArray),(⟨#[35,115]⟩:ByteArray),(⟨#[91]⟩:ByteArray),(⟨#[67,97,116,101,103,111,114,121,58,65]⟩:ByteArray)]:List ByteArray) rfl rfl rfl rfl (by decide) (Zn ?_)
refine aO h (Zx _ _) fun r192 h=>?_
refine sT h fun s193 h=>?_
refine sT h fun s194 h=>?_
cases h
exact Za5 rfl rfl rfl rfl rfl
refine rg ?_
refine cS h rfl (fun h=>?_) fun h=>?_
refine rg ?_
obtain ⟨r195,h195,h⟩:=bnd h
refine Zce (ihF _ _ _ h195) rfl rfl rfl rfl rfl (Zn ?_)
refine sT h fun s196 h=>?_
refine sT h fun s197 h=>?_
cases h
exact Za5 rfl rfl rfl rfl rfl
refine rg ?_
refine cS h rfl (fun h=>?_) fun h=>?_
refine rg ?_
obtain ⟨r198,h198,h⟩:=bnd h
refine Zce (ihF _ _ _ h198) rfl rfl rfl rfl rfl (Zn ?_)
refine sT h fun s199 h=>?_
refine sT h fun s200 h=>?_
cases h
exact Za5 rfl rfl rfl rfl rfl
refine rg ?_
refine cS h rfl (fun h=>?_) fun h=>?_
refine rg ?_
refine bM csS ([(⟨#[]⟩:ByteArray),(⟨#[32,110,97,109,101,61,110]⟩:ByteArray),(⟨#[32,110,97,109,101,61,109]⟩:ByteArray)]:List ByteArray) ?_
refine aO h (Zx _ _) fun r201 h=>?_
refine sT h fun s202 h=>?_
refine sT h fun s203 h=>?_
obtain ⟨r204,h204,h⟩:=bnd h
refine Zce (ihF _ _ _ h204) rfl rfl rfl rfl rfl (Zn ?_)
refine sT h fun s205 h=>?_
refine sT h fun s206 h=>?_
cases h
exact Za5 rfl rfl rfl rfl rfl
refine rg ?_
refine cS h rfl (fun h=>?_) fun h=>?_
refine rg ?_
refine bM csS ([(⟨#[123,123,84,125,125]⟩:ByteArray),(⟨#[39,39]⟩:ByteArray),(⟨#[91,91,65,93,93]⟩:ByteArray),(⟨#[97]⟩:ByteArray)]:List ByteArray) ?_
refine aO h (Zx _ _) fun r207 h=>?_
refine sT h fun s208 h=>?_
refine sT h fun s209 h=>?_
cases h
exact Za5 rfl rfl rfl rfl rfl
refine rg ?_
refine cS h rfl (fun h=>?_) fun h=>?_
refine rg ?_
refine bM csS ([(⟨#[60,110,111,105,110,99,108,117,100,101,62]⟩:ByteArray),(⟨#[60,105,110,99,108,117,100,101,111,110,108,121,62]⟩:ByteArray),(⟨#[60,111,110,108,121,105,110,99,108,117,100,101,62]⟩:ByteArray)]:List ByteArray) ?_
refine aO h (Zx _ _) fun r210 h=>?_
obtain ⟨r211,h211,h⟩:=bnd h
refine Zce (ihF _ _ _ h211) rfl rfl rfl rfl rfl (Zn ?_)
refine sT h fun s212 h=>?_
refine bM csS ([(⟨#[60,47,110,111,105,110,99,108,117,100,101,62]⟩:ByteArray),(⟨#[60,47,105,110,99,108,117,100,101,111,110,108,121,62]⟩:ByteArray),(⟨#[60,47,111,110,108,121,105,110,99,108,117,100,101,62]⟩:ByteArray)]:List ByteArray) ?_
refine aO h (Zx _ _) fun r213 h=>?_
refine sT h fun s214 h=>?_
cases h
exact Za5 rfl rfl rfl rfl rfl
refine rg ?_
refine cS h rfl (fun h=>?_) fun h=>?_
refine rg ?_
refine Zdb ([(⟨#[60,33,45,45,99,45,45,62]⟩:ByteArray),(⟨#[60,114,101,102,32,110,97,109,101,61,110,47,62]⟩:ByteArray),(⟨#[60,98,114,62]⟩:ByteArray),(⟨#[38,108,116,59]⟩:ByteArray),(⟨#[38,35,57,49,59]⟩:ByteArray),(⟨#[123,123]⟩:ByteArray),(⟨#[125,125]⟩:ByteArray),(⟨#[91,91]⟩:ByteArray),(⟨#[93,93]⟩:ByteArray),(⟨#[124]⟩:ByteArray),(⟨#[61]⟩:ByteArray)]:List ByteArray) rfl rfl rfl rfl (by decide) (Zn ?_)
refine aO h (Zx _ _) fun r215 h=>?_
cases h
exact Za5 rfl rfl rfl rfl rfl
refine rg ?_
refine aO h (Zdt _) fun r216 h=>?_
cases h
exact Za5 rfl rfl rfl rfl rfl}
def ZdG (p0:TapeF) (p1:Int):Option (ByteArray×TapeF):=(Zy p0 [(⟨#[]⟩:ByteArray),(⟨#[]⟩:ByteArray),(⟨#[]⟩:ByteArray),(⟨#[42,32]⟩:ByteArray),(⟨#[42,42,32]⟩:ByteArray),(⟨#[35,32]⟩:ByteArray),(⟨#[42,35,32]⟩:ByteArray),(⟨#[32]⟩:ByteArray),(⟨#[123,124]⟩:ByteArray),(⟨#[124]⟩:ByteArray),(⟨#[124,45]⟩:ByteArray),(⟨#[33]⟩:ByteArray),(⟨#[124,125]⟩:ByteArray),(⟨#[45,45,45,45]⟩:ByteArray)]).bind fun r1=>ZaF Zcp (fun f2 ((x26,x27,x28,x29):ByteArray×Int×(List Int)×Int)=>(ZL (⟨x28,x29⟩:TapeF) 3).bind fun r35=>if (decide (x27<=r35.1)) then (ZP 8 r35.2 p1).bind fun r38=>(Zbs x26 r38.1).bind fun s39=>f2 (s39,(w64 (x27+1)),r38.2.l,r38.2.pos) else some (x26,r35.2)) (r1.1,0,r1.2.l,r1.2.pos)
theorem Zkw (p0:TapeF) (p1:Int) (r:ByteArray×TapeF) (h:ZdG p0 p1=some r):Contract Tryz.prog 67 [.ptr 0 (0,0) 0,.int .i64 p1] (some (0,p0.cs)) (.str r.1) (r.2).cs:=by{
refine Zbb (R:=fun r=>.str r.1) (O:=fun r=>(r.2).cs) h mix Tryz.func67 (by kernel_rfl) rfl (by kernel_rfl) fun r h=>?_
unfold ZdG at h
refine Zn ?_
refine rg ?_
refine rg ?_
refine Zdb ([(⟨#[]⟩:ByteArray),(⟨#[]⟩:ByteArray),(⟨#[]⟩:ByteArray),(⟨#[42,32]⟩:ByteArray),(⟨#[42,42,32]⟩:ByteArray),(⟨#[35,32]⟩:ByteArray),(⟨#[42,35,32]⟩:ByteArray),(⟨#[32]⟩:ByteArray),(⟨#[123,124]⟩:ByteArray),(⟨#[124]⟩:ByteArray),(⟨#[124,45]⟩:ByteArray),(⟨#[33]⟩:ByteArray),(⟨#[124,125]⟩:ByteArray),(⟨#[45,45,45,45]⟩:ByteArray)]:List ByteArray) rfl rfl rfl rfl (by decide) (Zn ?_)
refine aO h (Zx _ _) fun r1 h=>?_
refine rg ?_
refine bl ?_
refine ZB h fun f2 mf2 hf2 h=>?_
refine Zv (α:=Nat×(ByteArray×Int×(List Int)×Int)) (fun a _=>mkS [(0,.ptr 0 (0,0) 0),(1,.int .i64 p1),(5,.str a.2.1),(6,.int .i64 a.2.2.1)] [(0,some ((0,0),.box [.sl (List.map csI a.2.2.2.1),.int .i64 a.2.2.2.2]))] 2) (fun a=>ZaF a.1 f2 a.2=some r) (fun a=>a.1) (mf2,r1.1,0,r1.2.l,r1.2.pos) 2 h (sR []) (fun a _ h=>?_)
obtain ⟨mf2,x26,x27,x28,x29⟩:=a
obtain ⟨mf2,rfl,h⟩:=ZC hf2 h
dsimp only at h ⊢
refine Zn ?_
refine rg ?_
refine aO h (ZI _ _) fun r35 h=>?_
refine cS h rfl (fun h=>?_) fun h=>?_
refine bl ?_
refine rg ?_
obtain ⟨r38,h30,h⟩:=bnd h
refine Zce (ZjT 8 _ _ _ h30) rfl rfl rfl rfl rfl (Zn ?_)
refine sT h fun s39 h=>?_
refine rg ?_
exact rn (mf2,s39,(w64 (x27+1)),r38.2.l,r38.2.pos) h (sR [])
refine rg ?_
cases h
exact Za5 rfl rfl rfl rfl rfl}
def ZdH (p0:TapeF) (p1:Int):Option (ByteArray×TapeF):=(Zy p0 [(⟨#[]⟩:ByteArray),(⟨#[]⟩:ByteArray),(⟨#[]⟩:ByteArray),(⟨#[]⟩:ByteArray),(⟨#[35,82,69,68,73,82,69,67,84,32,91,91,66,93,93,10]⟩:ByteArray),(⟨#[35,82,69,68,73,82,69,67,84,32,91,91,58,84,101,109,112,108,97,116,101,58,84,93,93,32,120]⟩:ByteArray)]).bind fun r1=>(ZL r1.2 5).bind fun r2=>ZaF Zcp (fun f18 ((x163,x164,x165,x166):ByteArray×Int×(List Int)×Int)=>if (decide (x164<=r2.1)) then letk (fun (x231:ByteArray)=>(ZL (⟨x165,x166⟩:TapeF) 4).bind fun r232=>letk (fun (x239:ByteArray) (x240:List Int) (x241:Int)=>(ZdG (⟨x240,x241⟩:TapeF) p1).bind fun r242=>(Zbs x239 r242.1).bind fun s243=>f18 (s243,(w64 (x164+1)),r242.2.l,r242.2.pos)) fun k22=>if (decide (r232.1=0)) then (Zy r232.2 [(⟨#[61]⟩:ByteArray),(⟨#[61,61]⟩:ByteArray),(⟨#[61,61]⟩:ByteArray),(⟨#[61,61,61]⟩:ByteArray)]).bind fun r244=>(Zbs x231 r244.1).bind fun s245=>(Zy r244.2 [(⟨#[32,115,32]⟩:ByteArray),(⟨#[32,116,32]⟩:ByteArray),(⟨#[97,32,98]⟩:ByteArray),(⟨#[32,115,32]⟩:ByteArray)]).bind fun r246=>(Zbs s245 r246.1).bind fun s247=>(Zbs s247 r244.1).bind fun s248=>(Zbs s248 (⟨#[10]⟩:ByteArray)).bind fun s249=>k22 s249 r246.2.l r246.2.pos else k22 x231 r232.2.l r232.2.pos) fun k21=>if (decide (0<x164)) then (Zbs x163 (⟨#[10]⟩:ByteArray)).bind fun s250=>k21 s250 else k21 x163 else (some (x163,(⟨x165,x166⟩:TapeF)):Option (ByteArray×TapeF))) (r1.1,0,r2.2.l,r2.2.pos)
theorem Zkx (p0:TapeF) (p1:Int) (r:ByteArray×TapeF) (h:ZdH p0 p1=some r):Contract Tryz.prog 28 [.ptr 0 (0,0) 0,.int .i64 p1] (some (0,p0.cs)) (.str r.1) (r.2).cs:=by{
refine Zbb (R:=fun r=>.str r.1) (O:=fun r=>(r.2).cs) h mix Tryz.func28 (by kernel_rfl) rfl (by kernel_rfl) fun r h=>?_
unfold ZdH at h
refine Zn ?_
refine rg ?_
refine rg ?_
refine bM csS ([(⟨#[]⟩:ByteArray),(⟨#[]⟩:ByteArray),(⟨#[]⟩:ByteArray),(⟨#[]⟩:ByteArray),(⟨#[35,82,69,68,73,82,69,67,84,32,91,91,66,93,93,10]⟩:ByteArray),(⟨#[35,82,69,68,73,82,69,67,84,32,91,91,58,84,101,109,112,108,97,116,101,58,84,93,93,32,120]⟩:ByteArray)]:List ByteArray) ?_
refine aO h (Zx _ _) fun r1 h=>?_
refine rg ?_
refine aO h (ZI _ _) fun r2 h=>?_
refine rg ?_
refine bl ?_
refine ZB h fun f18 mf18 hf18 h=>?_
refine Zv (α:=Nat×(ByteArray×Int×(List Int)×Int)) (fun a _=>mkS [(0,.ptr 0 (0,0) 0),(1,.int .i64 p1),(5,.str a.2.1),(6,.int .i64 r2.1),(7,.int .i64 a.2.2.1)] [(0,some ((0,0),.box [.sl (List.map csI a.2.2.2.1),.int .i64 a.2.2.2.2]))] 2) (fun a=>ZaF a.1 f18 a.2=some r) (fun a=>a.1) (mf18,r1.1,0,r2.2.l,r2.2.pos) 2 h (sR []) (fun a _ h=>?_)
obtain ⟨mf18,x163,x164,x165,x166⟩:=a
obtain ⟨mf18,rfl,h⟩:=ZC hf18 h
dsimp only at h ⊢
refine Zn ?_
refine rg ?_
refine cS h rfl (fun h=>?_) fun h=>?_
refine bl ?_
refine rg ?_
refine jL h (fun x231=>mkS [(0,.ptr 0 (0,0) 0),(1,.int .i64 p1),(5,.str x231),(6,.int .i64 r2.1),(7,.int .i64 x164)] [(0,some ((0,0),.box [.sl (List.map csI x165),.int .i64 x166]))] 2) (fun k21 h=>?_) fun x231 h=>?_
refine cS h rfl (fun h=>?_) fun h=>?_
refine rg ?_
refine sT h fun s250 h=>?_
exact jn s250 h (sR [])
exact jn x163 h (sR [])
refine rg ?_
refine aO h (ZI _ _) fun r232 h=>?_
refine ZbG h fun k22 hk22 h=>?_
refine Zbv (α:=ByteArray×(List Int)×Int) (fun a _=>mkS [(0,.ptr 0 (0,0) 0),(1,.int .i64 p1),(5,.str a.1),(6,.int .i64 r2.1),(7,.int .i64 x164)] [(0,some ((0,0),.box [.sl (List.map csI a.2.1),.int .i64 a.2.2]))] 2) (fun a=>k22 a.1 a.2.1 a.2.2=some r) (Zn ?_) (fun a _ h=>?_)
refine cS h rfl (fun h=>?_) fun h=>?_
refine rg ?_
refine bM csS ([(⟨#[61]⟩:ByteArray),(⟨#[61,61]⟩:ByteArray),(⟨#[61,61]⟩:ByteArray),(⟨#[61,61,61]⟩:ByteArray)]:List ByteArray) ?_
refine aO h (Zx _ _) fun r244 h=>?_
refine rg ?_
refine sT h fun s245 h=>?_
refine bM csS ([(⟨#[32,115,32]⟩:ByteArray),(⟨#[32,116,32]⟩:ByteArray),(⟨#[97,32,98]⟩:ByteArray),(⟨#[32,115,32]⟩:ByteArray)]:List ByteArray) ?_
refine aO h (Zx _ _) fun r246 h=>?_
refine sT h fun s247 h=>?_
refine sT h fun s248 h=>?_
refine sT h fun s249 h=>?_
exact jn (s249,r246.2.l,r246.2.pos) h (sR [])
exact jn (x231,r232.2.l,r232.2.pos) h (sR [])
obtain ⟨x239,x240,x241⟩:=a
subst hk22
dsimp only at h ⊢
refine Zn ?_
refine rg ?_
refine aO h (Zkw _ _) fun r242 h=>?_
refine sT h fun s243 h=>?_
refine rg ?_
exact rn (mf18,s243,(w64 (x164+1)),r242.2.l,r242.2.pos) h (sR [])
refine rg ?_
cases h
exact Za5 rfl rfl rfl rfl rfl}
end Go.Proofs.YtpffimahajgiaaaGreatDoor
namespace Go.Proofs.YtpffimahajgiaaaGreatDoor
open VL Go.RowKit
def bs (l:List UInt8):ByteArray:=⟨l.toArray⟩
theorem Zui (l:List UInt8):(bs l).size=l.length:=rfl
theorem ZvF (a b:List UInt8):bs a++bs b=bs (a++b):=by
 apply ByteArray.ext
 rw [ByteArray.data_append]
 simp [bs]
theorem ZoV (a b:List UInt8):(bs (a++b)).extract 0 a.length=bs a:=by
 apply ByteArray.ext
 rw [ByteArray.data_extract]
 simp [bs]
theorem ZaI {α:Type} {x:Option α} {v:α} (h:Tot x (fun r=>r=v)):x=some v:=by
 obtain ⟨w,h1,h2⟩:=h
 rw [h1,h2]
theorem ZvG (p r:List UInt8):Zt (bs (p++r)) (bs p)=some true:=by{
have z1:(bs p).size=p.length:=rfl
have z2:(bs (p++r)).size=p.length+r.length:=by rw [Zui,List.length_append]
refine ZaI ?_
unfold Zt
refine ZaM (Zh (fun _=>?_) fun h=>absurd (by omega) h)
refine ZaT (by omega) (by omega) (by omega) fun m hm _=>?_
have e:m=bs p:=hm.trans (ZoV p r)
refine Zc ?_
rw [e]
simp}
theorem ZtN {L:List UInt8} {n:Nat} {c:UInt8} (h:L[n]? = some c):atS (bs L) (n:Int)=some (c.toNat:Int):=by{
obtain ⟨hl,he⟩:=List.getElem?_eq_some_iff.1 h
rw [ZrY (show n<(bs L).size from hl)]
subst he
rfl}
theorem Zuj (l:List UInt8) (n:Nat):(bs l).extract 0 n=bs (l.take n):=by
 apply ByteArray.ext
 rw [ByteArray.data_extract]
 simp [bs]
theorem ZvH {a b:List UInt8} (h:bs a=bs b):a=b:=congrArg (fun s:ByteArray=>s.data.toList) h
theorem Zjb (l:List UInt8) (n:Nat) (h:n<=l.length):ZfI (bs l) (n:Int) ((bs l).size:Int)=some (bs (l.drop n)):=by{
have z:(bs l).size=l.length:=rfl
unfold ZfI
rw [if_pos ⟨by omega,by omega,by omega⟩]
have e:(((bs l).size:Int)).toNat=l.length:=by omega
rw [e]
congr 1
apply ByteArray.ext
rw [ByteArray.data_extract]
simp [bs]
rw [List.take_of_length_le (by simp)]}
theorem Zuk (l:List UInt8) (a b:Nat) (h:a<=b) (h2:b<=l.length):ZfI (bs l) (a:Int) (b:Int)=some (bs ((l.take b).drop a)):=by{
have z:(bs l).size=l.length:=rfl
unfold ZfI
rw [if_pos ⟨by omega,by omega,by omega⟩]
congr 1
apply ByteArray.ext
rw [ByteArray.data_extract]
simp [bs,List.drop_take]}
theorem Zma (l p:List UInt8):Zt (bs l) (bs p)=some (p.isPrefixOf l):=by{
cases h:p.isPrefixOf l with
| true=>
  obtain ⟨r,rfl⟩:=List.isPrefixOf_iff_prefix.1 h
  exact ZvG p r
| false=>
  have z1:(bs p).size=p.length:=rfl
  have z2:(bs l).size=l.length:=rfl
  refine ZaI ?_
  unfold Zt
  refine ZaM (Zh (fun hl=>?_) fun _=>Zc rfl)
  refine ZaT (by omega) (by omega) (by omega) fun m hm _=>?_
  refine Zc (decide_eq_false fun he=>?_)
  have hq:(((bs p).size:Int)).toNat=p.length:=by omega
  rw [hq] at hm
  have h2:l.take p.length=p:=ZvH ((Zuj l p.length).symm.trans (hm.symm.trans he))
  have h3:p.isPrefixOf l=true:=List.isPrefixOf_iff_prefix.2 (by rw [<- h2];exact List.take_prefix _ _)
  rw [h] at h3
  cases h3}
theorem Zdv (l p:List UInt8):ZM (bs l) (bs p)=some (p.isPrefixOf l):=by
 unfold ZM
 rw [Zma]
 rfl
end Go.Proofs.YtpffimahajgiaaaGreatDoor
namespace Go.Proofs.YtpffimahajgiaaaGreatDoor
open VL
structure TapeF.ok (s:TapeF):Prop where
 len:s.l.length<=9223372036854775807
 pos:0<=s.pos
theorem ZwM (v:Int):∃ q:Nat,IntKind.i64.wrap (BitVec.ofInt 64 v &&& BitVec.ofInt 64 16777215).toNat=(q:Int)/\q<=16777215:=by{
have h:(BitVec.ofInt 64 v &&& BitVec.ofInt 64 16777215).toNat<=16777215:=by
 rw [BitVec.toNat_and]
 exact Nat.le_trans Nat.and_le_right (by decide)
generalize (BitVec.ofInt 64 v &&& BitVec.ofInt 64 16777215).toNat=q at h
refine ⟨q,?_,h⟩
rw [IntKind.wrap_i64]
omega}
theorem Zad (s:TapeF) (n:Int) (hs:s.ok) (h0:0<n):Tot (ZL s n) fun r=>(0<=r.1/\r.1<n)/\r.2.ok:=by{
have hl:=hs.len
have hp:=hs.pos
unfold ZL
refine Zh (fun _=>Zc ⟨⟨Int.le_refl _,h0⟩,hs⟩) fun h=>?_
refine Zcb hp (by omega) fun e _ _=>?_
refine ZsT (by omega) ?_
obtain ⟨q,hq,_⟩:=ZwM e
have e1:Zwj .and .i64 e 16777215=(q:Int):=hq
rw [e1]
refine Zc ⟨⟨Int.tmod_nonneg n (by omega),Int.tmod_lt_of_pos _ h0⟩,⟨hl,?_⟩⟩
show 0<=w64 (s.pos+1)
rw [ZaH]
omega}
theorem Zu4 {n:Nat} (s:TapeF) (L:List ByteArray) (hs:s.ok) (h0:0<L.length) (h:∀ x ∈ L,x.size<=n):Tot (Zy s L) fun r=>r.1.size<=n/\r.2.ok:=by
 unfold Zy
 refine Zi (Zad s _ hs (by omega)) fun r hr=>?_
 exact Zcb hr.1.1 hr.1.2 fun e he _=>Zc ⟨h e he,hr.2⟩
theorem Zpq (s:TapeF) (L:List ByteArray) (hs:s.ok) (h:(decide (0<L.length)&&L.all fun x=>decide (x.size<=30))=true):Tot (Zy s L) fun r=>r.1.size<=30/\r.2.ok:=by
 rw [Bool.and_eq_true] at h
 exact Zu4 s L hs (of_decide_eq_true h.1) fun x hx=>of_decide_eq_true (List.all_eq_true.1 h.2 x hx)
theorem Zt3 (s:TapeF) (hs:s.ok):Tot (ZbN s) fun r=>r.1.size<=10/\r.2.ok:=by{
unfold ZbN Zy
refine Zi (Q:=fun r=>r.1.size<=10/\r.2.ok) (Zi (Zad s _ hs (by decide)) fun r hr=>Zcb hr.1.1 hr.1.2 fun e he _=>Zc ⟨?_,hr.2⟩) fun r hr=>Zc hr
have h:∀ x ∈ [(⟨#[97]⟩:ByteArray),(⟨#[120,32,121]⟩:ByteArray),(⟨#[49,50]⟩:ByteArray),(⟨#[]⟩:ByteArray),(⟨#[98]⟩:ByteArray),(⟨#[48]⟩:ByteArray),(⟨#[45,51]⟩:ByteArray),(⟨#[65,98]⟩:ByteArray),(⟨#[32]⟩:ByteArray),(⟨#[122]⟩:ByteArray)],x.size<=10:=by decide
exact h e he}
theorem Zw4 {β:Type} {a b:ByteArray} {n m:Nat} {f:ByteArray->Option β} {R:β->Prop} (ha:a.size<=n) (hb:b.size<=m) (h:n+m<=1000000) (k:(a++b).size<=n+m->Tot (f (a++b)) R):Tot ((Zbs a b).bind f) R:=
 Zcy (by omega) fun hz=>k (by omega)
end Go.Proofs.YtpffimahajgiaaaGreatDoor
namespace Go.Proofs.YtpffimahajgiaaaGreatDoor
open Go.RowKit
def Zec (c:UInt8):Bool:=decide ((97<=c.toNat/\c.toNat<=122)\/(48<=c.toNat/\c.toNat<=57)\/c.toNat=45\/c.toNat=95)
def ZcI (s:ByteArray):Bool:=decide (1<=s.size/\s.size<=30/\97<=(s.data.toList.headD 0).toNat/\(s.data.toList.headD 0).toNat<=122)&&s.data.toList.all Zec
theorem Zoc (s:ByteArray) (h:0<s.size):s.data.toList.headD 0=s[0]:=by{
have h2:s.data.toList[0]? = some s[0]:=List.getElem?_eq_getElem (by rw [Array.length_toList];exact h)
cases hl:s.data.toList with
| nil=>rw [hl] at h2;cases h2
| cons a r=>rw [hl] at h2;simpa using h2}
theorem Zp0 (s:ByteArray) (h:∀ j (hj:j<s.size),Zec s[j]=true):s.data.toList.all Zec=true:=by{
rw [List.all_eq_true]
intro x hx
obtain ⟨j,hj,rfl⟩:=List.mem_iff_getElem.1 hx
exact h j (by rw [Array.length_toList] at hj;exact hj)}
theorem Zp1 (s:ByteArray) (j:Nat) (hj:j<s.size) (h:Zec s[j]=false):s.data.toList.all Zec=false:=by
 rw [List.all_eq_false]
 exact ⟨s[j],List.mem_iff_getElem.2 ⟨j,by rw [Array.length_toList];exact hj,rfl⟩,by rw [h];decide⟩
theorem Zil {s:ByteArray} (h:s.size<1):ZcI s=false:=by
 unfold ZcI;rw [decide_eq_false (by omega),Bool.false_and]
theorem Zjd {s:ByteArray} (h:30<s.size):ZcI s=false:=by
 unfold ZcI;rw [decide_eq_false (by omega),Bool.false_and]
theorem Zim {s:ByteArray} (h:0<s.size) (h1:(s[0].toNat:Int)<97\/(122:Int)<s[0].toNat):ZcI s=false:=by
 unfold ZcI;rw [Zoc s h,decide_eq_false (by omega),Bool.false_and]
theorem ZkG {s:ByteArray} (j:Nat) (hj:j<s.size) (h:Zec s[j]=false):ZcI s=false:=by
 unfold ZcI;rw [Zp1 s j hj h,Bool.and_false]
theorem Zje {s:ByteArray} (h0:0<s.size) (h30:s.size<=30) (h1:(97:Int)<=s[0].toNat) (h2:(s[0].toNat:Int)<=122) (h:∀ j (hj:j<s.size),Zec s[j]=true):ZcI s=true:=by
 unfold ZcI;rw [Zp0 s h,Zoc s h0,decide_eq_true (by omega)];rfl
set_option maxRecDepth 100000 in
set_option maxHeartbeats 2000000 in
theorem Znq (s:ByteArray) (w:World) (hsz:s.size<=4611686018427387904):Calls Tryz.prog 38 #[.string s] w fun e w'=>e = .returned (.bool (ZcI s))/\w=w':=by{
by_cases h0:s.size<1
·have HE:=Lib.hid (Zil h0)
 go_enter Tryz.func38,Tryz.ntmps38
 go_wp2
 all_goals first | (exfalso;omega) | (go_ret;exact ⟨Za9 HE.out.symm,rfl⟩)
by_cases h30:30<s.size
·have HE:=Lib.hid (Zjd h30)
 have h0':(1:Int)<=s.size:=by omega
 go_enter Tryz.func38,Tryz.ntmps38
 go_wp2
 all_goals first | (exfalso;omega) | (go_ret;exact ⟨Za9 HE.out.symm,rfl⟩)
have hp:0<s.size:=by omega
have h30':(s.size:Int)<=30:=by omega
have h0':(1:Int)<=s.size:=by omega
by_cases hf:(s[0].toNat:Int)<97\/(122:Int)<s[0].toNat
·have HE:=Lib.hid (Zim hp hf)
 go_enter Tryz.func38,Tryz.ntmps38
 rcases hf with hf | hf
 all_goals
  go_wp2
 all_goals first | (exfalso;omega) | (go_ret;exact ⟨Za9 HE.out.symm,rfl⟩)
have hf1:(97:Int)<=s[0].toNat:=by omega
have hf2:(s[0].toNat:Int)<=122:=by omega
clear hf
have HN:Hid (∀ j (hj:j<s.size),Zec s[j]=false->ZcI s=false):=Lib.hid fun j hj h=>ZkG j hj h
have HG:Hid ((∀ j (hj:j<s.size),Zec s[j]=true)->ZcI s=true):=Lib.hid fun h=>Zje hp (by omega) hf1 hf2 h
go_enter Tryz.func38,Tryz.ntmps38
go_wp2
go_loop [3,4] (fun i _=>∃ q:Nat,q<=s.size/\i = .int .i64 q/\Hid (∀ j (hj:j<s.size),j<q->Zec s[j]=true)) (fun i _=>s.size-(intOf i).toNat)
case atStart=>exact ⟨0,by omega,rfl,Lib.hid fun j _ h=>absurd h (by omega)⟩
case round=>
 obtain ⟨q,hq,rfl,hno⟩:=hrel
 clear hf1 hf2
 by_cases hlt:q<s.size
 ·have HS:Hid (Zec s[q]=true->∀ j (hj:j<s.size),j<q+1->Zec s[j]=true):=Lib.hid fun h j hj hj2=>by
   by_cases e:j<q
   exact hno.out j hj e
   have:j=q:=by omega
   subst this;exact h
  have HC:Hid (Zec s[q]=decide ((97<=s[q].toNat/\s[q].toNat<=122)\/(48<=s[q].toNat/\s[q].toNat<=57)\/s[q].toNat=45\/s[q].toNat=95)):=Lib.hid rfl
  have b1:(0:Int)<=q:=by omega
  have b2:(q:Int)<(s.size:Int):=by omega
  go_wp2
  all_goals (try simp only [bne_iff_ne,bne_eq_false_iff_eq,ne_eq] at *)
  all_goals
   first
   | (have hn:Zec s[q]=true:=by (rw [HC.out];exact decide_eq_true (by omega))
      exact ⟨⟨q+1,by omega,by simp,Lib.hid (HS.out hn)⟩,by simp [intOf];omega⟩)
   | (have hn:Zec s[q]=false:=by (rw [HC.out];exact decide_eq_false (by omega))
      go_ret
      exact ⟨Za9 (HN.out q hlt hn).symm,rfl⟩)
 ·have HE:=Lib.hid (HG.out fun j hj=>hno.out j hj (by omega))
  have b2:(s.size:Int)<=(q:Int):=by omega
  go_wp2
  all_goals first | (exfalso;omega) | (go_ret;exact ⟨Za9 HE.out.symm,rfl⟩)}
set_option maxRecDepth 100000 in
set_option maxHeartbeats 2000000 in
theorem Zsm (s:ByteArray) (w:World) (hsz:s.size<=4611686018427387904):Calls Tryz.prog 74 #[.string s] w fun e w'=>e = .returned (.bool (ZcI s))/\w=w':=by{
by_cases h0:s.size<1
·have HE:=Lib.hid (Zil h0)
 go_enter Tryz.func74,Tryz.ntmps74
 go_wp2
 all_goals first | (exfalso;omega) | (go_ret;exact ⟨Za9 HE.out.symm,rfl⟩)
by_cases h30:30<s.size
·have HE:=Lib.hid (Zjd h30)
 have h0':(1:Int)<=s.size:=by omega
 go_enter Tryz.func74,Tryz.ntmps74
 go_wp2
 all_goals first | (exfalso;omega) | (go_ret;exact ⟨Za9 HE.out.symm,rfl⟩)
have hp:0<s.size:=by omega
have h30':(s.size:Int)<=30:=by omega
have h0':(1:Int)<=s.size:=by omega
by_cases hf:(s[0].toNat:Int)<97\/(122:Int)<s[0].toNat
·have HE:=Lib.hid (Zim hp hf)
 go_enter Tryz.func74,Tryz.ntmps74
 rcases hf with hf | hf
 all_goals
  go_wp2
 all_goals first | (exfalso;omega) | (go_ret;exact ⟨Za9 HE.out.symm,rfl⟩)
have hf1:(97:Int)<=s[0].toNat:=by omega
have hf2:(s[0].toNat:Int)<=122:=by omega
clear hf
have HN:Hid (∀ j (hj:j<s.size),Zec s[j]=false->ZcI s=false):=Lib.hid fun j hj h=>ZkG j hj h
have HG:Hid ((∀ j (hj:j<s.size),Zec s[j]=true)->ZcI s=true):=Lib.hid fun h=>Zje hp (by omega) hf1 hf2 h
go_enter Tryz.func74,Tryz.ntmps74
go_wp2
go_loop [3,4,25] (fun _ _ i=>∃ q:Nat,q<=s.size/\i = .int .i64 q/\Hid (∀ j (hj:j<s.size),j<q->Zec s[j]=true)) (fun _ _ i=>s.size-(intOf i).toNat)
case atStart=>exact ⟨0,by omega,rfl,Lib.hid fun j _ h=>absurd h (by omega)⟩
case round=>
 obtain ⟨q,hq,rfl,hno⟩:=hrel
 clear hf1 hf2
 by_cases hlt:q<s.size
 ·have HS:Hid (Zec s[q]=true->∀ j (hj:j<s.size),j<q+1->Zec s[j]=true):=Lib.hid fun h j hj hj2=>by
   by_cases e:j<q
   exact hno.out j hj e
   have:j=q:=by omega
   subst this;exact h
  have HC:Hid (Zec s[q]=decide ((97<=s[q].toNat/\s[q].toNat<=122)\/(48<=s[q].toNat/\s[q].toNat<=57)\/s[q].toNat=45\/s[q].toNat=95)):=Lib.hid rfl
  have b1:(0:Int)<=q:=by omega
  have b2:(q:Int)<(s.size:Int):=by omega
  go_wp2
  all_goals (try simp only [bne_iff_ne,bne_eq_false_iff_eq,ne_eq] at *)
  all_goals
   first
   | (have hn:Zec s[q]=true:=by (rw [HC.out];exact decide_eq_true (by omega))
      exact ⟨⟨q+1,by omega,by simp,Lib.hid (HS.out hn)⟩,by simp [intOf];omega⟩)
   | (have hn:Zec s[q]=false:=by (rw [HC.out];exact decide_eq_false (by omega))
      go_ret
      exact ⟨Za9 (HN.out q hlt hn).symm,rfl⟩)
 ·have HE:=Lib.hid (HG.out fun j hj=>hno.out j hj (by omega))
  have b2:(s.size:Int)<=(q:Int):=by omega
  go_wp2
  all_goals first | (exfalso;omega) | (go_ret;exact ⟨Za9 HE.out.symm,rfl⟩)}
def ZqI (L:List ByteArray) (s:ByteArray):Bool:=L.any (fun x=>decide (x=s))
theorem ZqJ {L:List ByteArray} {q:Nat} {x s:ByteArray} (h:L.drop q=x::L.drop (q+1)) (hne:x≠s):ZqI (L.drop q) s=ZqI (L.drop (q+1)) s:=by
 unfold ZqI
 rw [h,List.any_cons,decide_eq_false hne,Bool.false_or]
theorem ZuV {L:List ByteArray} {q:Nat} {x s:ByteArray} (h:L.drop q=x::L.drop (q+1)) (he:x=s):ZqI (L.drop q) s=true:=by
 unfold ZqI
 rw [h,List.any_cons,decide_eq_true he,Bool.true_or]
set_option maxRecDepth 100000 in
set_option maxHeartbeats 1000000 in
theorem Zpd (A:Option Addr) (n c:Nat) (L:List ByteArray) (s:ByteArray) (w:World) (hS:SlR w A n c L):Calls Tryz.prog 110 #[.slice A n c,.string s] w fun e w'=>e = .returned (.bool (ZqI L s))/\w=w':=by{
have HS:=Lib.hid hS
have hle:=hS.le
have hle2:(n:Int)<=9223372036854775807:=by omega
have HN:=Lib.hid hS.1
clear hS
go_enter Tryz.func110,Tryz.ntmps110
go_wp2
go_loop [5] (fun i=>∃ q:Nat,q<=n/\i = .int .i64 q/\Hid (ZqI L s=ZqI (L.drop q) s)) (fun i=>n-(intOf i).toNat)
case atStart=>exact ⟨0,by omega,rfl,rfl⟩
case round=>
 obtain ⟨q,hq,rfl,hno⟩:=hrel
 by_cases hlt:q<n
 ·have b1:(0:Int)<=q:=by omega
  have b2:(q:Int)<(n:Int):=by omega
  obtain ⟨b,off,x,cs,hA,hbl,hx,hd,hR,hc⟩:=(HS.out).elem hlt
  obtain rfl:=hA
  have d0:w.cell? ⟨b,off+q,none⟩=some (.string x):=by subst hR;simpa using hc 0 _ rfl
  have HD:=Lib.hid hd
  have HX:=Lib.hid hx
  clear hx hd hR hc
  go_wp2
  all_goals (try simp only [beq_iff_eq,beq_eq_false_iff_ne,ne_eq] at *)
  ·have h:x.toList=s.toList:=by assumption
   go_ret
   refine ⟨Za9 ?_,rfl⟩
   rw [hno.out,ZuV HD.out (toList_inj h)]
  have h:¬ x.toList=s.toList:=by assumption
  exact ⟨⟨q+1,by omega,by simp,Lib.hid (hno.out.trans (ZqJ HD.out (fun e=>h (by rw [e]))))⟩,by simp [intOf];omega⟩
 ·obtain rfl:q=n:=by omega
  have HE:Hid (ZqI L s=false):=Lib.hid (by rw [hno.out,HN.out,List.drop_length];rfl)
  go_wp2
  go_ret
  exact ⟨Za9 HE.out.symm,rfl⟩}
end Go.Proofs.YtpffimahajgiaaaGreatDoor
namespace Go.Proofs.YtpffimahajgiaaaGreatDoor
open VL Go.RowKit
def Zfc (s:ByteArray):Option Bool:=if s.size<=4611686018427387904 then some (ZcI s) else none
theorem Ziy (s:ByteArray) (r:Bool) (h:Zfc s=some r):Zg Tryz.prog 38 [.str s] (.bool r):=by{
unfold Zfc at h
by_cases hs:s.size<=4611686018427387904
rw [if_pos hs] at h
cases h
exact Zav (vals:=[.string s]) (by kernel_rfl) rfl rfl (fun x=>.bool _) fun w _=>(Znq s w hs).mono fun e w' ⟨e1,e2⟩=>⟨e1,e2 ▸ Below.refl _ _⟩
rw [if_neg hs] at h
cases h}
def ZlH (L:List ByteArray) (s:ByteArray):Option Bool:=some (ZqI L s)
theorem ZmX (L:List ByteArray) (s:ByteArray) (r:Bool) (h:ZlH L s=some r):Zg Tryz.prog 110 [.sl (List.map csS L),.str s] (.bool r):=by{
cases h
exact Zds (by kernel_rfl) rfl (fun x=>.bool _) fun x vs hp _=>by
 obtain ⟨v,w,rfl,h1,h2⟩:=args2 hp
 obtain rfl:=ZpV h2
 obtain ⟨A,n,c,rfl,hS⟩:=Zjx hp.flt h1
 exact (Zpd A n c L s x.W hS).mono fun e w' ⟨e1,e2⟩=>⟨e1,e2 ▸ Below.refl _ _⟩}
end Go.Proofs.YtpffimahajgiaaaGreatDoor
