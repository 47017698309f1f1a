/- Functions of the program as Lean functions. Written by fxgen.py. -/
import Derived.Test.YtpffimahajgiaaaGreatDoorVV03
set_option linter.unusedVariables false
set_option maxHeartbeats 4000000
set_option maxRecDepth 100000
namespace Go.Proofs.YtpffimahajgiaaaGreatDoor
open VL
def ZkR (p0:List Int):Option TapeF:=
 (some (⟨p0,0⟩:TapeF):Option TapeF)
theorem Zme (p0:List Int) (r:TapeF) (h:ZkR p0=some r):ContractN Tryz.prog 7 [.sl (List.map csI p0)] (.box r.cs):=by
 refine Zif (O:=fun r=>.box r.cs) h mix Tryz.func7 (by kernel_rfl) rfl (by kernel_rfl) fun r h=>?_
 unfold ZkR at h
 refine Zac ?_
 refine rg ?_
 refine rg ?_
 injection h with h
 subst h
 exact ZnP (t:=5) (g:=(2,2)) (o2:=.box [.sl (List.map csI p0),.int .i64 0]) rfl rfl rfl
def ZS (p0:TapeF) (p1:Int):Option (Int×TapeF):=
 if (decide ((p0.l.length:Int)≤p0.pos)) then
  (some (0,p0):Option (Int×TapeF))
 else
 (atI p0.l p0.pos).bind fun e1=>
 (ZnS .i64 (Zoa .and .i64 e1 16777215) p1).bind fun q2=>
 (some (q2,(⟨p0.l,(w64 (p0.pos+1))⟩:TapeF)):Option (Int×TapeF))
theorem ZI (p0:TapeF) (p1:Int) (r:Int×TapeF) (h:ZS p0 p1=some r):Contract Tryz.prog 23 [.ptr 0 (0,0) 0,.int .i64 p1] (some (0,p0.cs)) (.int .i64 r.1) (r.2).cs:=by
 refine ZaA (R:=fun r=>.int .i64 r.1) (O:=fun r=>(r.2).cs) h mix Tryz.func23 (by kernel_rfl) rfl (by kernel_rfl) fun r h=>?_
 unfold ZS at h
 refine Zac ?_
 refine rg ?_
 refine rg ?_
 refine lM csI p0.l ?_
 refine cS h rfl (fun h=>?_) fun h=>?_
 ·refine rg ?_
  cases h
  exact ZaF rfl rfl rfl rfl rfl
 refine rg ?_
 refine aI csI h fun e1 h=>?_
 refine rg ?_
 refine rg ?_
 obtain ⟨q2,h2,h⟩:=bnd h
 refine ZnZ rfl h2 rfl rfl (Zac ?_)
 cases h
 exact ZaF rfl rfl rfl rfl rfl
def ZW (p0:TapeF) (p1:List ByteArray):Option (ByteArray×TapeF):=
 (ZS p0 (p1.length:Int)).bind fun r1=>
 (atI p1 r1.1).bind fun e2=>
 (some (e2,r1.2):Option (ByteArray×TapeF))
theorem ZX (p0:TapeF) (p1:List ByteArray) (r:ByteArray×TapeF) (h:ZW p0 p1=some r):Contract Tryz.prog 15 [.ptr 0 (0,0) 0,.sl (List.map csS p1)] (some (0,p0.cs)) (.str r.1) (r.2).cs:=by
 refine ZaA (R:=fun r=>.str r.1) (O:=fun r=>(r.2).cs) h mix Tryz.func15 (by kernel_rfl) rfl (by kernel_rfl) fun r h=>?_
 unfold ZW at h
 refine Zac ?_
 refine rg ?_
 refine rg ?_
 refine lM csS p1 ?_
 refine aO h (ZI _ _) fun r1 h=>?_
 refine aI csS h fun e2 h=>?_
 cases h
 exact ZaF rfl rfl rfl rfl rfl
def ZaZ (p0:TapeF):Option (ByteArray×TapeF):=
 (ZW p0 [(⟨#[97]⟩:ByteArray),(⟨#[120,32,121]⟩:ByteArray),(⟨#[49,50]⟩:ByteArray),(⟨#[]⟩:ByteArray),(⟨#[98]⟩:ByteArray),(⟨#[48]⟩:ByteArray),(⟨#[45,51]⟩:ByteArray),(⟨#[65,98]⟩:ByteArray),(⟨#[32]⟩:ByteArray),(⟨#[122]⟩:ByteArray)]).bind fun r1=>
 (some (r1.1,r1.2):Option (ByteArray×TapeF))
theorem ZbJ (p0:TapeF) (r:ByteArray×TapeF) (h:ZaZ p0=some r):Contract Tryz.prog 176 [.ptr 0 (0,0) 0] (some (0,p0.cs)) (.str r.1) (r.2).cs:=by
 refine ZaA (R:=fun r=>.str r.1) (O:=fun r=>(r.2).cs) h mix Tryz.func176 (by kernel_rfl) rfl (by kernel_rfl) fun r h=>?_
 unfold ZaZ at h
 refine Zac ?_
 refine rg ?_
 refine rg ?_
 refine ZbD ([(⟨#[97]⟩:ByteArray),(⟨#[120,32,121]⟩:ByteArray),(⟨#[49,50]⟩:ByteArray),(⟨#[]⟩:ByteArray),(⟨#[98]⟩:ByteArray),(⟨#[48]⟩:ByteArray),(⟨#[45,51]⟩:ByteArray),(⟨#[65,98]⟩:ByteArray),(⟨#[32]⟩:ByteArray),(⟨#[122]⟩:ByteArray)]:List ByteArray) rfl rfl rfl rfl (by decide) (Zac ?_)
 refine aO h (ZX _ _) fun r1 h=>?_
 cases h
 exact ZaF rfl rfl rfl rfl rfl
def Zad:Nat→TapeF→Int→Option (ByteArray×TapeF)
 | 0,_,_=>none
 | mF+1,p0,p1=>
 if (decide (p1≤0)) then
  (ZaZ p0).bind fun r2=>
  (some (r2.1,r2.2):Option (ByteArray×TapeF))
 else
 (ZS p0 24).bind fun r3=>
 if (decide (r3.1=0)) then
  (ZW r3.2 [(⟨#[84]⟩:ByteArray),(⟨#[85,47,120]⟩:ByteArray),(⟨#[58,65]⟩:ByteArray),(⟨#[58,66]⟩:ByteArray),(⟨#[58,67]⟩:ByteArray),(⟨#[47,120]⟩:ByteArray),(⟨#[65]⟩:ByteArray),(⟨#[66]⟩:ByteArray),(⟨#[58,84,97,108,107,58,65]⟩:ByteArray),(⟨#[88]⟩:ByteArray)]).bind fun r110=>
  (ZaW (⟨#[123,123]⟩:ByteArray) r110.1).bind fun s111=>
  (ZaW s111 (⟨#[124]⟩:ByteArray)).bind fun s112=>
  (Zad mF r110.2 (w64 (p1 - 1))).bind fun r113=>
  (ZaW s112 r113.1).bind fun s114=>
  (ZaW s114 (⟨#[124]⟩:ByteArray)).bind fun s115=>
  (ZW r113.2 [(⟨#[107]⟩:ByteArray),(⟨#[49]⟩:ByteArray),(⟨#[110]⟩:ByteArray)]).bind fun r116=>
  (ZaW s115 r116.1).bind fun s117=>
  (ZaW s117 (⟨#[61]⟩:ByteArray)).bind fun s118=>
  (Zad mF r116.2 (w64 (p1 - 1))).bind fun r119=>
  (ZaW s118 r119.1).bind fun s120=>
  (ZaW s120 (⟨#[125,125]⟩:ByteArray)).bind fun s121=>
  (some (s121,r119.2):Option (ByteArray×TapeF))
 else
 if (decide (r3.1=1)) then
  (ZW r3.2 [(⟨#[84]⟩:ByteArray),(⟨#[65]⟩:ByteArray),(⟨#[66]⟩:ByteArray),(⟨#[58,65]⟩:ByteArray),(⟨#[58,65,47,66]⟩:ByteArray)]).bind fun r122=>
  (ZaW (⟨#[123,123]⟩:ByteArray) r122.1).bind fun s123=>
  (ZaW s123 (⟨#[125,125]⟩:ByteArray)).bind fun s124=>
  (some (s124,r122.2):Option (ByteArray×TapeF))
 else
 if (decide (r3.1=2)) then
  (ZW r3.2 [(⟨#[49]⟩:ByteArray),(⟨#[107]⟩:ByteArray),(⟨#[110]⟩:ByteArray),(⟨#[105]⟩:ByteArray),(⟨#[120]⟩:ByteArray)]).bind fun r125=>
  (ZaW (⟨#[123,123,123]⟩:ByteArray) r125.1).bind fun s126=>
  (ZW r125.2 [(⟨#[]⟩:ByteArray),(⟨#[124]⟩:ByteArray),(⟨#[124,100]⟩:ByteArray)]).bind fun r127=>
  (ZaW s126 r127.1).bind fun s128=>
  (ZaW s128 (⟨#[125,125,125]⟩:ByteArray)).bind fun s129=>
  (some (s129,r127.2):Option (ByteArray×TapeF))
 else
 if (decide (r3.1=3)) then
  (Zad mF r3.2 (w64 (p1 - 1))).bind fun r130=>
  (ZaW (⟨#[123,123,35,105,102,58]⟩:ByteArray) r130.1).bind fun s131=>
  (ZaW s131 (⟨#[124]⟩:ByteArray)).bind fun s132=>
  (Zad mF r130.2 (w64 (p1 - 1))).bind fun r133=>
  (ZaW s132 r133.1).bind fun s134=>
  (ZaW s134 (⟨#[124]⟩:ByteArray)).bind fun s135=>
  (Zad mF r133.2 (w64 (p1 - 1))).bind fun r136=>
  (ZaW s135 r136.1).bind fun s137=>
  (ZaW s137 (⟨#[125,125]⟩:ByteArray)).bind fun s138=>
  (some (s138,r136.2):Option (ByteArray×TapeF))
 else
 if (decide (r3.1=4)) then
  (Zad mF r3.2 (w64 (p1 - 1))).bind fun r139=>
  (ZaW (⟨#[123,123,35,105,102,101,113,58]⟩:ByteArray) r139.1).bind fun s140=>
  (ZaW s140 (⟨#[124]⟩:ByteArray)).bind fun s141=>
  (Zad mF r139.2 (w64 (p1 - 1))).bind fun r142=>
  (ZaW s141 r142.1).bind fun s143=>
  (ZaW s143 (⟨#[124,121,101,115,124]⟩:ByteArray)).bind fun s144=>
  (Zad mF r142.2 (w64 (p1 - 1))).bind fun r145=>
  (ZaW s144 r145.1).bind fun s146=>
  (ZaW s146 (⟨#[125,125]⟩:ByteArray)).bind fun s147=>
  (some (s147,r145.2):Option (ByteArray×TapeF))
 else
 if (decide (r3.1=5)) then
  (ZaZ r3.2).bind fun r148=>
  (ZaW (⟨#[123,123,35,115,119,105,116,99,104,58]⟩:ByteArray) r148.1).bind fun s149=>
  (ZaW s149 (⟨#[124,97,61,49,124,98,124,49,50,61]⟩:ByteArray)).bind fun s150=>
  (Zad mF r148.2 (w64 (p1 - 1))).bind fun r151=>
  (ZaW s150 r151.1).bind fun s152=>
  (ZaW s152 (⟨#[124,35,100,101,102,97,117,108,116,61,100,124]⟩:ByteArray)).bind fun s153=>
  (ZW r151.2 [(⟨#[122,61,50]⟩:ByteArray),(⟨#[108,97,115,116]⟩:ByteArray)]).bind fun r154=>
  (ZaW s153 r154.1).bind fun s155=>
  (ZaW s155 (⟨#[125,125]⟩:ByteArray)).bind fun s156=>
  (some (s156,r154.2):Option (ByteArray×TapeF))
 else
 if (decide (r3.1=6)) then
  (ZW r3.2 [(⟨#[65]⟩:ByteArray),(⟨#[66]⟩:ByteArray),(⟨#[84,101,109,112,108,97,116,101,58,84]⟩:ByteArray),(⟨#[67]⟩:ByteArray),(⟨#[91]⟩:ByteArray),(⟨#[84,97,108,107,58,65]⟩:ByteArray)]).bind fun r157=>
  (ZaW (⟨#[123,123,35,105,102,101,120,105,115,116,58]⟩:ByteArray) r157.1).bind fun s158=>
  (ZaW s158 (⟨#[124]⟩:ByteArray)).bind fun s159=>
  (Zad mF r157.2 (w64 (p1 - 1))).bind fun r160=>
  (ZaW s159 r160.1).bind fun s161=>
  (ZaW s161 (⟨#[124,110,111,125,125]⟩:ByteArray)).bind fun s162=>
  (some (s162,r160.2):Option (ByteArray×TapeF))
 else
 if (decide (r3.1=7)) then
  (ZW r3.2 [(⟨#[49,44,50,44,51]⟩:ByteArray),(⟨#[97,44,98]⟩:ByteArray),(⟨#[]⟩:ByteArray),(⟨#[120]⟩:ByteArray)]).bind fun r163=>
  (ZaW (⟨#[123,123,35,102,111,114,58]⟩:ByteArray) r163.1).bind fun s164=>
  (ZaW s164 (⟨#[124,124,105,124]⟩:ByteArray)).bind fun s165=>
  (Zad mF r163.2 (w64 (p1 - 1))).bind fun r166=>
  (ZaW s165 r166.1).bind fun s167=>
  (ZaW s167 (⟨#[123,123,123,105,125,125,125,124,44,32,125,125]⟩:ByteArray)).bind fun s168=>
  (some (s168,r166.2):Option (ByteArray×TapeF))
 else
 if (decide (r3.1=8)) then
  (ZW r3.2 [(⟨#[89]⟩:ByteArray),(⟨#[70,32,89]⟩:ByteArray),(⟨#[106,46,110,46]⟩:ByteArray),(⟨#[72]⟩:ByteArray),(⟨#[72,58,105]⟩:ByteArray),(⟨#[78]⟩:ByteArray),(⟨#[92,89]⟩:ByteArray)]).bind fun r169=>
  (ZaW (⟨#[123,123,35,100,97,116,101,58]⟩:ByteArray) r169.1).bind fun s170=>
  (ZaW s170 (⟨#[125,125]⟩:ByteArray)).bind fun s171=>
  (some (s171,r169.2):Option (ByteArray×TapeF))
 else
 if (decide (r3.1=9)) then
  (ZW r3.2 [(⟨#[88]⟩:ByteArray),(⟨#[65]⟩:ByteArray),(⟨#[66]⟩:ByteArray)]).bind fun r172=>
  (ZaW (⟨#[123,123,35,99,111,117,110,116,58]⟩:ByteArray) r172.1).bind fun s173=>
  (ZaW s173 (⟨#[125,125]⟩:ByteArray)).bind fun s174=>
  (some (s174,r172.2):Option (ByteArray×TapeF))
 else
 if (decide (r3.1=10)) then
  (ZW r3.2 [(⟨#[88]⟩:ByteArray),(⟨#[65]⟩:ByteArray),(⟨#[]⟩:ByteArray)]).bind fun r175=>
  (ZaW (⟨#[123,123,35,109,101,109,98,101,114,115,58]⟩:ByteArray) r175.1).bind fun s176=>
  (ZaW s176 (⟨#[125,125]⟩:ByteArray)).bind fun s177=>
  (some (s177,r175.2):Option (ByteArray×TapeF))
 else
 if (decide (r3.1=11)) then
  (ZW r3.2 [(⟨#[114,101,97,100]⟩:ByteArray),(⟨#[101,100,105,116]⟩:ByteArray),(⟨#[120]⟩:ByteArray)]).bind fun r178=>
  (ZaW (⟨#[123,123,35,114,105,103,104,116,58]⟩:ByteArray) r178.1).bind fun s179=>
  (ZaW s179 (⟨#[124]⟩:ByteArray)).bind fun s180=>
  (ZW r178.2 [(⟨#[65]⟩:ByteArray),(⟨#[66]⟩:ByteArray),(⟨#[84,97,108,107,58,65]⟩:ByteArray)]).bind fun r181=>
  (ZaW s180 r181.1).bind fun s182=>
  (ZaW s182 (⟨#[124,109,97,121,124,109,97,121,32,110,111,116,125,125]⟩:ByteArray)).bind fun s183=>
  (some (s183,r181.2):Option (ByteArray×TapeF))
 else
 if (decide (r3.1=12)) then
  (ZW r3.2 [(⟨#[65]⟩:ByteArray),(⟨#[66]⟩:ByteArray),(⟨#[67]⟩:ByteArray)]).bind fun r184=>
  (ZaW (⟨#[123,123,35,114,101,118,105,115,105,111,110,58]⟩:ByteArray) r184.1).bind fun s185=>
  (ZaW s185 (⟨#[125,125]⟩:ByteArray)).bind fun s186=>
  (some (s186,r184.2):Option (ByteArray×TapeF))
 else
 if (decide (r3.1=13)) then
  (ZaZ r3.2).bind fun r187=>
  (ZaW (⟨#[117,99,58]⟩:ByteArray) r187.1).bind fun s188=>
  (ZW r187.2 [(⟨#[102,111,114,109,117,108,97,58,49,43,50,42,51]⟩:ByteArray),(⟨#[102,111,114,109,117,108,97,58,49,47,48]⟩:ByteArray),(⟨#[108,101,110,58,97,98,99]⟩:ByteArray),s188,(⟨#[115,117,98,58,97,98,99,100,101,102,124,49,124,50]⟩:ByteArray),(⟨#[110,111,110,101,58,120]⟩:ByteArray),(⟨#[112,97,103,101]⟩:ByteArray),(⟨#[110,97,109,101]⟩:ByteArray),(⟨#[115,112,97,99,101]⟩:ByteArray),(⟨#[105,102,102,111,114,109,117,108,97,58,49,62,50,124,97,124,98]⟩:ByteArray)]).bind fun r189=>
  (ZaW (⟨#[123,123,35]⟩:ByteArray) r189.1).bind fun s190=>
  (ZaW s190 (⟨#[125,125]⟩:ByteArray)).bind fun s191=>
  (some (s191,r189.2):Option (ByteArray×TapeF))
 else
 if (decide (r3.1=14)) then
  (ZW r3.2 [(⟨#[65]⟩:ByteArray),(⟨#[66]⟩:ByteArray),(⟨#[84,97,108,107,58,65]⟩:ByteArray),(⟨#[67,124,99]⟩:ByteArray),(⟨#[67,97,116,101,103,111,114,121,58,88]⟩:ByteArray),(⟨#[67,97,116,101,103,111,114,121,58,88,124,115]⟩:ByteArray),(⟨#[58,67,97,116,101,103,111,114,121,58,88]⟩:ByteArray),(⟨#[65,35,115]⟩:ByteArray),(⟨#[35,115]⟩:ByteArray),(⟨#[91]⟩:ByteArray),(⟨#[67,97,116,101,103,111,114,121,58,65]⟩:ByteArray)]).bind fun r192=>
  (ZaW (⟨#[91,91]⟩:ByteArray) r192.1).bind fun s193=>
  (ZaW s193 (⟨#[93,93]⟩:ByteArray)).bind fun s194=>
  (some (s194,r192.2):Option (ByteArray×TapeF))
 else
 if (decide (r3.1=15)) then
  (Zad mF r3.2 (w64 (p1 - 1))).bind fun r195=>
  (ZaW (⟨#[39,39,39]⟩:ByteArray) r195.1).bind fun s196=>
  (ZaW s196 (⟨#[39,39,39]⟩:ByteArray)).bind fun s197=>
  (some (s197,r195.2):Option (ByteArray×TapeF))
 else
 if (decide (r3.1=16)) then
  (Zad mF r3.2 (w64 (p1 - 1))).bind fun r198=>
  (ZaW (⟨#[39,39]⟩:ByteArray) r198.1).bind fun s199=>
  (ZaW s199 (⟨#[39,39]⟩:ByteArray)).bind fun s200=>
  (some (s200,r198.2):Option (ByteArray×TapeF))
 else
 if (decide (r3.1=17)) then
  (ZW r3.2 [(⟨#[]⟩:ByteArray),(⟨#[32,110,97,109,101,61,110]⟩:ByteArray),(⟨#[32,110,97,109,101,61,109]⟩:ByteArray)]).bind fun r201=>
  (ZaW (⟨#[60,114,101,102]⟩:ByteArray) r201.1).bind fun s202=>
  (ZaW s202 (⟨#[62]⟩:ByteArray)).bind fun s203=>
  (Zad mF r201.2 (w64 (p1 - 1))).bind fun r204=>
  (ZaW s203 r204.1).bind fun s205=>
  (ZaW s205 (⟨#[60,47,114,101,102,62]⟩:ByteArray)).bind fun s206=>
  (some (s206,r204.2):Option (ByteArray×TapeF))
 else
 if (decide (r3.1=18)) then
  (ZW r3.2 [(⟨#[123,123,84,125,125]⟩:ByteArray),(⟨#[39,39]⟩:ByteArray),(⟨#[91,91,65,93,93]⟩:ByteArray),(⟨#[97]⟩:ByteArray)]).bind fun r207=>
  (ZaW (⟨#[60,110,111,119,105,107,105,62]⟩:ByteArray) r207.1).bind fun s208=>
  (ZaW s208 (⟨#[60,47,110,111,119,105,107,105,62]⟩:ByteArray)).bind fun s209=>
  (some (s209,r207.2):Option (ByteArray×TapeF))
 else
 if (decide (r3.1=19)) then
  (ZW r3.2 [(⟨#[60,110,111,105,110,99,108,117,100,101,62]⟩:ByteArray),(⟨#[60,105,110,99,108,117,100,101,111,110,108,121,62]⟩:ByteArray),(⟨#[60,111,110,108,121,105,110,99,108,117,100,101,62]⟩:ByteArray)]).bind fun r210=>
  (Zad mF r210.2 (w64 (p1 - 1))).bind fun r211=>
  (ZaW r210.1 r211.1).bind fun s212=>
  (ZW r211.2 [(⟨#[60,47,110,111,105,110,99,108,117,100,101,62]⟩:ByteArray),(⟨#[60,47,105,110,99,108,117,100,101,111,110,108,121,62]⟩:ByteArray),(⟨#[60,47,111,110,108,121,105,110,99,108,117,100,101,62]⟩:ByteArray)]).bind fun r213=>
  (ZaW s212 r213.1).bind fun s214=>
  (some (s214,r213.2):Option (ByteArray×TapeF))
 else
 if (decide (r3.1=20)) then
  (ZW r3.2 [(⟨#[60,33,45,45,99,45,45,62]⟩:ByteArray),(⟨#[60,114,101,102,32,110,97,109,101,61,110,47,62]⟩:ByteArray),(⟨#[60,98,114,62]⟩:ByteArray),(⟨#[38,108,116,59]⟩:ByteArray),(⟨#[38,35,57,49,59]⟩:ByteArray),(⟨#[123,123]⟩:ByteArray),(⟨#[125,125]⟩:ByteArray),(⟨#[91,91]⟩:ByteArray),(⟨#[93,93]⟩:ByteArray),(⟨#[124]⟩:ByteArray),(⟨#[61]⟩:ByteArray)]).bind fun r215=>
  (some (r215.1,r215.2):Option (ByteArray×TapeF))
 else
 (ZaZ r3.2).bind fun r216=>
 (some (r216.1,r216.2):Option (ByteArray×TapeF))
theorem Zfl (mF:Nat):∀ (p0:TapeF) (p1:Int) (r:ByteArray×TapeF),Zad mF p0 p1=some r→Contract Tryz.prog 111 [.ptr 0 (0,0) 0,.int .i64 p1] (some (0,p0.cs)) (.str r.1) (r.2).cs:=by
 induction mF with
 | zero=>intro p0 p1 r h;cases h
 | succ mF ihF=>
 intro p0 p1 r h
 refine ZaA (R:=fun r=>.str r.1) (O:=fun r=>(r.2).cs) h mix Tryz.func111 (by kernel_rfl) rfl (by kernel_rfl) fun r h=>?_
 simp only [Zad] at h
 refine Zac ?_
 refine rg ?_
 refine rg ?_
 refine cS h rfl (fun h=>?_) fun h=>?_
 ·refine rg ?_
  refine aO h (ZbJ _) fun r2 h=>?_
  cases h
  exact ZaF rfl rfl rfl rfl rfl
 refine rg ?_
 refine rg ?_
 refine aO h (ZI _ _) fun r3 h=>?_
 refine bl ?_
 refine rg ?_
 refine cS h rfl (fun h=>?_) fun h=>?_
 ·refine rg ?_
  refine ZbD ([(⟨#[84]⟩:ByteArray),(⟨#[85,47,120]⟩:ByteArray),(⟨#[58,65]⟩:ByteArray),(⟨#[58,66]⟩:ByteArray),(⟨#[58,67]⟩:ByteArray),(⟨#[47,120]⟩:ByteArray),(⟨#[65]⟩:ByteArray),(⟨#[66]⟩:ByteArray),(⟨#[58,84,97,108,107,58,65]⟩:ByteArray),(⟨#[88]⟩:ByteArray)]:List ByteArray) rfl rfl rfl rfl (by decide) (Zac ?_)
  refine aO h (ZX _ _) fun r110 h=>?_
  refine sT h fun s111 h=>?_
  refine sT h fun s112 h=>?_
  obtain ⟨r113,h113,h⟩:=bnd h
  refine Zba (ihF _ _ _ h113) rfl rfl rfl rfl rfl (Zac ?_)
  refine sT h fun s114 h=>?_
  refine sT h fun s115 h=>?_
  refine bM csS ([(⟨#[107]⟩:ByteArray),(⟨#[49]⟩:ByteArray),(⟨#[110]⟩:ByteArray)]:List ByteArray) ?_
  refine aO h (ZX _ _) fun r116 h=>?_
  refine sT h fun s117 h=>?_
  refine sT h fun s118 h=>?_
  obtain ⟨r119,h119,h⟩:=bnd h
  refine Zba (ihF _ _ _ h119) rfl rfl rfl rfl rfl (Zac ?_)
  refine sT h fun s120 h=>?_
  refine sT h fun s121 h=>?_
  cases h
  exact ZaF rfl rfl rfl rfl rfl
 refine rg ?_
 refine cS h rfl (fun h=>?_) fun h=>?_
 ·refine rg ?_
  refine bM csS ([(⟨#[84]⟩:ByteArray),(⟨#[65]⟩:ByteArray),(⟨#[66]⟩:ByteArray),(⟨#[58,65]⟩:ByteArray),(⟨#[58,65,47,66]⟩:ByteArray)]:List ByteArray) ?_
  refine aO h (ZX _ _) fun r122 h=>?_
  refine sT h fun s123 h=>?_
  refine sT h fun s124 h=>?_
  cases h
  exact ZaF rfl rfl rfl rfl rfl
 refine rg ?_
 refine cS h rfl (fun h=>?_) fun h=>?_
 ·refine rg ?_
  refine bM csS ([(⟨#[49]⟩:ByteArray),(⟨#[107]⟩:ByteArray),(⟨#[110]⟩:ByteArray),(⟨#[105]⟩:ByteArray),(⟨#[120]⟩:ByteArray)]:List ByteArray) ?_
  refine aO h (ZX _ _) fun r125 h=>?_
  refine sT h fun s126 h=>?_
  refine bM csS ([(⟨#[]⟩:ByteArray),(⟨#[124]⟩:ByteArray),(⟨#[124,100]⟩:ByteArray)]:List ByteArray) ?_
  refine aO h (ZX _ _) fun r127 h=>?_
  refine sT h fun s128 h=>?_
  refine sT h fun s129 h=>?_
  cases h
  exact ZaF rfl rfl rfl rfl rfl
 refine rg ?_
 refine cS h rfl (fun h=>?_) fun h=>?_
 ·refine rg ?_
  obtain ⟨r130,h130,h⟩:=bnd h
  refine Zba (ihF _ _ _ h130) rfl rfl rfl rfl rfl (Zac ?_)
  refine sT h fun s131 h=>?_
  refine sT h fun s132 h=>?_
  obtain ⟨r133,h133,h⟩:=bnd h
  refine Zba (ihF _ _ _ h133) rfl rfl rfl rfl rfl (Zac ?_)
  refine sT h fun s134 h=>?_
  refine sT h fun s135 h=>?_
  obtain ⟨r136,h136,h⟩:=bnd h
  refine Zba (ihF _ _ _ h136) rfl rfl rfl rfl rfl (Zac ?_)
  refine sT h fun s137 h=>?_
  refine sT h fun s138 h=>?_
  cases h
  exact ZaF rfl rfl rfl rfl rfl
 refine rg ?_
 refine cS h rfl (fun h=>?_) fun h=>?_
 ·refine rg ?_
  obtain ⟨r139,h139,h⟩:=bnd h
  refine Zba (ihF _ _ _ h139) rfl rfl rfl rfl rfl (Zac ?_)
  refine sT h fun s140 h=>?_
  refine sT h fun s141 h=>?_
  obtain ⟨r142,h142,h⟩:=bnd h
  refine Zba (ihF _ _ _ h142) rfl rfl rfl rfl rfl (Zac ?_)
  refine sT h fun s143 h=>?_
  refine sT h fun s144 h=>?_
  obtain ⟨r145,h145,h⟩:=bnd h
  refine Zba (ihF _ _ _ h145) rfl rfl rfl rfl rfl (Zac ?_)
  refine sT h fun s146 h=>?_
  refine sT h fun s147 h=>?_
  cases h
  exact ZaF rfl rfl rfl rfl rfl
 refine rg ?_
 refine cS h rfl (fun h=>?_) fun h=>?_
 ·refine rg ?_
  refine aO h (ZbJ _) fun r148 h=>?_
  refine sT h fun s149 h=>?_
  refine sT h fun s150 h=>?_
  obtain ⟨r151,h151,h⟩:=bnd h
  refine Zba (ihF _ _ _ h151) rfl rfl rfl rfl rfl (Zac ?_)
  refine sT h fun s152 h=>?_
  refine sT h fun s153 h=>?_
  refine bM csS ([(⟨#[122,61,50]⟩:ByteArray),(⟨#[108,97,115,116]⟩:ByteArray)]:List ByteArray) ?_
  refine aO h (ZX _ _) fun r154 h=>?_
  refine sT h fun s155 h=>?_
  refine sT h fun s156 h=>?_
  cases h
  exact ZaF rfl rfl rfl rfl rfl
 refine rg ?_
 refine cS h rfl (fun h=>?_) fun h=>?_
 ·refine rg ?_
  refine bM csS ([(⟨#[65]⟩:ByteArray),(⟨#[66]⟩:ByteArray),(⟨#[84,101,109,112,108,97,116,101,58,84]⟩:ByteArray),(⟨#[67]⟩:ByteArray),(⟨#[91]⟩:ByteArray),(⟨#[84,97,108,107,58,65]⟩:ByteArray)]:List ByteArray) ?_
  refine aO h (ZX _ _) fun r157 h=>?_
  refine sT h fun s158 h=>?_
  refine sT h fun s159 h=>?_
  obtain ⟨r160,h160,h⟩:=bnd h
  refine Zba (ihF _ _ _ h160) rfl rfl rfl rfl rfl (Zac ?_)
  refine sT h fun s161 h=>?_
  refine sT h fun s162 h=>?_
  cases h
  exact ZaF rfl rfl rfl rfl rfl
 refine rg ?_
 refine cS h rfl (fun h=>?_) fun h=>?_
 ·refine rg ?_
  refine bM csS ([(⟨#[49,44,50,44,51]⟩:ByteArray),(⟨#[97,44,98]⟩:ByteArray),(⟨#[]⟩:ByteArray),(⟨#[120]⟩:ByteArray)]:List ByteArray) ?_
  refine aO h (ZX _ _) fun r163 h=>?_
  refine sT h fun s164 h=>?_
  refine sT h fun s165 h=>?_
  obtain ⟨r166,h166,h⟩:=bnd h
  refine Zba (ihF _ _ _ h166) rfl rfl rfl rfl rfl (Zac ?_)
  refine sT h fun s167 h=>?_
  refine sT h fun s168 h=>?_
  cases h
  exact ZaF rfl rfl rfl rfl rfl
 refine rg ?_
 refine cS h rfl (fun h=>?_) fun h=>?_
 ·refine rg ?_
  refine bM csS ([(⟨#[89]⟩:ByteArray),(⟨#[70,32,89]⟩:ByteArray),(⟨#[106,46,110,46]⟩:ByteArray),(⟨#[72]⟩:ByteArray),(⟨#[72,58,105]⟩:ByteArray),(⟨#[78]⟩:ByteArray),(⟨#[92,89]⟩:ByteArray)]:List ByteArray) ?_
  refine aO h (ZX _ _) fun r169 h=>?_
  refine sT h fun s170 h=>?_
  refine sT h fun s171 h=>?_
  cases h
  exact ZaF rfl rfl rfl rfl rfl
 refine rg ?_
 refine cS h rfl (fun h=>?_) fun h=>?_
 ·refine rg ?_
  refine bM csS ([(⟨#[88]⟩:ByteArray),(⟨#[65]⟩:ByteArray),(⟨#[66]⟩:ByteArray)]:List ByteArray) ?_
  refine aO h (ZX _ _) fun r172 h=>?_
  refine sT h fun s173 h=>?_
  refine sT h fun s174 h=>?_
  cases h
  exact ZaF rfl rfl rfl rfl rfl
 refine rg ?_
 refine cS h rfl (fun h=>?_) fun h=>?_
 ·refine rg ?_
  refine bM csS ([(⟨#[88]⟩:ByteArray),(⟨#[65]⟩:ByteArray),(⟨#[]⟩:ByteArray)]:List ByteArray) ?_
  refine aO h (ZX _ _) fun r175 h=>?_
  refine sT h fun s176 h=>?_
  refine sT h fun s177 h=>?_
  cases h
  exact ZaF rfl rfl rfl rfl rfl
 refine rg ?_
 refine cS h rfl (fun h=>?_) fun h=>?_
 ·refine rg ?_
  refine bM csS ([(⟨#[114,101,97,100]⟩:ByteArray),(⟨#[101,100,105,116]⟩:ByteArray),(⟨#[120]⟩:ByteArray)]:List ByteArray) ?_
  refine aO h (ZX _ _) fun r178 h=>?_
  refine sT h fun s179 h=>?_
  refine sT h fun s180 h=>?_
  refine bM csS ([(⟨#[65]⟩:ByteArray),(⟨#[66]⟩:ByteArray),(⟨#[84,97,108,107,58,65]⟩:ByteArray)]:List ByteArray) ?_
  refine aO h (ZX _ _) fun r181 h=>?_
  refine sT h fun s182 h=>?_
  refine sT h fun s183 h=>?_
  cases h
  exact ZaF rfl rfl rfl rfl rfl
 refine rg ?_
 refine cS h rfl (fun h=>?_) fun h=>?_
 ·refine rg ?_
  refine bM csS ([(⟨#[65]⟩:ByteArray),(⟨#[66]⟩:ByteArray),(⟨#[67]⟩:ByteArray)]:List ByteArray) ?_
  refine aO h (ZX _ _) fun r184 h=>?_
  refine sT h fun s185 h=>?_
  refine sT h fun s186 h=>?_
  cases h
  exact ZaF rfl rfl rfl rfl rfl
 refine rg ?_
 refine cS h rfl (fun h=>?_) fun h=>?_
 ·refine rg ?_
  refine aO h (ZbJ _) fun r187 h=>?_
  refine sT h fun s188 h=>?_
  refine ZbD ([(⟨#[102,111,114,109,117,108,97,58,49,43,50,42,51]⟩:ByteArray),(⟨#[102,111,114,109,117,108,97,58,49,47,48]⟩:ByteArray),(⟨#[108,101,110,58,97,98,99]⟩:ByteArray),s188,(⟨#[115,117,98,58,97,98,99,100,101,102,124,49,124,50]⟩:ByteArray),(⟨#[110,111,110,101,58,120]⟩:ByteArray),(⟨#[112,97,103,101]⟩:ByteArray),(⟨#[110,97,109,101]⟩:ByteArray),(⟨#[115,112,97,99,101]⟩:ByteArray),(⟨#[105,102,102,111,114,109,117,108,97,58,49,62,50,124,97,124,98]⟩:ByteArray)]:List ByteArray) rfl rfl rfl rfl (by decide) (Zac ?_)
  refine aO h (ZX _ _) fun r189 h=>?_
  refine sT h fun s190 h=>?_
  refine sT h fun s191 h=>?_
  cases h
  exact ZaF rfl rfl rfl rfl rfl
 refine rg ?_
 refine cS h rfl (fun h=>?_) fun h=>?_
 ·refine rg ?_
  refine ZbD ([(⟨#[65]⟩:ByteArray),(⟨#[66]⟩:ByteArray),(⟨#[84,97,108,107,58,65]⟩:ByteArray),(⟨#[67,124,99]⟩:ByteArray),(⟨#[67,97,116,101,103,111,114,121,58,88]⟩:ByteArray),(⟨#[67,97,116,101,103,111,114,121,58,88,124,115]⟩:ByteArray),(⟨#[58,67,97,116,101,103,111,114,121,58,88]⟩:ByteArray),(⟨#[65,35,115]⟩:ByteArray),(⟨#[35,115]⟩:ByteArray),(⟨#[91]⟩:ByteArray),(⟨#[67,97,116,101,103,111,114,121,58,65]⟩:ByteArray)]:List ByteArray) rfl rfl rfl rfl (by decide) (Zac ?_)
  refine aO h (ZX _ _) fun r192 h=>?_
  refine sT h fun s193 h=>?_
  refine sT h fun s194 h=>?_
  cases h
  exact ZaF rfl rfl rfl rfl rfl
 refine rg ?_
 refine cS h rfl (fun h=>?_) fun h=>?_
 ·refine rg ?_
  obtain ⟨r195,h195,h⟩:=bnd h
  refine Zba (ihF _ _ _ h195) rfl rfl rfl rfl rfl (Zac ?_)
  refine sT h fun s196 h=>?_
  refine sT h fun s197 h=>?_
  cases h
  exact ZaF rfl rfl rfl rfl rfl
 refine rg ?_
 refine cS h rfl (fun h=>?_) fun h=>?_
 ·refine rg ?_
  obtain ⟨r198,h198,h⟩:=bnd h
  refine Zba (ihF _ _ _ h198) rfl rfl rfl rfl rfl (Zac ?_)
  refine sT h fun s199 h=>?_
  refine sT h fun s200 h=>?_
  cases h
  exact ZaF rfl rfl rfl rfl rfl
 refine rg ?_
 refine cS h rfl (fun h=>?_) fun h=>?_
 ·refine rg ?_
  refine bM csS ([(⟨#[]⟩:ByteArray),(⟨#[32,110,97,109,101,61,110]⟩:ByteArray),(⟨#[32,110,97,109,101,61,109]⟩:ByteArray)]:List ByteArray) ?_
  refine aO h (ZX _ _) fun r201 h=>?_
  refine sT h fun s202 h=>?_
  refine sT h fun s203 h=>?_
  obtain ⟨r204,h204,h⟩:=bnd h
  refine Zba (ihF _ _ _ h204) rfl rfl rfl rfl rfl (Zac ?_)
  refine sT h fun s205 h=>?_
  refine sT h fun s206 h=>?_
  cases h
  exact ZaF rfl rfl rfl rfl rfl
 refine rg ?_
 refine cS h rfl (fun h=>?_) fun h=>?_
 ·refine rg ?_
  refine bM csS ([(⟨#[123,123,84,125,125]⟩:ByteArray),(⟨#[39,39]⟩:ByteArray),(⟨#[91,91,65,93,93]⟩:ByteArray),(⟨#[97]⟩:ByteArray)]:List ByteArray) ?_
  refine aO h (ZX _ _) fun r207 h=>?_
  refine sT h fun s208 h=>?_
  refine sT h fun s209 h=>?_
  cases h
  exact ZaF rfl rfl rfl rfl rfl
 refine rg ?_
 refine cS h rfl (fun h=>?_) fun h=>?_
 ·refine rg ?_
  refine bM csS ([(⟨#[60,110,111,105,110,99,108,117,100,101,62]⟩:ByteArray),(⟨#[60,105,110,99,108,117,100,101,111,110,108,121,62]⟩:ByteArray),(⟨#[60,111,110,108,121,105,110,99,108,117,100,101,62]⟩:ByteArray)]:List ByteArray) ?_
  refine aO h (ZX _ _) fun r210 h=>?_
  obtain ⟨r211,h211,h⟩:=bnd h
  refine Zba (ihF _ _ _ h211) rfl rfl rfl rfl rfl (Zac ?_)
  refine sT h fun s212 h=>?_
  refine bM csS ([(⟨#[60,47,110,111,105,110,99,108,117,100,101,62]⟩:ByteArray),(⟨#[60,47,105,110,99,108,117,100,101,111,110,108,121,62]⟩:ByteArray),(⟨#[60,47,111,110,108,121,105,110,99,108,117,100,101,62]⟩:ByteArray)]:List ByteArray) ?_
  refine aO h (ZX _ _) fun r213 h=>?_
  refine sT h fun s214 h=>?_
  cases h
  exact ZaF rfl rfl rfl rfl rfl
 refine rg ?_
 refine cS h rfl (fun h=>?_) fun h=>?_
 ·refine rg ?_
  refine ZbD ([(⟨#[60,33,45,45,99,45,45,62]⟩:ByteArray),(⟨#[60,114,101,102,32,110,97,109,101,61,110,47,62]⟩:ByteArray),(⟨#[60,98,114,62]⟩:ByteArray),(⟨#[38,108,116,59]⟩:ByteArray),(⟨#[38,35,57,49,59]⟩:ByteArray),(⟨#[123,123]⟩:ByteArray),(⟨#[125,125]⟩:ByteArray),(⟨#[91,91]⟩:ByteArray),(⟨#[93,93]⟩:ByteArray),(⟨#[124]⟩:ByteArray),(⟨#[61]⟩:ByteArray)]:List ByteArray) rfl rfl rfl rfl (by decide) (Zac ?_)
  refine aO h (ZX _ _) fun r215 h=>?_
  cases h
  exact ZaF rfl rfl rfl rfl rfl
 refine rg ?_
 refine aO h (ZbJ _) fun r216 h=>?_
 cases h
 exact ZaF rfl rfl rfl rfl rfl
def ZbR (p0:TapeF) (p1:Int):Option (ByteArray×TapeF):=
 (ZW p0 [(⟨#[]⟩:ByteArray),(⟨#[]⟩:ByteArray),(⟨#[]⟩:ByteArray),(⟨#[42,32]⟩:ByteArray),(⟨#[42,42,32]⟩:ByteArray),(⟨#[35,32]⟩:ByteArray),(⟨#[42,35,32]⟩:ByteArray),(⟨#[32]⟩:ByteArray),(⟨#[123,124]⟩:ByteArray),(⟨#[124]⟩:ByteArray),(⟨#[124,45]⟩:ByteArray),(⟨#[33]⟩:ByteArray),(⟨#[124,125]⟩:ByteArray),(⟨#[45,45,45,45]⟩:ByteArray)]).bind fun r1=>
 Zbf Zdy (fun f2 ((x26,x27,x28,x29):ByteArray×Int×(List Int)×Int)=>
  (ZS (⟨x28,x29⟩:TapeF) 3).bind fun r35=>
  if (decide (x27≤r35.1)) then
   (Zad 8 r35.2 p1).bind fun r38=>
   (ZaW x26 r38.1).bind fun s39=>
   f2 (s39,(w64 (x27+1)),r38.2.l,r38.2.pos)
  else
  (some (x26,r35.2):Option (ByteArray×TapeF))) (r1.1,0,r1.2.l,r1.2.pos)
theorem ZfE (p0:TapeF) (p1:Int) (r:ByteArray×TapeF) (h:ZbR p0 p1=some r):Contract Tryz.prog 67 [.ptr 0 (0,0) 0,.int .i64 p1] (some (0,p0.cs)) (.str r.1) (r.2).cs:=by
 refine ZaA (R:=fun r=>.str r.1) (O:=fun r=>(r.2).cs) h mix Tryz.func67 (by kernel_rfl) rfl (by kernel_rfl) fun r h=>?_
 unfold ZbR at h
 refine Zac ?_
 refine rg ?_
 refine rg ?_
 refine ZbD ([(⟨#[]⟩:ByteArray),(⟨#[]⟩:ByteArray),(⟨#[]⟩:ByteArray),(⟨#[42,32]⟩:ByteArray),(⟨#[42,42,32]⟩:ByteArray),(⟨#[35,32]⟩:ByteArray),(⟨#[42,35,32]⟩:ByteArray),(⟨#[32]⟩:ByteArray),(⟨#[123,124]⟩:ByteArray),(⟨#[124]⟩:ByteArray),(⟨#[124,45]⟩:ByteArray),(⟨#[33]⟩:ByteArray),(⟨#[124,125]⟩:ByteArray),(⟨#[45,45,45,45]⟩:ByteArray)]:List ByteArray) rfl rfl rfl rfl (by decide) (Zac ?_)
 refine aO h (ZX _ _) fun r1 h=>?_
 refine rg ?_
 refine bl ?_
 refine Zat h fun f2 mf2 hf2 h=>?_
 refine Zah (α:=Nat×(ByteArray×Int×(List Int)×Int)) (fun a _=>mkS [(0,.ptr 0 (0,0) 0),(1,.int .i64 p1),(5,.str a.2.1),(6,.int .i64 a.2.2.1)] [(0,some ((0,0),.box [.sl (List.map csI a.2.2.2.1),.int .i64 a.2.2.2.2]))] 2) (fun a=>Zbf a.1 f2 a.2=some r) (fun a=>a.1) (mf2,r1.1,0,r1.2.l,r1.2.pos) 2 h (sR []) (fun a _ h=>?_)
 obtain ⟨mf2,x26,x27,x28,x29⟩:=a
 obtain ⟨mf2,rfl,h⟩:=Zau hf2 h
 dsimp only at h ⊢
 refine Zac ?_
 refine rg ?_
 refine aO h (ZI _ _) fun r35 h=>?_
 refine cS h rfl (fun h=>?_) fun h=>?_
 ·refine bl ?_
  refine rg ?_
  obtain ⟨r38,h30,h⟩:=bnd h
  refine Zba (Zfl 8 _ _ _ h30) rfl rfl rfl rfl rfl (Zac ?_)
  refine sT h fun s39 h=>?_
  refine rg ?_
  exact rn (mf2,s39,(w64 (x27+1)),r38.2.l,r38.2.pos) h (sR [])
 refine rg ?_
 cases h
 exact ZaF rfl rfl rfl rfl rfl
def ZbS (p0:TapeF) (p1:Int):Option (ByteArray×TapeF):=
 (ZW p0 [(⟨#[]⟩:ByteArray),(⟨#[]⟩:ByteArray),(⟨#[]⟩:ByteArray),(⟨#[]⟩:ByteArray),(⟨#[35,82,69,68,73,82,69,67,84,32,91,91,66,93,93,10]⟩:ByteArray),(⟨#[35,82,69,68,73,82,69,67,84,32,91,91,58,84,101,109,112,108,97,116,101,58,84,93,93,32,120]⟩:ByteArray)]).bind fun r1=>
 (ZS r1.2 5).bind fun r2=>
 Zbf Zdy (fun f18 ((x163,x164,x165,x166):ByteArray×Int×(List Int)×Int)=>
  if (decide (x164≤r2.1)) then
   letk (fun (x231:ByteArray)=>
    (ZS (⟨x165,x166⟩:TapeF) 4).bind fun r232=>
    letk (fun (x239:ByteArray) (x240:List Int) (x241:Int)=>
     (ZbR (⟨x240,x241⟩:TapeF) p1).bind fun r242=>
     (ZaW x239 r242.1).bind fun s243=>
     f18 (s243,(w64 (x164+1)),r242.2.l,r242.2.pos)) fun k22=>
    if (decide (r232.1=0)) then
     (ZW r232.2 [(⟨#[61]⟩:ByteArray),(⟨#[61,61]⟩:ByteArray),(⟨#[61,61]⟩:ByteArray),(⟨#[61,61,61]⟩:ByteArray)]).bind fun r244=>
     (ZaW x231 r244.1).bind fun s245=>
     (ZW r244.2 [(⟨#[32,115,32]⟩:ByteArray),(⟨#[32,116,32]⟩:ByteArray),(⟨#[97,32,98]⟩:ByteArray),(⟨#[32,115,32]⟩:ByteArray)]).bind fun r246=>
     (ZaW s245 r246.1).bind fun s247=>
     (ZaW s247 r244.1).bind fun s248=>
     (ZaW s248 (⟨#[10]⟩:ByteArray)).bind fun s249=>
     k22 s249 r246.2.l r246.2.pos
    else
    k22 x231 r232.2.l r232.2.pos) fun k21=>
   if (decide (0<x164)) then
    (ZaW x163 (⟨#[10]⟩:ByteArray)).bind fun s250=>
    k21 s250
   else
   k21 x163
  else
  (some (x163,(⟨x165,x166⟩:TapeF)):Option (ByteArray×TapeF))) (r1.1,0,r2.2.l,r2.2.pos)
theorem ZfF (p0:TapeF) (p1:Int) (r:ByteArray×TapeF) (h:ZbS p0 p1=some r):Contract Tryz.prog 28 [.ptr 0 (0,0) 0,.int .i64 p1] (some (0,p0.cs)) (.str r.1) (r.2).cs:=by
 refine ZaA (R:=fun r=>.str r.1) (O:=fun r=>(r.2).cs) h mix Tryz.func28 (by kernel_rfl) rfl (by kernel_rfl) fun r h=>?_
 unfold ZbS at h
 refine Zac ?_
 refine rg ?_
 refine rg ?_
 refine bM csS ([(⟨#[]⟩:ByteArray),(⟨#[]⟩:ByteArray),(⟨#[]⟩:ByteArray),(⟨#[]⟩:ByteArray),(⟨#[35,82,69,68,73,82,69,67,84,32,91,91,66,93,93,10]⟩:ByteArray),(⟨#[35,82,69,68,73,82,69,67,84,32,91,91,58,84,101,109,112,108,97,116,101,58,84,93,93,32,120]⟩:ByteArray)]:List ByteArray) ?_
 refine aO h (ZX _ _) fun r1 h=>?_
 refine rg ?_
 refine aO h (ZI _ _) fun r2 h=>?_
 refine rg ?_
 refine bl ?_
 refine Zat h fun f18 mf18 hf18 h=>?_
 refine Zah (α:=Nat×(ByteArray×Int×(List Int)×Int)) (fun a _=>mkS [(0,.ptr 0 (0,0) 0),(1,.int .i64 p1),(5,.str a.2.1),(6,.int .i64 r2.1),(7,.int .i64 a.2.2.1)] [(0,some ((0,0),.box [.sl (List.map csI a.2.2.2.1),.int .i64 a.2.2.2.2]))] 2) (fun a=>Zbf a.1 f18 a.2=some r) (fun a=>a.1) (mf18,r1.1,0,r2.2.l,r2.2.pos) 2 h (sR []) (fun a _ h=>?_)
 obtain ⟨mf18,x163,x164,x165,x166⟩:=a
 obtain ⟨mf18,rfl,h⟩:=Zau hf18 h
 dsimp only at h ⊢
 refine Zac ?_
 refine rg ?_
 refine cS h rfl (fun h=>?_) fun h=>?_
 ·refine bl ?_
  refine rg ?_
  refine jL h (fun x231=>mkS [(0,.ptr 0 (0,0) 0),(1,.int .i64 p1),(5,.str x231),(6,.int .i64 r2.1),(7,.int .i64 x164)] [(0,some ((0,0),.box [.sl (List.map csI x165),.int .i64 x166]))] 2) (fun k21 h=>?_) fun x231 h=>?_
  ·refine cS h rfl (fun h=>?_) fun h=>?_
   ·refine rg ?_
    refine sT h fun s250 h=>?_
    exact jn s250 h (sR [])
   exact jn x163 h (sR [])
  refine rg ?_
  refine aO h (ZI _ _) fun r232 h=>?_
  refine Zbk h fun k22 hk22 h=>?_
  refine Zbv (α:=ByteArray×(List Int)×Int) (fun a _=>mkS [(0,.ptr 0 (0,0) 0),(1,.int .i64 p1),(5,.str a.1),(6,.int .i64 r2.1),(7,.int .i64 x164)] [(0,some ((0,0),.box [.sl (List.map csI a.2.1),.int .i64 a.2.2]))] 2) (fun a=>k22 a.1 a.2.1 a.2.2=some r) (Zac ?_) (fun a _ h=>?_)
  ·refine cS h rfl (fun h=>?_) fun h=>?_
   ·refine rg ?_
    refine bM csS ([(⟨#[61]⟩:ByteArray),(⟨#[61,61]⟩:ByteArray),(⟨#[61,61]⟩:ByteArray),(⟨#[61,61,61]⟩:ByteArray)]:List ByteArray) ?_
    refine aO h (ZX _ _) fun r244 h=>?_
    refine rg ?_
    refine sT h fun s245 h=>?_
    refine bM csS ([(⟨#[32,115,32]⟩:ByteArray),(⟨#[32,116,32]⟩:ByteArray),(⟨#[97,32,98]⟩:ByteArray),(⟨#[32,115,32]⟩:ByteArray)]:List ByteArray) ?_
    refine aO h (ZX _ _) fun r246 h=>?_
    refine sT h fun s247 h=>?_
    refine sT h fun s248 h=>?_
    refine sT h fun s249 h=>?_
    exact jn (s249,r246.2.l,r246.2.pos) h (sR [])
   exact jn (x231,r232.2.l,r232.2.pos) h (sR [])
  obtain ⟨x239,x240,x241⟩:=a
  subst hk22
  dsimp only at h ⊢
  refine Zac ?_
  refine rg ?_
  refine aO h (ZfE _ _) fun r242 h=>?_
  refine sT h fun s243 h=>?_
  refine rg ?_
  exact rn (mf18,s243,(w64 (x164+1)),r242.2.l,r242.2.pos) h (sR [])
 refine rg ?_
 cases h
 exact ZaF rfl rfl rfl rfl rfl
end Go.Proofs.YtpffimahajgiaaaGreatDoor
