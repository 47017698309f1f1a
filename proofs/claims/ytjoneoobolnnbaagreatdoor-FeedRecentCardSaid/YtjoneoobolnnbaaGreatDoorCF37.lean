/- Functions of the program as Lean functions. Written by fxgen.py. | Functions of the program as Lean functions. Written by fxgen.py. | The lines of the made policies, by the reference. No program is named. | The lines of the made policies, by the reference. No program is named. | The lines of the made policies, by the reference. No program is named. | The made policies, parsed by the reference. No program is named. | trcgen2.State returns a valid state. No program is named. | Policies and what is readable at made states, where the program has no views. No program is named. | What holds of a function's result if it returns one; a change leaves the pages of other titles as they are. No program is named. -/
import Derived.Test.YtjoneoobolnnbaaGreatDoorCF10
import Derived.Test.YtjoneoobolnnbaaGreatDoorCF03
import Derived.Test.YtjoneoobolnnbaaGreatDoorCF04
import Derived.Test.YtjoneoobolnnbaaGreatDoorCF25
import Derived.Test.YtjoneoobolnnbaaGreatDoorCF19
import Derived.Test.YtjoneoobolnnbaaGreatDoorCF11
import Derived.Test.YtjoneoobolnnbaaGreatDoorCF35
import Derived.Test.YtjoneoobolnnbaaGreatDoorCF36
import Derived.Test.YtjoneoobolnnbaaGreatDoorCF16
set_option linter.unusedVariables false
set_option maxHeartbeats 4000000
set_option maxRecDepth 100000
namespace Go.Proofs.YtjoneoobolnnbaaGreatDoor
open VL
def Zrz (p0:List ByteArray) (p1:ByteArray):Option (List ByteArray):=
 ZK Zax (fun f7 (x14:Int)=>
  letk (fun (x19:Bool)=>
   if x19 then
    f7 (w64 (x14+1))
   else
   letk (fun (x21:Bool)=>
    if x21 then
     (some p0:Option (List ByteArray))
    else
    (Zin p0 0 x14).bind fun l22=>
    (ZbY 16 [] l22).bind fun l23=>
    (ZbY 16 l23 [p1]).bind fun l24=>
    (Zin p0 x14 (p0.length:Int)).bind fun l25=>
    (ZbY 16 l24 l25).bind fun l26=>
    (some l26:Option (List ByteArray))) fun k9=>
   if (decide (x14<(p0.length:Int))) then
    (atI p0 x14).bind fun e27=>
    k9 (decide (e27=p1))
   else
   k9 false) fun k8=>
  if (decide (x14<(p0.length:Int))) then
   (atI p0 x14).bind fun e28=>
   k8 (ltS e28 p1)
  else
  k8 false) 0
def Zn8 (p0:Group) (p1:ByteArray) (p2:List ByteArray):Option Bool:=
 ZK Zax (fun f12 (x130:Int)=>
  if (decide (x130<(p0.members.length:Int))) then
   (atI p0.members x130).bind fun e179=>
   letk (fun (x187:Bool)=>
    if x187 then
     (some true:Option Bool)
    else
    f12 (w64 (x130+1))) fun k14=>
   (ZaG p1).bind fun r188=>
   if r188 then
    if (decide (e179=p1)) then
     k14 true
    else
    if (decide (0<(e179.size:Int))) then
     (atS e179 0).bind fun c189=>
     if (decide (c189=64)) then
      (ZfF e179 1 (e179.size:Int)).bind fun l190=>
      (Zro p2 l190).bind fun r191=>
      k14 r191
     else
     k14 false
    else
    k14 false
   else
   if (decide (0<(e179.size:Int))) then
    (atS e179 0).bind fun c192=>
    if (decide (c192=64)) then
     (ZfF e179 1 (e179.size:Int)).bind fun l193=>
     (Zro p2 l193).bind fun r194=>
     k14 r194
    else
    k14 false
   else
   k14 false
  else
  (some false:Option Bool)) 0
def Zk0 (p0:Policy) (p1:ByteArray):Option (List ByteArray):=
 (ZaG p1).bind fun r1=>
 letk (fun (x3:List ByteArray)=>
  ZK Zax (fun f23 ((x122,x123):(List ByteArray)×Int)=>
   if (decide (x123<(x122.length:Int))) then
    ZK Zax (fun f26 ((x162,x163):(List ByteArray)×Int)=>
     if (decide (x163<(p0.groups.length:Int))) then
      letk (fun (x177:List ByteArray)=>
       f26 (x177,(w64 (x163+1)))) fun k27=>
      (atI p0.groups x163).bind fun e178=>
      (Zn8 e178 p1 x162).bind fun r179=>
      if r179 then
       (atI p0.groups x163).bind fun e180=>
       (Zrz x162 e180.name).bind fun r181=>
       k27 r181
      else
      k27 x162
     else
     f23 (x162,(x122.length:Int))) (x122,0)
   else
   (some x122:Option (List ByteArray))) (x3,(-1))) fun k1=>
 if r1 then
  (Zrz [(⟨#[97,108,108]⟩:ByteArray)] (⟨#[117,115,101,114,115]⟩:ByteArray)).bind fun r182=>
  k1 r182
 else
 k1 [(⟨#[97,108,108]⟩:ByteArray)]
def ZiE (p0:State):Option Policy:=
 (Zpf).bind fun r1=>
 (ZoC p0 r1).bind fun r2=>
 if (!r2.2) then
  (some (⟨[],[],[]⟩:Policy):Option Policy)
 else
 (Zaf r2.1).bind fun r3=>
 if (!decide (r3.2.2=0)) then
  (some (⟨[],[],[]⟩:Policy):Option Policy)
 else
 (some r3.1:Option Policy)
end Go.Proofs.YtjoneoobolnnbaaGreatDoor
namespace Go.Proofs.YtjoneoobolnnbaaGreatDoor
set_option maxRecDepth 100000 in
theorem Zna:Zp Znm ⟨#[97,108,108,111,119,32,114,101,97,100,32,97,108,108,32,60,97,108,108,62]⟩=some (Zr5,true):=by kernel_rfl
set_option maxRecDepth 100000 in
theorem Znb:Zp Zr7 ⟨#[97,108,108,111,119,32,100,101,108,101,116,101,32,97,108,108,32,60,97,108,108,62]⟩=some (Zr8,true):=by kernel_rfl
set_option maxRecDepth 100000 in
theorem ZtO:Zp Ze1 ⟨#[103,114,111,117,112,32,115,116,97,102,102,32,97,110,110]⟩=some (Zmd,true):=by kernel_rfl
set_option maxRecDepth 100000 in
theorem ZwB:Zp Zko ⟨#[]⟩=some (Zko,true):=by kernel_rfl
set_option maxRecDepth 100000 in
theorem Zvo:Zp Zol ⟨#[103,117,97,114,100,32,115,116,97,102,102,32,66]⟩=some (ZgI,true):=by kernel_rfl
set_option maxRecDepth 100000 in
theorem Zvp:Zp Zom ⟨#[103,114,111,117,112,32,109,111,114,101,32,98,111,98]⟩=some (Zon,true):=by kernel_rfl
set_option maxRecDepth 100000 in
theorem Zvq:Zp Zop ⟨#[97,108,108,111,119,32,114,101,97,100,32,97,108,108,32,60,67,97,116,101,103,111,114,121,62]⟩=some (Zoq,true):=by kernel_rfl
set_option maxRecDepth 100000 in
theorem Zvr:Zp Zos ⟨#[97,108,108,111,119,32,114,101,118,105,101,119,32,115,116,97,102,102,32,60,97,108,108,62]⟩=some (Zot,true):=by kernel_rfl
set_option maxRecDepth 100000 in
theorem Zvs:Zp Zov ⟨#[97,108,108,111,119,32,114,101,97,100,32,115,116,97,102,102,32,60,97,108,108,62]⟩=some (Zow,true):=by kernel_rfl
set_option maxRecDepth 100000 in
theorem Zvt:Zp Ze1 ⟨#[100,101,110,121,32,114,101,97,100,32,97,108,108,32,66]⟩=some (Zox,true):=by kernel_rfl
set_option maxRecDepth 100000 in
theorem Zvu:Zp Ze1 ⟨#[100,101,110,121,32,101,100,105,116,32,97,108,108,32,66]⟩=some (Zoy,true):=by kernel_rfl
set_option maxRecDepth 100000 in
theorem Zvv:Zp Zmd ⟨#[100,101,110,121,32,114,101,118,105,101,119,32,97,108,108,32,60,97,108,108,62]⟩=some (Zoz,true):=by kernel_rfl
set_option maxRecDepth 100000 in
theorem Zvw:Zp ZoB ⟨#[103,117,97,114,100,32,115,116,97,102,102,32,68]⟩=some (ZgM,true):=by kernel_rfl
set_option maxRecDepth 100000 in
theorem Zoa:Zp Zr5 ⟨#[97,108,108,111,119,32,101,100,105,116,32,97,108,108,32,60,97,108,108,62]⟩=some (Zr6,true):=by kernel_rfl
set_option maxRecDepth 100000 in
theorem Zob:Zp Zr8 ⟨#[97,108,108,111,119,32,114,101,118,105,101,119,32,97,108,108,32,60,97,108,108,62]⟩=some (Ze1,true):=by kernel_rfl
set_option maxRecDepth 100000 in
theorem ZwU:Zp Zmd ⟨#[100,101,110,121,32,114,101,97,100,32,97,108,108,32,65]⟩=some (Zr9,true):=by kernel_rfl
set_option maxRecDepth 100000 in
theorem Zwa:Zp Zmd ⟨#[103,117,97,114,100,32,115,116,97,102,102,32,65,32,124,32,83]⟩=some (Zsa,true):=by kernel_rfl
set_option maxRecDepth 100000 in
theorem Zwb:Zp ZgI ⟨#[]⟩=some (ZgI,true):=by kernel_rfl
set_option maxRecDepth 100000 in
theorem Zwc:Zp Zon ⟨#[97,108,108,111,119,32,114,101,97,100,32,97,108,108,32,60,77,97,105,110,62]⟩=some (Zoo,true):=by kernel_rfl
set_option maxRecDepth 100000 in
theorem Zwd:Zp Zoq ⟨#[97,108,108,111,119,32,101,100,105,116,32,117,115,101,114,115,32,60,77,97,105,110,62]⟩=some (Zor,true):=by kernel_rfl
set_option maxRecDepth 100000 in
theorem Zwe:Zp Zot ⟨#[97,108,108,111,119,32,109,111,118,101,32,115,116,97,102,102,32,60,97,108,108,62]⟩=some (Zou,true):=by kernel_rfl
set_option maxRecDepth 100000 in
theorem Zwf:Zp Zow ⟨#[97,108,108,111,119,32,101,100,105,116,32,115,116,97,102,102,32,60,97,108,108,62]⟩=some (ZgJ,true):=by kernel_rfl
set_option maxRecDepth 100000 in
theorem Zwg:Zp Zox ⟨#[100,101,110,121,32,114,101,97,100,32,97,108,108,32,67,97,116,101,103,111,114,121,58,89]⟩=some (ZgK,true):=by kernel_rfl
set_option maxRecDepth 100000 in
theorem Zwh:Zp Zoy ⟨#[100,101,110,121,32,114,101,97,100,32,117,115,101,114,115,32,68]⟩=some (ZgL,true):=by kernel_rfl
set_option maxRecDepth 100000 in
theorem Zwi:Zp Zoz ⟨#[97,108,108,111,119,32,114,101,118,105,101,119,32,115,116,97,102,102,32,60,77,97,105,110,62]⟩=some (ZoA,true):=by kernel_rfl
set_option maxRecDepth 100000 in
theorem Zwj:Zp ZgM ⟨#[]⟩=some (ZgM,true):=by kernel_rfl
set_option maxRecDepth 100000 in
theorem ZnE:Zp Zr6 ⟨#[97,108,108,111,119,32,109,111,118,101,32,97,108,108,32,60,97,108,108,62]⟩=some (Zr7,true):=by kernel_rfl
set_option maxRecDepth 100000 in
theorem ZvP:Zp Ze1 ⟨#[]⟩=some (Ze1,true):=by kernel_rfl
set_option maxRecDepth 100000 in
theorem ZwO:Zp Zr9 ⟨#[97,108,108,111,119,32,114,101,97,100,32,115,116,97,102,102,32,65,47,67]⟩=some (Zko,true):=by kernel_rfl
set_option maxRecDepth 100000 in
theorem ZvQ:Zp Zsa ⟨#[115,116,114,105,99,116,32,115,116,97,102,102,32,84,101,109,112,108,97,116,101,58,84]⟩=some (Zol,true):=by kernel_rfl
set_option maxRecDepth 100000 in
theorem ZvR:Zp Znm ⟨#[103,114,111,117,112,32,115,116,97,102,102,32,97,110,110,32,64,109,111,114,101]⟩=some (Zom,true):=by kernel_rfl
set_option maxRecDepth 100000 in
theorem ZvS:Zp Zoo ⟨#[97,108,108,111,119,32,114,101,97,100,32,97,108,108,32,60,84,101,109,112,108,97,116,101,62]⟩=some (Zop,true):=by kernel_rfl
set_option maxRecDepth 100000 in
theorem ZvT:Zp Zor ⟨#[97,108,108,111,119,32,101,100,105,116,32,115,116,97,102,102,32,60,67,97,116,101,103,111,114,121,62]⟩=some (Zos,true):=by kernel_rfl
set_option maxRecDepth 100000 in
theorem ZvU:Zp Zou ⟨#[97,108,108,111,119,32,100,101,108,101,116,101,32,115,116,97,102,102,32,60,97,108,108,62]⟩=some (Zov,true):=by kernel_rfl
set_option maxRecDepth 100000 in
theorem ZvV:Zp ZgJ ⟨#[]⟩=some (ZgJ,true):=by kernel_rfl
set_option maxRecDepth 100000 in
theorem ZvW:Zp ZgK ⟨#[]⟩=some (ZgK,true):=by kernel_rfl
set_option maxRecDepth 100000 in
theorem ZvX:Zp ZgL ⟨#[]⟩=some (ZgL,true):=by kernel_rfl
set_option maxRecDepth 100000 in
theorem ZvY:Zp ZoA ⟨#[103,117,97,114,100,32,115,116,97,102,102,32,65]⟩=some (ZoB,true):=by kernel_rfl
set_option maxRecDepth 100000 in
theorem Zq9:Zaf ⟨#[97,108,108,111,119,32,114,101,97,100,32,97,108,108,32,60,97,108,108,62,10,97,108,108,111,119,32,101,100,105,116,32,97,108,108,32,60,97,108,108,62,10,97,108,108,111,119,32,109,111,118,101,32,97,108,108,32,60,97,108,108,62,10,97,108,108,111,119,32,100,101,108,101,116,101,32,97,108,108,32,60,97,108,108,62,10,97,108,108,111,119,32,114,101,118,105,101,119,32,97,108,108,32,60,97,108,108,62,10]⟩=some (Ze1,0,0):=Zed (lines:=[⟨#[97,108,108,111,119,32,114,101,97,100,32,97,108,108,32,60,97,108,108,62]⟩,⟨#[97,108,108,111,119,32,101,100,105,116,32,97,108,108,32,60,97,108,108,62]⟩,⟨#[97,108,108,111,119,32,109,111,118,101,32,97,108,108,32,60,97,108,108,62]⟩,⟨#[97,108,108,111,119,32,100,101,108,101,116,101,32,97,108,108,32,60,97,108,108,62]⟩,⟨#[97,108,108,111,119,32,114,101,118,105,101,119,32,97,108,108,32,60,97,108,108,62]⟩,⟨#[]⟩]) (by kernel_rfl) (by kernel_rfl) (by kernel_rfl) (.cons Zna (.cons Zoa (.cons ZnE (.cons Znb (.cons Zob (.cons ZvP .nil)))))) (by kernel_rfl)
set_option maxRecDepth 100000 in
theorem Zra:Zaf ⟨#[97,108,108,111,119,32,114,101,97,100,32,97,108,108,32,60,97,108,108,62,10,97,108,108,111,119,32,101,100,105,116,32,97,108,108,32,60,97,108,108,62,10,97,108,108,111,119,32,109,111,118,101,32,97,108,108,32,60,97,108,108,62,10,97,108,108,111,119,32,100,101,108,101,116,101,32,97,108,108,32,60,97,108,108,62,10,97,108,108,111,119,32,114,101,118,105,101,119,32,97,108,108,32,60,97,108,108,62,10,103,114,111,117,112,32,115,116,97,102,102,32,97,110,110,10,100,101,110,121,32,114,101,97,100,32,97,108,108,32,65,10,97,108,108,111,119,32,114,101,97,100,32,115,116,97,102,102,32,65,47,67,10]⟩=some (Zko,0,0):=Zed (lines:=[⟨#[97,108,108,111,119,32,114,101,97,100,32,97,108,108,32,60,97,108,108,62]⟩,⟨#[97,108,108,111,119,32,101,100,105,116,32,97,108,108,32,60,97,108,108,62]⟩,⟨#[97,108,108,111,119,32,109,111,118,101,32,97,108,108,32,60,97,108,108,62]⟩,⟨#[97,108,108,111,119,32,100,101,108,101,116,101,32,97,108,108,32,60,97,108,108,62]⟩,⟨#[97,108,108,111,119,32,114,101,118,105,101,119,32,97,108,108,32,60,97,108,108,62]⟩,⟨#[103,114,111,117,112,32,115,116,97,102,102,32,97,110,110]⟩,⟨#[100,101,110,121,32,114,101,97,100,32,97,108,108,32,65]⟩,⟨#[97,108,108,111,119,32,114,101,97,100,32,115,116,97,102,102,32,65,47,67]⟩,⟨#[]⟩]) (by kernel_rfl) (by kernel_rfl) (by kernel_rfl) (.cons Zna (.cons Zoa (.cons ZnE (.cons Znb (.cons Zob (.cons ZtO (.cons ZwU (.cons ZwO (.cons ZwB .nil))))))))) (by kernel_rfl)
set_option maxRecDepth 100000 in
theorem Zrb:Zaf ⟨#[97,108,108,111,119,32,114,101,97,100,32,97,108,108,32,60,97,108,108,62,10,97,108,108,111,119,32,101,100,105,116,32,97,108,108,32,60,97,108,108,62,10,97,108,108,111,119,32,109,111,118,101,32,97,108,108,32,60,97,108,108,62,10,97,108,108,111,119,32,100,101,108,101,116,101,32,97,108,108,32,60,97,108,108,62,10,97,108,108,111,119,32,114,101,118,105,101,119,32,97,108,108,32,60,97,108,108,62,10,103,114,111,117,112,32,115,116,97,102,102,32,97,110,110,10,103,117,97,114,100,32,115,116,97,102,102,32,65,32,124,32,83,10,115,116,114,105,99,116,32,115,116,97,102,102,32,84,101,109,112,108,97,116,101,58,84,10,103,117,97,114,100,32,115,116,97,102,102,32,66,10]⟩=some (ZgI,0,0):=Zed (lines:=[⟨#[97,108,108,111,119,32,114,101,97,100,32,97,108,108,32,60,97,108,108,62]⟩,⟨#[97,108,108,111,119,32,101,100,105,116,32,97,108,108,32,60,97,108,108,62]⟩,⟨#[97,108,108,111,119,32,109,111,118,101,32,97,108,108,32,60,97,108,108,62]⟩,⟨#[97,108,108,111,119,32,100,101,108,101,116,101,32,97,108,108,32,60,97,108,108,62]⟩,⟨#[97,108,108,111,119,32,114,101,118,105,101,119,32,97,108,108,32,60,97,108,108,62]⟩,⟨#[103,114,111,117,112,32,115,116,97,102,102,32,97,110,110]⟩,⟨#[103,117,97,114,100,32,115,116,97,102,102,32,65,32,124,32,83]⟩,⟨#[115,116,114,105,99,116,32,115,116,97,102,102,32,84,101,109,112,108,97,116,101,58,84]⟩,⟨#[103,117,97,114,100,32,115,116,97,102,102,32,66]⟩,⟨#[]⟩]) (by kernel_rfl) (by kernel_rfl) (by kernel_rfl) (.cons Zna (.cons Zoa (.cons ZnE (.cons Znb (.cons Zob (.cons ZtO (.cons Zwa (.cons ZvQ (.cons Zvo (.cons Zwb .nil)))))))))) (by kernel_rfl)
set_option maxRecDepth 100000 in
theorem Zrc:Zaf ⟨#[103,114,111,117,112,32,115,116,97,102,102,32,97,110,110,32,64,109,111,114,101,10,103,114,111,117,112,32,109,111,114,101,32,98,111,98,10,97,108,108,111,119,32,114,101,97,100,32,97,108,108,32,60,77,97,105,110,62,10,97,108,108,111,119,32,114,101,97,100,32,97,108,108,32,60,84,101,109,112,108,97,116,101,62,10,97,108,108,111,119,32,114,101,97,100,32,97,108,108,32,60,67,97,116,101,103,111,114,121,62,10,97,108,108,111,119,32,101,100,105,116,32,117,115,101,114,115,32,60,77,97,105,110,62,10,97,108,108,111,119,32,101,100,105,116,32,115,116,97,102,102,32,60,67,97,116,101,103,111,114,121,62,10,97,108,108,111,119,32,114,101,118,105,101,119,32,115,116,97,102,102,32,60,97,108,108,62,10,97,108,108,111,119,32,109,111,118,101,32,115,116,97,102,102,32,60,97,108,108,62,10,97,108,108,111,119,32,100,101,108,101,116,101,32,115,116,97,102,102,32,60,97,108,108,62,10,97,108,108,111,119,32,114,101,97,100,32,115,116,97,102,102,32,60,97,108,108,62,10,97,108,108,111,119,32,101,100,105,116,32,115,116,97,102,102,32,60,97,108,108,62,10]⟩=some (ZgJ,0,0):=Zed (lines:=[⟨#[103,114,111,117,112,32,115,116,97,102,102,32,97,110,110,32,64,109,111,114,101]⟩,⟨#[103,114,111,117,112,32,109,111,114,101,32,98,111,98]⟩,⟨#[97,108,108,111,119,32,114,101,97,100,32,97,108,108,32,60,77,97,105,110,62]⟩,⟨#[97,108,108,111,119,32,114,101,97,100,32,97,108,108,32,60,84,101,109,112,108,97,116,101,62]⟩,⟨#[97,108,108,111,119,32,114,101,97,100,32,97,108,108,32,60,67,97,116,101,103,111,114,121,62]⟩,⟨#[97,108,108,111,119,32,101,100,105,116,32,117,115,101,114,115,32,60,77,97,105,110,62]⟩,⟨#[97,108,108,111,119,32,101,100,105,116,32,115,116,97,102,102,32,60,67,97,116,101,103,111,114,121,62]⟩,⟨#[97,108,108,111,119,32,114,101,118,105,101,119,32,115,116,97,102,102,32,60,97,108,108,62]⟩,⟨#[97,108,108,111,119,32,109,111,118,101,32,115,116,97,102,102,32,60,97,108,108,62]⟩,⟨#[97,108,108,111,119,32,100,101,108,101,116,101,32,115,116,97,102,102,32,60,97,108,108,62]⟩,⟨#[97,108,108,111,119,32,114,101,97,100,32,115,116,97,102,102,32,60,97,108,108,62]⟩,⟨#[97,108,108,111,119,32,101,100,105,116,32,115,116,97,102,102,32,60,97,108,108,62]⟩,⟨#[]⟩]) (by kernel_rfl) (by kernel_rfl) (by kernel_rfl) (.cons ZvR (.cons Zvp (.cons Zwc (.cons ZvS (.cons Zvq (.cons Zwd (.cons ZvT (.cons Zvr (.cons Zwe (.cons ZvU (.cons Zvs (.cons Zwf (.cons ZvV .nil))))))))))))) (by kernel_rfl)
set_option maxRecDepth 100000 in
theorem Zrd:Zaf ⟨#[97,108,108,111,119,32,114,101,97,100,32,97,108,108,32,60,97,108,108,62,10,97,108,108,111,119,32,101,100,105,116,32,97,108,108,32,60,97,108,108,62,10,97,108,108,111,119,32,109,111,118,101,32,97,108,108,32,60,97,108,108,62,10,97,108,108,111,119,32,100,101,108,101,116,101,32,97,108,108,32,60,97,108,108,62,10,97,108,108,111,119,32,114,101,118,105,101,119,32,97,108,108,32,60,97,108,108,62,10,100,101,110,121,32,114,101,97,100,32,97,108,108,32,66,10,100,101,110,121,32,114,101,97,100,32,97,108,108,32,67,97,116,101,103,111,114,121,58,89,10]⟩=some (ZgK,0,0):=Zed (lines:=[⟨#[97,108,108,111,119,32,114,101,97,100,32,97,108,108,32,60,97,108,108,62]⟩,⟨#[97,108,108,111,119,32,101,100,105,116,32,97,108,108,32,60,97,108,108,62]⟩,⟨#[97,108,108,111,119,32,109,111,118,101,32,97,108,108,32,60,97,108,108,62]⟩,⟨#[97,108,108,111,119,32,100,101,108,101,116,101,32,97,108,108,32,60,97,108,108,62]⟩,⟨#[97,108,108,111,119,32,114,101,118,105,101,119,32,97,108,108,32,60,97,108,108,62]⟩,⟨#[100,101,110,121,32,114,101,97,100,32,97,108,108,32,66]⟩,⟨#[100,101,110,121,32,114,101,97,100,32,97,108,108,32,67,97,116,101,103,111,114,121,58,89]⟩,⟨#[]⟩]) (by kernel_rfl) (by kernel_rfl) (by kernel_rfl) (.cons Zna (.cons Zoa (.cons ZnE (.cons Znb (.cons Zob (.cons Zvt (.cons Zwg (.cons ZvW .nil)))))))) (by kernel_rfl)
set_option maxRecDepth 100000 in
theorem Zre:Zaf ⟨#[97,108,108,111,119,32,114,101,97,100,32,97,108,108,32,60,97,108,108,62,10,97,108,108,111,119,32,101,100,105,116,32,97,108,108,32,60,97,108,108,62,10,97,108,108,111,119,32,109,111,118,101,32,97,108,108,32,60,97,108,108,62,10,97,108,108,111,119,32,100,101,108,101,116,101,32,97,108,108,32,60,97,108,108,62,10,97,108,108,111,119,32,114,101,118,105,101,119,32,97,108,108,32,60,97,108,108,62,10,100,101,110,121,32,101,100,105,116,32,97,108,108,32,66,10,100,101,110,121,32,114,101,97,100,32,117,115,101,114,115,32,68,10]⟩=some (ZgL,0,0):=Zed (lines:=[⟨#[97,108,108,111,119,32,114,101,97,100,32,97,108,108,32,60,97,108,108,62]⟩,⟨#[97,108,108,111,119,32,101,100,105,116,32,97,108,108,32,60,97,108,108,62]⟩,⟨#[97,108,108,111,119,32,109,111,118,101,32,97,108,108,32,60,97,108,108,62]⟩,⟨#[97,108,108,111,119,32,100,101,108,101,116,101,32,97,108,108,32,60,97,108,108,62]⟩,⟨#[97,108,108,111,119,32,114,101,118,105,101,119,32,97,108,108,32,60,97,108,108,62]⟩,⟨#[100,101,110,121,32,101,100,105,116,32,97,108,108,32,66]⟩,⟨#[100,101,110,121,32,114,101,97,100,32,117,115,101,114,115,32,68]⟩,⟨#[]⟩]) (by kernel_rfl) (by kernel_rfl) (by kernel_rfl) (.cons Zna (.cons Zoa (.cons ZnE (.cons Znb (.cons Zob (.cons Zvu (.cons Zwh (.cons ZvX .nil)))))))) (by kernel_rfl)
set_option maxRecDepth 100000 in
theorem Zrf:Zaf ⟨#[97,108,108,111,119,32,114,101,97,100,32,97,108,108,32,60,97,108,108,62,10,97,108,108,111,119,32,101,100,105,116,32,97,108,108,32,60,97,108,108,62,10,97,108,108,111,119,32,109,111,118,101,32,97,108,108,32,60,97,108,108,62,10,97,108,108,111,119,32,100,101,108,101,116,101,32,97,108,108,32,60,97,108,108,62,10,97,108,108,111,119,32,114,101,118,105,101,119,32,97,108,108,32,60,97,108,108,62,10]⟩=some (Ze1,0,0):=Zed (lines:=[⟨#[97,108,108,111,119,32,114,101,97,100,32,97,108,108,32,60,97,108,108,62]⟩,⟨#[97,108,108,111,119,32,101,100,105,116,32,97,108,108,32,60,97,108,108,62]⟩,⟨#[97,108,108,111,119,32,109,111,118,101,32,97,108,108,32,60,97,108,108,62]⟩,⟨#[97,108,108,111,119,32,100,101,108,101,116,101,32,97,108,108,32,60,97,108,108,62]⟩,⟨#[97,108,108,111,119,32,114,101,118,105,101,119,32,97,108,108,32,60,97,108,108,62]⟩,⟨#[]⟩]) (by kernel_rfl) (by kernel_rfl) (by kernel_rfl) (.cons Zna (.cons Zoa (.cons ZnE (.cons Znb (.cons Zob (.cons ZvP .nil)))))) (by kernel_rfl)
set_option maxRecDepth 100000 in
theorem Zrg:Zaf ⟨#[97,108,108,111,119,32,114,101,97,100,32,97,108,108,32,60,97,108,108,62,10,97,108,108,111,119,32,101,100,105,116,32,97,108,108,32,60,97,108,108,62,10,97,108,108,111,119,32,109,111,118,101,32,97,108,108,32,60,97,108,108,62,10,97,108,108,111,119,32,100,101,108,101,116,101,32,97,108,108,32,60,97,108,108,62,10,97,108,108,111,119,32,114,101,118,105,101,119,32,97,108,108,32,60,97,108,108,62,10,103,114,111,117,112,32,115,116,97,102,102,32,97,110,110,10,100,101,110,121,32,114,101,118,105,101,119,32,97,108,108,32,60,97,108,108,62,10,97,108,108,111,119,32,114,101,118,105,101,119,32,115,116,97,102,102,32,60,77,97,105,110,62,10,103,117,97,114,100,32,115,116,97,102,102,32,65,10,103,117,97,114,100,32,115,116,97,102,102,32,68,10]⟩=some (ZgM,0,0):=Zed (lines:=[⟨#[97,108,108,111,119,32,114,101,97,100,32,97,108,108,32,60,97,108,108,62]⟩,⟨#[97,108,108,111,119,32,101,100,105,116,32,97,108,108,32,60,97,108,108,62]⟩,⟨#[97,108,108,111,119,32,109,111,118,101,32,97,108,108,32,60,97,108,108,62]⟩,⟨#[97,108,108,111,119,32,100,101,108,101,116,101,32,97,108,108,32,60,97,108,108,62]⟩,⟨#[97,108,108,111,119,32,114,101,118,105,101,119,32,97,108,108,32,60,97,108,108,62]⟩,⟨#[103,114,111,117,112,32,115,116,97,102,102,32,97,110,110]⟩,⟨#[100,101,110,121,32,114,101,118,105,101,119,32,97,108,108,32,60,97,108,108,62]⟩,⟨#[97,108,108,111,119,32,114,101,118,105,101,119,32,115,116,97,102,102,32,60,77,97,105,110,62]⟩,⟨#[103,117,97,114,100,32,115,116,97,102,102,32,65]⟩,⟨#[103,117,97,114,100,32,115,116,97,102,102,32,68]⟩,⟨#[]⟩]) (by kernel_rfl) (by kernel_rfl) (by kernel_rfl) (.cons Zna (.cons Zoa (.cons ZnE (.cons Znb (.cons Zob (.cons ZtO (.cons Zvv (.cons Zwi (.cons ZvY (.cons Zvw (.cons Zwj .nil))))))))))) (by kernel_rfl)
end Go.Proofs.YtjoneoobolnnbaaGreatDoor
namespace Go.Proofs.YtjoneoobolnnbaaGreatDoor
open VL
set_option maxRecDepth 100000 in
theorem Zjq:∀ t ∈ policyG,∃ p,Zaf t=some (p,0,0):=by
 intro t ht
 unfold policyG at ht
 rcases List.mem_cons.1 ht with e | ht
 ·exact ⟨_,e ▸ Zq9⟩
 rcases List.mem_cons.1 ht with e | ht
 ·exact ⟨_,e ▸ Zra⟩
 rcases List.mem_cons.1 ht with e | ht
 ·exact ⟨_,e ▸ Zrb⟩
 rcases List.mem_cons.1 ht with e | ht
 ·exact ⟨_,e ▸ Zrc⟩
 rcases List.mem_cons.1 ht with e | ht
 ·exact ⟨_,e ▸ Zrd⟩
 rcases List.mem_cons.1 ht with e | ht
 ·exact ⟨_,e ▸ Zre⟩
 rcases List.mem_cons.1 ht with e | ht
 ·exact ⟨_,e ▸ Zrf⟩
 rcases List.mem_cons.1 ht with e | ht
 ·exact ⟨_,e ▸ Zrg⟩
 cases ht
set_option maxRecDepth 100000 in
theorem ZlE:policyG.all (fun t=>decide (t.size≤8192))=true:=by kernel_rfl
theorem ZqN (t:ByteArray) (h:t ∈ policyG):t.size≤8192:=of_decide_eq_true (List.all_eq_true.1 ZlE t h)
def begun (t:ByteArray):State:=⟨1,0,[⟨policyT,[⟨1,⟨#[]⟩,⟨#[]⟩,t,0,1⟩]⟩],[],[],0,[],[]⟩
def ZqO:State:=⟨0,0,[],[],[],0,[],[]⟩
def Zmx (t:ByteArray):Change:=⟨1,⟨#[]⟩,⟨#[]⟩,policyT,⟨0,⟨#[]⟩⟩,t,0,[]⟩
set_option maxRecDepth 100000 in
theorem Zps:ZeG ZqO=some true:=by kernel_rfl
set_option maxRecDepth 100000 in
theorem Zhz:policyT.valid=true:=by kernel_rfl
theorem ZsR {α β:Type} (F:(α→Option β)→α→Option β) (a:α):ZK Zax F a=F (ZK 4611686018427387903 F) a:=rfl
theorem ZsS {α β:Type} (F:(α→Option β)→α→Option β) (a:α):ZK 4611686018427387903 F a=F (ZK 4611686018427387902 F) a:=rfl
theorem ZqP (t:ByteArray) (ht:t.size≤8192):Zd0 (Zmx t)=some 0:=by
 refine Zb6 ?_
 unfold Zd0
 refine Zd (v:=true) ?_ ?_
 ·rfl
 refine ZD rfl ?_
 refine Zd (v:=true) ?_ ?_
 ·refine Zb6 ?_
  unfold ZdO
  refine Zam ?_
  refine Za0 (fun _=>?_) fun h=>absurd (show (1:Int)=6 from h) (by decide)
  refine Za0 (fun _=>?_) fun h=>absurd (show (1:Int)=10 from h) (by decide)
  refine Zd (v:=true) (by show some policyT.valid=_;rw [Zhz]) ?_
  refine ZD rfl ?_
  refine Zd (Ziq _) ?_
  exact Zc rfl
 refine ZD rfl ?_
 refine Zam ?_
 refine Zg (fun h=>absurd h (by show ¬ 8192<(t.size:Int);omega)) fun _=>?_
 refine ZD rfl ?_
 exact Zc rfl
theorem Zui (t:ByteArray) (ht:t.size≤8192) (hp:∃ p n,Zaf t=some (p,n,0)):Zgq t=some (begun t):=by
 obtain ⟨p,n,hp⟩:=hp
 refine Zb6 ?_
 unfold Zgq
 refine Zd (v:=policyT) rfl ?_
 refine Zd (v:=(begun t,0)) ?_ (Zc rfl)
 refine Zb6 ?_
 unfold ZaZ
 refine Zd Zps ?_
 refine ZD rfl ?_
 refine Zam ?_
 refine Zg (fun h=>absurd (show (1:Int)<1 from h) (by decide)) fun _=>?_
 refine ZD rfl ?_
 rw [ZsR]
 dsimp only
 refine Zal rfl ?_
 refine Zd (v:=Zmx t) rfl ?_
 refine Zd (ZqP t ht) ?_
 refine ZD rfl ?_
 refine Zd (v:=Zmx t) rfl ?_
 refine Zd (v:=(⟨0,0,[⟨policyT,[⟨1,⟨#[]⟩,⟨#[]⟩,t,0,1⟩]⟩],[],[],0,[],[]⟩,0)) rfl ?_
 refine ZD rfl ?_
 refine Zd (v:=Zmx t) rfl ?_
 refine Zd (v:=false) ?_ ?_
 ·refine Zb6 ?_
  unfold ZbO
  refine Zal rfl ?_
  refine Zd (v:=policyT) rfl ?_
  refine Za0 (fun h=>absurd rfl h) fun _=>?_
  refine Zd hp ?_
  exact Zc rfl
 refine ZD rfl ?_
 refine Zd (v:=Zmx t) rfl ?_
 refine Zd (v:=(⟨0,0,[⟨policyT,[⟨1,⟨#[]⟩,⟨#[]⟩,t,0,1⟩]⟩],[],[],0,[],[]⟩,0)) rfl ?_
 refine ZD rfl ?_
 rw [ZsS]
 exact Zc rfl
theorem ZsT (t:ByteArray) (ht:t.size≤8192):VS t 1 (begun t):=by
 refine ⟨by show (0:Int)≤1;decide,by show (0:Int)≤0;decide,by show (0:Int)≤52595999;decide,by simp [begun],by simp [begun],fun p hp=>?_,fun p hp=>by simp [begun] at hp,List.pairwise_singleton ..,fun p hp _=>?_,by simp [begun],by show (0:Int)≤0;decide,by show (0:Int)≤1073741824;decide,(fun p hp=>by simp [begun] at hp),(fun p hp=>by simp [begun] at hp),List.Pairwise.nil,by simp [begun],fun p hp=>by simp [begun] at hp,List.Pairwise.nil,by simp [begun],fun p hp=>by simp [begun] at hp,List.Pairwise.nil⟩
 ·simp [begun] at hp
  subst hp
  refine ⟨Zhz,by simp,by simp,fun i r hr=>?_,fun r hr=>?_,List.pairwise_singleton ..⟩
  ·cases i with
   | zero=>injection hr with hr;subst hr;rfl
   | succ i=>simp at hr
  ·simp at hr
   subst hr
   exact ⟨ht,Nat.zero_le _,rfl,Int.le_refl _,Int.le_refl _,Int.le_refl _,Int.le_refl _⟩
 ·simp [begun] at hp
  subst hp
  rfl
structure Made (s:State) (m:Int):Prop where
 ex:∃ t ∈ policyG,VS t s.seq s
 seq:s.seq≤m
 clock:s.clock≤4000 * m
theorem Zpt {s:State} {m:Int} {l:List Change} (h:Made s m) (hm:m≤1000) (hl:∀ c ∈ l,c.tame) (hn:l.length≤2):Tot (ZaZ s l) fun r=>r.2=0→Made r.1 (m+1):=by
 obtain ⟨⟨t,ht,hv⟩,h1,h2⟩:=h
 obtain ⟨p,hp⟩:=Zjq t ht
 have hs:s.seq<1073741824:=by omega
 refine (Zva hv hs ⟨p,0,hp⟩ hl (by omega)).mono fun r hr h0=>?_
 obtain ⟨k1,k2,k3,k4⟩:=hr h0
 exact ⟨⟨t,ht,k1⟩,by omega,by omega⟩
theorem Made.mono {s:State} {m m':Int} (h:Made s m) (hm:m≤m'):Made s m':=⟨h.ex,Int.le_trans h.seq hm,by have:=h.clock;omega⟩
def polsG:List Policy:=[Znm,Ze1,Zko,ZgI,ZgJ,ZgK,ZgL,ZgM]
theorem Zv4:Znm ∈ polsG:=.head _
set_option maxRecDepth 100000 in
theorem ZmH:polsG.all (fun p=>decide (p.rules.length≤100)&&decide (p.guards.length≤100)&&decide (p.groups.length≤100)&&p.groups.all (fun g=>decide (g.members.length≤100)))=true:=by kernel_rfl
theorem Zs2 (p:Policy) (h:p ∈ polsG):p.rules.length≤100∧p.guards.length≤100∧p.groups.length≤100∧∀ g ∈ p.groups,g.members.length≤100:=by
 have:=List.all_eq_true.1 ZmH p h
 simp only [Bool.and_eq_true,decide_eq_true_eq,List.all_eq_true] at this
 exact ⟨this.1.1.1,this.1.1.2,this.1.2,this.2⟩
theorem ZuE (s:State) (t:Title) (hl:s.pages.length≤1000000):Tot (Zei s t) fun r=>(r=(⟨⟨0,⟨#[]⟩⟩,[]⟩,false)∧∀ p ∈ s.pages,p.title≠t)∨(r.2=true∧r.1 ∈ s.pages∧r.1.title=t):=by
 unfold Zei
 refine Zi (Zgj s.pages t hl) fun r hr=>?_
 rcases hr with ⟨rfl,h⟩ | ⟨n,p,rfl,h1,h2⟩
 ·exact Zg (fun _=>Zc (.inl ⟨rfl,h⟩)) fun c=>absurd (by omega) c
 ·refine Zg (fun c=>absurd c (by omega)) fun _=>?_
  have:=(List.getElem?_eq_some_iff.1 h1).1
  refine ZF (by omega) (by omega) fun e he hg=>Zc (.inr ⟨rfl,he,?_⟩)
  rw [Int.toNat_natCast,h1] at hg
  injection hg with hg
  rw [← hg]
  exact h2
def Zq7 (p:Stored):Revision:=p.history.getLast?.getD ⟨0,⟨#[]⟩,⟨#[]⟩,⟨#[]⟩,0,0⟩
theorem ZkS (p:Stored) (h0:1≤p.history.length) (hl:p.history.length≤1000000):Zb9 p=some (Zq7 p):=by
 obtain ⟨r,h1,h2⟩:=Zkh p h0 hl
 rw [h2]
 unfold Zq7
 rw [h1]
 rfl
theorem ZnN (p:Stored) (h0:1≤p.history.length) (hl:p.history.length≤1000000):ZdF p=some (Zq7 p):=by
 rw [← ZkS p h0 hl]
 rfl
set_option maxRecDepth 100000 in
theorem ZnO:∀ t ∈ policyG,∃ p ∈ polsG,Zaf t=some (p,0,0)∧Zae t=some (p,0,0):=by
 intro t ht
 unfold policyG at ht
 rcases List.mem_cons.1 ht with e | ht
 ·exact ⟨Ze1,.tail _ (.head _),e ▸ Zq9,e ▸ ZsF⟩
 rcases List.mem_cons.1 ht with e | ht
 ·exact ⟨Zko,.tail _ (.tail _ (.head _)),e ▸ Zra,e ▸ ZsG⟩
 rcases List.mem_cons.1 ht with e | ht
 ·exact ⟨ZgI,.tail _ (.tail _ (.tail _ (.head _))),e ▸ Zrb,e ▸ ZsH⟩
 rcases List.mem_cons.1 ht with e | ht
 ·exact ⟨ZgJ,.tail _ (.tail _ (.tail _ (.tail _ (.head _)))),e ▸ Zrc,e ▸ ZsI⟩
 rcases List.mem_cons.1 ht with e | ht
 ·exact ⟨ZgK,.tail _ (.tail _ (.tail _ (.tail _ (.tail _ (.head _))))),e ▸ Zrd,e ▸ ZsJ⟩
 rcases List.mem_cons.1 ht with e | ht
 ·exact ⟨ZgL,.tail _ (.tail _ (.tail _ (.tail _ (.tail _ (.tail _ (.head _)))))),e ▸ Zre,e ▸ ZsK⟩
 rcases List.mem_cons.1 ht with e | ht
 ·exact ⟨Ze1,.tail _ (.head _),e ▸ Zrf,e ▸ ZsL⟩
 rcases List.mem_cons.1 ht with e | ht
 ·exact ⟨ZgM,.tail _ (.tail _ (.tail _ (.tail _ (.tail _ (.tail _ (.tail _ (.head _))))))),e ▸ Zrg,e ▸ ZsM⟩
 cases ht
theorem ZuF (l:List Revision) (h1:1≤l.length) (hl:l.length≤1000000):ZaD l=some l:=by
 refine Zb6 ?_
 unfold ZaD
 refine Zd (v:=()) ?_ ?_
 ·cases l with
  | nil=>cases h1
  | cons=>rfl
 ·refine ZZ 1000000 (by simpa using hl) (by decide) (by decide) ?_
  exact Zc rfl
theorem ZnP (s:State) (t:Title) (hl:s.pages.length≤1000000) (hh:∀ p ∈ s.pages,1≤p.history.length∧p.history.length≤1000000):Tot (ZbN s t) fun r=>(r.2=false∧∀ p ∈ s.pages,p.title≠t)∨(r.2=true∧r.1 ∈ s.pages∧r.1.title=t):=by
 unfold ZbN
 refine ZH (fun i:Int=>(0≤i∧i≤(s.pages.length:Int))∧∀ (j:Nat) p,(j:Int)<i→s.pages[j]? = some p→p.title≠t) (fun i=>((s.pages.length:Int) - i).toNat) ⟨⟨by omega,by omega⟩,fun j p h=>by omega⟩ (by first | omega | (dsimp only;omega)) ?_
 rintro i rec ⟨⟨h0,h1⟩,h2⟩ ih
 refine Zg (fun hlt=>?_) fun hlt=>?_
 ·refine ZF h0 hlt fun e he hg=>?_
  refine Zg (fun ht=>?_) fun ht=>?_
  ·refine Zd (v:=e) ?_ (Zc (.inr ⟨rfl,he,ht⟩))
   unfold ZdE
   rw [ZuF _ (hh e he).1 (hh e he).2]
   rfl
  ·rw [Zs (by omega) (by omega)]
   refine ih _ ⟨⟨by omega,by omega⟩,fun j p hj hp=>?_⟩ (by omega)
   by_cases hji:(j:Int)<i
   ·exact h2 j p hji hp
   ·rw [show i.toNat=j by omega,hp] at hg
    injection hg with hg
    rw [hg]
    exact ht
 ·refine Zc (.inl ⟨rfl,fun p hp=>?_⟩)
  obtain ⟨j,hj,rfl⟩:=List.getElem_of_mem hp
  exact h2 j _ (by omega) (List.getElem?_eq_getElem hj)
def ZjH (l:List Stored):Bool:=l.any fun p=>decide (p.title=policyT)
theorem ZjI {l:List Stored} (h:∀ p ∈ l,p.title≠policyT):ZjH l=false:=by
 unfold ZjH
 rw [List.any_eq_false]
 intro p hp
 simpa using h p hp
theorem ZjJ {l:List Stored} {p:Stored} (h:p ∈ l) (ht:p.title=policyT):ZjH l=true:=by
 unfold ZjH
 rw [List.any_eq_true]
 exact ⟨p,h,decide_eq_true ht⟩
theorem ZuG {t0:ByteArray} {q:Int} {s:State} (hv:VS t0 q s):∀ p ∈ s.pages,1≤p.history.length∧p.history.length≤1000000:=by
 intro p hp
 have hs:=(hv.pages p hp).hist
 have a1:=hs.len1
 have a2:=hs.len2
 exact ⟨a1,by omega⟩
theorem Zq8 {t0:ByteArray} {q:Int} {s:State} (hv:VS t0 q s) {p:Stored} (hp:p ∈ s.pages) (ht:p.title=policyT):(Zq7 p).text=t0:=by
 have:=hv.rule p hp ht
 unfold Zkg at this
 have hs:=(hv.pages p hp).hist
 obtain ⟨c,h1,_⟩:=Zkh p hs.len1 (by have:=hs.len2;omega)
 unfold Zq7
 rw [h1] at this ⊢
 exact this
def ZmI (P0:Policy) (l:List Stored):Policy:=if ZjH l=true then P0 else Znm
theorem ZwR {t0:ByteArray} {q:Int} {s:State} {P0:Policy} (hv:VS t0 q s) (hr:Zaf t0=some (P0,0,0)) (hp:Zae t0=some (P0,0,0)):ZiE s=some (ZmI P0 s.pages)∧Zbn s=some (ZmI P0 s.pages):=by
 have hl:s.pages.length≤1000000:=by have:=hv.plen;omega
 have hh:=ZuG hv
 constructor
 ·refine Zb6 ?_
  unfold ZiE
  refine Zd (v:=policyT) rfl ?_
  unfold ZoC
  refine Zi (Q:=fun r=>(r.2=false∧ZjH s.pages=false)∨(r.2=true∧r.1=t0∧ZjH s.pages=true)) ?_ fun r hr2=>?_
  ·refine Zi (ZuE s policyT hl) fun r h=>?_
   rcases h with ⟨rfl,h⟩ | ⟨h1,h2,h3⟩
   ·exact Zd (v:=⟨0,⟨#[]⟩,⟨#[]⟩,⟨#[]⟩,0,0⟩) rfl (Zc (.inl ⟨rfl,ZjI h⟩))
   ·refine Zd (ZkS r.1 (hh _ h2).1 (hh _ h2).2) (Zc (.inr ⟨h1,Zq8 hv h2 h3,ZjJ h2 h3⟩))
  ·rcases hr2 with ⟨h1,h2⟩ | ⟨h1,h2,h3⟩
   ·refine Zal (by rw [h1];rfl) (Zc ?_)
    unfold ZmI
    rw [h2]
    rfl
   ·refine ZD (by rw [h1];rfl) ?_
    rw [h2]
    refine Zd hr ?_
    refine ZD rfl (Zc ?_)
    unfold ZmI
    rw [h3]
    rfl
 ·refine Zb6 ?_
  unfold Zbn
  refine Zi (ZnP s policyT hl hh) fun r h=>?_
  rcases h with ⟨h1,h⟩ | ⟨h1,h2,h3⟩
  ·refine Zal (by rw [h1];rfl) (Zc ?_)
   unfold ZmI
   rw [ZjI h]
   rfl
  ·refine ZD (by rw [h1];rfl) ?_
   refine Zd (ZnN r.1 (hh _ h2).1 (hh _ h2).2) ?_
   rw [Zq8 hv h2 h3]
   refine Zd hp ?_
   refine ZD rfl (Zc ?_)
   unfold ZmI
   rw [ZjJ h2 h3]
   rfl
theorem Zs3 {P0:Policy} (h:P0 ∈ polsG) (l:List Stored):ZmI P0 l ∈ polsG:=by
 unfold ZmI
 split
 ·exact h
 ·exact Zv4
def ZlL (x y:Option (List ByteArray)):Bool:=match x,y with | some G,some H=>decide (G=H)&&decide (G.length≤100) | _,_=>false
theorem ZpC {x y:Option (List ByteArray)} (h:ZlL x y=true):∃ G,x=some G∧y=some G∧G.length≤100:=by
 cases x with
 | none=>cases h
 | some G=>
   cases y with
   | none=>cases h
   | some H=>
     simp only [ZlL,Bool.and_eq_true,decide_eq_true_eq] at h
     exact ⟨G,rfl,by rw [h.1],h.2⟩
set_option maxRecDepth 100000 in
theorem ZjK:polsG.all (fun p=>usersG.all fun u=>ZlL (Zk0 p u) (Zbq p u))=true:=by kernel_rfl
theorem ZnQ (p:Policy) (hp:p ∈ polsG) (u:ByteArray) (hu:u ∈ usersG):∃ G,Zk0 p u=some G∧Zbq p u=some G∧G.length≤100:=
 ZpC (List.all_eq_true.1 (List.all_eq_true.1 ZjK p hp) u hu)
structure RdAt (s:State) (u:ByteArray) (P:Policy) (G:List ByteArray):Prop where
 pol:P ∈ polsG
 prog:Zbn s=some P
 gprog:Zbq P u=some G
 glen:G.length≤100
theorem ZwS {t0:ByteArray} {q:Int} {s:State} {u:ByteArray} (hv:VS t0 q s) (ht:t0 ∈ policyG) (hu:u ∈ usersG):∃ P G,RdAt s u P G:=by
 obtain ⟨P0,hP,hr,hp⟩:=ZnO t0 ht
 obtain ⟨e1,e2⟩:=ZwR hv hr hp
 have hin:=Zs3 hP s.pages
 obtain ⟨G,g1,g2,g3⟩:=ZnQ _ hin u hu
 exact ⟨_,G,hin,e2,g2,g3⟩
theorem ZpD {s:State} {u:ByteArray} {P:Policy} {G:List ByteArray} (h:RdAt s u P G) (hl:s.pages.length≤1000000) (hh:∀ p ∈ s.pages,1≤p.history.length∧p.history.length≤1000000) (t:Title):Zbs s u t=some (s.pages.any (fun p=>decide (p.title=t))&&ZsA P G 1 t):=by
 have hR:=(Zs2 _ h.pol).1
 refine Zb6 ?_
 unfold Zbs
 refine Zd h.prog ?_
 refine Zi (ZnP s t hl hh) fun r hr=>?_
 refine Zam ?_
 rcases hr with ⟨h1,h2⟩ | ⟨h1,h2,h3⟩
 ·refine ZD h1 (Zc ?_)
  have:s.pages.any (fun p=>decide (p.title=t))=false:=by
   rw [List.any_eq_false]
   intro p hp
   simpa using h2 p hp
  rw [this]
  rfl
 ·refine Zal h1 ?_
  refine Zd h.gprog ?_
  refine Zd (v:=ZsA P G 1 t) (by unfold ZeF;rw [if_pos (by omega)]) (Zc ?_)
  have:s.pages.any (fun p=>decide (p.title=t))=true:=by
   rw [List.any_eq_true]
   exact ⟨_,h2,decide_eq_true h3⟩
  rw [this]
  rfl
end Go.Proofs.YtjoneoobolnnbaaGreatDoor
namespace Go.Proofs.YtjoneoobolnnbaaGreatDoor
open VL
def Par {α:Type} (x:Option α) (Q:α→Prop):Prop:=∀ v,x=some v→Q v
section
variable {α β γ:Type}
theorem Zd3 {x:Option α} {Q:α→Prop} (h:Tot x Q):Par x Q:=fun v e=>by
 obtain ⟨w,h1,h2⟩:=h
 rw [h1] at e
 injection e with e
 rw [← e]
 exact h2
theorem ZS {v:α} {Q:α→Prop} (h:Q v):Par (some v) Q:=fun w e=>by
 injection e with e
 rw [← e]
 exact h
theorem ZcD {x:Option α} {f:α→Option β} {Q:α→Prop} {R:β→Prop} (h:Par x Q) (k:∀ v,Q v→Par (f v) R):Par (x.bind f) R:=fun w e=>by
 cases x with
 | none=>cases e
 | some v=>exact k v (h v rfl) w e
theorem Zao {x:Option α} {f:α→Option β} {R:β→Prop} (k:∀ v,x=some v→Par (f v) R):Par (x.bind f) R:=ZcD (Q:=fun v=>x=some v) (fun _ e=>e) k
theorem Zf6 {b:Bool} {x y:Option β} {R:β→Prop} (h1:b=true→Par x R) (h2:b=false→Par y R):Par (if b=true then x else y) R:=by
 cases b
 ·exact h2 rfl
 ·exact h1 rfl
theorem ZW {p:Prop} [Decidable p] {x y:Option β} {R:β→Prop} (h1:p→Par x R) (h2:¬ p→Par y R):Par (if decide p=true then x else y) R:=
 Zf6 (fun e=>h1 (of_decide_eq_true e)) fun e=>h2 (of_decide_eq_false e)
theorem Zez {k:γ} {f:γ→Option β} {R:β→Prop} (S:γ→Prop) (hk:S k) (hf:∀ q,S q→Par (f q) R):Par (letk k f) R:=hf k hk
theorem ZjU {l:List α} {i:Int} {f:α→Option β} {R:β→Prop} (k:∀ e,l[i.toNat]? = some e→Par (f e) R):Par ((atI l i).bind f) R:=Zao fun e he=>k e (Zio he).2
theorem Zid {w:Nat} {a b:List α} {f:List α→Option β} {R:β→Prop} (k:Par (f (a++b)) R):Par ((ZbY w a b).bind f) R:=Zao fun v hv=>by
 unfold ZbY at hv
 split at hv
 ·injection hv with hv
  rw [← hv]
  exact k
 ·cases hv
theorem ZlS {F:(α→Option β)→α→Option β} {R:β→Prop} (J:α→Prop) (h:∀ a rec,J a→(∀ a',J a'→Par (rec a') R)→Par (F rec a) R):∀ (n:Nat) (a:α),J a→Par (ZK n F a) R
 | 0,_,_=>fun _ e=>by cases e
 | n+1,a,ha=>h a _ ha fun a' ha'=>ZlS J h n a' ha'
end
def Fr (q:Title→Bool) (s:State) (r:State×Int):Prop:=r.2=0→r.1.clock=s.clock∧r.1.pages.filter (fun p=>q p.title)=s.pages.filter (fun p=>q p.title)
theorem ZcP {q:Title→Bool} {s s':State} {e:Int} (h:e≠0):Fr q s (s',e):=fun h'=>absurd h' h
theorem ZjV {q:Title→Bool} {s:State} {r:State×Int} (h1:r.1.clock=s.clock) (h2:r.1.pages=s.pages):Fr q s r:=fun _=>⟨h1,by rw [h2]⟩
theorem ZhH {q:Title→Bool} (l:List Stored) (p:Stored) (n:Nat) (h:q p.title=false):(l.take n++p::l.drop n).filter (fun p=>q p.title)=l.filter (fun p=>q p.title):=by
 rw [List.filter_append,List.filter_cons_of_neg (by simp [h]),← List.filter_append,List.take_append_drop]
theorem ZlT {q:Title→Bool} {l:List Stored} {p:Stored} {n:Nat} (hn:l[n]? = some p) (h:q p.title=false):(l.take n++l.drop (n+1)).filter (fun p=>q p.title)=l.filter (fun p=>q p.title):=by
 obtain ⟨hl,rfl⟩:=List.getElem?_eq_some_iff.1 hn
 conv=>rhs;rw [← List.take_append_drop n l,List.drop_eq_getElem_cons hl]
 rw [List.filter_append,List.filter_append,List.filter_cons_of_neg (by simp [h])]
theorem Ztc {q:Title→Bool} {l:List Stored} {p p':Stored} {n:Nat} (hn:l[n]? = some p) (h:q p.title=false) (h':q p'.title=false):(l.set n p').filter (fun p=>q p.title)=l.filter (fun p=>q p.title):=by
 obtain ⟨hl,rfl⟩:=List.getElem?_eq_some_iff.1 hn
 rw [List.set_eq_take_append_cons_drop,if_pos hl,List.filter_append,List.filter_cons_of_neg (by simp [h']),← List.filter_append,ZlT hn h]
theorem Zv8 {q:Title→Bool} {s:State} {c:Change} {z:Int} (hl:s.pages.length≤1000000) (h:q c.title=false):Par (Zg3 s c z) (Fr q s):=by
 unfold Zg3
 refine ZcD (Zd3 (Zgj s.pages c.title hl)) fun r hr=>?_
 refine ZW (fun h0=>?_) fun h0=>?_
 ·refine ZW (fun _=>ZS (ZcP (by decide))) fun _=>?_
  refine ZcD (Zd3 (Zdc s.pages _ hl)) fun r hr=>?_
  obtain ⟨n,_,rfl,_,_⟩:=hr
  exact ZS fun _=>⟨rfl,ZhH _ _ _ h⟩
 ·rcases hr with ⟨rfl,_⟩ | ⟨n,p,rfl,hn,ht⟩
  ·exact absurd (by decide) h0
  refine ZjU fun e he=>?_
  refine ZW (fun _=>ZS (ZcP (by decide))) fun _=>?_
  refine Zid ?_
  refine Zid ?_
  refine Zid ?_
  refine ZjU fun e' he'=>?_
  rw [Zih] at he' ⊢
  have e1:e'=p:=by
   rw [Int.toNat_natCast,hn] at he'
   injection he' with he'
   exact he'.symm
  subst e1
  refine ZS fun _=>⟨rfl,?_⟩
  unfold ZbI
  exact Ztc hn (by rw [ht];exact h) (by rw [ht];exact h)
theorem Zrn {q:Title→Bool} {s:State} {c:Change} (hl:s.pages.length≤1000000) (h:q c.title=false):Par (ZcY s c) (Fr q s):=by
 unfold ZcY
 refine ZcD (Zd3 (Zgj s.pages c.title hl)) fun r hr=>?_
 refine ZW (fun h0=>ZS (ZcP (by decide))) fun h0=>?_
 rcases hr with ⟨rfl,_⟩ | ⟨n,p,rfl,hn,ht⟩
 ·exact absurd (by decide) h0
 refine ZW (fun _=>ZS (ZcP (by decide))) fun _=>?_
 refine Zid ?_
 refine ZjU fun e he=>?_
 refine Zid ?_
 refine Zao fun w hw=>?_
 rw [Zga s.pages n (List.getElem?_eq_some_iff.1 hn).1 hl] at hw
 injection hw with hw
 subst hw
 refine Zao fun d hd=>?_
 exact ZS fun _=>⟨rfl,ZlT hn (by rw [ht];exact h)⟩
theorem ZpL {q:Title→Bool} {s:State} {c:Change} (hl:s.pages.length≤1000000) (hg:s.gone.length≤1000000) (h:q c.title=false):Par (Zcc s c) (Fr q s):=by
 unfold Zcc
 refine ZcD (Zd3 (ZkY s c.title hg)) fun g hg=>?_
 refine Zao fun r _=>?_
 refine ZW (fun _=>ZS (ZcP (by decide))) fun _=>?_
 refine ZW (fun _=>ZS (ZcP (by decide))) fun h0=>?_
 rcases hg with rfl | ⟨n,p,rfl,hn,ht⟩
 ·exact absurd (by decide) h0
 refine ZW (fun _=>ZS (ZcP (by decide))) fun _=>?_
 refine ZjU fun e he=>?_
 rw [Int.toNat_natCast,hn] at he
 injection he with he
 subst he
 refine ZcD (Zd3 (Zdc s.pages _ hl)) fun r hr=>?_
 obtain ⟨n,_,rfl,_,_⟩:=hr
 refine Zao fun _ _=>?_
 exact ZS fun _=>⟨rfl,ZhH _ _ _ (by rw [ht];exact h)⟩
theorem ZuK {q:Title→Bool} {s:State} {c:Change} {z:Int} (hl:s.pages.length≤1000000) (h:q c.title=false):Par (Zfe s c z) (Fr q s):=by
 unfold Zfe
 refine Zao fun r _=>?_
 refine ZW (fun _=>ZS (ZcP (by decide))) fun _=>?_
 refine ZjU fun e he=>?_
 refine ZW (fun _=>ZS (ZcP (by decide))) fun _=>?_
 refine ZW (fun _=>ZS (ZcP (by decide))) fun _=>?_
 refine Zid ?_
 refine ZlS (fun _=>True) (fun a rec _ ih=>?_) _ _ trivial
 refine ZW (fun _=>ZjU fun e he=>ih _ trivial) fun _=>?_
 refine ZcD (Zd3 (Zdc s.pages _ hl)) fun r hr=>?_
 obtain ⟨n,_,rfl,_,_⟩:=hr
 exact ZS fun _=>⟨rfl,ZhH _ _ _ h⟩
theorem ZuL {q:Title→Bool} {s:State} {c:Change} {z:Int} (hl:s.pages.length≤200) (h:q c.title=false) (h':q c.to=false):Par (Zfh s c z) (Fr q s):=by
 unfold Zfh
 refine ZcD (Zd3 (Zgj s.pages c.title (by omega))) fun r hr=>?_
 refine ZW (fun h0=>ZS (ZcP (by decide))) fun h0=>?_
 rcases hr with ⟨rfl,_⟩ | ⟨n,p,rfl,hn,ht⟩
 ·exact absurd (by decide) h0
 have hln:=(List.getElem?_eq_some_iff.1 hn).1
 refine Zao fun r _=>?_
 refine ZW (fun _=>ZS (ZcP (by decide))) fun _=>?_
 refine Zez (fun k=>∀ b,Par (k b) (Fr q s)) (fun b=>?_) fun k hk=>?_
 ·refine Zf6 (fun _=>ZS (ZcP (by decide))) fun _=>?_
  refine ZjU fun e he=>?_
  refine Zao fun w hw=>?_
  rw [Zga s.pages n hln (by omega)] at hw
  injection hw with hw
  subst hw
  have hwl:(s.pages.take n++s.pages.drop (n+1)).length≤200:=by simp;omega
  have hwf:=ZlT (q:=q) hn (by rw [ht];exact h)
  refine ZcD (Zd3 (Zdc _ _ (by omega))) fun w2 hw2=>?_
  obtain ⟨n2,hn2,rfl,_,_⟩:=hw2
  have hl2:(List.take n2 (s.pages.take n++s.pages.drop (n+1))++(⟨c.to,e.history⟩:Stored)::List.drop n2 (s.pages.take n++s.pages.drop (n+1))).length≤1000000:=by
   rw [List.length_append,List.length_cons,List.length_take,List.length_drop]
   omega
  have hf2:=ZhH (q:=q) (s.pages.take n++s.pages.drop (n+1)) (⟨c.to,e.history⟩:Stored) n2 h'
  rw [hwf] at hf2
  refine Zez (fun k=>∀ l:List Stored,l.filter (fun p=>q p.title)=s.pages.filter (fun p=>q p.title)→Par (k l) (Fr q s)) (fun l e=>Zao fun d _=>ZS fun _=>⟨rfl,e⟩) fun k hk=>?_
  refine ZW (fun _=>?_) fun _=>hk _ hf2
  refine Zao fun x _=>?_
  refine ZcD (Zd3 (Zdc _ _ hl2)) fun w3 hw3=>?_
  obtain ⟨n3,hn3,rfl,_,_⟩:=hw3
  exact hk _ ((ZhH _ _ _ h).trans hf2)
 ·exact ZW (fun _=>hk _) fun _=>hk _
theorem Ztd {q:Title→Bool} {s:State} {c:Change}:Par (ZdY s c) (Fr q s):=by
 unfold ZdY
 refine ZlS (fun _=>True) (fun a rec _ ih=>?_) _ _ trivial
 refine Zez (fun k=>∀ b,Par (k b) (Fr q s)) (fun b=>?_) fun k hk=>?_
 ·refine Zf6 (fun _=>Zao fun _ _=>Zao fun _ _=>ih _ trivial) fun _=>?_
  refine Zez (fun k=>∀ b,Par (k b) (Fr q s)) (fun b=>?_) fun k hk=>?_
  ·refine ZW (fun _=>?_) fun _=>?_
   ·refine Zf6 (fun _=>ZS (ZcP (by decide))) fun _=>?_
    exact Zao fun _ _=>Zao fun _ _=>ZS (ZjV rfl rfl)
   ·refine Zf6 (fun _=>ZS (ZcP (by decide))) fun _=>?_
    refine ZW (fun _=>ZS (ZcP (by decide))) fun _=>?_
    exact Zao fun _ _=>Zao fun _ _=>Zao fun _ _=>ZS (ZjV rfl rfl)
  ·exact ZW (fun _=>Zao fun _ _=>hk _) fun _=>hk _
 ·exact ZW (fun _=>Zao fun _ _=>Zao fun _ _=>hk _) fun _=>hk _
theorem Zte {q:Title→Bool} {s:State} {u:ByteArray} {z:Int}:Par (ZdS s u z) (Fr q s):=by
 unfold ZdS
 refine ZW (fun _=>ZS (ZjV rfl rfl)) fun _=>?_
 refine ZlS (fun _=>True) (fun a rec _ ih=>?_) _ _ trivial
 refine Zez (fun k=>∀ b,Par (k b) (Fr q s)) (fun b=>?_) fun k hk=>?_
 ·refine Zf6 (fun _=>Zao fun _ _=>Zao fun _ _=>ih _ trivial) fun _=>?_
  refine Zez (fun k=>∀ b,Par (k b) (Fr q s)) (fun b=>?_) fun k hk=>?_
  ·refine Zez (fun k=>∀ b,Par (k b) (Fr q s)) (fun b2=>?_) fun k hk=>?_
   ·refine Zf6 (fun _=>ZS (ZcP (by decide))) fun _=>?_
    refine Zao fun _ _=>?_
    refine Zez (fun k=>∀ b,Par (k b) (Fr q s)) (fun b3=>Zao fun _ _=>Zao fun _ _=>ZS (ZjV rfl rfl)) fun k hk=>?_
    exact Zf6 (fun _=>hk _) fun _=>hk _
   ·exact Zf6 (fun _=>hk _) fun _=>hk _
  ·exact ZW (fun _=>Zao fun _ _=>hk _) fun _=>hk _
 ·exact ZW (fun _=>Zao fun _ _=>hk _) fun _=>hk _
theorem ZpM {q:Title→Bool} {s:State} {c:Change}:Par (Zcb s c) (Fr q s):=by
 unfold Zcb
 refine Zez (fun k=>∀ b,Par (k b) (Fr q s)) (fun b=>?_) fun k hk=>?_
 ·exact Zf6 (fun _=>ZS (ZcP (by decide))) fun _=>Zao fun _ _=>Zao fun _ _=>ZS (ZjV rfl rfl)
 ·exact ZW (fun _=>hk _) fun _=>hk _
theorem ZuM {q:Title→Bool} {s:State} {c:Change} (hl:s.proposals.length≤1000000):Par (Zgn s c) (Fr q s):=fun v e h0=>by
 obtain ⟨l,_,h⟩:=Zd3 (ZtG s c hl) v e h0
 rw [h]
 exact ⟨rfl,rfl⟩
theorem Zn1 {α:Type} {x:Option α} {Q R:α→Prop} (h:Tot x Q) (g:Par x R):Tot x fun v=>Q v∧R v:=by
 obtain ⟨v,h1,h2⟩:=h
 exact ⟨v,h1,h2,g v h1⟩
theorem ZuN {t0:ByteArray} {q:Title→Bool} {s:State} {c:Change} {z y:Int} (hv:VS t0 y s) (h6:c.kind≠6) (h:c.kind≠10→q c.title=false) (h':c.kind=4→q c.to=false):Par (ZdG s c z) (Fr q s):=by
 have hp:=hv.plen
 have hg:=hv.glen
 have hpr:=hv.prlen
 have un:∀ {x:Option (State×Int)},Par x (Fr q s)→Par (x.bind fun r=>(some (r.1,r.2):Option (State×Int))) (Fr q s):=fun hx=>ZcD hx fun v hv=>ZS hv
 unfold ZdG
 refine ZW (fun e=>un (Zv8 (by omega) (h (by omega)))) fun e1=>?_
 refine ZW (fun e=>un (Zrn (by omega) (h (by omega)))) fun e2=>?_
 refine ZW (fun e=>un (ZpL (by omega) (by omega) (h (by omega)))) fun e3=>?_
 refine ZW (fun e=>un (ZuL hp (h (by omega)) (h' e))) fun e4=>?_
 refine ZW (fun e=>un (ZuK (by omega) (h (by omega)))) fun e5=>?_
 refine ZW (fun e=>absurd e h6) fun _=>?_
 refine Zez (fun k=>∀ b,Par (k b) (Fr q s)) (fun b=>?_) fun k hk=>?_
 ·refine Zf6 (fun _=>un Ztd) fun _=>?_
  refine ZW (fun _=>un ZpM) fun _=>?_
  exact un (ZuM (by omega))
 ·exact ZW (fun _=>hk _) fun _=>hk _
end Go.Proofs.YtjoneoobolnnbaaGreatDoor
