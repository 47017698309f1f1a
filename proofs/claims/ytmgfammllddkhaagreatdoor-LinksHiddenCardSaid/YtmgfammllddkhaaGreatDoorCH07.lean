/- Functions of the program as Lean functions. Written by fxgen.py. -/
import Derived.Test.YtmgfammllddkhaaGreatDoorCH06
set_option linter.unusedVariables false
set_option maxHeartbeats 4000000
set_option maxRecDepth 100000
namespace Go.Proofs.YtmgfammllddkhaaGreatDoor
open VL
def ZdN (p0:ByteArray) (p1:ByteArray) (p2:ByteArray) (p3:Int):Option ByteArray:=
 letk (fun (x1:Bool)=>
  if x1 then
   (some p0:Option ByteArray)
  else
  (ZeK p0 p1).bind fun r2=>
  letk (fun (x4:Int)=>
   (none:Option ByteArray)) fun k3=>
  if (decide (r2=0)) then
   (some p0:Option ByteArray)
  else
  letk (fun (x5:Bool)=>
   if x5 then
    k3 r2
   else
   k3 p3) fun k4=>
  if (decide (p3<0)) then
   k4 true
  else
  k4 (decide (r2<p3))) fun k1=>
 if (decide (p1=p2)) then
  k1 true
 else
 k1 (decide (p3=0))
theorem Zha (p0:ByteArray) (p1:ByteArray) (p2:ByteArray) (p3:Int) (r:ByteArray) (h:ZdN p0 p1 p2 p3=some r):ZH Tryz.prog 193 [.str p0,.str p1,.str p2,.int .i64 p3] (.str r):=by
 refine cF (fun r=>.str r) h mix Tryz.func193 fun r h=>?_
 unfold ZdN at h
 refine ZW ?_
 refine rg ?_
 refine jL h (fun x1=>mkS [(0,.str p0),(1,.str p1),(2,.str p2),(3,.int .i64 p3),(22,.bool x1)] [] 2) (fun k1 h=>?_) fun x1 h=>?_
 ·refine rg ?_
  refine kS 19 h rfl (fun h=>?_) fun h=>?_
  ·iterate 2 refine Zaj rfl (ZW ?_)
   exact jn true h (sR [])
  exact jn (decide (p3=0)) h (sR [])
 refine cS h rfl (fun h=>?_) fun h=>?_
 ·refine rg ?_
  cases h
  exact rQ
 refine rg ?_
 refine aC h (Zip _ _) fun r2 h=>?_
 refine rg ?_
 refine jL h (fun x4=>mkS [(0,.str p0),(1,.str p1),(2,.str p2),(3,.int .i64 x4)] [] 2) (fun k3 h=>?_) fun x4 h=>?_
 ·refine cS h rfl (fun h=>?_) fun h=>?_
  ·refine rg ?_
   cases h
   exact rQ
  refine jL h (fun x5=>mkS [(0,.str p0),(1,.str p1),(2,.str p2),(3,.int .i64 p3),(9,.int .i64 r2),(36,.bool x5)] [] 2) (fun k4 h=>?_) fun x5 h=>?_
  ·refine rg ?_
   refine kS 32 h rfl (fun h=>?_) fun h=>?_
   ·iterate 3 refine Zaj rfl (ZW ?_)
    exact jn true h (sR [])
   exact jn (decide (r2<p3)) h (sR [])
  refine cS h rfl (fun h=>?_) fun h=>?_
  ·refine rg ?_
   exact jn r2 h (sR [])
  exact jn p3 h (sR [])
 cases h
def ZcA (p0:ByteArray) (p1:ByteArray) (p2:ByteArray):Option ByteArray:=
 (ZdN p0 p1 p2 (-1)).bind fun r1=>
 (some r1:Option ByteArray)
theorem ZfG (p0:ByteArray) (p1:ByteArray) (p2:ByteArray) (r:ByteArray) (h:ZcA p0 p1 p2=some r):ZH Tryz.prog 153 [.str p0,.str p1,.str p2] (.str r):=by
 refine cF (fun r=>.str r) h mix Tryz.func153 fun r h=>?_
 unfold ZcA at h
 refine ZW ?_
 refine rg ?_
 refine rg ?_
 refine aC h (Zha _ _ _ _) fun r1 h=>?_
 cases h
 exact rQ
def Za8 (p0:ByteArray) (p1:ByteArray):Option Bool:=
 letk (fun (x2:Bool)=>
  (some x2:Option Bool)) fun k1=>
 if (decide ((p1.size:Int)≤(p0.size:Int))) then
  (Ze3 p0 (w64 ((p0.size:Int) - (p1.size:Int))) (p0.size:Int)).bind fun l3=>
  k1 (decide (l3=p1))
 else
 k1 false
theorem ZcJ (p0:ByteArray) (p1:ByteArray) (r:Bool) (h:Za8 p0 p1=some r):ZH Tryz.prog 219 [.str p0,.str p1] (.bool r):=by
 refine cF (fun r=>.bool r) h mix Tryz.func219 fun r h=>?_
 unfold Za8 at h
 refine ZW ?_
 refine rg ?_
 refine jL h (fun x2=>mkS [(4,.bool x2)] [] 2) (fun k1 h=>?_) fun x2 h=>?_
 ·refine rg ?_
  refine kS 10 h rfl (fun h=>?_) fun h=>?_
  ·refine sS h fun l3 h=>?_
   exact jn (decide (l3=p1)) h (sR [])
  iterate 9 refine Zaj rfl (ZW ?_)
  exact jn false h (sR [])
 cases h
 exact rQ
def Za2 (p0:ByteArray) (p1:ByteArray):Option ByteArray:=
 (Za8 p0 p1).bind fun r1=>
 if r1 then
  (Ze3 p0 0 (w64 ((p0.size:Int) - (p1.size:Int)))).bind fun l3=>
  (some l3:Option ByteArray)
 else
 (some p0:Option ByteArray)
theorem ZcB (p0:ByteArray) (p1:ByteArray) (r:ByteArray) (h:Za2 p0 p1=some r):ZH Tryz.prog 214 [.str p0,.str p1] (.str r):=by
 refine cF (fun r=>.str r) h mix Tryz.func214 fun r h=>?_
 unfold Za2 at h
 refine ZW ?_
 refine rg ?_
 refine rg ?_
 refine aC h (ZcJ _ _) fun r1 h=>?_
 refine cS h rfl (fun h=>?_) fun h=>?_
 ·refine rg ?_
  refine sS h fun l3 h=>?_
  cases h
  exact rQ
 refine rg ?_
 cases h
 exact rQ
def strings_TrimSuffix (p0:ByteArray) (p1:ByteArray):Option ByteArray:=
 (Za2 p0 p1).bind fun r1=>
 (some r1:Option ByteArray)
theorem ZfH (p0:ByteArray) (p1:ByteArray) (r:ByteArray) (h:strings_TrimSuffix p0 p1=some r):ZH Tryz.prog 192 [.str p0,.str p1] (.str r):=by
 refine cF (fun r=>.str r) h mix Tryz.func192 fun r h=>?_
 unfold strings_TrimSuffix at h
 refine ZW ?_
 refine rg ?_
 refine rg ?_
 refine aC h (ZcB _ _) fun r1 h=>?_
 cases h
 exact rQ
def Zfn (p0:ByteArray):Option ByteArray:=
 (Zq6 1 (p0.size:Int)).bind fun _=>
 Zbv Zed (fun f17 ((x63,x64):Int×(List Int))=>
  if (decide (x63<(p0.size:Int))) then
   letk (fun (x87:List Int)=>
    f17 ((w64 (x63+1)),x87)) fun k19=>
   letk (fun (x90:Bool)=>
    if x90 then
     (atS p0 x63).bind fun c91=>
     (ZjH 1 x64 [c91]).bind fun l92=>
     k19 l92
    else
    k19 x64) fun k20=>
   (atS p0 x63).bind fun c93=>
   if (!decide (c93=32)) then
    k20 true
   else
   if (decide (0<(x64.length:Int))) then
    (atI x64 (w64 ((x64.length:Int) - 1))).bind fun e94=>
    k20 (!decide (e94=32))
   else
   k20 false
  else
  (strings_TrimSuffix (strOfNums x64) (⟨#[32]⟩:ByteArray)).bind fun r95=>
  (some r95:Option ByteArray)) (0,([]:List Int))
theorem Zi8 (p0:ByteArray) (r:ByteArray) (h:Zfn p0=some r):ZH Tryz.prog 152 [.str p0] (.str r):=by
 refine cF (fun r=>.str r) h mix Tryz.func152 fun r h=>?_
 unfold Zfn at h
 refine ZW ?_
 refine rg ?_
 refine rg ?_
 obtain ⟨_,h1,h⟩:=bnd h
 refine Zq7 csB rfl rfl rfl h1 (ZW ?_)
 refine rg ?_
 refine bl ?_
 refine Zar h fun f17 mf17 hf17 h=>?_
 refine Zac (α:=Nat×(Int×(List Int))) (fun a _=>mkS [(0,.str p0),(3,.row 7 (1,7)),(4,.int .i64 a.2.1)] [(7,some ((1,7),.row 5 1 false (List.map csB a.2.2)))] 2) (fun a=>Zbv a.1 f17 a.2=some r) (fun a=>a.1) (mf17,0,([]:List Int)) 2 h (sR [(7,2,2)]) (fun a _ h=>?_)
 obtain ⟨mf17,x63,x64⟩:=a
 obtain ⟨mf17,rfl,h⟩:=Zas hf17 h
 dsimp only at h ⊢
 refine ZW ?_
 refine rg ?_
 refine cS h rfl (fun h=>?_) fun h=>?_
 ·refine jL h (fun x87=>mkS [(0,.str p0),(3,.row 7 (1,7)),(4,.int .i64 x63)] [(7,some ((1,7),.row 5 1 false (List.map csB x87)))] 2) (fun k19 h=>?_) fun x87 h=>?_
  ·refine bl ?_
   refine jL h (fun x90=>mkS [(0,.str p0),(3,.row 7 (1,7)),(4,.int .i64 x63),(31,.bool x90)] [(7,some ((1,7),.row 5 1 false (List.map csB x64)))] 2) (fun k20 h=>?_) fun x90 h=>?_
   ·refine rg ?_
    refine aS h fun c93 h=>?_
    refine kS 18 h rfl (fun h=>?_) fun h=>?_
    ·iterate 12 refine Zaj rfl (ZW ?_)
     exact jn true h (sR [(7,1,7)])
    refine lM csB x64 ?_
    refine kS 22 h rfl (fun h=>?_) fun h=>?_
    ·refine lM csB x64 ?_
     obtain ⟨e94,h73,h⟩:=bnd h
     refine Zae rfl h73 rfl rfl rfl (ZW ?_)
     refine ZaG rfl h73 rfl rfl rfl (ZW ?_)
     exact jn (!decide (e94=32)) h (sR [(7,1,7)])
    iterate 7 refine Zaj rfl (ZW ?_)
    exact jn false h (sR [(7,1,7)])
   refine cS h rfl (fun h=>?_) fun h=>?_
   ·refine rg ?_
    refine aS h fun c91 h=>?_
    refine bM csB ([c91]:List Int) ?_
    refine pR csB h fun l92 h=>?_
    exact jn l92 h (sR [(7,2,5)])
   exact jn x64 h (sR [(7,1,7)])
  refine rg ?_
  exact rn (mf17,(w64 (x63+1)),x87) h (sR [(7,1,7)])
 refine rg ?_
 refine Zme (l:=x64) rfl rfl (ZW ?_)
 refine aC h (ZfH _ _) fun r95 h=>?_
 cases h
 exact rQ
def ZX (p0:ByteArray) (p1:ByteArray):Option Bool:=
 letk (fun (x2:Bool)=>
  (some x2:Option Bool)) fun k1=>
 if (decide ((p1.size:Int)≤(p0.size:Int))) then
  (Ze3 p0 0 (p1.size:Int)).bind fun l3=>
  k1 (decide (l3=p1))
 else
 k1 false
theorem ZaX (p0:ByteArray) (p1:ByteArray) (r:Bool) (h:ZX p0 p1=some r):ZH Tryz.prog 148 [.str p0,.str p1] (.bool r):=by
 refine cF (fun r=>.bool r) h mix Tryz.func148 fun r h=>?_
 unfold ZX at h
 refine ZW ?_
 refine rg ?_
 refine jL h (fun x2=>mkS [(4,.bool x2)] [] 2) (fun k1 h=>?_) fun x2 h=>?_
 ·refine rg ?_
  refine kS 10 h rfl (fun h=>?_) fun h=>?_
  ·refine sS h fun l3 h=>?_
   exact jn (decide (l3=p1)) h (sR [])
  iterate 6 refine Zaj rfl (ZW ?_)
  exact jn false h (sR [])
 cases h
 exact rQ
def Zao (p0:ByteArray) (p1:ByteArray):Option Bool:=
 (ZX p0 p1).bind fun r1=>
 (some r1:Option Bool)
theorem ZaC (p0:ByteArray) (p1:ByteArray) (r:Bool) (h:Zao p0 p1=some r):ZH Tryz.prog 115 [.str p0,.str p1] (.bool r):=by
 refine cF (fun r=>.bool r) h mix Tryz.func115 fun r h=>?_
 unfold Zao at h
 refine ZW ?_
 refine rg ?_
 refine rg ?_
 refine aC h (ZaX _ _) fun r1 h=>?_
 cases h
 exact rQ
def Za3 (p0:ByteArray) (p1:ByteArray):Option ByteArray:=
 (ZX p0 p1).bind fun r1=>
 if r1 then
  (Ze3 p0 (p1.size:Int) (p0.size:Int)).bind fun l3=>
  (some l3:Option ByteArray)
 else
 (some p0:Option ByteArray)
theorem ZcC (p0:ByteArray) (p1:ByteArray) (r:ByteArray) (h:Za3 p0 p1=some r):ZH Tryz.prog 194 [.str p0,.str p1] (.str r):=by
 refine cF (fun r=>.str r) h mix Tryz.func194 fun r h=>?_
 unfold Za3 at h
 refine ZW ?_
 refine rg ?_
 refine rg ?_
 refine aC h (ZaX _ _) fun r1 h=>?_
 refine cS h rfl (fun h=>?_) fun h=>?_
 ·refine rg ?_
  refine sS h fun l3 h=>?_
  cases h
  exact rQ
 refine rg ?_
 cases h
 exact rQ
def ZbQ (p0:ByteArray) (p1:ByteArray):Option ByteArray:=
 (Za3 p0 p1).bind fun r1=>
 (some r1:Option ByteArray)
theorem Zc9 (p0:ByteArray) (p1:ByteArray) (r:ByteArray) (h:ZbQ p0 p1=some r):ZH Tryz.prog 154 [.str p0,.str p1] (.str r):=by
 refine cF (fun r=>.str r) h mix Tryz.func154 fun r h=>?_
 unfold ZbQ at h
 refine ZW ?_
 refine rg ?_
 refine rg ?_
 refine aC h (ZcC _ _) fun r1 h=>?_
 cases h
 exact rQ
def Zcb (p0:ByteArray) (p1:Int):Option ByteArray:=
 Zbv Zed (fun f7 (x18:ByteArray)=>
  letk (fun (x24:Bool)=>
   if x24 then
    (Ze3 x18 1 (x18.size:Int)).bind fun l25=>
    f7 l25
   else
   (some x18:Option ByteArray)) fun k8=>
  if (decide (0<(x18.size:Int))) then
   (atS x18 0).bind fun c26=>
   k8 (decide (c26=p1))
  else
  k8 false) p0
theorem Ze2 (p0:ByteArray) (p1:Int) (r:ByteArray) (h:Zcb p0 p1=some r):ZH Tryz.prog 84 [.str p0,.int .u8 p1] (.str r):=by
 refine cF (fun r=>.str r) h mix Tryz.func84 fun r h=>?_
 unfold Zcb at h
 refine ZW ?_
 refine rg ?_
 refine bl ?_
 refine Zar h fun f7 mf7 hf7 h=>?_
 refine Zac (α:=Nat×ByteArray) (fun a _=>mkS [(0,.str a.2),(1,.int .u8 p1)] [] 2) (fun a=>Zbv a.1 f7 a.2=some r) (fun a=>a.1) (mf7,p0) 2 h (sR []) (fun a _ h=>?_)
 obtain ⟨mf7,x18⟩:=a
 obtain ⟨mf7,rfl,h⟩:=Zas hf7 h
 dsimp only at h ⊢
 refine ZW ?_
 refine jL h (fun x24=>mkS [(0,.str x18),(1,.int .u8 p1),(13,.bool x24)] [] 2) (fun k8 h=>?_) fun x24 h=>?_
 ·refine rg ?_
  refine kS 8 h rfl (fun h=>?_) fun h=>?_
  ·refine aS h fun c26 h=>?_
   exact jn (decide (c26=p1)) h (sR [])
  iterate 4 refine Zaj rfl (ZW ?_)
  exact jn false h (sR [])
 refine cS h rfl (fun h=>?_) fun h=>?_
 ·refine bl ?_
  refine rg ?_
  refine sS h fun l25 h=>?_
  exact rn (mf7,l25) h (sR [])
 refine rg ?_
 cases h
 exact rQ
def Zc5 (p0:ByteArray) (p1:ByteArray):Option ByteArray:=
 letk (fun (x1:Bool)=>
  if x1 then
   (some p0:Option ByteArray)
  else
  letk (fun (x3:Bool)=>
   if x3 then
    (atS p1 0).bind fun c6=>
    (Zcb p0 c6).bind fun r7=>
    (some r7:Option ByteArray)
   else
   (none:Option ByteArray)) fun k2=>
  if (decide ((p1.size:Int)=1)) then
   (atS p1 0).bind fun c8=>
   k2 (decide (c8<128))
  else
  k2 false) fun k1=>
 if (decide (p0=(⟨#[]⟩:ByteArray))) then
  k1 true
 else
 k1 (decide (p1=(⟨#[]⟩:ByteArray)))
theorem ZgC (p0:ByteArray) (p1:ByteArray) (r:ByteArray) (h:Zc5 p0 p1=some r):ZH Tryz.prog 48 [.str p0,.str p1] (.str r):=by
 refine cF (fun r=>.str r) h mix Tryz.func48 fun r h=>?_
 unfold Zc5 at h
 refine ZW ?_
 refine rg ?_
 refine jL h (fun x1=>mkS [(0,.str p0),(1,.str p1),(12,.bool x1)] [] 2) (fun k1 h=>?_) fun x1 h=>?_
 ·refine rg ?_
  refine kS 9 h rfl (fun h=>?_) fun h=>?_
  ·iterate 2 refine Zaj rfl (ZW ?_)
   exact jn true h (sR [])
  exact jn (decide (p1=(⟨#[]⟩:ByteArray))) h (sR [])
 refine cS h rfl (fun h=>?_) fun h=>?_
 ·refine rg ?_
  cases h
  exact rQ
 refine jL h (fun x3=>mkS [(0,.str p0),(1,.str p1),(21,.bool x3)] [] 2) (fun k2 h=>?_) fun x3 h=>?_
 ·refine rg ?_
  refine kS 17 h rfl (fun h=>?_) fun h=>?_
  ·refine aS h fun c8 h=>?_
   exact jn (decide (c8<128)) h (sR [])
  iterate 3 refine Zaj rfl (ZW ?_)
  exact jn false h (sR [])
 refine cS h rfl (fun h=>?_) fun h=>?_
 ·refine rg ?_
  refine aS h fun c6 h=>?_
  refine aC h (Ze2 _ _) fun r7 h=>?_
  cases h
  exact rQ
 cases h
def Zb0 (p0:ByteArray) (p1:Int):Option ByteArray:=
 Zbv Zed (fun f7 (x18:ByteArray)=>
  letk (fun (x24:Bool)=>
   if x24 then
    (Ze3 x18 0 (w64 ((x18.size:Int) - 1))).bind fun l25=>
    f7 l25
   else
   (some x18:Option ByteArray)) fun k8=>
  if (decide (0<(x18.size:Int))) then
   (atS x18 (w64 ((x18.size:Int) - 1))).bind fun c26=>
   k8 (decide (c26=p1))
  else
  k8 false) p0
theorem ZeT (p0:ByteArray) (p1:Int) (r:ByteArray) (h:Zb0 p0 p1=some r):ZH Tryz.prog 209 [.str p0,.int .u8 p1] (.str r):=by
 refine cF (fun r=>.str r) h mix Tryz.func209 fun r h=>?_
 unfold Zb0 at h
 refine ZW ?_
 refine rg ?_
 refine bl ?_
 refine Zar h fun f7 mf7 hf7 h=>?_
 refine Zac (α:=Nat×ByteArray) (fun a _=>mkS [(0,.str a.2),(1,.int .u8 p1)] [] 2) (fun a=>Zbv a.1 f7 a.2=some r) (fun a=>a.1) (mf7,p0) 2 h (sR []) (fun a _ h=>?_)
 obtain ⟨mf7,x18⟩:=a
 obtain ⟨mf7,rfl,h⟩:=Zas hf7 h
 dsimp only at h ⊢
 refine ZW ?_
 refine jL h (fun x24=>mkS [(0,.str x18),(1,.int .u8 p1),(16,.bool x24)] [] 2) (fun k8 h=>?_) fun x24 h=>?_
 ·refine rg ?_
  refine kS 8 h rfl (fun h=>?_) fun h=>?_
  ·refine aS h fun c26 h=>?_
   exact jn (decide (c26=p1)) h (sR [])
  iterate 7 refine Zaj rfl (ZW ?_)
  exact jn false h (sR [])
 refine cS h rfl (fun h=>?_) fun h=>?_
 ·refine bl ?_
  refine rg ?_
  refine sS h fun l25 h=>?_
  exact rn (mf7,l25) h (sR [])
 refine rg ?_
 cases h
 exact rQ
def ZcU (p0:ByteArray) (p1:ByteArray):Option ByteArray:=
 letk (fun (x1:Bool)=>
  if x1 then
   (some p0:Option ByteArray)
  else
  letk (fun (x3:Bool)=>
   if x3 then
    (atS p1 0).bind fun c6=>
    (Zb0 p0 c6).bind fun r7=>
    (some r7:Option ByteArray)
   else
   (none:Option ByteArray)) fun k2=>
  if (decide ((p1.size:Int)=1)) then
   (atS p1 0).bind fun c8=>
   k2 (decide (c8<128))
  else
  k2 false) fun k1=>
 if (decide (p0=(⟨#[]⟩:ByteArray))) then
  k1 true
 else
 k1 (decide (p1=(⟨#[]⟩:ByteArray)))
theorem Zf7 (p0:ByteArray) (p1:ByteArray) (r:ByteArray) (h:ZcU p0 p1=some r):ZH Tryz.prog 198 [.str p0,.str p1] (.str r):=by
 refine cF (fun r=>.str r) h mix Tryz.func198 fun r h=>?_
 unfold ZcU at h
 refine ZW ?_
 refine rg ?_
 refine jL h (fun x1=>mkS [(0,.str p0),(1,.str p1),(12,.bool x1)] [] 2) (fun k1 h=>?_) fun x1 h=>?_
 ·refine rg ?_
  refine kS 9 h rfl (fun h=>?_) fun h=>?_
  ·iterate 2 refine Zaj rfl (ZW ?_)
   exact jn true h (sR [])
  exact jn (decide (p1=(⟨#[]⟩:ByteArray))) h (sR [])
 refine cS h rfl (fun h=>?_) fun h=>?_
 ·refine rg ?_
  cases h
  exact rQ
 refine jL h (fun x3=>mkS [(0,.str p0),(1,.str p1),(21,.bool x3)] [] 2) (fun k2 h=>?_) fun x3 h=>?_
 ·refine rg ?_
  refine kS 17 h rfl (fun h=>?_) fun h=>?_
  ·refine aS h fun c8 h=>?_
   exact jn (decide (c8<128)) h (sR [])
  iterate 3 refine Zaj rfl (ZW ?_)
  exact jn false h (sR [])
 refine cS h rfl (fun h=>?_) fun h=>?_
 ·refine rg ?_
  refine aS h fun c6 h=>?_
  refine aC h (ZeT _ _) fun r7 h=>?_
  cases h
  exact rQ
 cases h
def ZeU (p0:ByteArray):Option ByteArray:=
 (strings_Split p0 (⟨#[47]⟩:ByteArray)).bind fun r1=>
 Zbv Zed (fun f13 ((x60,x61):Int×(List ByteArray))=>
  if (decide (x60<(r1.length:Int))) then
   letk (fun (x93:List ByteArray)=>
    f13 ((w64 (x60+1)),x93)) fun k15=>
   letk (fun (x97:List ByteArray)=>
    if (decide (x60<(w64 ((x97.length:Int) - 1)))) then
     (atI x97 x60).bind fun e98=>
     (ZcU e98 (⟨#[32]⟩:ByteArray)).bind fun r99=>
     (atI x97 x60).bind fun e100=>
     k15 (Ze4 x97 x60 r99)
    else
    k15 x97) fun k16=>
   if (decide (0<x60)) then
    (atI x61 x60).bind fun e101=>
    (Zc5 e101 (⟨#[32]⟩:ByteArray)).bind fun r102=>
    (atI x61 x60).bind fun e103=>
    k16 (Ze4 x61 x60 r102)
   else
   k16 x61
  else
  (strings_Join x61 (⟨#[47]⟩:ByteArray)).bind fun r104=>
  (some r104:Option ByteArray)) (0,r1)
theorem ZiO (p0:ByteArray) (r:ByteArray) (h:ZeU p0=some r):ZH Tryz.prog 156 [.str p0] (.str r):=by
 refine cF (fun r=>.str r) h mix Tryz.func156 fun r h=>?_
 unfold ZeU at h
 refine ZW ?_
 refine rg ?_
 refine rg ?_
 refine aN h (Ziq _ _) fun r1 h=>?_
 refine rg ?_
 refine lM csS r1 ?_
 refine bl ?_
 refine Zar h fun f13 mf13 hf13 h=>?_
 refine Zac (α:=Nat×(Int×(List ByteArray))) (fun a _=>mkS [(3,.row 6 (1,6)),(8,.int .i64 (r1.length:Int)),(9,.int .i64 a.2.1)] [(6,some ((1,6),.row 9 1 false (List.map csS a.2.2)))] 2) (fun a=>Zbv a.1 f13 a.2=some r) (fun a=>a.1) (mf13,0,r1) 2 h (sR [(6,2,1)]) (fun a _ h=>?_)
 obtain ⟨mf13,x60,x61⟩:=a
 obtain ⟨mf13,rfl,h⟩:=Zas hf13 h
 dsimp only at h ⊢
 refine ZW ?_
 refine rg ?_
 refine cS h rfl (fun h=>?_) fun h=>?_
 ·refine jL h (fun x93=>mkS [(3,.row 6 (1,6)),(8,.int .i64 (r1.length:Int)),(9,.int .i64 x60)] [(6,some ((1,6),.row 9 1 false (List.map csS x93)))] 2) (fun k15 h=>?_) fun x93 h=>?_
  ·refine bl ?_
   refine rg ?_
   refine rg ?_
   refine jL h (fun x97=>mkS [(3,.row 6 (1,6)),(4,.int .i64 x60),(8,.int .i64 (r1.length:Int)),(9,.int .i64 x60)] [(6,some ((1,6),.row 9 1 false (List.map csS x97)))] 2) (fun k16 h=>?_) fun x97 h=>?_
   ·refine cS h rfl (fun h=>?_) fun h=>?_
    ·refine rg ?_
     obtain ⟨e101,h83,h⟩:=bnd h
     refine Zae rfl h83 rfl rfl rfl (ZW ?_)
     refine ZaG rfl h83 rfl rfl rfl (ZW ?_)
     refine aC h (ZgC _ _) fun r102 h=>?_
     obtain ⟨e103,h85,h⟩:=bnd h
     refine Zae rfl h85 rfl rfl rfl (ZW ?_)
     refine ZbN (e':=r102) rfl h85 rfl rfl rfl rfl rfl rfl (Nat.le_of_ble_eq_true rfl) rfl rfl (ZW ?_)
     exact jn (Ze4 x61 x60 r102) h (sR [(6,1,6)])
    exact jn x61 h (sR [(6,1,6)])
   refine rg ?_
   refine lM csS x97 ?_
   refine cS h rfl (fun h=>?_) fun h=>?_
   ·refine rg ?_
    obtain ⟨e98,h80,h⟩:=bnd h
    refine Zae rfl h80 rfl rfl rfl (ZW ?_)
    refine ZaG rfl h80 rfl rfl rfl (ZW ?_)
    refine aC h (Zf7 _ _) fun r99 h=>?_
    obtain ⟨e100,h82,h⟩:=bnd h
    refine Zae rfl h82 rfl rfl rfl (ZW ?_)
    refine ZbN (e':=r99) rfl h82 rfl rfl rfl rfl rfl rfl (Nat.le_of_ble_eq_true rfl) rfl rfl (ZW ?_)
    exact jn (Ze4 x97 x60 r99) h (sR [(6,1,6)])
   exact jn x97 h (sR [(6,1,6)])
  refine rg ?_
  exact rn (mf13,(w64 (x60+1)),x93) h (sR [(6,1,6)])
 refine rg ?_
 refine aL h (Zi2 _ _) fun r104 h=>?_
 cases h
 exact rQ
def Zf8 (p0:ByteArray):Option (Title×Int):=
 (ZcA p0 (⟨#[95]⟩:ByteArray) (⟨#[32]⟩:ByteArray)).bind fun r1=>
 (Zfn r1).bind fun r2=>
 (Zao r2 (⟨#[58]⟩:ByteArray)).bind fun r3=>
 letk (fun (x6:ByteArray)=>
  (Zfc x6).bind fun r7=>
  letk (fun (x9:ByteArray) (x10:Int)=>
   (ZeU x9).bind fun r11=>
   letk (fun (x14:Bool)=>
    letk (fun (x18:ByteArray)=>
     if (decide (100<(x18.size:Int))) then
      (some ((⟨0,(⟨#[]⟩:ByteArray)⟩:Title),3):Option (Title×Int))
     else
     (Zio (⟨x10,x18⟩:Title)).bind fun r19=>
     if (!r19) then
      (some ((⟨0,(⟨#[]⟩:ByteArray)⟩:Title),1):Option (Title×Int))
     else
     (some ((⟨x10,x18⟩:Title),0):Option (Title×Int))) fun k4=>
    if x14 then
     (atS r11 0).bind fun c20=>
     (Ze3 r11 1 (r11.size:Int)).bind fun l21=>
     (ZhE (strOfNums [(IntKind.wrap .u8 (c20 - 32))]) l21).bind fun s22=>
     k4 s22
    else
    k4 r11) fun k3=>
   if (!decide (r11=(⟨#[]⟩:ByteArray))) then
    (atS r11 0).bind fun c23=>
    if (decide (97≤c23)) then
     (atS r11 0).bind fun c24=>
     k3 (decide (c24≤122))
    else
    k3 false
   else
   k3 false) fun k2=>
  if r7.2.2 then
   (ZbQ r7.2.1 (⟨#[32]⟩:ByteArray)).bind fun r25=>
   k2 r25 r7.1
  else
  k2 x6 0) fun k1=>
 if r3 then
  (Ze3 r2 1 (r2.size:Int)).bind fun l26=>
  (ZbQ l26 (⟨#[32]⟩:ByteArray)).bind fun r27=>
  k1 r27
 else
 k1 r2
theorem Zkp (p0:ByteArray) (r:Title×Int) (h:Zf8 p0=some r):ZH Tryz.prog 89 [.str p0] (.tup [r.1.pv,.int .i64 r.2]):=by
 refine cF (fun r=>.tup [r.1.pv,.int .i64 r.2]) h mix Tryz.func89 fun r h=>?_
 unfold Zf8 at h
 refine ZW ?_
 refine rg ?_
 refine rg ?_
 refine aC h (ZfG _ _ _) fun r1 h=>?_
 refine aC h (Zi8 _) fun r2 h=>?_
 refine rg ?_
 refine aC h (ZaC _ _) fun r3 h=>?_
 refine jL h (fun x6=>mkS [(0,.str x6),(2,.ptr 2 (1,2) 0)] [(2,some ((1,2),.box [.int .i64 0,.str (⟨#[]⟩:ByteArray)]))] 2) (fun k1 h=>?_) fun x6 h=>?_
 ·refine cS h rfl (fun h=>?_) fun h=>?_
  ·refine rg ?_
   refine sS h fun l26 h=>?_
   refine aC h (Zc9 _ _) fun r27 h=>?_
   exact jn r27 h (sR [(2,1,0)])
  exact jn r2 h (sR [(2,1,0)])
 refine rg ?_
 refine rg ?_
 refine aC h (Zi3 _) fun r7 h=>?_
 refine rg ?_
 refine ZbS h fun k2 hk2 h=>?_
 refine ZbC (α:=ByteArray×Int) (fun a _=>mkS [(0,.str a.1),(2,.ptr 2 (1,2) 0),(4,.ptr 4 (1,4) 0)] [(2,some ((1,2),.box [.int .i64 0,.str (⟨#[]⟩:ByteArray)])),(4,some ((1,4),.box [.int .i64 a.2,.str (⟨#[]⟩:ByteArray)]))] 2) (fun a=>k2 a.1 a.2=some r) (ZW ?_) (fun a _ h=>?_)
 ·refine cS h rfl (fun h=>?_) fun h=>?_
  ·refine rg ?_
   refine aC h (Zc9 _ _) fun r25 h=>?_
   exact jn (r25,r7.1) h (sR [(2,1,2),(4,2,1)])
  exact jn (x6,0) h (sR [(2,1,2),(4,2,1)])
 obtain ⟨x9,x10⟩:=a
 subst hk2
 dsimp only at h ⊢
 refine ZW ?_
 refine rg ?_
 refine aC h (ZiO _) fun r11 h=>?_
 refine jL h (fun x14=>mkS [(0,.str r11),(2,.ptr 2 (1,2) 0),(4,.ptr 4 (1,4) 0),(41,.bool x14)] [(2,some ((1,2),.box [.int .i64 0,.str (⟨#[]⟩:ByteArray)])),(4,some ((1,4),.box [.int .i64 x10,.str (⟨#[]⟩:ByteArray)]))] 2) (fun k3 h=>?_) fun x14 h=>?_
 ·refine rg ?_
  refine kS 32 h rfl (fun h=>?_) fun h=>?_
  ·refine aS h fun c23 h=>?_
   refine kS 37 h rfl (fun h=>?_) fun h=>?_
   ·refine aS h fun c24 h=>?_
    exact jn (decide (c24≤122)) h (sR [(2,1,2),(4,1,4)])
   iterate 3 refine Zaj rfl (ZW ?_)
   exact jn false h (sR [(2,1,2),(4,1,4)])
  iterate 6 refine Zaj rfl (ZW ?_)
  exact jn false h (sR [(2,1,2),(4,1,4)])
 refine jL h (fun x18=>mkS [(0,.str x18),(2,.ptr 2 (1,2) 0),(4,.ptr 4 (1,4) 0)] [(2,some ((1,2),.box [.int .i64 0,.str (⟨#[]⟩:ByteArray)])),(4,some ((1,4),.box [.int .i64 x10,.str (⟨#[]⟩:ByteArray)]))] 2) (fun k4 h=>?_) fun x18 h=>?_
 ·refine cS h rfl (fun h=>?_) fun h=>?_
  ·refine rg ?_
   refine aS h fun c20 h=>?_
   refine bM csB ([(IntKind.wrap .u8 (c20 - 32))]:List Int) ?_
   refine Zme (l:=[(IntKind.wrap .u8 (c20 - 32))]) rfl rfl (ZW ?_)
   refine sS h fun l21 h=>?_
   refine sT h fun s22 h=>?_
   exact jn s22 h (sR [(2,1,2),(4,1,4)])
  exact jn r11 h (sR [(2,1,2),(4,1,4)])
 refine rg ?_
 refine rg ?_
 refine cS h rfl (fun h=>?_) fun h=>?_
 ·refine rg ?_
  cases h
  exact rQ
 refine rg ?_
 refine aC h (Zj6 _) fun r19 h=>?_
 refine cS h rfl (fun h=>?_) fun h=>?_
 ·refine rg ?_
  cases h
  exact rQ
 refine rg ?_
 cases h
 exact rQ
end Go.Proofs.YtmgfammllddkhaaGreatDoor
