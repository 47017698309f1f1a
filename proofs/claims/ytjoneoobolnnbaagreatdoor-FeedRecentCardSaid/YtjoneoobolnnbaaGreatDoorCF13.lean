/- Functions of the program as Lean functions. Written by fxgen.py. -/
import Derived.Test.YtjoneoobolnnbaaGreatDoorCF12
import Derived.Test.YtjoneoobolnnbaaGreatDoorCF04
set_option linter.unusedVariables false
set_option maxHeartbeats 4000000
set_option maxRecDepth 100000
namespace Go.Proofs.YtjoneoobolnnbaaGreatDoor
open VL
def ZdQ (p0:ByteArray) (p1:ByteArray) (p2:ByteArray) (p3:Int):Option ByteArray:=
 letk (fun (x1:Bool)=>
  if x1 then
   (some p0:Option ByteArray)
  else
  (Ze0 p0 p1).bind fun r2=>
  letk (fun (x4:Int)=>
   (none:Option ByteArray)) fun k3=>
  if (decide (r2=0)) then
   (some p0:Option ByteArray)
  else
  letk (fun (x5:Bool)=>
   if x5 then
    k3 r2
   else
   k3 p3) fun k4=>
  if (decide (p3<0)) then
   k4 true
  else
  k4 (decide (r2<p3))) fun k1=>
 if (decide (p1=p2)) then
  k1 true
 else
 k1 (decide (p3=0))
theorem ZhS (p0:ByteArray) (p1:ByteArray) (p2:ByteArray) (p3:Int) (r:ByteArray) (hF:ZdQ p0 p1 p2 p3=some r):Zb Tryz.prog 286 [.str p0,.str p1,.str p2,.int .i64 p3] (.str r):=by
 refine cF (fun r=>.str r) hF mix Tryz.func286 fun r hF=>?_
 unfold ZdQ at hF
 refine Za ?_
 refine rg ?_
 refine jL hF (fun x1=>mkS [(0,.str p0),(1,.str p1),(2,.str p2),(3,.int .i64 p3),(22,.bool x1)] [] 2) (fun k1 hF=>?_) fun x1 hF=>?_
 ·refine rg ?_
  refine kS 19 hF rfl (fun hF=>?_) fun hF=>?_
  ·iterate 2 refine Zh rfl (Za ?_)
   exact jn true hF (sR [])
  exact jn (decide (p3=0)) hF (sR [])
 refine cS hF rfl (fun hF=>?_) fun hF=>?_
 ·refine rg ?_
  cases hF
  exact rQ
 refine rg ?_
 obtain ⟨r2,h1,hF⟩:=bnd hF
 refine Zf (Zi9 _ _ _ h1) rfl rfl (Za ?_)
 refine rg ?_
 refine jL hF (fun x4=>mkS [(0,.str p0),(1,.str p1),(2,.str p2),(3,.int .i64 x4)] [] 2) (fun k3 hF=>?_) fun x4 hF=>?_
 ·refine cS hF rfl (fun hF=>?_) fun hF=>?_
  ·refine rg ?_
   cases hF
   exact rQ
  refine jL hF (fun x5=>mkS [(0,.str p0),(1,.str p1),(2,.str p2),(3,.int .i64 p3),(9,.int .i64 r2),(36,.bool x5)] [] 2) (fun k4 hF=>?_) fun x5 hF=>?_
  ·refine rg ?_
   refine kS 32 hF rfl (fun hF=>?_) fun hF=>?_
   ·iterate 3 refine Zh rfl (Za ?_)
    exact jn true hF (sR [])
   exact jn (decide (r2<p3)) hF (sR [])
  refine cS hF rfl (fun hF=>?_) fun hF=>?_
  ·refine rg ?_
   exact jn r2 hF (sR [])
  exact jn p3 hF (sR [])
 cases hF
def Zco (p0:ByteArray) (p1:ByteArray) (p2:ByteArray):Option ByteArray:=
 (ZdQ p0 p1 p2 (-1)).bind fun r1=>
 (some r1:Option ByteArray)
theorem ZgC (p0:ByteArray) (p1:ByteArray) (p2:ByteArray) (r:ByteArray) (hF:Zco p0 p1 p2=some r):Zb Tryz.prog 274 [.str p0,.str p1,.str p2] (.str r):=by
 refine cF (fun r=>.str r) hF mix Tryz.func274 fun r hF=>?_
 unfold Zco at hF
 refine Za ?_
 refine rg ?_
 refine rg ?_
 obtain ⟨r1,h1,hF⟩:=bnd hF
 refine Zf (ZhS _ _ _ _ _ h1) rfl rfl (Za ?_)
 cases hF
 exact rQ
def ZaA (p0:ByteArray) (p1:ByteArray):Option Bool:=
 letk (fun (x2:Bool)=>
  (some x2:Option Bool)) fun k1=>
 if (decide ((p1.size:Int)≤(p0.size:Int))) then
  (ZfF p0 (w64 ((p0.size:Int) - (p1.size:Int))) (p0.size:Int)).bind fun l3=>
  k1 (decide (l3=p1))
 else
 k1 false
theorem ZcL (p0:ByteArray) (p1:ByteArray) (r:Bool) (hF:ZaA p0 p1=some r):Zb Tryz.prog 236 [.str p0,.str p1] (.bool r):=by
 refine cF (fun r=>.bool r) hF mix Tryz.func236 fun r hF=>?_
 unfold ZaA at hF
 refine Za ?_
 refine rg ?_
 refine jL hF (fun x2=>mkS [(4,.bool x2)] [] 2) (fun k1 hF=>?_) fun x2 hF=>?_
 ·refine rg ?_
  refine kS 10 hF rfl (fun hF=>?_) fun hF=>?_
  ·obtain ⟨l3,h2,hF⟩:=bnd hF
   refine ZN StrT.eq rfl h2 rfl rfl rfl (Za ?_)
   exact jn (decide (l3=p1)) hF (sR [])
  iterate 9 refine Zh rfl (Za ?_)
  exact jn false hF (sR [])
 cases hF
 exact rQ
def Zau (p0:ByteArray) (p1:ByteArray):Option ByteArray:=
 (ZaA p0 p1).bind fun r1=>
 if r1 then
  (ZfF p0 0 (w64 ((p0.size:Int) - (p1.size:Int)))).bind fun l3=>
  (some l3:Option ByteArray)
 else
 (some p0:Option ByteArray)
theorem Zcp (p0:ByteArray) (p1:ByteArray) (r:ByteArray) (hF:Zau p0 p1=some r):Zb Tryz.prog 200 [.str p0,.str p1] (.str r):=by
 refine cF (fun r=>.str r) hF mix Tryz.func200 fun r hF=>?_
 unfold Zau at hF
 refine Za ?_
 refine rg ?_
 refine rg ?_
 obtain ⟨r1,h1,hF⟩:=bnd hF
 refine Zf (ZcL _ _ _ h1) rfl rfl (Za ?_)
 refine cS hF rfl (fun hF=>?_) fun hF=>?_
 ·refine rg ?_
  obtain ⟨l3,h3,hF⟩:=bnd hF
  refine ZN StrT.eq rfl h3 rfl rfl rfl (Za ?_)
  cases hF
  exact rQ
 refine rg ?_
 cases hF
 exact rQ
def strings_TrimSuffix (p0:ByteArray) (p1:ByteArray):Option ByteArray:=
 (Zau p0 p1).bind fun r1=>
 (some r1:Option ByteArray)
theorem ZgD (p0:ByteArray) (p1:ByteArray) (r:ByteArray) (hF:strings_TrimSuffix p0 p1=some r):Zb Tryz.prog 157 [.str p0,.str p1] (.str r):=by
 refine cF (fun r=>.str r) hF mix Tryz.func157 fun r hF=>?_
 unfold strings_TrimSuffix at hF
 refine Za ?_
 refine rg ?_
 refine rg ?_
 obtain ⟨r1,h1,hF⟩:=bnd hF
 refine Zf (Zcp _ _ _ h1) rfl rfl (Za ?_)
 cases hF
 exact rQ
def ZfG (p0:ByteArray):Option ByteArray:=
 (ZuC 1 (p0.size:Int)).bind fun _=>
 ZK Zax (fun f17 ((x63,x64):Int×(List Int))=>
  if (decide (x63<(p0.size:Int))) then
   letk (fun (x87:List Int)=>
    f17 ((w64 (x63+1)),x87)) fun k19=>
   letk (fun (x90:Bool)=>
    if x90 then
     (atS p0 x63).bind fun c91=>
     (ZbY 1 x64 [c91]).bind fun l92=>
     k19 l92
    else
    k19 x64) fun k20=>
   (atS p0 x63).bind fun c93=>
   if (!decide (c93=32)) then
    k20 true
   else
   if (decide (0<(x64.length:Int))) then
    (atI x64 (w64 ((x64.length:Int) - 1))).bind fun e94=>
    k20 (!decide (e94=32))
   else
   k20 false
  else
  (strings_TrimSuffix (strOfNums x64) (⟨#[32]⟩:ByteArray)).bind fun r95=>
  (some r95:Option ByteArray)) (0,([]:List Int))
theorem Zkk (p0:ByteArray) (r:ByteArray) (hF:ZfG p0=some r):Zb Tryz.prog 273 [.str p0] (.str r):=by
 refine cF (fun r=>.str r) hF mix Tryz.func273 fun r hF=>?_
 unfold ZfG at hF
 refine Za ?_
 refine rg ?_
 refine rg ?_
 obtain ⟨_,h1,hF⟩:=bnd hF
 refine ZuD csB rfl rfl rfl h1 (Za ?_)
 refine rg ?_
 refine bl ?_
 refine Zn hF fun f17 mf17 hf17 hF=>?_
 refine Zl (α:=Nat×(Int×(List Int))) (fun a _=>mkS [(0,.str p0),(3,.row 7 (1,7)),(4,.int .i64 a.2.1)] [(7,some ((1,7),.row 5 1 false (List.map csB a.2.2)))] 2) (fun a=>ZK a.1 f17 a.2=some r) (fun a=>a.1) (mf17,0,([]:List Int)) 2 hF (sR [(7,2,2)]) (fun a _ hF=>?_)
 obtain ⟨mf17,x63,x64⟩:=a
 obtain ⟨mf17,rfl,hF⟩:=Zo hf17 hF
 dsimp only at hF ⊢
 refine Za ?_
 refine rg ?_
 refine cS hF rfl (fun hF=>?_) fun hF=>?_
 ·refine jL hF (fun x87=>mkS [(0,.str p0),(3,.row 7 (1,7)),(4,.int .i64 x63)] [(7,some ((1,7),.row 5 1 false (List.map csB x87)))] 2) (fun k19 hF=>?_) fun x87 hF=>?_
  ·refine bl ?_
   refine jL hF (fun x90=>mkS [(0,.str p0),(3,.row 7 (1,7)),(4,.int .i64 x63),(31,.bool x90)] [(7,some ((1,7),.row 5 1 false (List.map csB x64)))] 2) (fun k20 hF=>?_) fun x90 hF=>?_
   ·refine rg ?_
    obtain ⟨c93,h72,hF⟩:=bnd hF
    refine ZI StrT.eq rfl h72 rfl rfl (Za ?_)
    refine kS 18 hF rfl (fun hF=>?_) fun hF=>?_
    ·iterate 12 refine Zh rfl (Za ?_)
     exact jn true hF (sR [(7,1,7)])
    refine Zr rfl (M:=x64) (f:=csB) rfl (Za ?_)
    refine kS 22 hF rfl (fun hF=>?_) fun hF=>?_
    ·refine Zr rfl (M:=x64) (f:=csB) rfl (Za ?_)
     obtain ⟨e94,h73,hF⟩:=bnd hF
     refine ZB rfl h73 rfl rfl rfl (Za ?_)
     refine Zai rfl h73 rfl rfl rfl (Za ?_)
     exact jn (!decide (e94=32)) hF (sR [(7,1,7)])
    iterate 7 refine Zh rfl (Za ?_)
    exact jn false hF (sR [(7,1,7)])
   refine cS hF rfl (fun hF=>?_) fun hF=>?_
   ·refine rg ?_
    obtain ⟨c91,h70,hF⟩:=bnd hF
    refine ZI StrT.eq rfl h70 rfl rfl (Za ?_)
    refine Zw (M:=([c91]:List Int)) (f:=csB) rfl rfl rfl rfl (Nat.le_of_ble_eq_true rfl) rfl (Za ?_)
    obtain ⟨l92,h71,hF⟩:=bnd hF
    refine Zaj (f:=csB) rfl h71 (fun _=>rfl) rfl rfl rfl rfl (Za ?_)
    exact jn l92 hF (sR [(7,2,5)])
   exact jn x64 hF (sR [(7,1,7)])
  refine rg ?_
  exact rn (mf17,(w64 (x63+1)),x87) hF (sR [(7,1,7)])
 refine rg ?_
 refine ZlK (l:=x64) rfl rfl (Za ?_)
 obtain ⟨r95,h74,hF⟩:=bnd hF
 refine Zf (ZgD _ _ _ h74) rfl rfl (Za ?_)
 cases hF
 exact rQ
def ZU (p0:ByteArray) (p1:ByteArray):Option Bool:=
 letk (fun (x2:Bool)=>
  (some x2:Option Bool)) fun k1=>
 if (decide ((p1.size:Int)≤(p0.size:Int))) then
  (ZfF p0 0 (p1.size:Int)).bind fun l3=>
  k1 (decide (l3=p1))
 else
 k1 false
theorem Zas (p0:ByteArray) (p1:ByteArray) (r:Bool) (hF:ZU p0 p1=some r):Zb Tryz.prog 287 [.str p0,.str p1] (.bool r):=by
 refine cF (fun r=>.bool r) hF mix Tryz.func287 fun r hF=>?_
 unfold ZU at hF
 refine Za ?_
 refine rg ?_
 refine jL hF (fun x2=>mkS [(4,.bool x2)] [] 2) (fun k1 hF=>?_) fun x2 hF=>?_
 ·refine rg ?_
  refine kS 10 hF rfl (fun hF=>?_) fun hF=>?_
  ·obtain ⟨l3,h2,hF⟩:=bnd hF
   refine ZN StrT.eq rfl h2 rfl rfl rfl (Za ?_)
   exact jn (decide (l3=p1)) hF (sR [])
  iterate 6 refine Zh rfl (Za ?_)
  exact jn false hF (sR [])
 cases hF
 exact rQ
def ZcR (p0:ByteArray) (p1:ByteArray):Option Bool:=
 (ZU p0 p1).bind fun r1=>
 (some r1:Option Bool)
theorem ZgU (p0:ByteArray) (p1:ByteArray) (r:Bool) (hF:ZcR p0 p1=some r):Zb Tryz.prog 275 [.str p0,.str p1] (.bool r):=by
 refine cF (fun r=>.bool r) hF mix Tryz.func275 fun r hF=>?_
 unfold ZcR at hF
 refine Za ?_
 refine rg ?_
 refine rg ?_
 obtain ⟨r1,h1,hF⟩:=bnd hF
 refine Zf (Zas _ _ _ h1) rfl rfl (Za ?_)
 cases hF
 exact rQ
def Zav (p0:ByteArray) (p1:ByteArray):Option ByteArray:=
 (ZU p0 p1).bind fun r1=>
 if r1 then
  (ZfF p0 (p1.size:Int) (p0.size:Int)).bind fun l3=>
  (some l3:Option ByteArray)
 else
 (some p0:Option ByteArray)
theorem Zcq (p0:ByteArray) (p1:ByteArray) (r:ByteArray) (hF:Zav p0 p1=some r):Zb Tryz.prog 288 [.str p0,.str p1] (.str r):=by
 refine cF (fun r=>.str r) hF mix Tryz.func288 fun r hF=>?_
 unfold Zav at hF
 refine Za ?_
 refine rg ?_
 refine rg ?_
 obtain ⟨r1,h1,hF⟩:=bnd hF
 refine Zf (Zas _ _ _ h1) rfl rfl (Za ?_)
 refine cS hF rfl (fun hF=>?_) fun hF=>?_
 ·refine rg ?_
  obtain ⟨l3,h3,hF⟩:=bnd hF
  refine ZN StrT.eq rfl h3 rfl rfl rfl (Za ?_)
  cases hF
  exact rQ
 refine rg ?_
 cases hF
 exact rQ
def Zby (p0:ByteArray) (p1:ByteArray):Option ByteArray:=
 (Zav p0 p1).bind fun r1=>
 (some r1:Option ByteArray)
theorem Zdy (p0:ByteArray) (p1:ByteArray) (r:ByteArray) (hF:Zby p0 p1=some r):Zb Tryz.prog 276 [.str p0,.str p1] (.str r):=by
 refine cF (fun r=>.str r) hF mix Tryz.func276 fun r hF=>?_
 unfold Zby at hF
 refine Za ?_
 refine rg ?_
 refine rg ?_
 obtain ⟨r1,h1,hF⟩:=bnd hF
 refine Zf (Zcq _ _ _ h1) rfl rfl (Za ?_)
 cases hF
 exact rQ
def ZbV (p0:ByteArray) (p1:Int):Option ByteArray:=
 ZK Zax (fun f7 (x18:ByteArray)=>
  letk (fun (x24:Bool)=>
   if x24 then
    (ZfF x18 1 (x18.size:Int)).bind fun l25=>
    f7 l25
   else
   (some x18:Option ByteArray)) fun k8=>
  if (decide (0<(x18.size:Int))) then
   (atS x18 0).bind fun c26=>
   k8 (decide (c26=p1))
  else
  k8 false) p0
theorem ZfC (p0:ByteArray) (p1:Int) (r:ByteArray) (hF:ZbV p0 p1=some r):Zb Tryz.prog 263 [.str p0,.int .u8 p1] (.str r):=by
 refine cF (fun r=>.str r) hF mix Tryz.func263 fun r hF=>?_
 unfold ZbV at hF
 refine Za ?_
 refine rg ?_
 refine bl ?_
 refine Zn hF fun f7 mf7 hf7 hF=>?_
 refine Zl (α:=Nat×ByteArray) (fun a _=>mkS [(0,.str a.2),(1,.int .u8 p1)] [] 2) (fun a=>ZK a.1 f7 a.2=some r) (fun a=>a.1) (mf7,p0) 2 hF (sR []) (fun a _ hF=>?_)
 obtain ⟨mf7,x18⟩:=a
 obtain ⟨mf7,rfl,hF⟩:=Zo hf7 hF
 dsimp only at hF ⊢
 refine Za ?_
 refine jL hF (fun x24=>mkS [(0,.str x18),(1,.int .u8 p1),(13,.bool x24)] [] 2) (fun k8 hF=>?_) fun x24 hF=>?_
 ·refine rg ?_
  refine kS 8 hF rfl (fun hF=>?_) fun hF=>?_
  ·obtain ⟨c26,h18,hF⟩:=bnd hF
   refine ZI StrT.eq rfl h18 rfl rfl (Za ?_)
   exact jn (decide (c26=p1)) hF (sR [])
  iterate 4 refine Zh rfl (Za ?_)
  exact jn false hF (sR [])
 refine cS hF rfl (fun hF=>?_) fun hF=>?_
 ·refine bl ?_
  refine rg ?_
  obtain ⟨l25,h17,hF⟩:=bnd hF
  refine ZN StrT.eq rfl h17 rfl rfl rfl (Za ?_)
  exact rn (mf7,l25) hF (sR [])
 refine rg ?_
 cases hF
 exact rQ
def Zdp (p0:ByteArray) (p1:ByteArray):Option ByteArray:=
 letk (fun (x1:Bool)=>
  if x1 then
   (some p0:Option ByteArray)
  else
  letk (fun (x3:Bool)=>
   if x3 then
    (atS p1 0).bind fun c6=>
    (ZbV p0 c6).bind fun r7=>
    (some r7:Option ByteArray)
   else
   (none:Option ByteArray)) fun k2=>
  if (decide ((p1.size:Int)=1)) then
   (atS p1 0).bind fun c8=>
   k2 (decide (c8<128))
  else
  k2 false) fun k1=>
 if (decide (p0=(⟨#[]⟩:ByteArray))) then
  k1 true
 else
 k1 (decide (p1=(⟨#[]⟩:ByteArray)))
theorem Zhl (p0:ByteArray) (p1:ByteArray) (r:ByteArray) (hF:Zdp p0 p1=some r):Zb Tryz.prog 289 [.str p0,.str p1] (.str r):=by
 refine cF (fun r=>.str r) hF mix Tryz.func289 fun r hF=>?_
 unfold Zdp at hF
 refine Za ?_
 refine rg ?_
 refine jL hF (fun x1=>mkS [(0,.str p0),(1,.str p1),(12,.bool x1)] [] 2) (fun k1 hF=>?_) fun x1 hF=>?_
 ·refine rg ?_
  refine kS 9 hF rfl (fun hF=>?_) fun hF=>?_
  ·iterate 2 refine Zh rfl (Za ?_)
   exact jn true hF (sR [])
  exact jn (decide (p1=(⟨#[]⟩:ByteArray))) hF (sR [])
 refine cS hF rfl (fun hF=>?_) fun hF=>?_
 ·refine rg ?_
  cases hF
  exact rQ
 refine jL hF (fun x3=>mkS [(0,.str p0),(1,.str p1),(21,.bool x3)] [] 2) (fun k2 hF=>?_) fun x3 hF=>?_
 ·refine rg ?_
  refine kS 17 hF rfl (fun hF=>?_) fun hF=>?_
  ·obtain ⟨c8,h6,hF⟩:=bnd hF
   refine ZI StrT.eq rfl h6 rfl rfl (Za ?_)
   exact jn (decide (c8<128)) hF (sR [])
  iterate 3 refine Zh rfl (Za ?_)
  exact jn false hF (sR [])
 refine cS hF rfl (fun hF=>?_) fun hF=>?_
 ·refine rg ?_
  obtain ⟨c6,h4,hF⟩:=bnd hF
  refine ZI StrT.eq rfl h4 rfl rfl (Za ?_)
  obtain ⟨r7,h5,hF⟩:=bnd hF
  refine Zf (ZfC _ _ _ h5) rfl rfl (Za ?_)
  cases hF
  exact rQ
 cases hF
def ZbD (p0:ByteArray) (p1:Int):Option ByteArray:=
 ZK Zax (fun f7 (x18:ByteArray)=>
  letk (fun (x24:Bool)=>
   if x24 then
    (ZfF x18 0 (w64 ((x18.size:Int) - 1))).bind fun l25=>
    f7 l25
   else
   (some x18:Option ByteArray)) fun k8=>
  if (decide (0<(x18.size:Int))) then
   (atS x18 (w64 ((x18.size:Int) - 1))).bind fun c26=>
   k8 (decide (c26=p1))
  else
  k8 false) p0
theorem ZeX (p0:ByteArray) (p1:Int) (r:ByteArray) (hF:ZbD p0 p1=some r):Zb Tryz.prog 264 [.str p0,.int .u8 p1] (.str r):=by
 refine cF (fun r=>.str r) hF mix Tryz.func264 fun r hF=>?_
 unfold ZbD at hF
 refine Za ?_
 refine rg ?_
 refine bl ?_
 refine Zn hF fun f7 mf7 hf7 hF=>?_
 refine Zl (α:=Nat×ByteArray) (fun a _=>mkS [(0,.str a.2),(1,.int .u8 p1)] [] 2) (fun a=>ZK a.1 f7 a.2=some r) (fun a=>a.1) (mf7,p0) 2 hF (sR []) (fun a _ hF=>?_)
 obtain ⟨mf7,x18⟩:=a
 obtain ⟨mf7,rfl,hF⟩:=Zo hf7 hF
 dsimp only at hF ⊢
 refine Za ?_
 refine jL hF (fun x24=>mkS [(0,.str x18),(1,.int .u8 p1),(16,.bool x24)] [] 2) (fun k8 hF=>?_) fun x24 hF=>?_
 ·refine rg ?_
  refine kS 8 hF rfl (fun hF=>?_) fun hF=>?_
  ·obtain ⟨c26,h18,hF⟩:=bnd hF
   refine ZI StrT.eq rfl h18 rfl rfl (Za ?_)
   exact jn (decide (c26=p1)) hF (sR [])
  iterate 7 refine Zh rfl (Za ?_)
  exact jn false hF (sR [])
 refine cS hF rfl (fun hF=>?_) fun hF=>?_
 ·refine bl ?_
  refine rg ?_
  obtain ⟨l25,h17,hF⟩:=bnd hF
  refine ZN StrT.eq rfl h17 rfl rfl rfl (Za ?_)
  exact rn (mf7,l25) hF (sR [])
 refine rg ?_
 cases hF
 exact rQ
def ZcS (p0:ByteArray) (p1:ByteArray):Option ByteArray:=
 letk (fun (x1:Bool)=>
  if x1 then
   (some p0:Option ByteArray)
  else
  letk (fun (x3:Bool)=>
   if x3 then
    (atS p1 0).bind fun c6=>
    (ZbD p0 c6).bind fun r7=>
    (some r7:Option ByteArray)
   else
   (none:Option ByteArray)) fun k2=>
  if (decide ((p1.size:Int)=1)) then
   (atS p1 0).bind fun c8=>
   k2 (decide (c8<128))
  else
  k2 false) fun k1=>
 if (decide (p0=(⟨#[]⟩:ByteArray))) then
  k1 true
 else
 k1 (decide (p1=(⟨#[]⟩:ByteArray)))
theorem ZgV (p0:ByteArray) (p1:ByteArray) (r:ByteArray) (hF:ZcS p0 p1=some r):Zb Tryz.prog 290 [.str p0,.str p1] (.str r):=by
 refine cF (fun r=>.str r) hF mix Tryz.func290 fun r hF=>?_
 unfold ZcS at hF
 refine Za ?_
 refine rg ?_
 refine jL hF (fun x1=>mkS [(0,.str p0),(1,.str p1),(12,.bool x1)] [] 2) (fun k1 hF=>?_) fun x1 hF=>?_
 ·refine rg ?_
  refine kS 9 hF rfl (fun hF=>?_) fun hF=>?_
  ·iterate 2 refine Zh rfl (Za ?_)
   exact jn true hF (sR [])
  exact jn (decide (p1=(⟨#[]⟩:ByteArray))) hF (sR [])
 refine cS hF rfl (fun hF=>?_) fun hF=>?_
 ·refine rg ?_
  cases hF
  exact rQ
 refine jL hF (fun x3=>mkS [(0,.str p0),(1,.str p1),(21,.bool x3)] [] 2) (fun k2 hF=>?_) fun x3 hF=>?_
 ·refine rg ?_
  refine kS 17 hF rfl (fun hF=>?_) fun hF=>?_
  ·obtain ⟨c8,h6,hF⟩:=bnd hF
   refine ZI StrT.eq rfl h6 rfl rfl (Za ?_)
   exact jn (decide (c8<128)) hF (sR [])
  iterate 3 refine Zh rfl (Za ?_)
  exact jn false hF (sR [])
 refine cS hF rfl (fun hF=>?_) fun hF=>?_
 ·refine rg ?_
  obtain ⟨c6,h4,hF⟩:=bnd hF
  refine ZI StrT.eq rfl h4 rfl rfl (Za ?_)
  obtain ⟨r7,h5,hF⟩:=bnd hF
  refine Zf (ZeX _ _ _ h5) rfl rfl (Za ?_)
  cases hF
  exact rQ
 cases hF
def ZeY (p0:ByteArray):Option ByteArray:=
 (strings_Split p0 (⟨#[47]⟩:ByteArray)).bind fun r1=>
 ZK Zax (fun f13 ((x60,x61):Int×(List ByteArray))=>
  if (decide (x60<(r1.length:Int))) then
   letk (fun (x93:List ByteArray)=>
    f13 ((w64 (x60+1)),x93)) fun k15=>
   letk (fun (x97:List ByteArray)=>
    if (decide (x60<(w64 ((x97.length:Int) - 1)))) then
     (atI x97 x60).bind fun e98=>
     (ZcS e98 (⟨#[32]⟩:ByteArray)).bind fun r99=>
     (atI x97 x60).bind fun e100=>
     k15 (ZbI x97 x60 r99)
    else
    k15 x97) fun k16=>
   if (decide (0<x60)) then
    (atI x61 x60).bind fun e101=>
    (Zdp e101 (⟨#[32]⟩:ByteArray)).bind fun r102=>
    (atI x61 x60).bind fun e103=>
    k16 (ZbI x61 x60 r102)
   else
   k16 x61
  else
  (strings_Join x61 (⟨#[47]⟩:ByteArray)).bind fun r104=>
  (some r104:Option ByteArray)) (0,r1)
theorem Zi8 (p0:ByteArray) (r:ByteArray) (hF:ZeY p0=some r):Zb Tryz.prog 277 [.str p0] (.str r):=by
 refine cF (fun r=>.str r) hF mix Tryz.func277 fun r hF=>?_
 unfold ZeY at hF
 refine Za ?_
 refine rg ?_
 refine rg ?_
 obtain ⟨r1,h1,hF⟩:=bnd hF
 refine Zev (Zf1 _ _ _ h1) rfl rfl (Za ?_)
 refine rg ?_
 refine Zr rfl (M:=r1) (f:=csS) rfl (Za ?_)
 refine bl ?_
 refine Zn hF fun f13 mf13 hf13 hF=>?_
 refine Zl (α:=Nat×(Int×(List ByteArray))) (fun a _=>mkS [(3,.row 6 (1,6)),(8,.int .i64 (r1.length:Int)),(9,.int .i64 a.2.1)] [(6,some ((1,6),.row 9 1 false (List.map csS a.2.2)))] 2) (fun a=>ZK a.1 f13 a.2=some r) (fun a=>a.1) (mf13,0,r1) 2 hF (sR [(6,2,1)]) (fun a _ hF=>?_)
 obtain ⟨mf13,x60,x61⟩:=a
 obtain ⟨mf13,rfl,hF⟩:=Zo hf13 hF
 dsimp only at hF ⊢
 refine Za ?_
 refine rg ?_
 refine cS hF rfl (fun hF=>?_) fun hF=>?_
 ·refine jL hF (fun x93=>mkS [(3,.row 6 (1,6)),(8,.int .i64 (r1.length:Int)),(9,.int .i64 x60)] [(6,some ((1,6),.row 9 1 false (List.map csS x93)))] 2) (fun k15 hF=>?_) fun x93 hF=>?_
  ·refine bl ?_
   refine rg ?_
   refine rg ?_
   refine jL hF (fun x97=>mkS [(3,.row 6 (1,6)),(4,.int .i64 x60),(8,.int .i64 (r1.length:Int)),(9,.int .i64 x60)] [(6,some ((1,6),.row 9 1 false (List.map csS x97)))] 2) (fun k16 hF=>?_) fun x97 hF=>?_
   ·refine cS hF rfl (fun hF=>?_) fun hF=>?_
    ·refine rg ?_
     obtain ⟨e101,h83,hF⟩:=bnd hF
     refine ZB rfl h83 rfl rfl rfl (Za ?_)
     refine Zai rfl h83 rfl rfl rfl (Za ?_)
     obtain ⟨r102,h84,hF⟩:=bnd hF
     refine Zf (Zhl _ _ _ h84) rfl rfl (Za ?_)
     obtain ⟨e103,h85,hF⟩:=bnd hF
     refine ZB rfl h85 rfl rfl rfl (Za ?_)
     refine ZaJ (e':=r102) rfl h85 rfl rfl rfl rfl rfl rfl (Nat.le_of_ble_eq_true rfl) rfl rfl (Za ?_)
     exact jn (ZbI x61 x60 r102) hF (sR [(6,1,6)])
    exact jn x61 hF (sR [(6,1,6)])
   refine rg ?_
   refine Zr rfl (M:=x97) (f:=csS) rfl (Za ?_)
   refine cS hF rfl (fun hF=>?_) fun hF=>?_
   ·refine rg ?_
    obtain ⟨e98,h80,hF⟩:=bnd hF
    refine ZB rfl h80 rfl rfl rfl (Za ?_)
    refine Zai rfl h80 rfl rfl rfl (Za ?_)
    obtain ⟨r99,h81,hF⟩:=bnd hF
    refine Zf (ZgV _ _ _ h81) rfl rfl (Za ?_)
    obtain ⟨e100,h82,hF⟩:=bnd hF
    refine ZB rfl h82 rfl rfl rfl (Za ?_)
    refine ZaJ (e':=r99) rfl h82 rfl rfl rfl rfl rfl rfl (Nat.le_of_ble_eq_true rfl) rfl rfl (Za ?_)
    exact jn (ZbI x97 x60 r99) hF (sR [(6,1,6)])
   exact jn x97 hF (sR [(6,1,6)])
  refine rg ?_
  exact rn (mf13,(w64 (x60+1)),x93) hF (sR [(6,1,6)])
 refine rg ?_
 obtain ⟨r104,h86,hF⟩:=bnd hF
 refine Zej (Zkl _ _ _ h86) rfl rfl rfl (Za ?_)
 cases hF
 exact rQ
def ZeZ (p0:ByteArray):Option (Title×Int):=
 (Zco p0 (⟨#[95]⟩:ByteArray) (⟨#[32]⟩:ByteArray)).bind fun r1=>
 (ZfG r1).bind fun r2=>
 (ZcR r2 (⟨#[58]⟩:ByteArray)).bind fun r3=>
 letk (fun (x6:ByteArray)=>
  (ZfH x6).bind fun r7=>
  letk (fun (x9:ByteArray) (x10:Int)=>
   (ZeY x9).bind fun r11=>
   letk (fun (x14:Bool)=>
    letk (fun (x18:ByteArray)=>
     if (decide (100<(x18.size:Int))) then
      (some ((⟨0,(⟨#[]⟩:ByteArray)⟩:Title),3):Option (Title×Int))
     else
     (Zd4 (⟨x10,x18⟩:Title)).bind fun r19=>
     if (!r19) then
      (some ((⟨0,(⟨#[]⟩:ByteArray)⟩:Title),1):Option (Title×Int))
     else
     (some ((⟨x10,x18⟩:Title),0):Option (Title×Int))) fun k4=>
    if x14 then
     (atS r11 0).bind fun c20=>
     (ZfF r11 1 (r11.size:Int)).bind fun l21=>
     (Zl7 (strOfNums [(IntKind.wrap .u8 (c20 - 32))]) l21).bind fun s22=>
     k4 s22
    else
    k4 r11) fun k3=>
   if (!decide (r11=(⟨#[]⟩:ByteArray))) then
    (atS r11 0).bind fun c23=>
    if (decide (97≤c23)) then
     (atS r11 0).bind fun c24=>
     k3 (decide (c24≤122))
    else
    k3 false
   else
   k3 false) fun k2=>
  if r7.2.2 then
   (Zby r7.2.1 (⟨#[32]⟩:ByteArray)).bind fun r25=>
   k2 r25 r7.1
  else
  k2 x6 0) fun k1=>
 if r3 then
  (ZfF r2 1 (r2.size:Int)).bind fun l26=>
  (Zby l26 (⟨#[32]⟩:ByteArray)).bind fun r27=>
  k1 r27
 else
 k1 r2
theorem Zhm (p0:ByteArray) (r:Title×Int) (hF:ZeZ p0=some r):Zb Tryz.prog 243 [.str p0] (.tup [r.1.pv,.int .i64 r.2]):=by
 refine cF (fun r=>.tup [r.1.pv,.int .i64 r.2]) hF mix Tryz.func243 fun r hF=>?_
 unfold ZeZ at hF
 refine Za ?_
 refine rg ?_
 refine rg ?_
 obtain ⟨r1,h1,hF⟩:=bnd hF
 refine Zf (ZgC _ _ _ _ h1) rfl rfl (Za ?_)
 obtain ⟨r2,h2,hF⟩:=bnd hF
 refine Zf (Zkk _ _ h2) rfl rfl (Za ?_)
 refine rg ?_
 obtain ⟨r3,h3,hF⟩:=bnd hF
 refine Zf (ZgU _ _ _ h3) rfl rfl (Za ?_)
 refine jL hF (fun x6=>mkS [(0,.str x6),(2,.ptr 2 (1,2) 0)] [(2,some ((1,2),.box [.int .i64 0,.str (⟨#[]⟩:ByteArray)]))] 2) (fun k1 hF=>?_) fun x6 hF=>?_
 ·refine cS hF rfl (fun hF=>?_) fun hF=>?_
  ·refine rg ?_
   obtain ⟨l26,h21,hF⟩:=bnd hF
   refine ZN StrT.eq rfl h21 rfl rfl rfl (Za ?_)
   obtain ⟨r27,h22,hF⟩:=bnd hF
   refine Zf (Zdy _ _ _ h22) rfl rfl (Za ?_)
   exact jn r27 hF (sR [(2,1,0)])
  exact jn r2 hF (sR [(2,1,0)])
 refine rg ?_
 refine rg ?_
 obtain ⟨r7,h6,hF⟩:=bnd hF
 refine Zf (Zkm _ _ h6) rfl rfl (Za ?_)
 refine rg ?_
 refine Zar hF fun k2 hk2 hF=>?_
 refine ZaF (α:=ByteArray×Int) (fun a _=>mkS [(0,.str a.1),(2,.ptr 2 (1,2) 0),(4,.ptr 4 (1,4) 0)] [(2,some ((1,2),.box [.int .i64 0,.str (⟨#[]⟩:ByteArray)])),(4,some ((1,4),.box [.int .i64 a.2,.str (⟨#[]⟩:ByteArray)]))] 2) (fun a=>k2 a.1 a.2=some r) (Za ?_) (fun a _ hF=>?_)
 ·refine cS hF rfl (fun hF=>?_) fun hF=>?_
  ·refine rg ?_
   obtain ⟨r25,h20,hF⟩:=bnd hF
   refine Zf (Zdy _ _ _ h20) rfl rfl (Za ?_)
   exact jn (r25,r7.1) hF (sR [(2,1,2),(4,2,1)])
  exact jn (x6,0) hF (sR [(2,1,2),(4,2,1)])
 obtain ⟨x9,x10⟩:=a
 subst hk2
 dsimp only at hF ⊢
 refine Za ?_
 refine rg ?_
 obtain ⟨r11,h8,hF⟩:=bnd hF
 refine Zf (Zi8 _ _ h8) rfl rfl (Za ?_)
 refine jL hF (fun x14=>mkS [(0,.str r11),(2,.ptr 2 (1,2) 0),(4,.ptr 4 (1,4) 0),(41,.bool x14)] [(2,some ((1,2),.box [.int .i64 0,.str (⟨#[]⟩:ByteArray)])),(4,some ((1,4),.box [.int .i64 x10,.str (⟨#[]⟩:ByteArray)]))] 2) (fun k3 hF=>?_) fun x14 hF=>?_
 ·refine rg ?_
  refine kS 32 hF rfl (fun hF=>?_) fun hF=>?_
  ·obtain ⟨c23,h18,hF⟩:=bnd hF
   refine ZI StrT.eq rfl h18 rfl rfl (Za ?_)
   refine kS 37 hF rfl (fun hF=>?_) fun hF=>?_
   ·obtain ⟨c24,h19,hF⟩:=bnd hF
    refine ZI StrT.eq rfl h19 rfl rfl (Za ?_)
    exact jn (decide (c24≤122)) hF (sR [(2,1,2),(4,1,4)])
   iterate 3 refine Zh rfl (Za ?_)
   exact jn false hF (sR [(2,1,2),(4,1,4)])
  iterate 6 refine Zh rfl (Za ?_)
  exact jn false hF (sR [(2,1,2),(4,1,4)])
 refine jL hF (fun x18=>mkS [(0,.str x18),(2,.ptr 2 (1,2) 0),(4,.ptr 4 (1,4) 0)] [(2,some ((1,2),.box [.int .i64 0,.str (⟨#[]⟩:ByteArray)])),(4,some ((1,4),.box [.int .i64 x10,.str (⟨#[]⟩:ByteArray)]))] 2) (fun k4 hF=>?_) fun x18 hF=>?_
 ·refine cS hF rfl (fun hF=>?_) fun hF=>?_
  ·refine rg ?_
   obtain ⟨c20,h15,hF⟩:=bnd hF
   refine ZI StrT.eq rfl h15 rfl rfl (Za ?_)
   refine Zw (M:=([(IntKind.wrap .u8 (c20 - 32))]:List Int)) (f:=csB) rfl rfl rfl rfl (Nat.le_of_ble_eq_true rfl) rfl (Za ?_)
   refine ZlK (l:=[(IntKind.wrap .u8 (c20 - 32))]) rfl rfl (Za ?_)
   obtain ⟨l21,h16,hF⟩:=bnd hF
   refine ZN StrT.eq rfl h16 rfl rfl rfl (Za ?_)
   obtain ⟨s22,h17,hF⟩:=bnd hF
   refine Zes rfl h17 rfl rfl (Za ?_)
   exact jn s22 hF (sR [(2,1,2),(4,1,4)])
  exact jn r11 hF (sR [(2,1,2),(4,1,4)])
 refine rg ?_
 refine rg ?_
 refine cS hF rfl (fun hF=>?_) fun hF=>?_
 ·refine rg ?_
  cases hF
  exact rQ
 refine rg ?_
 obtain ⟨r19,h14,hF⟩:=bnd hF
 refine Zf (ZdD _ _ h14) rfl rfl (Za ?_)
 refine cS hF rfl (fun hF=>?_) fun hF=>?_
 ·refine rg ?_
  cases hF
  exact rQ
 refine rg ?_
 cases hF
 exact rQ
end Go.Proofs.YtjoneoobolnnbaaGreatDoor
