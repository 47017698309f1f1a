/- Functions of the program as Lean functions. Written by fxgen.py. | Three strings. No program is named. | Functions of the program as Lean functions. Written by fxgen.py. -/
import Derived.Test.YtpffimahajgiaaaGreatDoorVM05
import Derived.Test.YtpffimahajgiaaaGreatDoorVM04
set_option linter.unusedVariables false
set_option maxHeartbeats 4000000
set_option maxRecDepth 100000
namespace Go.Proofs.YtpffimahajgiaaaGreatDoor
open VL
def ZaA (p0:ByteArray) (p1:ByteArray):Option Bool:=letk (fun (x2:Bool)=>some x2) fun k1=>if (decide ((p1.size:Int)<=(p0.size:Int))) then (ZfI p0 (w64 ((p0.size:Int)-(p1.size:Int))) (p0.size:Int)).bind fun l3=>k1 (decide (l3=p1)) else k1 false
theorem Zc0 (p0:ByteArray) (p1:ByteArray) (r:Bool) (h:ZaA p0 p1=some r):Zg Tryz.prog 217 [.str p0,.str p1] (.bool r):=by{
refine cF (fun r=>.bool r) h mix Tryz.func217 fun r h=>?_
unfold ZaA at h
refine Zn ?_
refine rg ?_
refine jL h (fun x2=>mkS [(4,.bool x2)] [] 2) (fun k1 h=>?_) fun x2 h=>?_
refine rg ?_
refine kS 10 h rfl (fun h=>?_) fun h=>?_
refine sS h fun l3 h=>?_
exact jn (decide (l3=p1)) h (sR [])
iterate 9 refine ZE rfl (Zn ?_)
exact jn false h (sR [])
cases h
exact rQ}
def Zaw (p0:ByteArray) (p1:ByteArray):Option ByteArray:=(ZaA p0 p1).bind fun r1=>if r1 then (ZfI p0 0 (w64 ((p0.size:Int)-(p1.size:Int)))).bind fun l3=>some l3 else some p0
theorem ZcQ (p0:ByteArray) (p1:ByteArray) (r:ByteArray) (h:Zaw p0 p1=some r):Zg Tryz.prog 189 [.str p0,.str p1] (.str r):=by{
refine cF (fun r=>.str r) h mix Tryz.func189 fun r h=>?_
unfold Zaw at h
refine Zn ?_
refine rg ?_
refine rg ?_
refine aC h (Zc0 _ _) fun r1 h=>?_
refine cS h rfl (fun h=>?_) fun h=>?_
refine rg ?_
refine sS h fun l3 h=>?_
cases h
exact rQ
refine rg ?_
cases h
exact rQ}
def strings_TrimSuffix (p0:ByteArray) (p1:ByteArray):Option ByteArray:=(Zaw p0 p1).bind fun r1=>some r1
theorem ZgC (p0:ByteArray) (p1:ByteArray) (r:ByteArray) (h:strings_TrimSuffix p0 p1=some r):Zg Tryz.prog 129 [.str p0,.str p1] (.str r):=by{
refine cF (fun r=>.str r) h mix Tryz.func129 fun r h=>?_
unfold strings_TrimSuffix at h
refine Zn ?_
refine rg ?_
refine rg ?_
refine aC h (ZcQ _ _) fun r1 h=>?_
cases h
exact rQ}
def ZdE (p0:ByteArray):Option ByteArray:=(Zsl 1 (p0.size:Int)).bind fun _=>ZaF Zcp (fun f17 ((x63,x64):Int×(List Int))=>if (decide (x63<(p0.size:Int))) then letk (fun (x87:List Int)=>f17 ((w64 (x63+1)),x87)) fun k19=>letk (fun (x90:Bool)=>if x90 then (atS p0 x63).bind fun c91=>(ZeI 1 x64 [c91]).bind fun l92=>k19 l92 else k19 x64) fun k20=>(atS p0 x63).bind fun c93=>if (!decide (c93=32)) then k20 true else if (decide (0<(x64.length:Int))) then (atI x64 (w64 ((x64.length:Int)-1))).bind fun e94=>k20 (!decide (e94=32)) else k20 false else (strings_TrimSuffix (strOfNums x64) (⟨#[32]⟩:ByteArray)).bind fun r95=>some r95) (0,([]:List Int))
theorem Zku (p0:ByteArray) (r:ByteArray) (h:ZdE p0=some r):Zg Tryz.prog 199 [.str p0] (.str r):=by{
refine cF (fun r=>.str r) h mix Tryz.func199 fun r h=>?_
unfold ZdE at h
refine Zn ?_
refine rg ?_
refine rg ?_
obtain ⟨_,h1,h⟩:=bnd h
refine Zun csB rfl rfl rfl h1 (Zn ?_)
refine rg ?_
refine bl ?_
refine ZB h fun f17 mf17 hf17 h=>?_
refine Zv (α:=Nat×(Int×(List Int))) (fun a _=>mkS [(0,.str p0),(3,.row 7 (1,7)),(4,.int .i64 a.2.1)] [(7,some ((1,7),.row 5 1 false (List.map csB a.2.2)))] 2) (fun a=>ZaF a.1 f17 a.2=some r) (fun a=>a.1) (mf17,0,([]:List Int)) 2 h (sR [(7,2,2)]) (fun a _ h=>?_)
obtain ⟨mf17,x63,x64⟩:=a
obtain ⟨mf17,rfl,h⟩:=ZC hf17 h
dsimp only at h ⊢
refine Zn ?_
refine rg ?_
refine cS h rfl (fun h=>?_) fun h=>?_
refine jL h (fun x87=>mkS [(0,.str p0),(3,.row 7 (1,7)),(4,.int .i64 x63)] [(7,some ((1,7),.row 5 1 false (List.map csB x87)))] 2) (fun k19 h=>?_) fun x87 h=>?_
refine bl ?_
refine jL h (fun x90=>mkS [(0,.str p0),(3,.row 7 (1,7)),(4,.int .i64 x63),(31,.bool x90)] [(7,some ((1,7),.row 5 1 false (List.map csB x64)))] 2) (fun k20 h=>?_) fun x90 h=>?_
refine rg ?_
refine aS h fun c93 h=>?_
refine kS 18 h rfl (fun h=>?_) fun h=>?_
iterate 12 refine ZE rfl (Zn ?_)
exact jn true h (sR [(7,1,7)])
refine lM csB x64 ?_
refine kS 22 h rfl (fun h=>?_) fun h=>?_
refine lM csB x64 ?_
obtain ⟨e94,h73,h⟩:=bnd h
refine Zaa rfl h73 rfl rfl rfl (Zn ?_)
refine ZaJ rfl h73 rfl rfl rfl (Zn ?_)
exact jn (!decide (e94=32)) h (sR [(7,1,7)])
iterate 7 refine ZE rfl (Zn ?_)
exact jn false h (sR [(7,1,7)])
refine cS h rfl (fun h=>?_) fun h=>?_
refine rg ?_
refine aS h fun c91 h=>?_
refine bM csB ([c91]:List Int) ?_
refine pR csB h fun l92 h=>?_
exact jn l92 h (sR [(7,2,5)])
exact jn x64 h (sR [(7,1,7)])
refine rg ?_
exact rn (mf17,(w64 (x63+1)),x87) h (sR [(7,1,7)])
refine rg ?_
refine Zob (l:=x64) rfl rfl (Zn ?_)
refine aC h (ZgC _ _) fun r95 h=>?_
cases h
exact rQ}
def Zt (p0:ByteArray) (p1:ByteArray):Option Bool:=letk (fun (x2:Bool)=>some x2) fun k1=>if (decide ((p1.size:Int)<=(p0.size:Int))) then (ZfI p0 0 (p1.size:Int)).bind fun l3=>k1 (decide (l3=p1)) else k1 false
theorem ZaR (p0:ByteArray) (p1:ByteArray) (r:Bool) (h:Zt p0 p1=some r):Zg Tryz.prog 114 [.str p0,.str p1] (.bool r):=by{
refine cF (fun r=>.bool r) h mix Tryz.func114 fun r h=>?_
unfold Zt at h
refine Zn ?_
refine rg ?_
refine jL h (fun x2=>mkS [(4,.bool x2)] [] 2) (fun k1 h=>?_) fun x2 h=>?_
refine rg ?_
refine kS 10 h rfl (fun h=>?_) fun h=>?_
refine sS h fun l3 h=>?_
exact jn (decide (l3=p1)) h (sR [])
iterate 6 refine ZE rfl (Zn ?_)
exact jn false h (sR [])
cases h
exact rQ}
def ZM (p0:ByteArray) (p1:ByteArray):Option Bool:=(Zt p0 p1).bind fun r1=>some r1
theorem Zau (p0:ByteArray) (p1:ByteArray) (r:Bool) (h:ZM p0 p1=some r):Zg Tryz.prog 69 [.str p0,.str p1] (.bool r):=by{
refine cF (fun r=>.bool r) h mix Tryz.func69 fun r h=>?_
unfold ZM at h
refine Zn ?_
refine rg ?_
refine rg ?_
refine aC h (ZaR _ _) fun r1 h=>?_
cases h
exact rQ}
def Zax (p0:ByteArray) (p1:ByteArray):Option ByteArray:=(Zt p0 p1).bind fun r1=>if r1 then (ZfI p0 (p1.size:Int) (p0.size:Int)).bind fun l3=>some l3 else some p0
theorem ZcR (p0:ByteArray) (p1:ByteArray) (r:ByteArray) (h:Zax p0 p1=some r):Zg Tryz.prog 224 [.str p0,.str p1] (.str r):=by{
refine cF (fun r=>.str r) h mix Tryz.func224 fun r h=>?_
unfold Zax at h
refine Zn ?_
refine rg ?_
refine rg ?_
refine aC h (ZaR _ _) fun r1 h=>?_
refine cS h rfl (fun h=>?_) fun h=>?_
refine rg ?_
refine sS h fun l3 h=>?_
cases h
exact rQ
refine rg ?_
cases h
exact rQ}
def Za7 (p0:ByteArray) (p1:ByteArray):Option ByteArray:=(Zax p0 p1).bind fun r1=>some r1
theorem ZdR (p0:ByteArray) (p1:ByteArray) (r:ByteArray) (h:Za7 p0 p1=some r):Zg Tryz.prog 201 [.str p0,.str p1] (.str r):=by{
refine cF (fun r=>.str r) h mix Tryz.func201 fun r h=>?_
unfold Za7 at h
refine Zn ?_
refine rg ?_
refine rg ?_
refine aC h (ZcR _ _) fun r1 h=>?_
cases h
exact rQ}
def Zbd (p0:ByteArray) (p1:Int):Option ByteArray:=ZaF Zcp (fun f7 (x18:ByteArray)=>letk (fun (x24:Bool)=>if x24 then (ZfI x18 1 (x18.size:Int)).bind fun l25=>f7 l25 else some x18) fun k8=>if (decide (0<(x18.size:Int))) then (atS x18 0).bind fun c26=>k8 (decide (c26=p1)) else k8 false) p0
theorem ZfJ (p0:ByteArray) (p1:Int) (r:ByteArray) (h:Zbd p0 p1=some r):Zg Tryz.prog 149 [.str p0,.int .u8 p1] (.str r):=by{
refine cF (fun r=>.str r) h mix Tryz.func149 fun r h=>?_
unfold Zbd at h
refine Zn ?_
refine rg ?_
refine bl ?_
refine ZB h fun f7 mf7 hf7 h=>?_
refine Zv (α:=Nat×ByteArray) (fun a _=>mkS [(0,.str a.2),(1,.int .u8 p1)] [] 2) (fun a=>ZaF a.1 f7 a.2=some r) (fun a=>a.1) (mf7,p0) 2 h (sR []) (fun a _ h=>?_)
obtain ⟨mf7,x18⟩:=a
obtain ⟨mf7,rfl,h⟩:=ZC hf7 h
dsimp only at h ⊢
refine Zn ?_
refine jL h (fun x24=>mkS [(0,.str x18),(1,.int .u8 p1),(13,.bool x24)] [] 2) (fun k8 h=>?_) fun x24 h=>?_
refine rg ?_
refine kS 8 h rfl (fun h=>?_) fun h=>?_
refine aS h fun c26 h=>?_
exact jn (decide (c26=p1)) h (sR [])
iterate 4 refine ZE rfl (Zn ?_)
exact jn false h (sR [])
refine cS h rfl (fun h=>?_) fun h=>?_
refine bl ?_
refine rg ?_
refine sS h fun l25 h=>?_
exact rn (mf7,l25) h (sR [])
refine rg ?_
cases h
exact rQ}
def ZbX (p0:ByteArray) (p1:ByteArray):Option ByteArray:=letk (fun (x1:Bool)=>if x1 then some p0 else letk (fun (x3:Bool)=>if x3 then (atS p1 0).bind fun c6=>(Zbd p0 c6).bind fun r7=>some r7 else (none:Option ByteArray)) fun k2=>if (decide ((p1.size:Int)=1)) then (atS p1 0).bind fun c8=>k2 (decide (c8<128)) else k2 false) fun k1=>if (decide (p0=(⟨#[]⟩:ByteArray))) then k1 true else k1 (decide (p1=(⟨#[]⟩:ByteArray)))
theorem Zhr (p0:ByteArray) (p1:ByteArray) (r:ByteArray) (h:ZbX p0 p1=some r):Zg Tryz.prog 92 [.str p0,.str p1] (.str r):=by{
refine cF (fun r=>.str r) h mix Tryz.func92 fun r h=>?_
unfold ZbX at h
refine Zn ?_
refine rg ?_
refine jL h (fun x1=>mkS [(0,.str p0),(1,.str p1),(12,.bool x1)] [] 2) (fun k1 h=>?_) fun x1 h=>?_
refine rg ?_
refine kS 9 h rfl (fun h=>?_) fun h=>?_
iterate 2 refine ZE rfl (Zn ?_)
exact jn true h (sR [])
exact jn (decide (p1=(⟨#[]⟩:ByteArray))) h (sR [])
refine cS h rfl (fun h=>?_) fun h=>?_
refine rg ?_
cases h
exact rQ
refine jL h (fun x3=>mkS [(0,.str p0),(1,.str p1),(21,.bool x3)] [] 2) (fun k2 h=>?_) fun x3 h=>?_
refine rg ?_
refine kS 17 h rfl (fun h=>?_) fun h=>?_
refine aS h fun c8 h=>?_
exact jn (decide (c8<128)) h (sR [])
iterate 3 refine ZE rfl (Zn ?_)
exact jn false h (sR [])
refine cS h rfl (fun h=>?_) fun h=>?_
refine rg ?_
refine aS h fun c6 h=>?_
refine aC h (ZfJ _ _) fun r7 h=>?_
cases h
exact rQ
cases h}
def Za1 (p0:ByteArray) (p1:Int):Option ByteArray:=ZaF Zcp (fun f7 (x18:ByteArray)=>letk (fun (x24:Bool)=>if x24 then (ZfI x18 0 (w64 ((x18.size:Int)-1))).bind fun l25=>f7 l25 else some x18) fun k8=>if (decide (0<(x18.size:Int))) then (atS x18 (w64 ((x18.size:Int)-1))).bind fun c26=>k8 (decide (c26=p1)) else k8 false) p0
theorem Zfu (p0:ByteArray) (p1:Int) (r:ByteArray) (h:Za1 p0 p1=some r):Zg Tryz.prog 180 [.str p0,.int .u8 p1] (.str r):=by{
refine cF (fun r=>.str r) h mix Tryz.func180 fun r h=>?_
unfold Za1 at h
refine Zn ?_
refine rg ?_
refine bl ?_
refine ZB h fun f7 mf7 hf7 h=>?_
refine Zv (α:=Nat×ByteArray) (fun a _=>mkS [(0,.str a.2),(1,.int .u8 p1)] [] 2) (fun a=>ZaF a.1 f7 a.2=some r) (fun a=>a.1) (mf7,p0) 2 h (sR []) (fun a _ h=>?_)
obtain ⟨mf7,x18⟩:=a
obtain ⟨mf7,rfl,h⟩:=ZC hf7 h
dsimp only at h ⊢
refine Zn ?_
refine jL h (fun x24=>mkS [(0,.str x18),(1,.int .u8 p1),(16,.bool x24)] [] 2) (fun k8 h=>?_) fun x24 h=>?_
refine rg ?_
refine kS 8 h rfl (fun h=>?_) fun h=>?_
refine aS h fun c26 h=>?_
exact jn (decide (c26=p1)) h (sR [])
iterate 7 refine ZE rfl (Zn ?_)
exact jn false h (sR [])
refine cS h rfl (fun h=>?_) fun h=>?_
refine bl ?_
refine rg ?_
refine sS h fun l25 h=>?_
exact rn (mf7,l25) h (sR [])
refine rg ?_
cases h
exact rQ}
def ZbI (p0:ByteArray) (p1:ByteArray):Option ByteArray:=letk (fun (x1:Bool)=>if x1 then some p0 else letk (fun (x3:Bool)=>if x3 then (atS p1 0).bind fun c6=>(Za1 p0 c6).bind fun r7=>some r7 else (none:Option ByteArray)) fun k2=>if (decide ((p1.size:Int)=1)) then (atS p1 0).bind fun c8=>k2 (decide (c8<128)) else k2 false) fun k1=>if (decide (p0=(⟨#[]⟩:ByteArray))) then k1 true else k1 (decide (p1=(⟨#[]⟩:ByteArray)))
theorem ZgX (p0:ByteArray) (p1:ByteArray) (r:ByteArray) (h:ZbI p0 p1=some r):Zg Tryz.prog 225 [.str p0,.str p1] (.str r):=by{
refine cF (fun r=>.str r) h mix Tryz.func225 fun r h=>?_
unfold ZbI at h
refine Zn ?_
refine rg ?_
refine jL h (fun x1=>mkS [(0,.str p0),(1,.str p1),(12,.bool x1)] [] 2) (fun k1 h=>?_) fun x1 h=>?_
refine rg ?_
refine kS 9 h rfl (fun h=>?_) fun h=>?_
iterate 2 refine ZE rfl (Zn ?_)
exact jn true h (sR [])
exact jn (decide (p1=(⟨#[]⟩:ByteArray))) h (sR [])
refine cS h rfl (fun h=>?_) fun h=>?_
refine rg ?_
cases h
exact rQ
refine jL h (fun x3=>mkS [(0,.str p0),(1,.str p1),(21,.bool x3)] [] 2) (fun k2 h=>?_) fun x3 h=>?_
refine rg ?_
refine kS 17 h rfl (fun h=>?_) fun h=>?_
refine aS h fun c8 h=>?_
exact jn (decide (c8<128)) h (sR [])
iterate 3 refine ZE rfl (Zn ?_)
exact jn false h (sR [])
refine cS h rfl (fun h=>?_) fun h=>?_
refine rg ?_
refine aS h fun c6 h=>?_
refine aC h (Zfu _ _) fun r7 h=>?_
cases h
exact rQ
cases h}
def ZcS (p0:ByteArray):Option ByteArray:=(strings_Split p0 (⟨#[47]⟩:ByteArray)).bind fun r1=>ZaF Zcp (fun f13 ((x60,x61):Int×(List ByteArray))=>if (decide (x60<(r1.length:Int))) then letk (fun (x93:List ByteArray)=>f13 ((w64 (x60+1)),x93)) fun k15=>letk (fun (x97:List ByteArray)=>if (decide (x60<(w64 ((x97.length:Int)-1)))) then (atI x97 x60).bind fun e98=>(ZbI e98 (⟨#[32]⟩:ByteArray)).bind fun r99=>(atI x97 x60).bind fun e100=>k15 (Zfo x97 x60 r99) else k15 x97) fun k16=>if (decide (0<x60)) then (atI x61 x60).bind fun e101=>(ZbX e101 (⟨#[32]⟩:ByteArray)).bind fun r102=>(atI x61 x60).bind fun e103=>k16 (Zfo x61 x60 r102) else k16 x61 else (strings_Join x61 (⟨#[47]⟩:ByteArray)).bind fun r104=>some r104) (0,r1)
theorem ZjM (p0:ByteArray) (r:ByteArray) (h:ZcS p0=some r):Zg Tryz.prog 202 [.str p0] (.str r):=by{
refine cF (fun r=>.str r) h mix Tryz.func202 fun r h=>?_
unfold ZcS at h
refine Zn ?_
refine rg ?_
refine rg ?_
refine aN h (Zjt _ _) fun r1 h=>?_
refine rg ?_
refine lM csS r1 ?_
refine bl ?_
refine ZB h fun f13 mf13 hf13 h=>?_
refine Zv (α:=Nat×(Int×(List ByteArray))) (fun a _=>mkS [(3,.row 6 (1,6)),(8,.int .i64 (r1.length:Int)),(9,.int .i64 a.2.1)] [(6,some ((1,6),.row 9 1 false (List.map csS a.2.2)))] 2) (fun a=>ZaF a.1 f13 a.2=some r) (fun a=>a.1) (mf13,0,r1) 2 h (sR [(6,2,1)]) (fun a _ h=>?_)
obtain ⟨mf13,x60,x61⟩:=a
obtain ⟨mf13,rfl,h⟩:=ZC hf13 h
dsimp only at h ⊢
refine Zn ?_
refine rg ?_
refine cS h rfl (fun h=>?_) fun h=>?_
refine jL h (fun x93=>mkS [(3,.row 6 (1,6)),(8,.int .i64 (r1.length:Int)),(9,.int .i64 x60)] [(6,some ((1,6),.row 9 1 false (List.map csS x93)))] 2) (fun k15 h=>?_) fun x93 h=>?_
refine bl ?_
refine rg ?_
refine rg ?_
refine jL h (fun x97=>mkS [(3,.row 6 (1,6)),(4,.int .i64 x60),(8,.int .i64 (r1.length:Int)),(9,.int .i64 x60)] [(6,some ((1,6),.row 9 1 false (List.map csS x97)))] 2) (fun k16 h=>?_) fun x97 h=>?_
refine cS h rfl (fun h=>?_) fun h=>?_
refine rg ?_
obtain ⟨e101,h83,h⟩:=bnd h
refine Zaa rfl h83 rfl rfl rfl (Zn ?_)
refine ZaJ rfl h83 rfl rfl rfl (Zn ?_)
refine aC h (Zhr _ _) fun r102 h=>?_
obtain ⟨e103,h85,h⟩:=bnd h
refine Zaa rfl h85 rfl rfl rfl (Zn ?_)
refine Zcx (e':=r102) rfl h85 rfl rfl rfl rfl rfl rfl (Nat.le_of_ble_eq_true rfl) rfl rfl (Zn ?_)
exact jn (Zfo x61 x60 r102) h (sR [(6,1,6)])
exact jn x61 h (sR [(6,1,6)])
refine rg ?_
refine lM csS x97 ?_
refine cS h rfl (fun h=>?_) fun h=>?_
refine rg ?_
obtain ⟨e98,h80,h⟩:=bnd h
refine Zaa rfl h80 rfl rfl rfl (Zn ?_)
refine ZaJ rfl h80 rfl rfl rfl (Zn ?_)
refine aC h (ZgX _ _) fun r99 h=>?_
obtain ⟨e100,h82,h⟩:=bnd h
refine Zaa rfl h82 rfl rfl rfl (Zn ?_)
refine Zcx (e':=r99) rfl h82 rfl rfl rfl rfl rfl rfl (Nat.le_of_ble_eq_true rfl) rfl rfl (Zn ?_)
exact jn (Zfo x97 x60 r99) h (sR [(6,1,6)])
exact jn x97 h (sR [(6,1,6)])
refine rg ?_
exact rn (mf13,(w64 (x60+1)),x93) h (sR [(6,1,6)])
refine rg ?_
refine aL h (ZgH _ _) fun r104 h=>?_
cases h
exact rQ}
def Zer (p0:ByteArray):Option (Title×Int):=(Zbp p0 (⟨#[95]⟩:ByteArray) (⟨#[32]⟩:ByteArray)).bind fun r1=>(ZdE r1).bind fun r2=>(ZM r2 (⟨#[58]⟩:ByteArray)).bind fun r3=>letk (fun (x6:ByteArray)=>(ZeJ x6).bind fun r7=>letk (fun (x9:ByteArray) (x10:Int)=>(ZcS x9).bind fun r11=>letk (fun (x14:Bool)=>letk (fun (x18:ByteArray)=>if (decide (100<(x18.size:Int))) then (some ((⟨0,(⟨#[]⟩:ByteArray)⟩:Title),3):Option (Title×Int)) else (Zb8 (⟨x10,x18⟩:Title)).bind fun r19=>if (!r19) then (some ((⟨0,(⟨#[]⟩:ByteArray)⟩:Title),1):Option (Title×Int)) else (some ((⟨x10,x18⟩:Title),0):Option (Title×Int))) fun k4=>if x14 then (atS r11 0).bind fun c20=>(ZfI r11 1 (r11.size:Int)).bind fun l21=>(Zbs (strOfNums [(IntKind.wrap .u8 (c20-32))]) l21).bind fun s22=>k4 s22 else k4 r11) fun k3=>if (!decide (r11=(⟨#[]⟩:ByteArray))) then (atS r11 0).bind fun c23=>if (decide (97<=c23)) then (atS r11 0).bind fun c24=>k3 (decide (c24<=122)) else k3 false else k3 false) fun k2=>if r7.2.2 then (Za7 r7.2.1 (⟨#[32]⟩:ByteArray)).bind fun r25=>k2 r25 r7.1 else k2 x6 0) fun k1=>if r3 then (ZfI r2 1 (r2.size:Int)).bind fun l26=>(Za7 l26 (⟨#[32]⟩:ByteArray)).bind fun r27=>k1 r27 else k1 r2
theorem ZlA (p0:ByteArray) (r:Title×Int) (h:Zer p0=some r):Zg Tryz.prog 153 [.str p0] (.tup [r.1.pv,.int .i64 r.2]):=by{
refine cF (fun r=>.tup [r.1.pv,.int .i64 r.2]) h mix Tryz.func153 fun r h=>?_
unfold Zer at h
refine Zn ?_
refine rg ?_
refine rg ?_
refine aC h (Zf8 _ _ _) fun r1 h=>?_
refine aC h (Zku _) fun r2 h=>?_
refine rg ?_
refine aC h (Zau _ _) fun r3 h=>?_
refine jL h (fun x6=>mkS [(0,.str x6),(2,.ptr 2 (1,2) 0)] [(2,some ((1,2),.box [.int .i64 0,.str (⟨#[]⟩:ByteArray)]))] 2) (fun k1 h=>?_) fun x6 h=>?_
refine cS h rfl (fun h=>?_) fun h=>?_
refine rg ?_
refine sS h fun l26 h=>?_
refine aC h (ZdR _ _) fun r27 h=>?_
exact jn r27 h (sR [(2,1,0)])
exact jn r2 h (sR [(2,1,0)])
refine rg ?_
refine rg ?_
refine aC h (Zkq _) fun r7 h=>?_
refine rg ?_
refine ZbG h fun k2 hk2 h=>?_
refine Zbv (α:=ByteArray×Int) (fun a _=>mkS [(0,.str a.1),(2,.ptr 2 (1,2) 0),(4,.ptr 4 (1,4) 0)] [(2,some ((1,2),.box [.int .i64 0,.str (⟨#[]⟩:ByteArray)])),(4,some ((1,4),.box [.int .i64 a.2,.str (⟨#[]⟩:ByteArray)]))] 2) (fun a=>k2 a.1 a.2=some r) (Zn ?_) (fun a _ h=>?_)
refine cS h rfl (fun h=>?_) fun h=>?_
refine rg ?_
refine aC h (ZdR _ _) fun r25 h=>?_
exact jn (r25,r7.1) h (sR [(2,1,2),(4,2,1)])
exact jn (x6,0) h (sR [(2,1,2),(4,2,1)])
obtain ⟨x9,x10⟩:=a
subst hk2
dsimp only at h ⊢
refine Zn ?_
refine rg ?_
refine aC h (ZjM _) fun r11 h=>?_
refine jL h (fun x14=>mkS [(0,.str r11),(2,.ptr 2 (1,2) 0),(4,.ptr 4 (1,4) 0),(41,.bool x14)] [(2,some ((1,2),.box [.int .i64 0,.str (⟨#[]⟩:ByteArray)])),(4,some ((1,4),.box [.int .i64 x10,.str (⟨#[]⟩:ByteArray)]))] 2) (fun k3 h=>?_) fun x14 h=>?_
refine rg ?_
refine kS 32 h rfl (fun h=>?_) fun h=>?_
refine aS h fun c23 h=>?_
refine kS 37 h rfl (fun h=>?_) fun h=>?_
refine aS h fun c24 h=>?_
exact jn (decide (c24<=122)) h (sR [(2,1,2),(4,1,4)])
iterate 3 refine ZE rfl (Zn ?_)
exact jn false h (sR [(2,1,2),(4,1,4)])
iterate 6 refine ZE rfl (Zn ?_)
exact jn false h (sR [(2,1,2),(4,1,4)])
refine jL h (fun x18=>mkS [(0,.str x18),(2,.ptr 2 (1,2) 0),(4,.ptr 4 (1,4) 0)] [(2,some ((1,2),.box [.int .i64 0,.str (⟨#[]⟩:ByteArray)])),(4,some ((1,4),.box [.int .i64 x10,.str (⟨#[]⟩:ByteArray)]))] 2) (fun k4 h=>?_) fun x18 h=>?_
refine cS h rfl (fun h=>?_) fun h=>?_
refine rg ?_
refine aS h fun c20 h=>?_
refine bM csB ([(IntKind.wrap .u8 (c20-32))]:List Int) ?_
refine Zob (l:=[(IntKind.wrap .u8 (c20-32))]) rfl rfl (Zn ?_)
refine sS h fun l21 h=>?_
refine sT h fun s22 h=>?_
exact jn s22 h (sR [(2,1,2),(4,1,4)])
exact jn r11 h (sR [(2,1,2),(4,1,4)])
refine rg ?_
refine rg ?_
refine cS h rfl (fun h=>?_) fun h=>?_
refine rg ?_
cases h
exact rQ
refine rg ?_
refine aC h (Zci _) fun r19 h=>?_
refine cS h rfl (fun h=>?_) fun h=>?_
refine rg ?_
cases h
exact rQ
refine rg ?_
cases h
exact rQ}
structure Str3 where
 a:ByteArray
 b:ByteArray
 c:ByteArray
def Str3.cs (x:Str3):List PV:=[.str x.a,.str x.b,.str x.c]
def Str3.pv (x:Str3):PV:=.agg x.cs
def Zfp:Option Str3:=(some (⟨(⟨#[110,111,105,110,99,108,117,100,101]⟩:ByteArray),(⟨#[105,110,99,108,117,100,101,111,110,108,121]⟩:ByteArray),(⟨#[111,110,108,121,105,110,99,108,117,100,101]⟩:ByteArray)⟩:Str3):Option Str3)
theorem Zls  (r:Str3) (h:Zfp=some r):Zg Tryz.prog 218 [] (r.pv):=by{
refine cF (fun r=>r.pv) h mix Tryz.func218 fun r h=>?_
unfold Zfp at h
refine Zn ?_
refine rg ?_
refine rg ?_
cases h
exact rQ}
def Zcv (p0:ByteArray) (p1:ByteArray):Option (Int×Int):=(Zfp).bind fun r1=>ZaF Zcp (fun f2 (x35:Int)=>if (decide (x35<3)) then (atI ([r1.a,r1.b,r1.c]:List ByteArray) x35).bind fun c48=>(Zbs p1 c48).bind fun s49=>(Zbs s49 (⟨#[62]⟩:ByteArray)).bind fun s50=>(ZM p0 s50).bind fun r51=>if r51 then (some ((w64 (x35+1)),(s50.size:Int)):Option (Int×Int)) else f2 (w64 (x35+1)) else (some (0,0):Option (Int×Int))) 0
theorem ZgV (p0:ByteArray) (p1:ByteArray) (r:Int×Int) (h:Zcv p0 p1=some r):Zg Tryz.prog 193 [.str p0,.str p1] (.tup [.int .i64 r.1,.int .i64 r.2]):=by{
refine cF (fun r=>.tup [.int .i64 r.1,.int .i64 r.2]) h mix Tryz.func193 fun r h=>?_
unfold Zcv at h
refine Zn ?_
refine rg ?_
refine rg ?_
refine aC h Zls fun r1 h=>?_
refine bl ?_
refine ZB h fun f2 mf2 hf2 h=>?_
refine Zv (α:=Nat×Int) (fun a _=>mkS [(0,.str p0),(1,.str p1),(9,.agg [.str r1.a,.str r1.b,.str r1.c]),(10,.int .i64 a.2)] [] 2) (fun a=>ZaF a.1 f2 a.2=some r) (fun a=>a.1) (mf2,0) 2 h (sR []) (fun a _ h=>?_)
obtain ⟨mf2,x35⟩:=a
obtain ⟨mf2,rfl,h⟩:=ZC hf2 h
dsimp only at h ⊢
refine Zn ?_
refine rg ?_
refine cS h rfl (fun h=>?_) fun h=>?_
refine bl ?_
refine rg ?_
obtain ⟨c48,h46,h⟩:=bnd h
refine ZuU (p:=PV.str) rfl h46 rfl rfl rfl rfl rfl (Zn ?_)
refine rg ?_
refine sT h fun s49 h=>?_
refine sT h fun s50 h=>?_
refine rg ?_
refine aC h (Zau _ _) fun r51 h=>?_
refine cS h rfl (fun h=>?_) fun h=>?_
refine rg ?_
cases h
exact rQ
refine rg ?_
exact rn (mf2,(w64 (x35+1))) h (sR [])
refine rg ?_
cases h
exact rQ}
def Zeo (p0:ByteArray):Option (Int×Int):=(ZM p0 (⟨#[60,33,45,45]⟩:ByteArray)).bind fun r1=>if r1 then (ZfI p0 4 (p0.size:Int)).bind fun l4=>(strings_Index l4 (⟨#[45,45,62]⟩:ByteArray)).bind fun r5=>if (decide (0<=r5)) then (some (9,(w64 ((w64 (4+r5))+3))):Option (Int×Int)) else (some (9,(p0.size:Int)):Option (Int×Int)) else (ZM p0 (⟨#[60,110,111,119,105,107,105,62]⟩:ByteArray)).bind fun r6=>letk (fun (_:Unit)=>(Zcv p0 (⟨#[60]⟩:ByteArray)).bind fun r9=>if (decide (0<r9.2)) then (some (11,r9.2):Option (Int×Int)) else (Zcv p0 (⟨#[60,47]⟩:ByteArray)).bind fun r10=>if (decide (0<r10.2)) then (some (12,r10.2):Option (Int×Int)) else (some (0,0):Option (Int×Int))) fun k1=>if r6 then (ZfI p0 8 (p0.size:Int)).bind fun l11=>(strings_Index l11 (⟨#[60,47,110,111,119,105,107,105,62]⟩:ByteArray)).bind fun r12=>if (decide (0<=r12)) then (some (10,(w64 ((w64 (8+r12))+9))):Option (Int×Int)) else k1 () else k1 ()
theorem Zlt (p0:ByteArray) (r:Int×Int) (h:Zeo p0=some r):Zg Tryz.prog 190 [.str p0] (.tup [.int .i64 r.1,.int .i64 r.2]):=by{
refine cF (fun r=>.tup [.int .i64 r.1,.int .i64 r.2]) h mix Tryz.func190 fun r h=>?_
unfold Zeo at h
refine Zn ?_
refine rg ?_
refine rg ?_
refine aC h (Zau _ _) fun r1 h=>?_
refine cS h rfl (fun h=>?_) fun h=>?_
refine rg ?_
refine sS h fun l4 h=>?_
refine aC h (Zei _ _) fun r5 h=>?_
refine rg ?_
refine cS h rfl (fun h=>?_) fun h=>?_
refine rg ?_
cases h
exact rQ
refine rg ?_
cases h
exact rQ
refine rg ?_
refine aC h (Zau _ _) fun r6 h=>?_
refine ZbG h fun k1 hk1 h=>?_
refine Zbv (α:=Unit) (fun _ _=>mkS [(0,.str p0)] [] 2) (fun _=>k1 ()=some r) (Zn ?_) (fun a _ h=>?_)
refine cS h rfl (fun h=>?_) fun h=>?_
refine rg ?_
refine sS h fun l11 h=>?_
refine aC h (Zei _ _) fun r12 h=>?_
refine rg ?_
refine cS h rfl (fun h=>?_) fun h=>?_
refine rg ?_
cases h
exact rQ
exact jn () h (sR [])
exact jn () h (sR [])
subst hk1
dsimp only at h ⊢
refine Zn ?_
refine rg ?_
refine aC h (ZgV _ _) fun r9 h=>?_
refine rg ?_
refine cS h rfl (fun h=>?_) fun h=>?_
refine rg ?_
cases h
exact rQ
refine rg ?_
refine aC h (ZgV _ _) fun r10 h=>?_
refine rg ?_
refine cS h rfl (fun h=>?_) fun h=>?_
refine rg ?_
cases h
exact rQ
refine rg ?_
cases h
exact rQ}
def ZdC (p0:ByteArray) (p1:Int):Option Int:=ZaF Zcp (fun f7 (x14:Int)=>letk (fun (x19:Bool)=>if x19 then f7 (w64 (x14+1)) else some x14) fun k8=>if (decide (x14<(p0.size:Int))) then (atS p0 x14).bind fun c20=>k8 (decide (c20=p1)) else k8 false) 0
theorem Zfq (p0:ByteArray) (p1:Int) (r:Int) (h:ZdC p0 p1=some r):Zg Tryz.prog 191 [.str p0,.int .u8 p1] (.int .i64 r):=by{
refine cF (fun r=>.int .i64 r) h mix Tryz.func191 fun r h=>?_
unfold ZdC at h
refine Zn ?_
refine rg ?_
refine rg ?_
refine bl ?_
refine ZB h fun f7 mf7 hf7 h=>?_
refine Zv (α:=Nat×Int) (fun a _=>mkS [(0,.str p0),(1,.int .u8 p1),(5,.int .i64 a.2)] [] 2) (fun a=>ZaF a.1 f7 a.2=some r) (fun a=>a.1) (mf7,0) 2 h (sR []) (fun a _ h=>?_)
obtain ⟨mf7,x14⟩:=a
obtain ⟨mf7,rfl,h⟩:=ZC hf7 h
dsimp only at h ⊢
refine Zn ?_
refine jL h (fun x19=>mkS [(0,.str p0),(1,.int .u8 p1),(5,.int .i64 x14),(16,.bool x19)] [] 2) (fun k8 h=>?_) fun x19 h=>?_
refine rg ?_
refine kS 10 h rfl (fun h=>?_) fun h=>?_
refine aS h fun c20 h=>?_
exact jn (decide (c20=p1)) h (sR [])
iterate 5 refine ZE rfl (Zn ?_)
exact jn false h (sR [])
refine cS h rfl (fun h=>?_) fun h=>?_
refine bl ?_
refine rg ?_
exact rn (mf7,(w64 (x14+1))) h (sR [])
refine rg ?_
cases h
exact rQ}
def Zdc (p0:ByteArray):Option (Int×Int):=(atS p0 0).bind fun c1=>letk (fun (_:Unit)=>(some (0,0):Option (Int×Int))) fun k1=>if (decide (c1=60)) then (Zeo p0).bind fun r7=>some (r7.1,r7.2) else if (decide (c1=123)) then (ZdC p0 123).bind fun r8=>if (decide (2<=r8)) then (some (3,r8):Option (Int×Int)) else k1 () else if (decide (c1=125)) then (ZdC p0 125).bind fun r9=>if (decide (2<=r9)) then (some (4,r9):Option (Int×Int)) else k1 () else if (decide (c1=91)) then (ZdC p0 91).bind fun r10=>if (decide (2<=r10)) then (some (5,2):Option (Int×Int)) else k1 () else if (decide (c1=93)) then (ZdC p0 93).bind fun r11=>if (decide (2<=r11)) then (some (6,2):Option (Int×Int)) else k1 () else if (decide (c1=124)) then (some (7,1):Option (Int×Int)) else if (decide (c1=61)) then (some (8,1):Option (Int×Int)) else if (decide (c1=10)) then (some (2,1):Option (Int×Int)) else k1 ()
theorem Zlu (p0:ByteArray) (r:Int×Int) (h:Zdc p0=some r):Zg Tryz.prog 130 [.str p0] (.tup [.int .i64 r.1,.int .i64 r.2]):=by{
refine cF (fun r=>.tup [.int .i64 r.1,.int .i64 r.2]) h mix Tryz.func130 fun r h=>?_
unfold Zdc at h
refine Zn ?_
refine rg ?_
refine rg ?_
refine aS h fun c1 h=>?_
refine ZbG h fun k1 hk1 h=>?_
refine Zbv (α:=Unit) (fun _ _=>mkS [] [] 2) (fun _=>k1 ()=some r) (Zn ?_) (fun a _ h=>?_)
refine bl ?_
refine rg ?_
refine cS h rfl (fun h=>?_) fun h=>?_
refine rg ?_
refine aC h (Zlt _) fun r7 h=>?_
cases h
exact rQ
refine rg ?_
refine cS h rfl (fun h=>?_) fun h=>?_
refine rg ?_
refine aC h (Zfq _ _) fun r8 h=>?_
refine rg ?_
refine cS h rfl (fun h=>?_) fun h=>?_
refine rg ?_
cases h
exact rQ
exact jn () h (sR [])
refine rg ?_
refine cS h rfl (fun h=>?_) fun h=>?_
refine rg ?_
refine aC h (Zfq _ _) fun r9 h=>?_
refine rg ?_
refine cS h rfl (fun h=>?_) fun h=>?_
refine rg ?_
cases h
exact rQ
exact jn () h (sR [])
refine rg ?_
refine cS h rfl (fun h=>?_) fun h=>?_
refine rg ?_
refine aC h (Zfq _ _) fun r10 h=>?_
refine cS h rfl (fun h=>?_) fun h=>?_
refine rg ?_
cases h
exact rQ
exact jn () h (sR [])
refine rg ?_
refine cS h rfl (fun h=>?_) fun h=>?_
refine rg ?_
refine aC h (Zfq _ _) fun r11 h=>?_
refine cS h rfl (fun h=>?_) fun h=>?_
refine rg ?_
cases h
exact rQ
exact jn () h (sR [])
refine rg ?_
refine cS h rfl (fun h=>?_) fun h=>?_
refine rg ?_
cases h
exact rQ
refine rg ?_
refine cS h rfl (fun h=>?_) fun h=>?_
refine rg ?_
cases h
exact rQ
refine rg ?_
refine cS h rfl (fun h=>?_) fun h=>?_
refine rg ?_
cases h
exact rQ
exact jn () h (sR [])
subst hk1
dsimp only at h ⊢
refine Zn ?_
refine rg ?_
cases h
exact rQ}
def Ze7 (p0:ByteArray):Option ((List Tok)×Int):=if (decide (8192<(p0.size:Int))) then (some ([],3):Option ((List Tok)×Int)) else ZaF Zcp (fun f5 ((x22,x23,x24):Int×Int×(List Tok))=>if (decide (x23<(p0.size:Int))) then (ZfI p0 x23 (p0.size:Int)).bind fun l31=>(Zdc l31).bind fun r32=>if (decide (r32.1=0)) then f5 (x22,(w64 (x23+1)),x24) else letk (fun (x34:List Tok)=>(ZeI 24 x34 [(⟨r32.1,x23,(w64 (x23+r32.2))⟩:Tok)]).bind fun l35=>f5 ((w64 (x23+r32.2)),(w64 (x23+r32.2)),l35)) fun k6=>if (decide (x22<x23)) then (ZeI 24 x24 [(⟨1,x22,x23⟩:Tok)]).bind fun l36=>k6 l36 else k6 x24 else letk (fun (x38:List Tok)=>(some (x38,0):Option ((List Tok)×Int))) fun k7=>if (decide (x22<(p0.size:Int))) then (ZeI 24 x24 [(⟨1,x22,(p0.size:Int)⟩:Tok)]).bind fun l39=>k7 l39 else k7 x24) (0,0,([]:List Tok))
theorem ZmN (p0:ByteArray) (r:(List Tok)×Int) (h:Ze7 p0=some r):Zg Tryz.prog 85 [.str p0] (.tup [.sl (List.map Tok.cs r.1),.int .i64 r.2]):=by{
refine cF (fun r=>.tup [.sl (List.map Tok.cs r.1),.int .i64 r.2]) h mix Tryz.func85 fun r h=>?_
unfold Ze7 at h
refine Zn ?_
refine rg ?_
refine rg ?_
refine cS h rfl (fun h=>?_) fun h=>?_
refine rg ?_
cases h
exact rQ
refine rg ?_
refine rg ?_
refine rg ?_
refine bl ?_
refine ZB h fun f5 mf5 hf5 h=>?_
refine Zv (α:=Nat×(Int×Int×(List Tok))) (fun a _=>mkS [(0,.str p0),(4,.row 4 (1,4)),(5,.int .i64 a.2.1),(6,.int .i64 a.2.2.1)] [(4,some ((1,4),.row 162 3 false (List.map Tok.cs a.2.2.2)))] 2) (fun a=>ZaF a.1 f5 a.2=some r) (fun a=>a.1) (mf5,0,0,([]:List Tok)) 2 h (ZhM [] 4 162 3 rfl ⟨rfl,rfl,rfl,rfl,trivial⟩ ⟨⟨rfl,rfl⟩,trivial⟩ rfl) (fun a _ h=>?_)
obtain ⟨mf5,x22,x23,x24⟩:=a
obtain ⟨mf5,rfl,h⟩:=ZC hf5 h
dsimp only at h ⊢
refine Zn ?_
refine rg ?_
refine cS h rfl (fun h=>?_) fun h=>?_
refine bl ?_
refine rg ?_
refine sS h fun l31 h=>?_
refine aC h (Zlu _) fun r32 h=>?_
refine rg ?_
refine cS h rfl (fun h=>?_) fun h=>?_
refine rg ?_
exact rn (mf5,x22,(w64 (x23+1)),x24) h (sR [(4,1,4)])
refine rg ?_
refine jL h (fun x34=>mkS [(0,.str p0),(4,.row 4 (1,4)),(6,.int .i64 x23),(7,.int .i64 r32.1),(8,.int .i64 r32.2)] [(4,some ((1,4),.row 162 3 false (List.map Tok.cs x34)))] 2) (fun k6 h=>?_) fun x34 h=>?_
refine cS h rfl (fun h=>?_) fun h=>?_
refine rg ?_
refine ZbS (M:=([(⟨1,x22,x23⟩:Tok)]:List Tok)) (f:=Tok.cs) rfl rfl rfl rfl (Nat.le_of_ble_eq_true rfl) rfl (Zn ?_)
refine pR Tok.cs h fun l36 h=>?_
exact jn l36 h (sR [(4,6,5)])
exact jn x24 h (sR [(4,1,4)])
refine rg ?_
refine ZbS (M:=([(⟨r32.1,x23,(w64 (x23+r32.2))⟩:Tok)]:List Tok)) (f:=Tok.cs) rfl rfl rfl rfl (Nat.le_of_ble_eq_true rfl) rfl (Zn ?_)
refine pR Tok.cs h fun l35 h=>?_
refine rg ?_
refine rg ?_
exact rn (mf5,(w64 (x23+r32.2)),(w64 (x23+r32.2)),l35) h (sR [(4,2,8)])
refine rg ?_
refine jL h (fun x38=>mkS [(4,.row 4 (1,4))] [(4,some ((1,4),.row 162 3 false (List.map Tok.cs x38)))] 2) (fun k7 h=>?_) fun x38 h=>?_
refine cS h rfl (fun h=>?_) fun h=>?_
refine rg ?_
refine ZbS (M:=([(⟨1,x22,(p0.size:Int)⟩:Tok)]:List Tok)) (f:=Tok.cs) rfl rfl rfl rfl (Nat.le_of_ble_eq_true rfl) rfl (Zn ?_)
refine pR Tok.cs h fun l39 h=>?_
exact jn l39 h (sR [(4,4,6)])
exact jn x24 h (sR [(4,1,4)])
refine rg ?_
cases h
exact rQ}
def Zck (p0:ByteArray) (p1:Tok):Option ByteArray:=letk (fun (x1:Bool)=>if x1 then (some (⟨#[]⟩:ByteArray):Option ByteArray) else (ZfI p0 p1.from_ p1.to_).bind fun l2=>some l2) fun k1=>if (decide (p1.from_<0)) then k1 true else if (decide (p1.to_<p1.from_)) then k1 true else k1 (decide ((p0.size:Int)<p1.to_))
theorem Ziw (p0:ByteArray) (p1:Tok) (r:ByteArray) (h:Zck p0 p1=some r):Zg Tryz.prog 131 [.str p0,p1.pv] (.str r):=by{
refine cF (fun r=>.str r) h mix Tryz.func131 fun r h=>?_
unfold Zck at h
refine Zn ?_
refine rg ?_
refine jL h (fun x1=>mkS [(0,.str p0),(3,.ptr 3 (1,3) 0),(21,.bool x1)] [(3,some ((1,3),.box (Tok.cs p1)))] 2) (fun k1 h=>?_) fun x1 h=>?_
refine rg ?_
refine kS 8 h rfl (fun h=>?_) fun h=>?_
iterate 10 refine ZE rfl (Zn ?_)
exact jn true h (sR [(3,1,0)])
refine kS 15 h rfl (fun h=>?_) fun h=>?_
iterate 5 refine ZE rfl (Zn ?_)
exact jn true h (sR [(3,1,0)])
exact jn (decide ((p0.size:Int)<p1.to_)) h (sR [(3,1,0)])
refine cS h rfl (fun h=>?_) fun h=>?_
refine rg ?_
cases h
exact rQ
refine rg ?_
refine sS h fun l2 h=>?_
cases h
exact rQ}
def ZdD (p0:ByteArray) (p1:Tok):Option Int:=letk (fun (x1:ByteArray)=>(Zck p0 p1).bind fun r2=>(Zcv r2 x1).bind fun r3=>if (decide (r3.2=(r2.size:Int))) then some r3.1 else (some 0:Option Int)) fun k1=>if (decide (p1.kind=11)) then k1 (⟨#[60]⟩:ByteArray) else if (decide (p1.kind=12)) then k1 (⟨#[60,47]⟩:ByteArray) else (some 0:Option Int)
theorem ZjF (p0:ByteArray) (p1:Tok) (r:Int) (h:ZdD p0 p1=some r):Zg Tryz.prog 135 [.str p0,p1.pv] (.int .i64 r):=by{
refine cF (fun r=>.int .i64 r) h mix Tryz.func135 fun r h=>?_
unfold ZdD at h
refine Zn ?_
refine rg ?_
refine rg ?_
refine rg ?_
refine jL h (fun x1=>mkS [(0,.str p0),(3,.ptr 3 (1,3) 0),(5,.str x1)] [(3,some ((1,3),.box (Tok.cs p1)))] 2) (fun k1 h=>?_) fun x1 h=>?_
refine bl ?_
refine rg ?_
refine cS h rfl (fun h=>?_) fun h=>?_
exact jn (⟨#[60]⟩:ByteArray) h (sR [(3,1,0)])
refine rg ?_
refine cS h rfl (fun h=>?_) fun h=>?_
refine rg ?_
exact jn (⟨#[60,47]⟩:ByteArray) h (sR [(3,1,0)])
refine rg ?_
cases h
exact rQ
refine rg ?_
refine aC h (Ziw _ _) fun r2 h=>?_
refine rg ?_
refine aC h (ZgV _ _) fun r3 h=>?_
refine rg ?_
refine cS h rfl (fun h=>?_) fun h=>?_
refine rg ?_
cases h
exact rQ
refine rg ?_
cases h
exact rQ}
def ZdY (p0:Int):Option ByteArray:=(atI ([(⟨#[110,111,105,110,99,108,117,100,101]⟩:ByteArray),(⟨#[105,110,99,108,117,100,101,111,110,108,121]⟩:ByteArray),(⟨#[111,110,108,121,105,110,99,108,117,100,101]⟩:ByteArray)]:List ByteArray) (w64 (p0-1))).bind fun c1=>(Zbs (⟨#[60]⟩:ByteArray) c1).bind fun s2=>(Zbs s2 (⟨#[62]⟩:ByteArray)).bind fun s3=>some s3
theorem ZjG (p0:Int) (r:ByteArray) (h:ZdY p0=some r):Zg Tryz.prog 142 [.int .i64 p0] (.str r):=by{
refine cF (fun r=>.str r) h mix Tryz.func142 fun r h=>?_
unfold ZdY at h
refine Zn ?_
refine rg ?_
refine rg ?_
obtain ⟨c1,h1,h⟩:=bnd h
refine ZuU (p:=PV.str) rfl h1 rfl rfl rfl rfl rfl (Zn ?_)
refine sT h fun s2 h=>?_
refine sT h fun s3 h=>?_
cases h
exact rQ}
end Go.Proofs.YtpffimahajgiaaaGreatDoor
