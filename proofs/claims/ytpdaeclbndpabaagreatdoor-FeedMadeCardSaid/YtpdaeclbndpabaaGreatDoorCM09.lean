/- Functions of the program as Lean functions. Written by -/
import Derived.Test.YtpdaeclbndpabaaGreatDoorCM07
set_option linter.unusedVariables false
set_option maxHeartbeats 4000000
set_option maxRecDepth 100000
namespace Go.Proofs.YtpdaeclbndpabaaGreatDoor
section
open VL
def ZeB (p0:ByteArray) (p1:ByteArray) (p2:ByteArray) (p3:Int):Option ByteArray:=letk (fun (x1:Bool)=>if x1 then (some p0:Option ByteArray) else (ZfT p0 p1).bind fun r2=>letk (fun (x4:Int)=>(none:Option ByteArray)) fun k3=>if (decide (r2=0)) then (some p0:Option ByteArray) else letk (fun (x5:Bool)=>if x5 then k3 r2 else k3 p3) fun k4=>if (decide (p3<0)) then k4 true else k4 (decide (r2<p3))) fun k1=>if (decide (p1=p2)) then k1 true else k1 (decide (p3=0))
theorem Zjr (p0:ByteArray) (p1:ByteArray) (p2:ByteArray) (p3:Int) (r:ByteArray) (h:ZeB p0 p1 p2 p3=some r):Zb Tryz.prog 275 [.str p0,.str p1,.str p2,.int .i64 p3] (.str r):=by{
refine cF (fun r=>.str r) h mix Tryz.func275 fun r h=>?_
unfold ZeB at h
refine Zf ?_
refine rg ?_
refine jL h (fun x1=>mkS [(0,.str p0),(1,.str p1),(2,.str p2),(3,.int .i64 p3),(22,.bool x1)] [] 2) (fun k1 h=>?_) fun x1 h=>?_
refine rg ?_
refine kS 19 h rfl (fun h=>?_) fun h=>?_
iterate 2 refine Zg rfl (Zf ?_)
exact jn true h (sR [])
exact jn (decide (p3=0)) h (sR [])
refine cS h rfl (fun h=>?_) fun h=>?_
refine rg ?_
cases h
exact rQ
refine rg ?_
refine aC h (Zk1 _ _) fun r2 h=>?_
refine rg ?_
refine jL h (fun x4=>mkS [(0,.str p0),(1,.str p1),(2,.str p2),(3,.int .i64 x4)] [] 2) (fun k3 h=>?_) fun x4 h=>?_
refine cS h rfl (fun h=>?_) fun h=>?_
refine rg ?_
cases h
exact rQ
refine jL h (fun x5=>mkS [(0,.str p0),(1,.str p1),(2,.str p2),(3,.int .i64 p3),(9,.int .i64 r2),(36,.bool x5)] [] 2) (fun k4 h=>?_) fun x5 h=>?_
refine rg ?_
refine kS 32 h rfl (fun h=>?_) fun h=>?_
iterate 3 refine Zg rfl (Zf ?_)
exact jn true h (sR [])
exact jn (decide (r2<p3)) h (sR [])
refine cS h rfl (fun h=>?_) fun h=>?_
refine rg ?_
exact jn r2 h (sR [])
exact jn p3 h (sR [])
cases h}
def ZcR (p0:ByteArray) (p1:ByteArray) (p2:ByteArray):Option ByteArray:=(ZeB p0 p1 p2 (-1)).bind fun r1=>(some r1:Option ByteArray)
theorem Zhr (p0:ByteArray) (p1:ByteArray) (p2:ByteArray) (r:ByteArray) (h:ZcR p0 p1 p2=some r):Zb Tryz.prog 263 [.str p0,.str p1,.str p2] (.str r):=by{
refine cF (fun r=>.str r) h mix Tryz.func263 fun r h=>?_
unfold ZcR at h
refine Zf ?_
refine rg ?_
refine rg ?_
refine aC h (Zjr _ _ _ _) fun r1 h=>?_
cases h
exact rQ}
def ZaL (p0:ByteArray) (p1:ByteArray):Option Bool:=letk (fun (x2:Bool)=>(some x2:Option Bool)) fun k1=>if (decide ((p1.size:Int)<=(p0.size:Int))) then (Zff p0 (w64 ((p0.size:Int)-(p1.size:Int))) (p0.size:Int)).bind fun l3=>k1 (decide (l3=p1)) else k1 false
theorem Zc4 (p0:ByteArray) (p1:ByteArray) (r:Bool) (h:ZaL p0 p1=some r):Zb Tryz.prog 225 [.str p0,.str p1] (.bool r):=by{
refine cF (fun r=>.bool r) h mix Tryz.func225 fun r h=>?_
unfold ZaL at h
refine Zf ?_
refine rg ?_
refine jL h (fun x2=>mkS [(4,.bool x2)] [] 2) (fun k1 h=>?_) fun x2 h=>?_
refine rg ?_
refine kS 10 h rfl (fun h=>?_) fun h=>?_
refine sS h fun l3 h=>?_
exact jn (decide (l3=p1)) h (sR [])
iterate 9 refine Zg rfl (Zf ?_)
exact jn false h (sR [])
cases h
exact rQ}
def ZaF (p0:ByteArray) (p1:ByteArray):Option ByteArray:=(ZaL p0 p1).bind fun r1=>if r1 then (Zff p0 0 (w64 ((p0.size:Int)-(p1.size:Int)))).bind fun l3=>(some l3:Option ByteArray) else (some p0:Option ByteArray)
theorem ZcS (p0:ByteArray) (p1:ByteArray) (r:ByteArray) (h:ZaF p0 p1=some r):Zb Tryz.prog 190 [.str p0,.str p1] (.str r):=by{
refine cF (fun r=>.str r) h mix Tryz.func190 fun r h=>?_
unfold ZaF at h
refine Zf ?_
refine rg ?_
refine rg ?_
refine aC h (Zc4 _ _) fun r1 h=>?_
refine cS h rfl (fun h=>?_) fun h=>?_
refine rg ?_
refine sS h fun l3 h=>?_
cases h
exact rQ
refine rg ?_
cases h
exact rQ}
def strings_TrimSuffix (p0:ByteArray) (p1:ByteArray):Option ByteArray:=(ZaF p0 p1).bind fun r1=>(some r1:Option ByteArray)
theorem Zhs (p0:ByteArray) (p1:ByteArray) (r:ByteArray) (h:strings_TrimSuffix p0 p1=some r):Zb Tryz.prog 140 [.str p0,.str p1] (.str r):=by{
refine cF (fun r=>.str r) h mix Tryz.func140 fun r h=>?_
unfold strings_TrimSuffix at h
refine Zf ?_
refine rg ?_
refine rg ?_
refine aC h (ZcS _ _) fun r1 h=>?_
cases h
exact rQ}
def ZgH (p0:ByteArray):Option ByteArray:=(Zxt 1 (p0.size:Int)).bind fun _=>ZE Zaq (fun f17 ((x63,x64):Int×(List Int))=>if (decide (x63<(p0.size:Int))) then letk (fun (x87:List Int)=>f17 ((w64 (x63+1)),x87)) fun k19=>letk (fun (x90:Bool)=>if x90 then (atS p0 x63).bind fun c91=>(Zbo 1 x64 [c91]).bind fun l92=>k19 l92 else k19 x64) fun k20=>(atS p0 x63).bind fun c93=>if (!decide (c93=32)) then k20 true else if (decide (0<(x64.length:Int))) then (atI x64 (w64 ((x64.length:Int)-1))).bind fun e94=>k20 (!decide (e94=32)) else k20 false else (strings_TrimSuffix (strOfNums x64) (⟨#[32]⟩:ByteArray)).bind fun r95=>(some r95:Option ByteArray)) (0,([]:List Int))
theorem ZlQ (p0:ByteArray) (r:ByteArray) (h:ZgH p0=some r):Zb Tryz.prog 262 [.str p0] (.str r):=by{
refine cF (fun r=>.str r) h mix Tryz.func262 fun r h=>?_
unfold ZgH at h
refine Zf ?_
refine rg ?_
refine rg ?_
obtain ⟨_,h1,h⟩:=bnd h
refine Zxu csB rfl rfl rfl h1 (Zf ?_)
refine rg ?_
refine bl ?_
refine Zk h fun f17 mf17 hf17 h=>?_
refine Zi (α:=Nat×(Int×(List Int))) (fun a _=>mkS [(0,.str p0),(3,.row 7 (1,7)),(4,.int .i64 a.2.1)] [(7,some ((1,7),.row 5 1 false (List.map csB a.2.2)))] 2) (fun a=>ZE a.1 f17 a.2=some r) (fun a=>a.1) (mf17,0,([]:List Int)) 2 h (sR [(7,2,2)]) (fun a _ h=>?_)
obtain ⟨mf17,x63,x64⟩:=a
obtain ⟨mf17,rfl,h⟩:=Zl hf17 h
dsimp only at h ⊢
refine Zf ?_
refine rg ?_
refine cS h rfl (fun h=>?_) fun h=>?_
refine jL h (fun x87=>mkS [(0,.str p0),(3,.row 7 (1,7)),(4,.int .i64 x63)] [(7,some ((1,7),.row 5 1 false (List.map csB x87)))] 2) (fun k19 h=>?_) fun x87 h=>?_
refine bl ?_
refine jL h (fun x90=>mkS [(0,.str p0),(3,.row 7 (1,7)),(4,.int .i64 x63),(31,.bool x90)] [(7,some ((1,7),.row 5 1 false (List.map csB x64)))] 2) (fun k20 h=>?_) fun x90 h=>?_
refine rg ?_
refine aS h fun c93 h=>?_
refine kS 18 h rfl (fun h=>?_) fun h=>?_
iterate 12 refine Zg rfl (Zf ?_)
exact jn true h (sR [(7,1,7)])
refine lM csB x64 ?_
refine kS 22 h rfl (fun h=>?_) fun h=>?_
refine lM csB x64 ?_
obtain ⟨e94,h73,h⟩:=bnd h
refine ZA rfl h73 rfl rfl rfl (Zf ?_)
refine Zaj rfl h73 rfl rfl rfl (Zf ?_)
exact jn (!decide (e94=32)) h (sR [(7,1,7)])
iterate 7 refine Zg rfl (Zf ?_)
exact jn false h (sR [(7,1,7)])
refine cS h rfl (fun h=>?_) fun h=>?_
refine rg ?_
refine aS h fun c91 h=>?_
refine bM csB ([c91]:List Int) ?_
refine pR csB h fun l92 h=>?_
exact jn l92 h (sR [(7,2,5)])
exact jn x64 h (sR [(7,1,7)])
refine rg ?_
exact rn (mf17,(w64 (x63+1)),x87) h (sR [(7,1,7)])
refine rg ?_
refine Zng (l:=x64) rfl rfl (Zf ?_)
refine aC h (Zhs _ _) fun r95 h=>?_
cases h
exact rQ}
def ZP (p0:ByteArray) (p1:ByteArray):Option Bool:=letk (fun (x2:Bool)=>(some x2:Option Bool)) fun k1=>if (decide ((p1.size:Int)<=(p0.size:Int))) then (Zff p0 0 (p1.size:Int)).bind fun l3=>k1 (decide (l3=p1)) else k1 false
theorem ZaC (p0:ByteArray) (p1:ByteArray) (r:Bool) (h:ZP p0 p1=some r):Zb Tryz.prog 276 [.str p0,.str p1] (.bool r):=by{
refine cF (fun r=>.bool r) h mix Tryz.func276 fun r h=>?_
unfold ZP at h
refine Zf ?_
refine rg ?_
refine jL h (fun x2=>mkS [(4,.bool x2)] [] 2) (fun k1 h=>?_) fun x2 h=>?_
refine rg ?_
refine kS 10 h rfl (fun h=>?_) fun h=>?_
refine sS h fun l3 h=>?_
exact jn (decide (l3=p1)) h (sR [])
iterate 6 refine Zg rfl (Zf ?_)
exact jn false h (sR [])
cases h
exact rQ}
def Zdj (p0:ByteArray) (p1:ByteArray):Option Bool:=(ZP p0 p1).bind fun r1=>(some r1:Option Bool)
theorem ZhX (p0:ByteArray) (p1:ByteArray) (r:Bool) (h:Zdj p0 p1=some r):Zb Tryz.prog 264 [.str p0,.str p1] (.bool r):=by{
refine cF (fun r=>.bool r) h mix Tryz.func264 fun r h=>?_
unfold Zdj at h
refine Zf ?_
refine rg ?_
refine rg ?_
refine aC h (ZaC _ _) fun r1 h=>?_
cases h
exact rQ}
def ZaG (p0:ByteArray) (p1:ByteArray):Option ByteArray:=(ZP p0 p1).bind fun r1=>if r1 then (Zff p0 (p1.size:Int) (p0.size:Int)).bind fun l3=>(some l3:Option ByteArray) else (some p0:Option ByteArray)
theorem ZcT (p0:ByteArray) (p1:ByteArray) (r:ByteArray) (h:ZaG p0 p1=some r):Zb Tryz.prog 277 [.str p0,.str p1] (.str r):=by{
refine cF (fun r=>.str r) h mix Tryz.func277 fun r h=>?_
unfold ZaG at h
refine Zf ?_
refine rg ?_
refine rg ?_
refine aC h (ZaC _ _) fun r1 h=>?_
refine cS h rfl (fun h=>?_) fun h=>?_
refine rg ?_
refine sS h fun l3 h=>?_
cases h
exact rQ
refine rg ?_
cases h
exact rQ}
def ZbP (p0:ByteArray) (p1:ByteArray):Option ByteArray:=(ZaG p0 p1).bind fun r1=>(some r1:Option ByteArray)
theorem Zd9 (p0:ByteArray) (p1:ByteArray) (r:ByteArray) (h:ZbP p0 p1=some r):Zb Tryz.prog 265 [.str p0,.str p1] (.str r):=by{
refine cF (fun r=>.str r) h mix Tryz.func265 fun r h=>?_
unfold ZbP at h
refine Zf ?_
refine rg ?_
refine rg ?_
refine aC h (ZcT _ _) fun r1 h=>?_
cases h
exact rQ}
def Zcc (p0:ByteArray) (p1:Int):Option ByteArray:=ZE Zaq (fun f7 (x18:ByteArray)=>letk (fun (x24:Bool)=>if x24 then (Zff x18 1 (x18.size:Int)).bind fun l25=>f7 l25 else (some x18:Option ByteArray)) fun k8=>if (decide (0<(x18.size:Int))) then (atS x18 0).bind fun c26=>k8 (decide (c26=p1)) else k8 false) p0
theorem Zgl (p0:ByteArray) (p1:Int) (r:ByteArray) (h:Zcc p0 p1=some r):Zb Tryz.prog 252 [.str p0,.int .u8 p1] (.str r):=by{
refine cF (fun r=>.str r) h mix Tryz.func252 fun r h=>?_
unfold Zcc at h
refine Zf ?_
refine rg ?_
refine bl ?_
refine Zk h fun f7 mf7 hf7 h=>?_
refine Zi (α:=Nat×ByteArray) (fun a _=>mkS [(0,.str a.2),(1,.int .u8 p1)] [] 2) (fun a=>ZE a.1 f7 a.2=some r) (fun a=>a.1) (mf7,p0) 2 h (sR []) (fun a _ h=>?_)
obtain ⟨mf7,x18⟩:=a
obtain ⟨mf7,rfl,h⟩:=Zl hf7 h
dsimp only at h ⊢
refine Zf ?_
refine jL h (fun x24=>mkS [(0,.str x18),(1,.int .u8 p1),(13,.bool x24)] [] 2) (fun k8 h=>?_) fun x24 h=>?_
refine rg ?_
refine kS 8 h rfl (fun h=>?_) fun h=>?_
refine aS h fun c26 h=>?_
exact jn (decide (c26=p1)) h (sR [])
iterate 4 refine Zg rfl (Zf ?_)
exact jn false h (sR [])
refine cS h rfl (fun h=>?_) fun h=>?_
refine bl ?_
refine rg ?_
refine sS h fun l25 h=>?_
exact rn (mf7,l25) h (sR [])
refine rg ?_
cases h
exact rQ}
def Zd6 (p0:ByteArray) (p1:ByteArray):Option ByteArray:=letk (fun (x1:Bool)=>if x1 then (some p0:Option ByteArray) else letk (fun (x3:Bool)=>if x3 then (atS p1 0).bind fun c6=>(Zcc p0 c6).bind fun r7=>(some r7:Option ByteArray) else (none:Option ByteArray)) fun k2=>if (decide ((p1.size:Int)=1)) then (atS p1 0).bind fun c8=>k2 (decide (c8<128)) else k2 false) fun k1=>if (decide (p0=(⟨#[]⟩:ByteArray))) then k1 true else k1 (decide (p1=(⟨#[]⟩:ByteArray)))
theorem ZiD (p0:ByteArray) (p1:ByteArray) (r:ByteArray) (h:Zd6 p0 p1=some r):Zb Tryz.prog 278 [.str p0,.str p1] (.str r):=by{
refine cF (fun r=>.str r) h mix Tryz.func278 fun r h=>?_
unfold Zd6 at h
refine Zf ?_
refine rg ?_
refine jL h (fun x1=>mkS [(0,.str p0),(1,.str p1),(12,.bool x1)] [] 2) (fun k1 h=>?_) fun x1 h=>?_
refine rg ?_
refine kS 9 h rfl (fun h=>?_) fun h=>?_
iterate 2 refine Zg rfl (Zf ?_)
exact jn true h (sR [])
exact jn (decide (p1=(⟨#[]⟩:ByteArray))) h (sR [])
refine cS h rfl (fun h=>?_) fun h=>?_
refine rg ?_
cases h
exact rQ
refine jL h (fun x3=>mkS [(0,.str p0),(1,.str p1),(21,.bool x3)] [] 2) (fun k2 h=>?_) fun x3 h=>?_
refine rg ?_
refine kS 17 h rfl (fun h=>?_) fun h=>?_
refine aS h fun c8 h=>?_
exact jn (decide (c8<128)) h (sR [])
iterate 3 refine Zg rfl (Zf ?_)
exact jn false h (sR [])
refine cS h rfl (fun h=>?_) fun h=>?_
refine rg ?_
refine aS h fun c6 h=>?_
refine aC h (Zgl _ _) fun r7 h=>?_
cases h
exact rQ
cases h}
def ZbS (p0:ByteArray) (p1:Int):Option ByteArray:=ZE Zaq (fun f7 (x18:ByteArray)=>letk (fun (x24:Bool)=>if x24 then (Zff x18 0 (w64 ((x18.size:Int)-1))).bind fun l25=>f7 l25 else (some x18:Option ByteArray)) fun k8=>if (decide (0<(x18.size:Int))) then (atS x18 (w64 ((x18.size:Int)-1))).bind fun c26=>k8 (decide (c26=p1)) else k8 false) p0
theorem ZfY (p0:ByteArray) (p1:Int) (r:ByteArray) (h:ZbS p0 p1=some r):Zb Tryz.prog 253 [.str p0,.int .u8 p1] (.str r):=by{
refine cF (fun r=>.str r) h mix Tryz.func253 fun r h=>?_
unfold ZbS at h
refine Zf ?_
refine rg ?_
refine bl ?_
refine Zk h fun f7 mf7 hf7 h=>?_
refine Zi (α:=Nat×ByteArray) (fun a _=>mkS [(0,.str a.2),(1,.int .u8 p1)] [] 2) (fun a=>ZE a.1 f7 a.2=some r) (fun a=>a.1) (mf7,p0) 2 h (sR []) (fun a _ h=>?_)
obtain ⟨mf7,x18⟩:=a
obtain ⟨mf7,rfl,h⟩:=Zl hf7 h
dsimp only at h ⊢
refine Zf ?_
refine jL h (fun x24=>mkS [(0,.str x18),(1,.int .u8 p1),(16,.bool x24)] [] 2) (fun k8 h=>?_) fun x24 h=>?_
refine rg ?_
refine kS 8 h rfl (fun h=>?_) fun h=>?_
refine aS h fun c26 h=>?_
exact jn (decide (c26=p1)) h (sR [])
iterate 7 refine Zg rfl (Zf ?_)
exact jn false h (sR [])
refine cS h rfl (fun h=>?_) fun h=>?_
refine bl ?_
refine rg ?_
refine sS h fun l25 h=>?_
exact rn (mf7,l25) h (sR [])
refine rg ?_
cases h
exact rQ}
def Zdk (p0:ByteArray) (p1:ByteArray):Option ByteArray:=letk (fun (x1:Bool)=>if x1 then (some p0:Option ByteArray) else letk (fun (x3:Bool)=>if x3 then (atS p1 0).bind fun c6=>(ZbS p0 c6).bind fun r7=>(some r7:Option ByteArray) else (none:Option ByteArray)) fun k2=>if (decide ((p1.size:Int)=1)) then (atS p1 0).bind fun c8=>k2 (decide (c8<128)) else k2 false) fun k1=>if (decide (p0=(⟨#[]⟩:ByteArray))) then k1 true else k1 (decide (p1=(⟨#[]⟩:ByteArray)))
theorem ZhY (p0:ByteArray) (p1:ByteArray) (r:ByteArray) (h:Zdk p0 p1=some r):Zb Tryz.prog 279 [.str p0,.str p1] (.str r):=by{
refine cF (fun r=>.str r) h mix Tryz.func279 fun r h=>?_
unfold Zdk at h
refine Zf ?_
refine rg ?_
refine jL h (fun x1=>mkS [(0,.str p0),(1,.str p1),(12,.bool x1)] [] 2) (fun k1 h=>?_) fun x1 h=>?_
refine rg ?_
refine kS 9 h rfl (fun h=>?_) fun h=>?_
iterate 2 refine Zg rfl (Zf ?_)
exact jn true h (sR [])
exact jn (decide (p1=(⟨#[]⟩:ByteArray))) h (sR [])
refine cS h rfl (fun h=>?_) fun h=>?_
refine rg ?_
cases h
exact rQ
refine jL h (fun x3=>mkS [(0,.str p0),(1,.str p1),(21,.bool x3)] [] 2) (fun k2 h=>?_) fun x3 h=>?_
refine rg ?_
refine kS 17 h rfl (fun h=>?_) fun h=>?_
refine aS h fun c8 h=>?_
exact jn (decide (c8<128)) h (sR [])
iterate 3 refine Zg rfl (Zf ?_)
exact jn false h (sR [])
refine cS h rfl (fun h=>?_) fun h=>?_
refine rg ?_
refine aS h fun c6 h=>?_
refine aC h (ZfY _ _) fun r7 h=>?_
cases h
exact rQ
cases h}
def ZfZ (p0:ByteArray):Option ByteArray:=(strings_Split p0 (⟨#[47]⟩:ByteArray)).bind fun r1=>ZE Zaq (fun f13 ((x60,x61):Int×(List ByteArray))=>if (decide (x60<(r1.length:Int))) then letk (fun (x93:List ByteArray)=>f13 ((w64 (x60+1)),x93)) fun k15=>letk (fun (x97:List ByteArray)=>if (decide (x60<(w64 ((x97.length:Int)-1)))) then (atI x97 x60).bind fun e98=>(Zdk e98 (⟨#[32]⟩:ByteArray)).bind fun r99=>(atI x97 x60).bind fun e100=>k15 (ZbF x97 x60 r99) else k15 x97) fun k16=>if (decide (0<x60)) then (atI x61 x60).bind fun e101=>(Zd6 e101 (⟨#[32]⟩:ByteArray)).bind fun r102=>(atI x61 x60).bind fun e103=>k16 (ZbF x61 x60 r102) else k16 x61 else (strings_Join x61 (⟨#[47]⟩:ByteArray)).bind fun r104=>(some r104:Option ByteArray)) (0,r1)
theorem Zlb (p0:ByteArray) (r:ByteArray) (h:ZfZ p0=some r):Zb Tryz.prog 266 [.str p0] (.str r):=by{
refine cF (fun r=>.str r) h mix Tryz.func266 fun r h=>?_
unfold ZfZ at h
refine Zf ?_
refine rg ?_
refine rg ?_
refine aN h (Zgy _ _) fun r1 h=>?_
refine rg ?_
refine lM csS r1 ?_
refine bl ?_
refine Zk h fun f13 mf13 hf13 h=>?_
refine Zi (α:=Nat×(Int×(List ByteArray))) (fun a _=>mkS [(3,.row 6 (1,6)),(8,.int .i64 (r1.length:Int)),(9,.int .i64 a.2.1)] [(6,some ((1,6),.row 9 1 false (List.map csS a.2.2)))] 2) (fun a=>ZE a.1 f13 a.2=some r) (fun a=>a.1) (mf13,0,r1) 2 h (sR [(6,2,1)]) (fun a _ h=>?_)
obtain ⟨mf13,x60,x61⟩:=a
obtain ⟨mf13,rfl,h⟩:=Zl hf13 h
dsimp only at h ⊢
refine Zf ?_
refine rg ?_
refine cS h rfl (fun h=>?_) fun h=>?_
refine jL h (fun x93=>mkS [(3,.row 6 (1,6)),(8,.int .i64 (r1.length:Int)),(9,.int .i64 x60)] [(6,some ((1,6),.row 9 1 false (List.map csS x93)))] 2) (fun k15 h=>?_) fun x93 h=>?_
refine bl ?_
refine rg ?_
refine rg ?_
refine jL h (fun x97=>mkS [(3,.row 6 (1,6)),(4,.int .i64 x60),(8,.int .i64 (r1.length:Int)),(9,.int .i64 x60)] [(6,some ((1,6),.row 9 1 false (List.map csS x97)))] 2) (fun k16 h=>?_) fun x97 h=>?_
refine cS h rfl (fun h=>?_) fun h=>?_
refine rg ?_
obtain ⟨e101,h83,h⟩:=bnd h
refine ZA rfl h83 rfl rfl rfl (Zf ?_)
refine Zaj rfl h83 rfl rfl rfl (Zf ?_)
refine aC h (ZiD _ _) fun r102 h=>?_
obtain ⟨e103,h85,h⟩:=bnd h
refine ZA rfl h85 rfl rfl rfl (Zf ?_)
refine ZaR (e':=r102) rfl h85 rfl rfl rfl rfl rfl rfl (Nat.le_of_ble_eq_true rfl) rfl rfl (Zf ?_)
exact jn (ZbF x61 x60 r102) h (sR [(6,1,6)])
exact jn x61 h (sR [(6,1,6)])
refine rg ?_
refine lM csS x97 ?_
refine cS h rfl (fun h=>?_) fun h=>?_
refine rg ?_
obtain ⟨e98,h80,h⟩:=bnd h
refine ZA rfl h80 rfl rfl rfl (Zf ?_)
refine Zaj rfl h80 rfl rfl rfl (Zf ?_)
refine aC h (ZhY _ _) fun r99 h=>?_
obtain ⟨e100,h82,h⟩:=bnd h
refine ZA rfl h82 rfl rfl rfl (Zf ?_)
refine ZaR (e':=r99) rfl h82 rfl rfl rfl rfl rfl rfl (Nat.le_of_ble_eq_true rfl) rfl rfl (Zf ?_)
exact jn (ZbF x97 x60 r99) h (sR [(6,1,6)])
exact jn x97 h (sR [(6,1,6)])
refine rg ?_
exact rn (mf13,(w64 (x60+1)),x93) h (sR [(6,1,6)])
refine rg ?_
refine aL h (ZlM _ _) fun r104 h=>?_
cases h
exact rQ}
def Zf0 (p0:ByteArray):Option (Title×Int):=(ZcR p0 (⟨#[95]⟩:ByteArray) (⟨#[32]⟩:ByteArray)).bind fun r1=>(ZgH r1).bind fun r2=>(Zdj r2 (⟨#[58]⟩:ByteArray)).bind fun r3=>letk (fun (x6:ByteArray)=>(ZgC x6).bind fun r7=>letk (fun (x9:ByteArray) (x10:Int)=>(ZfZ x9).bind fun r11=>letk (fun (x14:Bool)=>letk (fun (x18:ByteArray)=>if (decide (100<(x18.size:Int))) then (some ((⟨0,(⟨#[]⟩:ByteArray)⟩:Title),3):Option (Title×Int)) else (Zdh (⟨x10,x18⟩:Title)).bind fun r19=>if (!r19) then (some ((⟨0,(⟨#[]⟩:ByteArray)⟩:Title),1):Option (Title×Int)) else (some ((⟨x10,x18⟩:Title),0):Option (Title×Int))) fun k4=>if x14 then (atS r11 0).bind fun c20=>(Zff r11 1 (r11.size:Int)).bind fun l21=>(Zl6 (strOfNums [(IntKind.wrap .u8 (c20-32))]) l21).bind fun s22=>k4 s22 else k4 r11) fun k3=>if (!decide (r11=(⟨#[]⟩:ByteArray))) then (atS r11 0).bind fun c23=>if (decide (97<=c23)) then (atS r11 0).bind fun c24=>k3 (decide (c24<=122)) else k3 false else k3 false) fun k2=>if r7.2.2 then (ZbP r7.2.1 (⟨#[32]⟩:ByteArray)).bind fun r25=>k2 r25 r7.1 else k2 x6 0) fun k1=>if r3 then (Zff r2 1 (r2.size:Int)).bind fun l26=>(ZbP l26 (⟨#[32]⟩:ByteArray)).bind fun r27=>k1 r27 else k1 r2
theorem ZiE (p0:ByteArray) (r:Title×Int) (h:Zf0 p0=some r):Zb Tryz.prog 232 [.str p0] (.tup [r.1.pv,.int .i64 r.2]):=by{
refine cF (fun r=>.tup [r.1.pv,.int .i64 r.2]) h mix Tryz.func232 fun r h=>?_
unfold Zf0 at h
refine Zf ?_
refine rg ?_
refine rg ?_
refine aC h (Zhr _ _ _) fun r1 h=>?_
refine aC h (ZlQ _) fun r2 h=>?_
refine rg ?_
refine aC h (ZhX _ _) fun r3 h=>?_
refine jL h (fun x6=>mkS [(0,.str x6),(2,.ptr 2 (1,2) 0)] [(2,some ((1,2),.box [.int .i64 0,.str (⟨#[]⟩:ByteArray)]))] 2) (fun k1 h=>?_) fun x6 h=>?_
refine cS h rfl (fun h=>?_) fun h=>?_
refine rg ?_
refine sS h fun l26 h=>?_
refine aC h (Zd9 _ _) fun r27 h=>?_
exact jn r27 h (sR [(2,1,0)])
exact jn r2 h (sR [(2,1,0)])
refine rg ?_
refine rg ?_
refine aC h (ZlN _) fun r7 h=>?_
refine rg ?_
refine Zag h fun k2 hk2 h=>?_
refine Zax (α:=ByteArray×Int) (fun a _=>mkS [(0,.str a.1),(2,.ptr 2 (1,2) 0),(4,.ptr 4 (1,4) 0)] [(2,some ((1,2),.box [.int .i64 0,.str (⟨#[]⟩:ByteArray)])),(4,some ((1,4),.box [.int .i64 a.2,.str (⟨#[]⟩:ByteArray)]))] 2) (fun a=>k2 a.1 a.2=some r) (Zf ?_) (fun a _ h=>?_)
refine cS h rfl (fun h=>?_) fun h=>?_
refine rg ?_
refine aC h (Zd9 _ _) fun r25 h=>?_
exact jn (r25,r7.1) h (sR [(2,1,2),(4,2,1)])
exact jn (x6,0) h (sR [(2,1,2),(4,2,1)])
obtain ⟨x9,x10⟩:=a
subst hk2
dsimp only at h ⊢
refine Zf ?_
refine rg ?_
refine aC h (Zlb _) fun r11 h=>?_
refine jL h (fun x14=>mkS [(0,.str r11),(2,.ptr 2 (1,2) 0),(4,.ptr 4 (1,4) 0),(41,.bool x14)] [(2,some ((1,2),.box [.int .i64 0,.str (⟨#[]⟩:ByteArray)])),(4,some ((1,4),.box [.int .i64 x10,.str (⟨#[]⟩:ByteArray)]))] 2) (fun k3 h=>?_) fun x14 h=>?_
refine rg ?_
refine kS 32 h rfl (fun h=>?_) fun h=>?_
refine aS h fun c23 h=>?_
refine kS 37 h rfl (fun h=>?_) fun h=>?_
refine aS h fun c24 h=>?_
exact jn (decide (c24<=122)) h (sR [(2,1,2),(4,1,4)])
iterate 3 refine Zg rfl (Zf ?_)
exact jn false h (sR [(2,1,2),(4,1,4)])
iterate 6 refine Zg rfl (Zf ?_)
exact jn false h (sR [(2,1,2),(4,1,4)])
refine jL h (fun x18=>mkS [(0,.str x18),(2,.ptr 2 (1,2) 0),(4,.ptr 4 (1,4) 0)] [(2,some ((1,2),.box [.int .i64 0,.str (⟨#[]⟩:ByteArray)])),(4,some ((1,4),.box [.int .i64 x10,.str (⟨#[]⟩:ByteArray)]))] 2) (fun k4 h=>?_) fun x18 h=>?_
refine cS h rfl (fun h=>?_) fun h=>?_
refine rg ?_
refine aS h fun c20 h=>?_
refine bM csB ([(IntKind.wrap .u8 (c20-32))]:List Int) ?_
refine Zng (l:=[(IntKind.wrap .u8 (c20-32))]) rfl rfl (Zf ?_)
refine sS h fun l21 h=>?_
refine sT h fun s22 h=>?_
exact jn s22 h (sR [(2,1,2),(4,1,4)])
exact jn r11 h (sR [(2,1,2),(4,1,4)])
refine rg ?_
refine rg ?_
refine cS h rfl (fun h=>?_) fun h=>?_
refine rg ?_
cases h
exact rQ
refine rg ?_
refine aC h (Zec _) fun r19 h=>?_
refine cS h rfl (fun h=>?_) fun h=>?_
refine rg ?_
cases h
exact rQ
refine rg ?_
cases h
exact rQ}
def ZaO (p0:ByteArray) (p1:ByteArray):Option (ByteArray×Bool):=(ZP p0 p1).bind fun r1=>if (!r1) then (some (p0,false):Option (ByteArray×Bool)) else (Zff p0 (p1.size:Int) (p0.size:Int)).bind fun l2=>(some (l2,true):Option (ByteArray×Bool))
theorem Zc5 (p0:ByteArray) (p1:ByteArray) (r:ByteArray×Bool) (h:ZaO p0 p1=some r):Zb Tryz.prog 268 [.str p0,.str p1] (.tup [.str r.1,.bool r.2]):=by{
refine cF (fun r=>.tup [.str r.1,.bool r.2]) h mix Tryz.func268 fun r h=>?_
unfold ZaO at h
refine Zf ?_
refine rg ?_
refine rg ?_
refine aC h (ZaC _ _) fun r1 h=>?_
refine cS h rfl (fun h=>?_) fun h=>?_
refine rg ?_
cases h
exact rQ
refine rg ?_
refine sS h fun l2 h=>?_
cases h
exact rQ}
def Zdq (p0:ByteArray) (p1:ByteArray):Option (ByteArray×Bool):=(ZaO p0 p1).bind fun r1=>(some (r1.1,r1.2):Option (ByteArray×Bool))
theorem Zia (p0:ByteArray) (p1:ByteArray) (r:ByteArray×Bool) (h:Zdq p0 p1=some r):Zb Tryz.prog 236 [.str p0,.str p1] (.tup [.str r.1,.bool r.2]):=by{
refine cF (fun r=>.tup [.str r.1,.bool r.2]) h mix Tryz.func236 fun r h=>?_
unfold Zdq at h
refine Zf ?_
refine rg ?_
refine rg ?_
refine aC h (Zc5 _ _) fun r1 h=>?_
cases h
exact rQ}
def Zcx (p0:ByteArray):Option (ByteArray×ByteArray):=(ZbR p0 (⟨#[32,9]⟩:ByteArray)).bind fun r1=>(Zd2 r1 (⟨#[32,9]⟩:ByteArray)).bind fun r2=>if (decide (r2<0)) then (some (r1,(⟨#[]⟩:ByteArray)):Option (ByteArray×ByteArray)) else (Zff r1 0 r2).bind fun l3=>(Zff r1 r2 (r1.size:Int)).bind fun l4=>(ZbR l4 (⟨#[32,9]⟩:ByteArray)).bind fun r5=>(some (l3,r5):Option (ByteArray×ByteArray))
theorem Zc1 (p0:ByteArray) (r:ByteArray×ByteArray) (h:Zcx p0=some r):Zb Tryz.prog 191 [.str p0] (.tup [.str r.1,.str r.2]):=by{
refine cF (fun r=>.tup [.str r.1,.str r.2]) h mix Tryz.func191 fun r h=>?_
unfold Zcx at h
refine Zf ?_
refine rg ?_
refine rg ?_
refine aC h (Zcg _ _) fun r1 h=>?_
refine rg ?_
refine aC h (Zip _ _) fun r2 h=>?_
refine rg ?_
refine cS h rfl (fun h=>?_) fun h=>?_
refine rg ?_
cases h
exact rQ
refine rg ?_
refine sS h fun l3 h=>?_
refine sS h fun l4 h=>?_
refine aC h (Zcg _ _) fun r5 h=>?_
cases h
exact rQ}
def ZgZ (p0:Policy) (p1:ByteArray):Option (Bool×Policy):=(Zcx p1).bind fun r1=>(ZcL r1.2).bind fun r2=>(Zbo 40 p0.groups [(⟨r1.1,r2⟩:Group)]).bind fun l3=>(some ((!decide (r1.1=(⟨#[]⟩:ByteArray))),(⟨l3,p0.rules,p0.guards⟩:Policy)):Option (Bool×Policy))
theorem ZlT (p0:Policy) (p1:ByteArray) (r:Bool×Policy) (h:ZgZ p0 p1=some r):ContractP Tryz.prog 192 [.ptr 0 (0,0) 0,.str p1] 0 [.row 139 2 false (List.map Group.cs p0.groups),.row 135 6 false (List.map Rule.cs p0.rules),.row 212 5 false (List.map Guard.cs p0.guards)] (.bool r.1) [.row 139 2 false (List.map Group.cs r.2.groups),.row 135 6 false (List.map Rule.cs r.2.rules),.row 212 5 false (List.map Guard.cs r.2.guards)]:=by{
refine Zbi (R:=fun r=>.bool r.1) (O:=fun r=>[.row 139 2 false (List.map Group.cs r.2.groups),.row 135 6 false (List.map Rule.cs r.2.rules),.row 212 5 false (List.map Guard.cs r.2.guards)]) h mix Tryz.func192 (by kernel_rfl) rfl (by kernel_rfl) rfl fun r h=>?_
unfold ZgZ at h
refine Zf ?_
refine rg ?_
refine rg ?_
refine aC h (Zc1 _) fun r1 h=>?_
refine rg ?_
obtain ⟨r2,h2,h⟩:=bnd h
refine Zvp (Zhq _ _ h2) rfl rfl rfl (Zf ?_)
refine rg ?_
refine ZF (M:=([(⟨r1.1,r2⟩:Group)]:List Group)) (f:=Group.cs) rfl rfl rfl rfl (Nat.le_of_ble_eq_true rfl) rfl (Zf ?_)
refine pR Group.cs h fun l3 h=>?_
refine rg ?_
cases h
exact Zg3 rfl rfl rfl rfl rfl rfl}
def Zdr (p0:Policy) (p1:Int):Option Int:=(atI p0.groups p1).bind fun e1=>(Zb0 e1.name).bind fun r2=>if (!r2) then (some 1:Option Int) else letk (fun (x6:Bool)=>if x6 then (some 5:Option Int) else if (decide (24<(e1.members.length:Int))) then (some 3:Option Int) else ZE Zaq (fun f13 (x56:Int)=>if (decide (x56<(e1.members.length:Int))) then (atI e1.members x56).bind fun e75=>(Zdq e75 (⟨#[64]⟩:ByteArray)).bind fun r76=>(Zb0 r76.1).bind fun r77=>if (!r77) then (some 1:Option Int) else letk (fun (x79:Bool)=>if x79 then (some 4:Option Int) else f13 (w64 (x56+1))) fun k15=>if r76.2 then (ZcZ p0 r76.1).bind fun r80=>k15 (!r80) else k15 false else (some 0:Option Int)) 0) fun k1=>(ZdD e1.name).bind fun r81=>if r81 then k1 true else (Zgj p0.groups 0 p1).bind fun l82=>(ZaJ l82 (fun y0=>Zby y0 e1)).bind fun r83=>k1 r83
theorem Zib (p0:Policy) (p1:Int) (r:Int) (h:Zdr p0 p1=some r):Zb Tryz.prog 195 [p0.pv,.int .i64 p1] (.int .i64 r):=by{
refine cF (fun r=>.int .i64 r) h mix Tryz.func195 fun r h=>?_
unfold Zdr at h
refine Zf ?_
refine rg ?_
refine rg ?_
refine aI Group.cs h fun e1 h=>?_
refine rg ?_
refine aC h (ZcN _) fun r2 h=>?_
refine cS h rfl (fun h=>?_) fun h=>?_
refine rg ?_
cases h
exact rQ
refine jL h (fun x6=>mkS [(2,.ptr 2 (1,2) 0),(5,.ptr 5 (1,5) 0),(29,.bool x6)] [(2,some ((1,2),.box (Policy.cs p0))),(5,some ((1,5),.box (Group.cs e1)))] 2) (fun k1 h=>?_) fun x6 h=>?_
refine rg ?_
refine aC h (Zgf _) fun r81 h=>?_
refine kS 22 h rfl (fun h=>?_) fun h=>?_
iterate 6 refine Zg rfl (Zf ?_)
exact jn true h (sR [(2,1,0),(5,2,5)])
refine sM Group.cs h fun l82 h=>?_
refine ZjB rfl rfl (Zf ?_)
obtain ⟨r83,h68,h⟩:=bnd h
refine ZiV (ZbU _ (fun y0=>Zby y0 e1) 235 [[.str e1.name,.sl (List.map csS e1.members)]] (fun y0 r h=>ZgQ y0 e1 r h) _ h68) rfl rfl rfl (Zf ?_)
exact jn r83 h (sR [(2,1,0),(5,2,5)])
refine cS h rfl (fun h=>?_) fun h=>?_
refine rg ?_
cases h
exact rQ
refine rg ?_
refine lM csS e1.members ?_
refine cS h rfl (fun h=>?_) fun h=>?_
refine rg ?_
cases h
exact rQ
refine rg ?_
refine lM csS e1.members ?_
refine bl ?_
refine Zk h fun f13 mf13 hf13 h=>?_
refine Zi (α:=Nat×Int) (fun a _=>mkS [(2,.ptr 2 (1,2) 0),(35,.sl (List.map csS e1.members)),(36,.int .i64 (e1.members.length:Int)),(37,.int .i64 a.2)] [(2,some ((1,2),.box (Policy.cs p0)))] 2) (fun a=>ZE a.1 f13 a.2=some r) (fun a=>a.1) (mf13,0) 2 h (sR [(2,1,2)]) (fun a _ h=>?_)
obtain ⟨mf13,x56⟩:=a
obtain ⟨mf13,rfl,h⟩:=Zl hf13 h
dsimp only at h ⊢
refine Zf ?_
refine rg ?_
refine cS h rfl (fun h=>?_) fun h=>?_
refine bl ?_
refine rg ?_
refine aI csS h fun e75 h=>?_
refine rg ?_
refine aC h (Zia _ _) fun r76 h=>?_
refine rg ?_
refine aC h (ZcN _) fun r77 h=>?_
refine cS h rfl (fun h=>?_) fun h=>?_
refine rg ?_
cases h
exact rQ
refine jL h (fun x79=>mkS [(2,.ptr 2 (1,2) 0),(35,.sl (List.map csS e1.members)),(36,.int .i64 (e1.members.length:Int)),(37,.int .i64 x56),(55,.bool x79)] [(2,some ((1,2),.box (Policy.cs p0)))] 2) (fun k15 h=>?_) fun x79 h=>?_
refine rg ?_
refine kS 50 h rfl (fun h=>?_) fun h=>?_
refine aC h (ZeF _ _) fun r80 h=>?_
exact jn (!r80) h (sR [(2,1,2)])
iterate 4 refine Zg rfl (Zf ?_)
exact jn false h (sR [(2,1,2)])
refine cS h rfl (fun h=>?_) fun h=>?_
refine rg ?_
cases h
exact rQ
refine rg ?_
exact rn (mf13,(w64 (x56+1))) h (sR [(2,1,2)])
refine rg ?_
cases h
exact rQ}
end
end Go.Proofs.YtpdaeclbndpabaaGreatDoor
