/- Functions of the program as Lean functions. Written by -/
import Derived.Test.YtpdaeclbndpabaaGreatDoorCM03
set_option linter.unusedVariables false
set_option maxHeartbeats 4000000
set_option maxRecDepth 100000
namespace Go.Proofs.YtpdaeclbndpabaaGreatDoor
section
open VL
def Zga (p0:ByteArray):Option Bool:=letk (fun (x3:Bool)=>if x3 then (some false:Option Bool) else ZE Zaq (fun f13 (x21:Int)=>if (decide (x21<(p0.size:Int))) then (atS p0 x21).bind fun c28=>letk (fun (x29:Bool)=>if x29 then (some false:Option Bool) else f13 (w64 (x21+1))) fun k15=>if (decide (c28<97)) then if (decide (c28<48)) then if (!decide (c28=45)) then k15 (!decide (c28=95)) else k15 false else if (decide (57<c28)) then if (!decide (c28=45)) then k15 (!decide (c28=95)) else k15 false else k15 false else if (decide (122<c28)) then if (decide (c28<48)) then if (!decide (c28=45)) then k15 (!decide (c28=95)) else k15 false else if (decide (57<c28)) then if (!decide (c28=45)) then k15 (!decide (c28=95)) else k15 false else k15 false else k15 false else (some true:Option Bool)) 0) fun k1=>if (decide ((p0.size:Int)<1)) then k1 true else if (decide (30<(p0.size:Int))) then k1 true else (atS p0 0).bind fun c30=>if (decide (c30<97)) then k1 true else (atS p0 0).bind fun c31=>k1 (decide (122<c31))
theorem ZnC (p0:ByteArray) (r:Bool) (h:Zga p0=some r):Zb Tryz.prog 103 [.str p0] (.bool r):=by{
refine cF (fun r=>.bool r) h mix Tryz.func103 fun r h=>?_
unfold Zga at h
refine Zf ?_
refine rg ?_
refine jL h (fun x3=>mkS [(0,.str p0),(22,.bool x3)] [] 2) (fun k1 h=>?_) fun x3 h=>?_
refine rg ?_
refine kS 8 h rfl (fun h=>?_) fun h=>?_
iterate 9 refine Zg rfl (Zf ?_)
exact jn true h (sR [])
refine kS 13 h rfl (fun h=>?_) fun h=>?_
iterate 6 refine Zg rfl (Zf ?_)
exact jn true h (sR [])
refine aS h fun c30 h=>?_
refine kS 18 h rfl (fun h=>?_) fun h=>?_
iterate 3 refine Zg rfl (Zf ?_)
exact jn true h (sR [])
refine aS h fun c31 h=>?_
exact jn (decide (122<c31)) h (sR [])
refine cS h rfl (fun h=>?_) fun h=>?_
refine rg ?_
cases h
exact rQ
refine rg ?_
refine bl ?_
refine Zk h fun f13 mf13 hf13 h=>?_
refine Zi (α:=Nat×Int) (fun a _=>mkS [(0,.str p0),(3,.int .i64 a.2)] [] 2) (fun a=>ZE a.1 f13 a.2=some r) (fun a=>a.1) (mf13,0) 2 h (sR []) (fun a _ h=>?_)
obtain ⟨mf13,x21⟩:=a
obtain ⟨mf13,rfl,h⟩:=Zl hf13 h
dsimp only at h ⊢
refine Zf ?_
refine rg ?_
refine cS h rfl (fun h=>?_) fun h=>?_
refine bl ?_
refine rg ?_
refine aS h fun c28 h=>?_
refine jL h (fun x29=>mkS [(0,.str p0),(3,.int .i64 x21),(53,.bool x29)] [] 2) (fun k15 h=>?_) fun x29 h=>?_
refine rg ?_
refine kS 34 h rfl (fun h=>?_) fun h=>?_
iterate 2 refine Zg rfl (Zf ?_)
refine kS 41 h rfl (fun h=>?_) fun h=>?_
iterate 2 refine Zg rfl (Zf ?_)
refine kS 50 h rfl (fun h=>?_) fun h=>?_
exact jn (!decide (c28=95)) h (sR [])
iterate 2 refine Zg rfl (Zf ?_)
exact jn false h (sR [])
refine kS 46 h rfl (fun h=>?_) fun h=>?_
refine kS 50 h rfl (fun h=>?_) fun h=>?_
exact jn (!decide (c28=95)) h (sR [])
iterate 2 refine Zg rfl (Zf ?_)
exact jn false h (sR [])
iterate 4 refine Zg rfl (Zf ?_)
exact jn false h (sR [])
refine kS 38 h rfl (fun h=>?_) fun h=>?_
refine kS 41 h rfl (fun h=>?_) fun h=>?_
iterate 2 refine Zg rfl (Zf ?_)
refine kS 50 h rfl (fun h=>?_) fun h=>?_
exact jn (!decide (c28=95)) h (sR [])
iterate 2 refine Zg rfl (Zf ?_)
exact jn false h (sR [])
refine kS 46 h rfl (fun h=>?_) fun h=>?_
refine kS 50 h rfl (fun h=>?_) fun h=>?_
exact jn (!decide (c28=95)) h (sR [])
iterate 2 refine Zg rfl (Zf ?_)
exact jn false h (sR [])
iterate 4 refine Zg rfl (Zf ?_)
exact jn false h (sR [])
iterate 10 refine Zg rfl (Zf ?_)
exact jn false h (sR [])
refine cS h rfl (fun h=>?_) fun h=>?_
refine rg ?_
cases h
exact rQ
refine rg ?_
exact rn (mf13,(w64 (x21+1))) h (sR [])
refine rg ?_
cases h
exact rQ}
def Zfe (p0:ByteArray):Option Bool:=letk (fun (x3:Bool)=>if x3 then (some false:Option Bool) else ZE Zaq (fun f13 (x21:Int)=>if (decide (x21<(p0.size:Int))) then (atS p0 x21).bind fun c28=>letk (fun (x29:Bool)=>if x29 then (some false:Option Bool) else f13 (w64 (x21+1))) fun k15=>if (decide (c28<97)) then if (decide (c28<48)) then if (!decide (c28=45)) then k15 (!decide (c28=95)) else k15 false else if (decide (57<c28)) then if (!decide (c28=45)) then k15 (!decide (c28=95)) else k15 false else k15 false else if (decide (122<c28)) then if (decide (c28<48)) then if (!decide (c28=45)) then k15 (!decide (c28=95)) else k15 false else if (decide (57<c28)) then if (!decide (c28=45)) then k15 (!decide (c28=95)) else k15 false else k15 false else k15 false else (some true:Option Bool)) 0) fun k1=>if (decide ((p0.size:Int)<1)) then k1 true else if (decide (30<(p0.size:Int))) then k1 true else (atS p0 0).bind fun c30=>if (decide (c30<97)) then k1 true else (atS p0 0).bind fun c31=>k1 (decide (122<c31))
theorem Zj9 (p0:ByteArray) (r:Bool) (h:Zfe p0=some r):Zb Tryz.prog 41 [.str p0] (.bool r):=by{
refine cF (fun r=>.bool r) h mix Tryz.func41 fun r h=>?_
unfold Zfe at h
refine Zf ?_
refine rg ?_
refine jL h (fun x3=>mkS [(0,.str p0),(22,.bool x3)] [] 2) (fun k1 h=>?_) fun x3 h=>?_
refine rg ?_
refine kS 8 h rfl (fun h=>?_) fun h=>?_
iterate 9 refine Zg rfl (Zf ?_)
exact jn true h (sR [])
refine kS 13 h rfl (fun h=>?_) fun h=>?_
iterate 6 refine Zg rfl (Zf ?_)
exact jn true h (sR [])
refine aS h fun c30 h=>?_
refine kS 18 h rfl (fun h=>?_) fun h=>?_
iterate 3 refine Zg rfl (Zf ?_)
exact jn true h (sR [])
refine aS h fun c31 h=>?_
exact jn (decide (122<c31)) h (sR [])
refine cS h rfl (fun h=>?_) fun h=>?_
refine rg ?_
cases h
exact rQ
refine rg ?_
refine bl ?_
refine Zk h fun f13 mf13 hf13 h=>?_
refine Zi (α:=Nat×Int) (fun a _=>mkS [(0,.str p0),(24,.int .i64 (p0.size:Int)),(25,.int .i64 a.2)] [] 2) (fun a=>ZE a.1 f13 a.2=some r) (fun a=>a.1) (mf13,0) 2 h (sR []) (fun a _ h=>?_)
obtain ⟨mf13,x21⟩:=a
obtain ⟨mf13,rfl,h⟩:=Zl hf13 h
dsimp only at h ⊢
refine Zf ?_
refine rg ?_
refine cS h rfl (fun h=>?_) fun h=>?_
refine bl ?_
refine rg ?_
refine rg ?_
refine aS h fun c28 h=>?_
refine jL h (fun x29=>mkS [(0,.str p0),(24,.int .i64 (p0.size:Int)),(25,.int .i64 x21),(52,.bool x29)] [] 2) (fun k15 h=>?_) fun x29 h=>?_
refine rg ?_
refine kS 33 h rfl (fun h=>?_) fun h=>?_
iterate 2 refine Zg rfl (Zf ?_)
refine kS 40 h rfl (fun h=>?_) fun h=>?_
iterate 2 refine Zg rfl (Zf ?_)
refine kS 49 h rfl (fun h=>?_) fun h=>?_
exact jn (!decide (c28=95)) h (sR [])
iterate 2 refine Zg rfl (Zf ?_)
exact jn false h (sR [])
refine kS 45 h rfl (fun h=>?_) fun h=>?_
refine kS 49 h rfl (fun h=>?_) fun h=>?_
exact jn (!decide (c28=95)) h (sR [])
iterate 2 refine Zg rfl (Zf ?_)
exact jn false h (sR [])
iterate 4 refine Zg rfl (Zf ?_)
exact jn false h (sR [])
refine kS 37 h rfl (fun h=>?_) fun h=>?_
refine kS 40 h rfl (fun h=>?_) fun h=>?_
iterate 2 refine Zg rfl (Zf ?_)
refine kS 49 h rfl (fun h=>?_) fun h=>?_
exact jn (!decide (c28=95)) h (sR [])
iterate 2 refine Zg rfl (Zf ?_)
exact jn false h (sR [])
refine kS 45 h rfl (fun h=>?_) fun h=>?_
refine kS 49 h rfl (fun h=>?_) fun h=>?_
exact jn (!decide (c28=95)) h (sR [])
iterate 2 refine Zg rfl (Zf ?_)
exact jn false h (sR [])
iterate 4 refine Zg rfl (Zf ?_)
exact jn false h (sR [])
iterate 10 refine Zg rfl (Zf ?_)
exact jn false h (sR [])
refine cS h rfl (fun h=>?_) fun h=>?_
refine rg ?_
cases h
exact rQ
refine rg ?_
exact rn (mf13,(w64 (x21+1))) h (sR [])
refine rg ?_
cases h
exact rQ}
end
end Go.Proofs.YtpdaeclbndpabaaGreatDoor
