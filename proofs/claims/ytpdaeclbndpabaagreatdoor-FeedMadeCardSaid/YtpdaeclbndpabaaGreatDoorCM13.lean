/- Functions of the program as Lean functions. Written by -/
import Derived.Test.YtpdaeclbndpabaaGreatDoorCM06
import Derived.Test.YtpdaeclbndpabaaGreatDoorCM12
set_option linter.unusedVariables false
set_option maxHeartbeats 4000000
set_option maxRecDepth 100000
namespace Go.Proofs.YtpdaeclbndpabaaGreatDoor
section
open VL
def Zej (p0:ByteArray):Option Bool:=letk (fun (x2:Bool)=>(some x2:Option Bool)) fun k1=>if (decide (p0=(⟨#[]⟩:ByteArray))) then k1 true else (Zaz p0).bind fun r3=>k1 r3
theorem ZjE (p0:ByteArray) (r:Bool) (h:Zej p0=some r):Zb Tryz.prog 119 [.str p0] (.bool r):=by{
refine cF (fun r=>.bool r) h mix Tryz.func119 fun r h=>?_
unfold Zej at h
refine Zf ?_
refine rg ?_
refine jL h (fun x2=>mkS [(2,.bool x2)] [] 2) (fun k1 h=>?_) fun x2 h=>?_
refine rg ?_
refine kS 5 h rfl (fun h=>?_) fun h=>?_
iterate 2 refine Zg rfl (Zf ?_)
exact jn true h (sR [])
refine aC h (ZaZ _) fun r3 h=>?_
exact jn r3 h (sR [])
cases h
exact rQ}
def Zda (p0:State) (p1:List Revision):Option Bool:=letk (fun (x1:Bool)=>if x1 then (some false:Option Bool) else ZE Zaq (fun f13 ((x37,x38,x39):Int×Int×Int)=>if (decide (x39<(p1.length:Int))) then (atI p1 x39).bind fun e52=>letk (fun (x54:Bool)=>if x54 then (some false:Option Bool) else f13 (e52.minute,e52.seq,(w64 (x39+1)))) fun k15=>if (!decide (e52.number=(w64 (x39+1)))) then k15 true else if (decide (8192<(e52.text.size:Int))) then k15 true else if (decide (200<(e52.note.size:Int))) then k15 true else (Zej e52.user).bind fun r55=>if (!r55) then k15 true else if (decide (e52.minute<x37)) then k15 true else if (decide (p0.clock<e52.minute)) then k15 true else if (decide (e52.seq<x38)) then k15 true else k15 (decide (p0.seq<e52.seq)) else (some true:Option Bool)) (0,1,0)) fun k1=>if (decide ((p1.length:Int)<1)) then k1 true else k1 (decide (40<(p1.length:Int)))
theorem Zig (p0:State) (p1:List Revision) (r:Bool) (h:Zda p0 p1=some r):Zb Tryz.prog 116 [p0.pv,.sl (List.map Revision.cs p1)] (.bool r):=by{
refine cF (fun r=>.bool r) h mix Tryz.func116 fun r h=>?_
unfold Zda at h
refine Zf ?_
refine rg ?_
refine jL h (fun x1=>mkS [(1,.sl (List.map Revision.cs p1)),(2,.ptr 2 (1,2) 0),(16,.bool x1)] [(2,some ((1,2),.box (State.cs p0)))] 2) (fun k1 h=>?_) fun x1 h=>?_
refine rg ?_
refine lM Revision.cs p1 ?_
refine kS 12 h rfl (fun h=>?_) fun h=>?_
iterate 3 refine Zg rfl (Zf ?_)
exact jn true h (sR [(2,1,0)])
refine lM Revision.cs p1 ?_
exact jn (decide (40<(p1.length:Int))) h (sR [(2,1,0)])
refine cS h rfl (fun h=>?_) fun h=>?_
refine rg ?_
cases h
exact rQ
refine rg ?_
refine rg ?_
refine bl ?_
refine Zk h fun f13 mf13 hf13 h=>?_
refine Zi (α:=Nat×(Int×Int×Int)) (fun a _=>mkS [(1,.sl (List.map Revision.cs p1)),(2,.ptr 2 (1,2) 0),(5,.int .i64 a.2.1),(6,.int .i64 a.2.2.1),(7,.int .i64 a.2.2.2)] [(2,some ((1,2),.box (State.cs p0)))] 2) (fun a=>ZE a.1 f13 a.2=some r) (fun a=>a.1) (mf13,0,1,0) 2 h (sR [(2,1,2)]) (fun a _ h=>?_)
obtain ⟨mf13,x37,x38,x39⟩:=a
obtain ⟨mf13,rfl,h⟩:=Zl hf13 h
dsimp only at h ⊢
refine Zf ?_
refine rg ?_
refine lM Revision.cs p1 ?_
refine cS h rfl (fun h=>?_) fun h=>?_
refine bl ?_
refine rg ?_
refine aI Revision.cs h fun e52 h=>?_
refine jL h (fun x54=>mkS [(1,.sl (List.map Revision.cs p1)),(2,.ptr 2 (1,2) 0),(7,.int .i64 x39),(8,.ptr 8 (1,8) 0),(75,.bool x54)] [(2,some ((1,2),.box (State.cs p0))),(8,some ((1,8),.box (Revision.cs e52)))] 2) (fun k15 h=>?_) fun x54 h=>?_
refine rg ?_
refine kS 32 h rfl (fun h=>?_) fun h=>?_
iterate 30 refine Zg rfl (Zf ?_)
exact jn true h (sR [(2,1,2),(8,3,4)])
refine kS 38 h rfl (fun h=>?_) fun h=>?_
iterate 26 refine Zg rfl (Zf ?_)
exact jn true h (sR [(2,1,2),(8,3,4)])
refine kS 44 h rfl (fun h=>?_) fun h=>?_
iterate 22 refine Zg rfl (Zf ?_)
exact jn true h (sR [(2,1,2),(8,3,4)])
refine aC h (ZjE _) fun r55 h=>?_
refine kS 50 h rfl (fun h=>?_) fun h=>?_
iterate 18 refine Zg rfl (Zf ?_)
exact jn true h (sR [(2,1,2),(8,3,4)])
refine kS 56 h rfl (fun h=>?_) fun h=>?_
iterate 14 refine Zg rfl (Zf ?_)
exact jn true h (sR [(2,1,2),(8,3,4)])
refine kS 63 h rfl (fun h=>?_) fun h=>?_
iterate 9 refine Zg rfl (Zf ?_)
exact jn true h (sR [(2,1,2),(8,3,4)])
refine kS 69 h rfl (fun h=>?_) fun h=>?_
iterate 5 refine Zg rfl (Zf ?_)
exact jn true h (sR [(2,1,2),(8,3,4)])
exact jn (decide (p0.seq<e52.seq)) h (sR [(2,1,2),(8,3,4)])
refine cS h rfl (fun h=>?_) fun h=>?_
refine rg ?_
cases h
exact rQ
refine rg ?_
refine rg ?_
exact rn (mf13,e52.minute,e52.seq,(w64 (x39+1))) h (sR [(2,1,2)])
refine rg ?_
cases h
exact rQ}
def Zek (p0:Watch) (p1:Watch):Option Bool:=letk (fun (x2:Bool)=>(some x2:Option Bool)) fun k1=>if (ltS p0.user p1.user) then k1 true else if (decide (p0.user=p1.user)) then (Zfu p0.title p1.title).bind fun r3=>k1 (decide (r3<0)) else k1 false
theorem ZjF (p0:Watch) (p1:Watch) (r:Bool) (h:Zek p0 p1=some r):Zb Tryz.prog 120 [p0.pv,p1.pv] (.bool r):=by{
refine cF (fun r=>.bool r) h mix Tryz.func120 fun r h=>?_
unfold Zek at h
refine Zf ?_
refine rg ?_
refine jL h (fun x2=>mkS [(4,.bool x2)] [] 2) (fun k1 h=>?_) fun x2 h=>?_
refine rg ?_
refine kS 10 h rfl (fun h=>?_) fun h=>?_
iterate 13 refine Zg rfl (Zf ?_)
exact jn true h (sR [])
refine kS 16 h rfl (fun h=>?_) fun h=>?_
refine aC h (ZeY _ _) fun r3 h=>?_
exact jn (decide (r3<0)) h (sR [])
iterate 6 refine Zg rfl (Zf ?_)
exact jn false h (sR [])
cases h
exact rQ}
end
end Go.Proofs.YtpdaeclbndpabaaGreatDoor
