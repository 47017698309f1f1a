/- Functions of the program as Lean functions. Written by -/
import Derived.Test.YtpdaeclbndpabaaGreatDoorCM13
set_option linter.unusedVariables false
set_option maxHeartbeats 4000000
set_option maxRecDepth 100000
namespace Go.Proofs.YtpdaeclbndpabaaGreatDoor
section
open VL
def Zc2 (p0:State):Option Bool:=letk (fun (x1:Bool)=>if x1 then (some false:Option Bool) else ZE Zaq (fun f13 ((x52,x53):Int×Int)=>if (decide (x53<(p0.proposals.length:Int))) then (atI p0.proposals x53).bind fun e72=>letk (fun (x75:Bool)=>if x75 then (some false:Option Bool) else f13 (e72.id,(w64 (x53+1)))) fun k15=>if (decide (e72.id<=x52)) then k15 true else if (decide (p0.proposed<e72.id)) then k15 true else (Zej e72.user).bind fun r76=>if (!r76) then k15 true else (Za9 e72.title).bind fun r77=>if (!r77) then k15 true else if (decide (e72.base<0)) then k15 true else if (decide (40<e72.base)) then k15 true else if (decide (8192<(e72.text.size:Int))) then k15 true else if (decide (200<(e72.note.size:Int))) then k15 true else if (decide (e72.minute<0)) then k15 true else k15 (decide (p0.clock<e72.minute)) else (some true:Option Bool)) (0,0)) fun k1=>if (decide (40<(p0.proposals.length:Int))) then k1 true else if (decide (p0.proposed<0)) then k1 true else k1 (decide (1073741824<p0.proposed))
theorem Zlz (p0:State) (r:Bool) (h:Zc2 p0=some r):Zb Tryz.prog 60 [p0.pv] (.bool r):=by{
refine cF (fun r=>.bool r) h mix Tryz.func60 fun r h=>?_
unfold Zc2 at h
refine Zf ?_
refine rg ?_
refine jL h (fun x1=>mkS [(1,.ptr 1 (1,1) 0),(19,.bool x1)] [(1,some ((1,1),.box (State.cs p0)))] 2) (fun k1 h=>?_) fun x1 h=>?_
refine rg ?_
refine lM Proposal.cs p0.proposals ?_
refine kS 10 h rfl (fun h=>?_) fun h=>?_
iterate 6 refine Zg rfl (Zf ?_)
exact jn true h (sR [(1,1,0)])
refine kS 15 h rfl (fun h=>?_) fun h=>?_
iterate 3 refine Zg rfl (Zf ?_)
exact jn true h (sR [(1,1,0)])
exact jn (decide (1073741824<p0.proposed)) h (sR [(1,1,0)])
refine cS h rfl (fun h=>?_) fun h=>?_
refine rg ?_
cases h
exact rQ
refine rg ?_
refine rg ?_
refine bl ?_
refine Zk h fun f13 mf13 hf13 h=>?_
refine Zi (α:=Nat×(Int×Int)) (fun a _=>mkS [(1,.ptr 1 (1,1) 0),(3,.int .i64 a.2.1),(4,.int .i64 a.2.2)] [(1,some ((1,1),.box (State.cs p0)))] 2) (fun a=>ZE a.1 f13 a.2=some r) (fun a=>a.1) (mf13,0,0) 2 h (sR [(1,1,1)]) (fun a _ h=>?_)
obtain ⟨mf13,x52,x53⟩:=a
obtain ⟨mf13,rfl,h⟩:=Zl hf13 h
dsimp only at h ⊢
refine Zf ?_
refine rg ?_
refine lM Proposal.cs p0.proposals ?_
refine cS h rfl (fun h=>?_) fun h=>?_
refine bl ?_
refine rg ?_
refine aI Proposal.cs h fun e72 h=>?_
refine jL h (fun x75=>mkS [(1,.ptr 1 (1,1) 0),(4,.int .i64 x53),(5,.ptr 5 (1,5) 0),(88,.bool x75)] [(1,some ((1,1),.box (State.cs p0))),(5,some ((1,5),.box (Proposal.cs e72)))] 2) (fun k15 h=>?_) fun x75 h=>?_
refine rg ?_
refine kS 36 h rfl (fun h=>?_) fun h=>?_
iterate 35 refine Zg rfl (Zf ?_)
exact jn true h (sR [(1,1,1),(5,3,5)])
refine kS 43 h rfl (fun h=>?_) fun h=>?_
iterate 30 refine Zg rfl (Zf ?_)
exact jn true h (sR [(1,1,1),(5,3,5)])
refine aC h (ZjE _) fun r76 h=>?_
refine kS 49 h rfl (fun h=>?_) fun h=>?_
iterate 26 refine Zg rfl (Zf ?_)
exact jn true h (sR [(1,1,1),(5,3,5)])
refine aC h (Zbq _) fun r77 h=>?_
refine kS 55 h rfl (fun h=>?_) fun h=>?_
iterate 22 refine Zg rfl (Zf ?_)
exact jn true h (sR [(1,1,1),(5,3,5)])
refine kS 60 h rfl (fun h=>?_) fun h=>?_
iterate 19 refine Zg rfl (Zf ?_)
exact jn true h (sR [(1,1,1),(5,3,5)])
refine kS 65 h rfl (fun h=>?_) fun h=>?_
iterate 16 refine Zg rfl (Zf ?_)
exact jn true h (sR [(1,1,1),(5,3,5)])
refine kS 71 h rfl (fun h=>?_) fun h=>?_
iterate 12 refine Zg rfl (Zf ?_)
exact jn true h (sR [(1,1,1),(5,3,5)])
refine kS 77 h rfl (fun h=>?_) fun h=>?_
iterate 8 refine Zg rfl (Zf ?_)
exact jn true h (sR [(1,1,1),(5,3,5)])
refine kS 82 h rfl (fun h=>?_) fun h=>?_
iterate 5 refine Zg rfl (Zf ?_)
exact jn true h (sR [(1,1,1),(5,3,5)])
exact jn (decide (p0.clock<e72.minute)) h (sR [(1,1,1),(5,3,5)])
refine cS h rfl (fun h=>?_) fun h=>?_
refine rg ?_
cases h
exact rQ
refine rg ?_
refine rg ?_
exact rn (mf13,e72.id,(w64 (x53+1))) h (sR [(1,1,1)])
refine rg ?_
cases h
exact rQ}
def Zg1 (p0:State):Option Bool:=letk (fun (x1:Bool)=>if x1 then (some false:Option Bool) else ZE Zaq (fun f13 (x67:Int)=>if (decide (x67<(p0.watches.length:Int))) then (atI p0.watches x67).bind fun e98=>letk (fun (x103:Bool)=>if x103 then (some false:Option Bool) else f13 (w64 (x67+1))) fun k15=>(Zaz e98.user).bind fun r104=>if (!r104) then k15 true else (Za9 e98.title).bind fun r105=>if (!r105) then k15 true else if (decide (0<x67)) then (atI p0.watches (w64 (x67-1))).bind fun e106=>(Zek e106 e98).bind fun r107=>k15 (!r107) else k15 false else ZE Zaq (fun f27 (x149:Int)=>if (decide (x149<(p0.lasts.length:Int))) then (atI p0.lasts x149).bind fun e168=>letk (fun (x171:Bool)=>if x171 then (some false:Option Bool) else f27 (w64 (x149+1))) fun k29=>(Zaz e168.user).bind fun r172=>if (!r172) then k29 true else if (decide (e168.seq<1)) then k29 true else if (decide (p0.seq<e168.seq)) then k29 true else if (decide (0<x149)) then (atI p0.lasts (w64 (x149-1))).bind fun e173=>k29 (!ltS e173.user e168.user) else k29 false else (some true:Option Bool)) 0) 0) fun k1=>if (decide (100<(p0.watches.length:Int))) then k1 true else k1 (decide (60<(p0.lasts.length:Int)))
theorem Zqx (p0:State) (r:Bool) (h:Zg1 p0=some r):Zb Tryz.prog 61 [p0.pv] (.bool r):=by{
refine cF (fun r=>.bool r) h mix Tryz.func61 fun r h=>?_
unfold Zg1 at h
refine Zf ?_
refine rg ?_
refine jL h (fun x1=>mkS [(1,.ptr 1 (1,1) 0),(16,.bool x1)] [(1,some ((1,1),.box (State.cs p0)))] 2) (fun k1 h=>?_) fun x1 h=>?_
refine rg ?_
refine lM Watch.cs p0.watches ?_
refine kS 11 h rfl (fun h=>?_) fun h=>?_
iterate 4 refine Zg rfl (Zf ?_)
exact jn true h (sR [(1,1,0)])
refine lM Last.cs p0.lasts ?_
exact jn (decide (60<(p0.lasts.length:Int))) h (sR [(1,1,0)])
refine cS h rfl (fun h=>?_) fun h=>?_
refine rg ?_
cases h
exact rQ
refine rg ?_
refine bl ?_
refine Zk h fun f13 mf13 hf13 h=>?_
refine Zi (α:=Nat×Int) (fun a _=>mkS [(1,.ptr 1 (1,1) 0),(3,.int .i64 a.2)] [(1,some ((1,1),.box (State.cs p0)))] 2) (fun a=>ZE a.1 f13 a.2=some r) (fun a=>a.1) (mf13,0) 2 h (sR [(1,1,1)]) (fun a _ h=>?_)
obtain ⟨mf13,x67⟩:=a
obtain ⟨mf13,rfl,h⟩:=Zl hf13 h
dsimp only at h ⊢
refine Zf ?_
refine rg ?_
refine lM Watch.cs p0.watches ?_
refine cS h rfl (fun h=>?_) fun h=>?_
refine bl ?_
refine rg ?_
refine aI Watch.cs h fun e98 h=>?_
refine jL h (fun x103=>mkS [(1,.ptr 1 (1,1) 0),(3,.int .i64 x67),(53,.bool x103)] [(1,some ((1,1),.box (State.cs p0)))] 2) (fun k15 h=>?_) fun x103 h=>?_
refine rg ?_
refine aC h (ZaZ _) fun r104 h=>?_
refine kS 33 h rfl (fun h=>?_) fun h=>?_
iterate 17 refine Zg rfl (Zf ?_)
exact jn true h (sR [(1,1,1)])
refine aC h (Zbq _) fun r105 h=>?_
refine kS 39 h rfl (fun h=>?_) fun h=>?_
iterate 13 refine Zg rfl (Zf ?_)
exact jn true h (sR [(1,1,1)])
refine kS 42 h rfl (fun h=>?_) fun h=>?_
refine aI Watch.cs h fun e106 h=>?_
refine aC h (ZjF _ _) fun r107 h=>?_
exact jn (!r107) h (sR [(1,1,1)])
iterate 9 refine Zg rfl (Zf ?_)
exact jn false h (sR [(1,1,1)])
refine cS h rfl (fun h=>?_) fun h=>?_
refine rg ?_
cases h
exact rQ
refine rg ?_
exact rn (mf13,(w64 (x67+1))) h (sR [(1,1,1)])
refine rg ?_
refine bl ?_
refine Zk h fun f27 mf27 hf27 h=>?_
refine Zi (α:=Nat×Int) (fun a _=>mkS [(1,.ptr 1 (1,1) 0),(5,.int .i64 a.2)] [(1,some ((1,1),.box (State.cs p0)))] 2) (fun a=>ZE a.1 f27 a.2=some r) (fun a=>a.1) (mf27,0) 2 h (sR [(1,1,1)]) (fun a _ h=>?_)
obtain ⟨mf27,x149⟩:=a
obtain ⟨mf27,rfl,h⟩:=Zl hf27 h
dsimp only at h ⊢
refine Zf ?_
refine rg ?_
refine lM Last.cs p0.lasts ?_
refine cS h rfl (fun h=>?_) fun h=>?_
refine bl ?_
refine rg ?_
refine aI Last.cs h fun e168 h=>?_
refine jL h (fun x171=>mkS [(1,.ptr 1 (1,1) 0),(5,.int .i64 x149),(97,.bool x171)] [(1,some ((1,1),.box (State.cs p0)))] 2) (fun k29 h=>?_) fun x171 h=>?_
refine rg ?_
refine aC h (ZaZ _) fun r172 h=>?_
refine kS 70 h rfl (fun h=>?_) fun h=>?_
iterate 22 refine Zg rfl (Zf ?_)
exact jn true h (sR [(1,1,1)])
refine kS 75 h rfl (fun h=>?_) fun h=>?_
iterate 19 refine Zg rfl (Zf ?_)
exact jn true h (sR [(1,1,1)])
refine kS 82 h rfl (fun h=>?_) fun h=>?_
iterate 14 refine Zg rfl (Zf ?_)
exact jn true h (sR [(1,1,1)])
refine kS 85 h rfl (fun h=>?_) fun h=>?_
refine aI Last.cs h fun e173 h=>?_
exact jn (!ltS e173.user e168.user) h (sR [(1,1,1)])
iterate 10 refine Zg rfl (Zf ?_)
exact jn false h (sR [(1,1,1)])
refine cS h rfl (fun h=>?_) fun h=>?_
refine rg ?_
cases h
exact rQ
refine rg ?_
exact rn (mf27,(w64 (x149+1))) h (sR [(1,1,1)])
refine rg ?_
cases h
exact rQ}
end
end Go.Proofs.YtpdaeclbndpabaaGreatDoor
