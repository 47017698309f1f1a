/- Functions of the program as Lean functions. Written by -/
import Derived.Test.YtpdaeclbndpabaaGreatDoorCM10
set_option linter.unusedVariables false
set_option maxHeartbeats 4000000
set_option maxRecDepth 100000
namespace Go.Proofs.YtpdaeclbndpabaaGreatDoor
section
open VL
def ZbH (p0:State) (p1:ByteArray) (p2:Title):Option Bool:=(ZbB p0).bind fun r1=>(Zbs p0 p2).bind fun r2=>letk (fun (x5:Bool)=>(some x5:Option Bool)) fun k1=>if r2.2 then (Zbb r1 p1).bind fun r6=>(Zdo r1 r6 1 p2).bind fun r7=>k1 r7 else k1 false
theorem Ziz (p0:State) (p1:ByteArray) (p2:Title) (r:Bool) (h:ZbH p0 p1 p2=some r):Zb Tryz.prog 74 [p0.pv,.str p1,p2.pv] (.bool r):=by{
refine cF (fun r=>.bool r) h mix Tryz.func74 fun r h=>?_
unfold ZbH at h
refine Zf ?_
refine rg ?_
refine rg ?_
refine aC h (ZgW _) fun r1 h=>?_
refine rg ?_
refine aC h (ZdP _ _) fun r2 h=>?_
refine jL h (fun x5=>mkS [(6,.bool x5)] [] 2) (fun k1 h=>?_) fun x5 h=>?_
refine rg ?_
refine kS 19 h rfl (fun h=>?_) fun h=>?_
refine aC h (Zgv _ _) fun r6 h=>?_
refine aC h (ZjV _ _ _ _) fun r7 h=>?_
exact jn r7 h (sR [])
iterate 6 refine Zg rfl (Zf ?_)
exact jn false h (sR [])
cases h
exact rQ}
def Zdy (p0:State) (p1:Title) (p2:Int):Option (Revision×Bool):=(Zbs p0 p1).bind fun r1=>ZE Zaq (fun f2 (x11:Int)=>if (decide (x11<(r1.1.history.length:Int))) then (atI r1.1.history x11).bind fun e15=>if (decide (e15.number=p2)) then (some (e15,true):Option (Revision×Bool)) else f2 (w64 (x11+1)) else (some ((⟨0,(⟨#[]⟩:ByteArray),(⟨#[]⟩:ByteArray),(⟨#[]⟩:ByteArray),0,0⟩:Revision),false):Option (Revision×Bool))) 0
theorem Zj5 (p0:State) (p1:Title) (p2:Int) (r:Revision×Bool) (h:Zdy p0 p1 p2=some r):Zb Tryz.prog 88 [p0.pv,p1.pv,.int .i64 p2] (.tup [r.1.pv,.bool r.2]):=by{
refine cF (fun r=>.tup [r.1.pv,.bool r.2]) h mix Tryz.func88 fun r h=>?_
unfold Zdy at h
refine Zf ?_
refine rg ?_
refine rg ?_
refine aC h (ZdP _ _) fun r1 h=>?_
refine rg ?_
refine lM Revision.cs r1.1.history ?_
refine bl ?_
refine Zk h fun f2 mf2 hf2 h=>?_
refine Zi (α:=Nat×Int) (fun a _=>mkS [(2,.int .i64 p2),(6,.ptr 6 (1,6) 0),(19,.sl (List.map Revision.cs r1.1.history)),(20,.int .i64 (r1.1.history.length:Int)),(21,.int .i64 a.2)] [(6,some ((1,6),.box [.int .i64 0,.str (⟨#[]⟩:ByteArray),.str (⟨#[]⟩:ByteArray),.str (⟨#[]⟩:ByteArray),.int .i64 0,.int .i64 0]))] 2) (fun a=>ZE a.1 f2 a.2=some r) (fun a=>a.1) (mf2,0) 2 h (sR [(6,1,2)]) (fun a _ h=>?_)
obtain ⟨mf2,x11⟩:=a
obtain ⟨mf2,rfl,h⟩:=Zl hf2 h
dsimp only at h ⊢
refine Zf ?_
refine rg ?_
refine cS h rfl (fun h=>?_) fun h=>?_
refine bl ?_
refine rg ?_
refine aI Revision.cs h fun e15 h=>?_
refine rg ?_
refine cS h rfl (fun h=>?_) fun h=>?_
refine rg ?_
cases h
exact rQ
refine rg ?_
exact rn (mf2,(w64 (x11+1))) h (sR [(6,1,6)])
refine rg ?_
cases h
exact rQ}
def Za1 (p0:State) (p1:Title) (p2:Int):Option (ByteArray×Bool):=if (decide (p2=0)) then (some ((⟨#[]⟩:ByteArray),true):Option (ByteArray×Bool)) else (Zdy p0 p1 p2).bind fun r1=>(some (r1.1.text,r1.2):Option (ByteArray×Bool))
theorem ZeD (p0:State) (p1:Title) (p2:Int) (r:ByteArray×Bool) (h:Za1 p0 p1 p2=some r):Zb Tryz.prog 44 [p0.pv,p1.pv,.int .i64 p2] (.tup [.str r.1,.bool r.2]):=by{
refine cF (fun r=>.tup [.str r.1,.bool r.2]) h mix Tryz.func44 fun r h=>?_
unfold Za1 at h
refine Zf ?_
refine rg ?_
refine rg ?_
refine cS h rfl (fun h=>?_) fun h=>?_
refine rg ?_
cases h
exact rQ
refine rg ?_
refine aC h (Zj5 _ _ _) fun r1 h=>?_
refine rg ?_
cases h
exact rQ}
def Zfy (p0:State) (p1:ByteArray) (p2:Title) (p3:Int) (p4:Int):Option ((List Edit)×Int):=letk (fun (x3:Bool)=>if x3 then (some ([],2):Option ((List Edit)×Int)) else (ZbB p0).bind fun r4=>(Zbs p0 p2).bind fun r5=>(Za1 p0 p2 p3).bind fun r6=>(Za1 p0 p2 p4).bind fun r7=>(Zbb r4 p1).bind fun r11=>(Zdo r4 r11 1 p2).bind fun r12=>if (!r12) then (some ([],10):Option ((List Edit)×Int)) else letk (fun (x13:Bool)=>if x13 then (some ([],4):Option ((List Edit)×Int)) else (ZcU r6.1 r7.1).bind fun r14=>(some (r14,0):Option ((List Edit)×Int))) fun k3=>if (!r5.2) then k3 true else if (!r6.2) then k3 true else k3 (!r7.2)) fun k1=>(Zdh p2).bind fun r15=>if (!r15) then k1 true else if (!decide (p1=(⟨#[]⟩:ByteArray))) then (Zb0 p1).bind fun r16=>k1 (!r16) else k1 false
theorem Zlf (p0:State) (p1:ByteArray) (p2:Title) (p3:Int) (p4:Int) (r:(List Edit)×Int) (h:Zfy p0 p1 p2 p3 p4=some r):Zb Tryz.prog 17 [p0.pv,.str p1,p2.pv,.int .i64 p3,.int .i64 p4] (.tup [.sl (List.map Edit.cs r.1),.int .i64 r.2]):=by{
refine cF (fun r=>.tup [.sl (List.map Edit.cs r.1),.int .i64 r.2]) h mix Tryz.func17 fun r h=>?_
unfold Zfy at h
refine Zf ?_
refine rg ?_
refine jL h (fun x3=>mkS [(1,.str p1),(3,.int .i64 p3),(4,.int .i64 p4),(5,.ptr 5 (1,5) 0),(7,.ptr 7 (1,7) 0),(30,.bool x3)] [(5,some ((1,5),.box (State.cs p0))),(7,some ((1,7),.box (Title.cs p2)))] 2) (fun k1 h=>?_) fun x3 h=>?_
refine rg ?_
refine aC h (Zec _) fun r15 h=>?_
refine kS 22 h rfl (fun h=>?_) fun h=>?_
iterate 7 refine Zg rfl (Zf ?_)
exact jn true h (sR [(5,1,0),(7,1,1)])
refine kS 25 h rfl (fun h=>?_) fun h=>?_
refine aC h (ZcN _) fun r16 h=>?_
exact jn (!r16) h (sR [(5,1,0),(7,1,1)])
iterate 3 refine Zg rfl (Zf ?_)
exact jn false h (sR [(5,1,0),(7,1,1)])
refine cS h rfl (fun h=>?_) fun h=>?_
refine rg ?_
cases h
exact rQ
refine rg ?_
refine aC h (ZgW _) fun r4 h=>?_
refine rg ?_
refine aC h (ZdP _ _) fun r5 h=>?_
refine rg ?_
refine aC h (ZeD _ _ _) fun r6 h=>?_
refine rg ?_
refine aC h (ZeD _ _ _) fun r7 h=>?_
refine bl ?_
refine rg ?_
refine aC h (Zgv _ _) fun r11 h=>?_
refine aC h (ZjV _ _ _ _) fun r12 h=>?_
refine cS h rfl (fun h=>?_) fun h=>?_
refine rg ?_
cases h
exact rQ
refine jL h (fun x13=>mkS [(15,.str r6.1),(17,.str r7.1),(61,.bool x13)] [] 2) (fun k3 h=>?_) fun x13 h=>?_
refine rg ?_
refine kS 64 h rfl (fun h=>?_) fun h=>?_
iterate 4 refine Zg rfl (Zf ?_)
exact jn true h (sR [])
refine kS 68 h rfl (fun h=>?_) fun h=>?_
iterate 2 refine Zg rfl (Zf ?_)
exact jn true h (sR [])
exact jn (!r7.2) h (sR [])
refine cS h rfl (fun h=>?_) fun h=>?_
refine rg ?_
cases h
exact rQ
refine rg ?_
refine aC h (Zp4 _ _) fun r14 h=>?_
cases h
exact rQ}
def Zfg (p0:ByteArray):Option (List ByteArray):=ZE Zaq (fun f7 ((x36,x37,x38):Int×Int×(List ByteArray))=>if (decide (x37<(p0.size:Int))) then letk (fun (x50:Int) (x51:List ByteArray)=>f7 (x50,(w64 (x37+1)),x51)) fun k8=>(atS p0 x37).bind fun c52=>if (decide (c52=10)) then (Zff p0 x36 (w64 (x37+1))).bind fun l53=>(Zbo 16 x38 [l53]).bind fun l54=>k8 (w64 (x37+1)) l54 else k8 x36 x38 else letk (fun (x57:List ByteArray)=>(some x57:Option (List ByteArray))) fun k9=>if (decide (x36<(p0.size:Int))) then (Zff p0 x36 (p0.size:Int)).bind fun l58=>(Zbo 16 x38 [l58]).bind fun l59=>k9 l59 else k9 x38) (0,0,([]:List ByteArray))
theorem ZkA (p0:ByteArray) (r:List ByteArray) (h:Zfg p0=some r):Zb Tryz.prog 109 [.str p0] (.sl (List.map csS r)):=by{
refine cF (fun r=>.sl (List.map csS r)) h mix Tryz.func109 fun r h=>?_
unfold Zfg at h
refine Zf ?_
refine rg ?_
refine rg ?_
refine rg ?_
refine rg ?_
refine bl ?_
refine Zk h fun f7 mf7 hf7 h=>?_
refine Zi (α:=Nat×(Int×Int×(List ByteArray))) (fun a _=>mkS [(0,.str p0),(3,.row 3 (1,3)),(4,.int .i64 a.2.1),(5,.int .i64 a.2.2.1)] [(3,some ((1,3),.row 9 1 false (List.map csS a.2.2.2)))] 2) (fun a=>ZE a.1 f7 a.2=some r) (fun a=>a.1) (mf7,0,0,([]:List ByteArray)) 2 h (Zam [] 3 9 1 rfl ⟨rfl,rfl,rfl,rfl,trivial⟩ ⟨⟨rfl,rfl⟩,trivial⟩ rfl) (fun a _ h=>?_)
obtain ⟨mf7,x36,x37,x38⟩:=a
obtain ⟨mf7,rfl,h⟩:=Zl hf7 h
dsimp only at h ⊢
refine Zf ?_
refine rg ?_
refine cS h rfl (fun h=>?_) fun h=>?_
refine Zag h fun k8 hk8 h=>?_
refine Zax (α:=Int×(List ByteArray)) (fun a _=>mkS [(0,.str p0),(3,.row 3 (1,3)),(4,.int .i64 a.1),(5,.int .i64 x37)] [(3,some ((1,3),.row 9 1 false (List.map csS a.2)))] 2) (fun a=>k8 a.1 a.2=some r) (Zf ?_) (fun a _ h=>?_)
refine bl ?_
refine rg ?_
refine aS h fun c52 h=>?_
refine cS h rfl (fun h=>?_) fun h=>?_
refine rg ?_
refine sS h fun l53 h=>?_
refine bM csS ([l53]:List ByteArray) ?_
refine pR csS h fun l54 h=>?_
refine rg ?_
exact jn ((w64 (x37+1)),l54) h (sR [(3,4,7)])
exact jn (x36,x38) h (sR [(3,1,3)])
obtain ⟨x50,x51⟩:=a
subst hk8
dsimp only at h ⊢
refine Zf ?_
refine rg ?_
exact rn (mf7,x50,(w64 (x37+1)),x51) h (sR [(3,1,3)])
refine rg ?_
refine jL h (fun x57=>mkS [(3,.row 3 (1,3))] [(3,some ((1,3),.row 9 1 false (List.map csS x57)))] 2) (fun k9 h=>?_) fun x57 h=>?_
refine cS h rfl (fun h=>?_) fun h=>?_
refine rg ?_
refine sS h fun l58 h=>?_
refine bM csS ([l58]:List ByteArray) ?_
refine pR csS h fun l59 h=>?_
exact jn l59 h (sR [(3,4,5)])
exact jn x38 h (sR [(3,1,3)])
refine rg ?_
cases h
exact rQ}
end
end Go.Proofs.YtpdaeclbndpabaaGreatDoor
