/- Functions of the program as Lean functions. Written by -/
import Derived.Test.YtpdaeclbndpabaaGreatDoorCM16
import Derived.Test.YtpdaeclbndpabaaGreatDoorCM14
set_option linter.unusedVariables false
set_option maxHeartbeats 4000000
set_option maxRecDepth 100000
namespace Go.Proofs.YtpdaeclbndpabaaGreatDoor
section
open VL
def Zp (p0:Policy) (p1:ByteArray):Option (Policy×Bool):=(Zlj p1).bind fun r1=>letk (fun (x4:Bool)=>if x4 then (some (p0,true):Option (Policy×Bool)) else (atI r1 0).bind fun e5=>if (decide (e5=(⟨#[103,114,111,117,112]⟩:ByteArray))) then if (decide ((r1.length:Int)<2)) then (some (p0,false):Option (Policy×Bool)) else (Zbo 40 [] p0.groups).bind fun l32=>(atI r1 1).bind fun e33=>(Zgj r1 2 (r1.length:Int)).bind fun l34=>(Zbo 16 [] l34).bind fun l35=>(Zbo 40 l32 [(⟨e33,l35⟩:Group)]).bind fun l36=>(some ((⟨l36,p0.rules,p0.guards⟩:Policy),true):Option (Policy×Bool)) else letk (fun (x37:Bool)=>if x37 then letk (fun (x40:Bool)=>if x40 then (some (p0,false):Option (Policy×Bool)) else (Zkk p1 3).bind fun r41=>(ZfP r41).bind fun r42=>(Zbo 64 [] p0.rules).bind fun l43=>(atI r1 0).bind fun e44=>(atI r1 1).bind fun e45=>(Zf2 e45).bind fun r46=>(atI r1 2).bind fun e47=>(Zbo 64 l43 [(⟨(decide (e44=(⟨#[97,108,108,111,119]⟩:ByteArray))),r46,e47,r42.1⟩:Rule)]).bind fun l48=>(some ((⟨p0.groups,l48,p0.guards⟩:Policy),r42.2):Option (Policy×Bool))) fun k6=>if (decide ((r1.length:Int)<4)) then k6 true else (atI r1 1).bind fun e49=>(Zf2 e49).bind fun r50=>k6 (decide (r50=0)) else letk (fun (x51:Bool)=>if x51 then if (decide ((r1.length:Int)<3)) then (some (p0,false):Option (Policy×Bool)) else (Zkk p1 2).bind fun r52=>(ZfQ r52).bind fun r53=>(Zbo 64 [] p0.guards).bind fun l54=>(atI r1 0).bind fun e55=>(atI r1 1).bind fun e56=>(Zbo 64 l54 [(⟨(decide (e55=(⟨#[115,116,114,105,99,116]⟩:ByteArray))),e56,r53.1,r53.2.1⟩:Guard)]).bind fun l57=>(some ((⟨p0.groups,p0.rules,l57⟩:Policy),r53.2.2):Option (Policy×Bool)) else (some (p0,false):Option (Policy×Bool))) fun k7=>if (decide (e5=(⟨#[103,117,97,114,100]⟩:ByteArray))) then k7 (decide (e5=(⟨#[103,117,97,114,100]⟩:ByteArray))) else k7 (decide (e5=(⟨#[115,116,114,105,99,116]⟩:ByteArray)))) fun k5=>if (decide (e5=(⟨#[97,108,108,111,119]⟩:ByteArray))) then k5 (decide (e5=(⟨#[97,108,108,111,119]⟩:ByteArray))) else k5 (decide (e5=(⟨#[100,101,110,121]⟩:ByteArray)))) fun k1=>if (decide ((r1.length:Int)=0)) then k1 true else (atI r1 0).bind fun e58=>(atS e58 0).bind fun c59=>k1 (decide (c59=35))
theorem ZkO (p0:Policy) (p1:ByteArray) (r:Policy×Bool) (h:Zp p0 p1=some r):Zb Tryz.prog 129 [p0.pv,.str p1] (.tup [r.1.pv,.bool r.2]):=by{
refine cF (fun r=>.tup [r.1.pv,.bool r.2]) h mix Tryz.func129 fun r h=>?_
unfold Zp at h
refine Zf ?_
refine rg ?_
refine rg ?_
refine aC h (Zqb _) fun r1 h=>?_
refine jL h (fun x4=>mkS [(1,.str p1),(2,.ptr 2 (1,2) 0),(4,.ptr 4 (1,4) 0),(6,.sl (List.map csS r1)),(23,.bool x4)] [(2,some ((1,2),.box (Policy.cs p0))),(4,some ((1,4),.box [.nil,.nil,.nil]))] 2) (fun k1 h=>?_) fun x4 h=>?_
refine rg ?_
refine lM csS r1 ?_
refine kS 17 h rfl (fun h=>?_) fun h=>?_
iterate 5 refine Zg rfl (Zf ?_)
exact jn true h (sR [(2,1,0),(4,1,1)])
refine aI csS h fun e58 h=>?_
refine aS h fun c59 h=>?_
exact jn (decide (c59=35)) h (sR [(2,1,0),(4,1,1)])
refine cS h rfl (fun h=>?_) fun h=>?_
refine rg ?_
cases h
exact rQ
refine rg ?_
refine aI csS h fun e5 h=>?_
refine bl ?_
refine rg ?_
refine cS h rfl (fun h=>?_) fun h=>?_
refine rg ?_
refine lM csS r1 ?_
refine cS h rfl (fun h=>?_) fun h=>?_
refine rg ?_
cases h
exact rQ
refine rg ?_
obtain ⟨l32,h28,h⟩:=bnd h
refine ZeS (f:=Group.cs) rfl h28 (fun _=>rfl) rfl rfl rfl (Zf ?_)
refine aI csS h fun e33 h=>?_
refine sM csS h fun l34 h=>?_
obtain ⟨l35,h31,h⟩:=bnd h
refine ZeS (f:=csS) rfl h31 (fun _=>rfl) rfl rfl rfl (Zf ?_)
refine ZF (M:=([(⟨e33,l35⟩:Group)]:List Group)) (f:=Group.cs) rfl rfl rfl rfl (Nat.le_of_ble_eq_true rfl) rfl (Zf ?_)
refine pR Group.cs h fun l36 h=>?_
refine rg ?_
cases h
exact rQ
refine rg ?_
refine jL h (fun x37=>mkS [(1,.str p1),(2,.ptr 2 (1,2) 0),(4,.ptr 4 (1,4) 0),(6,.sl (List.map csS r1)),(27,.str e5),(48,.bool x37)] [(2,some ((1,2),.box (Policy.cs p0))),(4,some ((1,4),.box [.nil,.nil,.nil]))] 2) (fun k5 h=>?_) fun x37 h=>?_
refine cS h rfl (fun h=>?_) fun h=>?_
exact jn (decide (e5=(⟨#[97,108,108,111,119]⟩:ByteArray))) h (sR [(2,1,2),(4,1,4)])
refine rg ?_
exact jn (decide (e5=(⟨#[100,101,110,121]⟩:ByteArray))) h (sR [(2,1,2),(4,1,4)])
refine cS h rfl (fun h=>?_) fun h=>?_
refine jL h (fun x40=>mkS [(1,.str p1),(2,.ptr 2 (1,2) 0),(4,.ptr 4 (1,4) 0),(6,.sl (List.map csS r1)),(60,.bool x40)] [(2,some ((1,2),.box (Policy.cs p0))),(4,some ((1,4),.box [.nil,.nil,.nil]))] 2) (fun k6 h=>?_) fun x40 h=>?_
refine rg ?_
refine lM csS r1 ?_
refine kS 54 h rfl (fun h=>?_) fun h=>?_
iterate 5 refine Zg rfl (Zf ?_)
exact jn true h (sR [(2,1,2),(4,1,4)])
refine aI csS h fun e49 h=>?_
refine aC h (ZiK _) fun r50 h=>?_
exact jn (decide (r50=0)) h (sR [(2,1,2),(4,1,4)])
refine cS h rfl (fun h=>?_) fun h=>?_
refine rg ?_
cases h
exact rQ
refine rg ?_
refine aC h (Zml _ _) fun r41 h=>?_
refine aC h (ZkT _) fun r42 h=>?_
refine rg ?_
obtain ⟨l43,h37,h⟩:=bnd h
refine ZeS (f:=Rule.cs) rfl h37 (fun _=>rfl) rfl rfl rfl (Zf ?_)
refine aI csS h fun e44 h=>?_
refine aI csS h fun e45 h=>?_
refine aC h (ZiK _) fun r46 h=>?_
refine aI csS h fun e47 h=>?_
refine ZF (M:=([(⟨(decide (e44=(⟨#[97,108,108,111,119]⟩:ByteArray))),r46,e47,r42.1⟩:Rule)]:List Rule)) (f:=Rule.cs) rfl rfl rfl rfl (Nat.le_of_ble_eq_true rfl) rfl (Zf ?_)
refine pR Rule.cs h fun l48 h=>?_
refine rg ?_
cases h
exact rQ
refine rg ?_
refine jL h (fun x51=>mkS [(1,.str p1),(2,.ptr 2 (1,2) 0),(4,.ptr 4 (1,4) 0),(6,.sl (List.map csS r1)),(89,.bool x51)] [(2,some ((1,2),.box (Policy.cs p0))),(4,some ((1,4),.box [.nil,.nil,.nil]))] 2) (fun k7 h=>?_) fun x51 h=>?_
refine cS h rfl (fun h=>?_) fun h=>?_
exact jn (decide (e5=(⟨#[103,117,97,114,100]⟩:ByteArray))) h (sR [(2,1,2),(4,1,4)])
refine rg ?_
exact jn (decide (e5=(⟨#[115,116,114,105,99,116]⟩:ByteArray))) h (sR [(2,1,2),(4,1,4)])
refine cS h rfl (fun h=>?_) fun h=>?_
refine rg ?_
refine lM csS r1 ?_
refine cS h rfl (fun h=>?_) fun h=>?_
refine rg ?_
cases h
exact rQ
refine rg ?_
refine aC h (Zml _ _) fun r52 h=>?_
refine aC h (ZkU _) fun r53 h=>?_
refine rg ?_
obtain ⟨l54,h47,h⟩:=bnd h
refine ZeS (f:=Guard.cs) rfl h47 (fun _=>rfl) rfl rfl rfl (Zf ?_)
refine aI csS h fun e55 h=>?_
refine aI csS h fun e56 h=>?_
refine ZF (M:=([(⟨(decide (e55=(⟨#[115,116,114,105,99,116]⟩:ByteArray))),e56,r53.1,r53.2.1⟩:Guard)]:List Guard)) (f:=Guard.cs) rfl rfl rfl rfl (Nat.le_of_ble_eq_true rfl) rfl (Zf ?_)
refine pR Guard.cs h fun l57 h=>?_
refine rg ?_
cases h
exact rQ
refine rg ?_
cases h
exact rQ}
def ZW (p0:ByteArray):Option (Policy×Int×Int):=if (decide (8192<(p0.size:Int))) then (some ((⟨[],[],[]⟩:Policy),0,3):Option (Policy×Int×Int)) else (ZiJ p0).bind fun r1=>ZE Zaq (fun f2 ((x22,x23,x24,x25):Int×(List Group)×(List Rule)×(List Guard))=>if (decide (x22<(r1.length:Int))) then (atI r1 x22).bind fun e32=>(Zp (⟨x23,x24,x25⟩:Policy) e32).bind fun r33=>if (!r33.2) then (some ((⟨[],[],[]⟩:Policy),(w64 (x22+1)),1):Option (Policy×Int×Int)) else f2 ((w64 (x22+1)),r33.1.groups,r33.1.rules,r33.1.guards) else (ZeU (⟨x23,x24,x25⟩:Policy)).bind fun r34=>if (!decide (r34=0)) then (some ((⟨[],[],[]⟩:Policy),0,r34):Option (Policy×Int×Int)) else (some ((⟨x23,x24,x25⟩:Policy),0,0):Option (Policy×Int×Int))) (0,[],[],[])
theorem ZhO (p0:ByteArray) (r:Policy×Int×Int) (h:ZW p0=some r):Zb Tryz.prog 73 [.str p0] (.tup [r.1.pv,.int .i64 r.2.1,.int .i64 r.2.2]):=by{
refine cF (fun r=>.tup [r.1.pv,.int .i64 r.2.1,.int .i64 r.2.2]) h mix Tryz.func73 fun r h=>?_
unfold ZW at h
refine Zf ?_
refine rg ?_
refine rg ?_
refine cS h rfl (fun h=>?_) fun h=>?_
refine rg ?_
cases h
exact rQ
refine rg ?_
refine rg ?_
refine aC h (Zqa _) fun r1 h=>?_
refine rg ?_
refine bl ?_
refine Zk h fun f2 mf2 hf2 h=>?_
refine Zi (α:=Nat×(Int×(List Group)×(List Rule)×(List Guard))) (fun a _=>mkS [(2,.ptr 2 (1,2) 0),(5,.ptr 5 (1,5) 0),(6,.sl (List.map csS r1)),(7,.int .i64 a.2.1)] [(2,some ((1,2),.box [.nil,.nil,.nil])),(5,some ((1,5),.box [.sl (List.map Group.cs a.2.2.1),.sl (List.map Rule.cs a.2.2.2.1),.sl (List.map Guard.cs a.2.2.2.2)]))] 2) (fun a=>ZE a.1 f2 a.2=some r) (fun a=>a.1) (mf2,0,[],[],[]) 2 h (Shift.trans (ZfU 5 rfl rfl) (sR [(2,1,0),(5,3,0)])) (fun a _ h=>?_)
obtain ⟨mf2,x22,x23,x24,x25⟩:=a
obtain ⟨mf2,rfl,h⟩:=Zl hf2 h
dsimp only at h ⊢
refine Zf ?_
refine rg ?_
refine lM csS r1 ?_
refine cS h rfl (fun h=>?_) fun h=>?_
refine bl ?_
refine rg ?_
refine aI csS h fun e32 h=>?_
refine aC h (ZkO _ _) fun r33 h=>?_
refine rg ?_
refine cS h rfl (fun h=>?_) fun h=>?_
refine rg ?_
cases h
exact rQ
refine rg ?_
refine rg ?_
exact rn (mf2,(w64 (x22+1)),r33.1.groups,r33.1.rules,r33.1.guards) h (sR [(2,1,2),(5,1,5)])
refine rg ?_
refine aC h (ZlI _) fun r34 h=>?_
refine rg ?_
refine cS h rfl (fun h=>?_) fun h=>?_
refine rg ?_
cases h
exact rQ
refine rg ?_
cases h
exact rQ}
def Zgr (p0:State):Option Bool:=letk (fun (x1:Bool)=>if x1 then (some false:Option Bool) else ZE Zaq (fun f13 (x67:Int)=>if (decide (x67<(p0.pages.length:Int))) then (atI p0.pages x67).bind fun e98=>letk (fun (x103:Bool)=>if x103 then (some false:Option Bool) else f13 (w64 (x67+1))) fun k15=>(Za9 e98.title).bind fun r104=>if (!r104) then k15 true else (Zda p0 e98.history).bind fun r105=>if (!r105) then k15 true else if (decide (0<x67)) then (atI p0.pages (w64 (x67-1))).bind fun e106=>(Zfu e106.title e98.title).bind fun r107=>k15 (decide (0<=r107)) else k15 false else ZE Zaq (fun f27 (x181:Int)=>if (decide (x181<(p0.gone.length:Int))) then letk (fun (x213:Bool)=>if x213 then (some false:Option Bool) else f27 (w64 (x181+1))) fun k29=>(atI p0.gone x181).bind fun e214=>(Za9 e214.title).bind fun r215=>if (!r215) then k29 true else (atI p0.gone x181).bind fun e216=>(Zda p0 e216.history).bind fun r217=>k29 (!r217) else (Zde).bind fun r218=>(ZbY p0 r218).bind fun r219=>if r219.2 then (Zct r219.1).bind fun r222=>(ZW r222.text).bind fun r223=>(some (decide (r223.2.2=0)):Option Bool) else (some true:Option Bool)) 0) 0) fun k1=>if (decide (200<(p0.pages.length:Int))) then k1 true else k1 (decide (100<(p0.gone.length:Int)))
theorem Zpu (p0:State) (r:Bool) (h:Zgr p0=some r):Zb Tryz.prog 59 [p0.pv] (.bool r):=by{
refine cF (fun r=>.bool r) h mix Tryz.func59 fun r h=>?_
unfold Zgr at h
refine Zf ?_
refine rg ?_
refine jL h (fun x1=>mkS [(1,.ptr 1 (1,1) 0),(20,.bool x1)] [(1,some ((1,1),.box (State.cs p0)))] 2) (fun k1 h=>?_) fun x1 h=>?_
refine rg ?_
refine lM Stored.cs p0.pages ?_
refine kS 15 h rfl (fun h=>?_) fun h=>?_
iterate 4 refine Zg rfl (Zf ?_)
exact jn true h (sR [(1,1,0)])
refine lM Stored.cs p0.gone ?_
exact jn (decide (100<(p0.gone.length:Int))) h (sR [(1,1,0)])
refine cS h rfl (fun h=>?_) fun h=>?_
refine rg ?_
cases h
exact rQ
refine rg ?_
refine bl ?_
refine Zk h fun f13 mf13 hf13 h=>?_
refine Zi (α:=Nat×Int) (fun a _=>mkS [(1,.ptr 1 (1,1) 0),(3,.int .i64 a.2)] [(1,some ((1,1),.box (State.cs p0)))] 2) (fun a=>ZE a.1 f13 a.2=some r) (fun a=>a.1) (mf13,0) 2 h (sR [(1,1,1)]) (fun a _ h=>?_)
obtain ⟨mf13,x67⟩:=a
obtain ⟨mf13,rfl,h⟩:=Zl hf13 h
dsimp only at h ⊢
refine Zf ?_
refine rg ?_
refine lM Stored.cs p0.pages ?_
refine cS h rfl (fun h=>?_) fun h=>?_
refine bl ?_
refine rg ?_
refine aI Stored.cs h fun e98 h=>?_
refine jL h (fun x103=>mkS [(1,.ptr 1 (1,1) 0),(3,.int .i64 x67),(60,.bool x103)] [(1,some ((1,1),.box (State.cs p0)))] 2) (fun k15 h=>?_) fun x103 h=>?_
refine rg ?_
refine aC h (Zbq _) fun r104 h=>?_
refine kS 37 h rfl (fun h=>?_) fun h=>?_
iterate 20 refine Zg rfl (Zf ?_)
exact jn true h (sR [(1,1,1)])
refine aC h (Zig _ _) fun r105 h=>?_
refine kS 44 h rfl (fun h=>?_) fun h=>?_
iterate 15 refine Zg rfl (Zf ?_)
exact jn true h (sR [(1,1,1)])
refine kS 47 h rfl (fun h=>?_) fun h=>?_
refine aI Stored.cs h fun e106 h=>?_
refine aC h (ZeY _ _) fun r107 h=>?_
exact jn (decide (0<=r107)) h (sR [(1,1,1)])
iterate 11 refine Zg rfl (Zf ?_)
exact jn false h (sR [(1,1,1)])
refine cS h rfl (fun h=>?_) fun h=>?_
refine rg ?_
cases h
exact rQ
refine rg ?_
exact rn (mf13,(w64 (x67+1))) h (sR [(1,1,1)])
refine rg ?_
refine bl ?_
refine Zk h fun f27 mf27 hf27 h=>?_
refine Zi (α:=Nat×Int) (fun a _=>mkS [(1,.ptr 1 (1,1) 0),(5,.int .i64 a.2)] [(1,some ((1,1),.box (State.cs p0)))] 2) (fun a=>ZE a.1 f27 a.2=some r) (fun a=>a.1) (mf27,0) 2 h (sR [(1,1,1)]) (fun a _ h=>?_)
obtain ⟨mf27,x181⟩:=a
obtain ⟨mf27,rfl,h⟩:=Zl hf27 h
dsimp only at h ⊢
refine Zf ?_
refine rg ?_
refine lM Stored.cs p0.gone ?_
refine cS h rfl (fun h=>?_) fun h=>?_
refine bl ?_
refine jL h (fun x213=>mkS [(1,.ptr 1 (1,1) 0),(5,.int .i64 x181),(86,.bool x213)] [(1,some ((1,1),.box (State.cs p0)))] 2) (fun k29 h=>?_) fun x213 h=>?_
refine rg ?_
refine aI Stored.cs h fun e214 h=>?_
refine aC h (Zbq _) fun r215 h=>?_
refine kS 76 h rfl (fun h=>?_) fun h=>?_
iterate 9 refine Zg rfl (Zf ?_)
exact jn true h (sR [(1,1,1)])
refine aI Stored.cs h fun e216 h=>?_
refine aC h (Zig _ _) fun r217 h=>?_
exact jn (!r217) h (sR [(1,1,1)])
refine cS h rfl (fun h=>?_) fun h=>?_
refine rg ?_
cases h
exact rQ
refine rg ?_
exact rn (mf27,(w64 (x181+1))) h (sR [(1,1,1)])
refine rg ?_
refine aC h ZdH fun r218 h=>?_
refine aC h (Zem _ _) fun r219 h=>?_
refine rg ?_
refine cS h rfl (fun h=>?_) fun h=>?_
refine rg ?_
refine aC h (Ziw _) fun r222 h=>?_
refine aC h (ZhO _) fun r223 h=>?_
refine rg ?_
cases h
exact rQ
refine rg ?_
cases h
exact rQ}
def Zfj (p0:State):Option Bool:=letk (fun (x1:Bool)=>if x1 then (some false:Option Bool) else letk (fun (x5:Bool)=>(some x5:Option Bool)) fun k2=>(Zgr p0).bind fun r6=>if r6 then (Zc2 p0).bind fun r7=>if r7 then (Zg1 p0).bind fun r8=>k2 r8 else k2 false else k2 false) fun k1=>if (decide (p0.seq<0)) then k1 true else if (decide (1073741824<p0.seq)) then k1 true else if (decide (p0.clock<0)) then k1 true else k1 (decide (52595999<p0.clock))
theorem Zpv (p0:State) (r:Bool) (h:Zfj p0=some r):Zb Tryz.prog 31 [p0.pv] (.bool r):=by{
refine cF (fun r=>.bool r) h mix Tryz.func31 fun r h=>?_
unfold Zfj at h
refine Zf ?_
refine rg ?_
refine jL h (fun x1=>mkS [(1,.ptr 1 (1,1) 0),(20,.bool x1)] [(1,some ((1,1),.box (State.cs p0)))] 2) (fun k1 h=>?_) fun x1 h=>?_
refine rg ?_
refine kS 6 h rfl (fun h=>?_) fun h=>?_
iterate 9 refine Zg rfl (Zf ?_)
exact jn true h (sR [(1,1,0)])
refine kS 11 h rfl (fun h=>?_) fun h=>?_
iterate 6 refine Zg rfl (Zf ?_)
exact jn true h (sR [(1,1,0)])
refine kS 16 h rfl (fun h=>?_) fun h=>?_
iterate 3 refine Zg rfl (Zf ?_)
exact jn true h (sR [(1,1,0)])
exact jn (decide (52595999<p0.clock)) h (sR [(1,1,0)])
refine cS h rfl (fun h=>?_) fun h=>?_
refine rg ?_
cases h
exact rQ
refine jL h (fun x5=>mkS [(2,.bool x5)] [] 2) (fun k2 h=>?_) fun x5 h=>?_
refine rg ?_
refine aC h (Zpu _) fun r6 h=>?_
refine kS 23 h rfl (fun h=>?_) fun h=>?_
refine aC h (Zlz _) fun r7 h=>?_
refine kS 27 h rfl (fun h=>?_) fun h=>?_
refine aC h (Zqx _) fun r8 h=>?_
exact jn r8 h (sR [])
iterate 2 refine Zg rfl (Zf ?_)
exact jn false h (sR [])
iterate 4 refine Zg rfl (Zf ?_)
exact jn false h (sR [])
cases h
exact rQ}
def ZiL (p0:Change):Option Bool:=letk (fun (x1:Bool)=>letk (fun (x2:Bool)=>letk (fun (x3:Bool)=>letk (fun (x4:Bool)=>if x4 then (some false:Option Bool) else letk (fun (x5:Bool)=>if x5 then (some false:Option Bool) else letk (fun (x6:Bool)=>if x6 then (some false:Option Bool) else letk (fun (x7:Bool)=>(some x7:Option Bool)) fun k7=>if (decide (p0.kind=4)) then if (decide (p0.kind=5)) then k7 true else k7 (decide ((p0.history.length:Int)=0)) else if (decide (p0.to=(⟨0,(⟨#[]⟩:ByteArray)⟩:Title))) then if (decide (p0.kind=5)) then k7 true else k7 (decide ((p0.history.length:Int)=0)) else k7 false) fun k6=>if (decide (p0.kind=6)) then k6 (!decide (p0.user=(⟨#[]⟩:ByteArray))) else k6 false) fun k5=>if (!x1) then if (!decide (p0.note=(⟨#[]⟩:ByteArray))) then k5 true else if (!decide (p0.text=(⟨#[]⟩:ByteArray))) then k5 true else if (!x2) then if (!decide (p0.n=0)) then k5 true else if (!x3) then k5 (!decide (p0.title=(⟨0,(⟨#[]⟩:ByteArray)⟩:Title))) else k5 false else if (!x3) then k5 (!decide (p0.title=(⟨0,(⟨#[]⟩:ByteArray)⟩:Title))) else k5 false else if (!x2) then if (!decide (p0.n=0)) then k5 true else if (!x3) then k5 (!decide (p0.title=(⟨0,(⟨#[]⟩:ByteArray)⟩:Title))) else k5 false else if (!x3) then k5 (!decide (p0.title=(⟨0,(⟨#[]⟩:ByteArray)⟩:Title))) else k5 false) fun k4=>if (decide (p0.kind<1)) then k4 true else k4 (decide (10<p0.kind))) fun k3=>if (!decide (p0.kind=6)) then k3 (!decide (p0.kind=10)) else k3 false) fun k2=>if (decide (p0.kind=4)) then k2 true else if (decide (p0.kind=6)) then k2 true else if (decide (p0.kind=9)) then k2 true else k2 (decide (p0.kind=10))) fun k1=>if (decide (p0.kind=1)) then k1 true else k1 (decide (p0.kind=9))
theorem Zsf (p0:Change) (r:Bool) (h:ZiL p0=some r):Zb Tryz.prog 62 [p0.pv] (.bool r):=by{
refine cF (fun r=>.bool r) h mix Tryz.func62 fun r h=>?_
unfold ZiL at h
refine Zf ?_
refine rg ?_
refine jL h (fun x1=>mkS [(1,.ptr 1 (1,1) 0),(3,.bool x1)] [(1,some ((1,1),.box (Change.cs p0)))] 2) (fun k1 h=>?_) fun x1 h=>?_
refine rg ?_
refine kS 9 h rfl (fun h=>?_) fun h=>?_
iterate 3 refine Zg rfl (Zf ?_)
exact jn true h (sR [(1,1,0)])
exact jn (decide (p0.kind=9)) h (sR [(1,1,0)])
refine jL h (fun x2=>mkS [(1,.ptr 1 (1,1) 0),(3,.bool x1),(4,.bool x2)] [(1,some ((1,1),.box (Change.cs p0)))] 2) (fun k2 h=>?_) fun x2 h=>?_
refine rg ?_
refine kS 17 h rfl (fun h=>?_) fun h=>?_
iterate 9 refine Zg rfl (Zf ?_)
exact jn true h (sR [(1,1,1)])
refine kS 22 h rfl (fun h=>?_) fun h=>?_
iterate 6 refine Zg rfl (Zf ?_)
exact jn true h (sR [(1,1,1)])
refine kS 27 h rfl (fun h=>?_) fun h=>?_
iterate 3 refine Zg rfl (Zf ?_)
exact jn true h (sR [(1,1,1)])
exact jn (decide (p0.kind=10)) h (sR [(1,1,1)])
refine jL h (fun x3=>mkS [(1,.ptr 1 (1,1) 0),(3,.bool x1),(4,.bool x2),(5,.bool x3)] [(1,some ((1,1),.box (Change.cs p0)))] 2) (fun k3 h=>?_) fun x3 h=>?_
refine rg ?_
refine kS 35 h rfl (fun h=>?_) fun h=>?_
exact jn (!decide (p0.kind=10)) h (sR [(1,1,1)])
iterate 3 refine Zg rfl (Zf ?_)
exact jn false h (sR [(1,1,1)])
refine jL h (fun x4=>mkS [(1,.ptr 1 (1,1) 0),(3,.bool x1),(4,.bool x2),(5,.bool x3),(47,.bool x4)] [(1,some ((1,1),.box (Change.cs p0)))] 2) (fun k4 h=>?_) fun x4 h=>?_
refine rg ?_
refine kS 43 h rfl (fun h=>?_) fun h=>?_
iterate 3 refine Zg rfl (Zf ?_)
exact jn true h (sR [(1,1,1)])
exact jn (decide (10<p0.kind)) h (sR [(1,1,1)])
refine cS h rfl (fun h=>?_) fun h=>?_
refine rg ?_
cases h
exact rQ
refine jL h (fun x5=>mkS [(1,.ptr 1 (1,1) 0),(78,.bool x5)] [(1,some ((1,1),.box (Change.cs p0)))] 2) (fun k5 h=>?_) fun x5 h=>?_
refine rg ?_
refine kS 50 h rfl (fun h=>?_) fun h=>?_
refine kS 54 h rfl (fun h=>?_) fun h=>?_
iterate 18 refine Zg rfl (Zf ?_)
exact jn true h (sR [(1,1,1)])
refine kS 60 h rfl (fun h=>?_) fun h=>?_
iterate 15 refine Zg rfl (Zf ?_)
exact jn true h (sR [(1,1,1)])
refine kS 63 h rfl (fun h=>?_) fun h=>?_
refine kS 69 h rfl (fun h=>?_) fun h=>?_
iterate 8 refine Zg rfl (Zf ?_)
exact jn true h (sR [(1,1,1)])
refine kS 72 h rfl (fun h=>?_) fun h=>?_
refine ZeM (.inr rfl) rfl rfl rfl rfl rfl (fun W=>ZeX p0.title (⟨0,(⟨#[]⟩:ByteArray)⟩:Title) W) (Zf ?_)
exact jn (!decide (p0.title=(⟨0,(⟨#[]⟩:ByteArray)⟩:Title))) h (sR [(1,1,1)])
iterate 4 refine Zg rfl (Zf ?_)
exact jn false h (sR [(1,1,1)])
iterate 3 refine Zg rfl (Zf ?_)
refine kS 72 h rfl (fun h=>?_) fun h=>?_
refine ZeM (.inr rfl) rfl rfl rfl rfl rfl (fun W=>ZeX p0.title (⟨0,(⟨#[]⟩:ByteArray)⟩:Title) W) (Zf ?_)
exact jn (!decide (p0.title=(⟨0,(⟨#[]⟩:ByteArray)⟩:Title))) h (sR [(1,1,1)])
iterate 4 refine Zg rfl (Zf ?_)
exact jn false h (sR [(1,1,1)])
iterate 8 refine Zg rfl (Zf ?_)
refine kS 63 h rfl (fun h=>?_) fun h=>?_
refine kS 69 h rfl (fun h=>?_) fun h=>?_
iterate 8 refine Zg rfl (Zf ?_)
exact jn true h (sR [(1,1,1)])
refine kS 72 h rfl (fun h=>?_) fun h=>?_
refine ZeM (.inr rfl) rfl rfl rfl rfl rfl (fun W=>ZeX p0.title (⟨0,(⟨#[]⟩:ByteArray)⟩:Title) W) (Zf ?_)
exact jn (!decide (p0.title=(⟨0,(⟨#[]⟩:ByteArray)⟩:Title))) h (sR [(1,1,1)])
iterate 4 refine Zg rfl (Zf ?_)
exact jn false h (sR [(1,1,1)])
iterate 3 refine Zg rfl (Zf ?_)
refine kS 72 h rfl (fun h=>?_) fun h=>?_
refine ZeM (.inr rfl) rfl rfl rfl rfl rfl (fun W=>ZeX p0.title (⟨0,(⟨#[]⟩:ByteArray)⟩:Title) W) (Zf ?_)
exact jn (!decide (p0.title=(⟨0,(⟨#[]⟩:ByteArray)⟩:Title))) h (sR [(1,1,1)])
iterate 4 refine Zg rfl (Zf ?_)
exact jn false h (sR [(1,1,1)])
refine cS h rfl (fun h=>?_) fun h=>?_
refine rg ?_
cases h
exact rQ
refine jL h (fun x6=>mkS [(1,.ptr 1 (1,1) 0),(86,.bool x6)] [(1,some ((1,1),.box (Change.cs p0)))] 2) (fun k6 h=>?_) fun x6 h=>?_
refine rg ?_
refine kS 82 h rfl (fun h=>?_) fun h=>?_
exact jn (!decide (p0.user=(⟨#[]⟩:ByteArray))) h (sR [(1,1,1)])
iterate 3 refine Zg rfl (Zf ?_)
exact jn false h (sR [(1,1,1)])
refine cS h rfl (fun h=>?_) fun h=>?_
refine rg ?_
cases h
exact rQ
refine jL h (fun x7=>mkS [(2,.bool x7)] [] 2) (fun k7 h=>?_) fun x7 h=>?_
refine rg ?_
refine kS 90 h rfl (fun h=>?_) fun h=>?_
iterate 4 refine Zg rfl (Zf ?_)
refine kS 100 h rfl (fun h=>?_) fun h=>?_
iterate 4 refine Zg rfl (Zf ?_)
exact jn true h (sR [])
refine lM Revision.cs p0.history ?_
exact jn (decide ((p0.history.length:Int)=0)) h (sR [])
refine ZeM (.inl rfl) rfl rfl rfl rfl rfl (fun W=>ZcM p0.to (⟨0,(⟨#[]⟩:ByteArray)⟩:Title) W) (Zf ?_)
refine kS 96 h rfl (fun h=>?_) fun h=>?_
refine kS 100 h rfl (fun h=>?_) fun h=>?_
iterate 4 refine Zg rfl (Zf ?_)
exact jn true h (sR [])
refine lM Revision.cs p0.history ?_
exact jn (decide ((p0.history.length:Int)=0)) h (sR [])
iterate 9 refine Zg rfl (Zf ?_)
exact jn false h (sR [])
cases h
exact rQ}
end
end Go.Proofs.YtpdaeclbndpabaaGreatDoor
