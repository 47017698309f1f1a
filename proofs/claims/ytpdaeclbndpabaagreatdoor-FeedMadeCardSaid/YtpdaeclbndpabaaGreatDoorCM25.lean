/- Functions of the program as Lean functions. Written by -/
import Derived.Test.YtpdaeclbndpabaaGreatDoorCM24
import Derived.Test.YtpdaeclbndpabaaGreatDoorCM18
set_option linter.unusedVariables false
set_option maxHeartbeats 4000000
set_option maxRecDepth 100000
namespace Go.Proofs.YtpdaeclbndpabaaGreatDoor
section
open VL
def ZgM (p0:Title):Option ByteArray:=(Za9 p0).bind fun r1=>if (!r1) then (some (⟨#[]⟩:ByteArray):Option ByteArray) else if (decide (p0.space=0)) then (some p0.name:Option ByteArray) else (ZbT p0.space).bind fun r2=>(Zl6 r2 (⟨#[58]⟩:ByteArray)).bind fun s3=>(Zl6 s3 p0.name).bind fun s4=>(some s4:Option ByteArray)
theorem Zp8 (p0:Title) (r:ByteArray) (h:ZgM p0=some r):Zb Tryz.prog 162 [p0.pv] (.str r):=by{
refine cF (fun r=>.str r) h mix Tryz.func162 fun r h=>?_
unfold ZgM at h
refine Zf ?_
refine rg ?_
refine rg ?_
refine aC h (Zbq _) fun r1 h=>?_
refine cS h rfl (fun h=>?_) fun h=>?_
refine rg ?_
cases h
exact rQ
refine rg ?_
refine cS h rfl (fun h=>?_) fun h=>?_
refine rg ?_
cases h
exact rQ
refine rg ?_
refine aC h (Ze9 _) fun r2 h=>?_
refine sT h fun s3 h=>?_
refine sT h fun s4 h=>?_
cases h
exact rQ}
def ZdQ (p0:Title):Option ByteArray:=(ZgM p0).bind fun r1=>(Zl6 (⟨#[35,82,69,68,73,82,69,67,84,32,91,91]⟩:ByteArray) r1).bind fun s2=>(Zl6 s2 (⟨#[93,93]⟩:ByteArray)).bind fun s3=>(some s3:Option ByteArray)
theorem ZlS (p0:Title) (r:ByteArray) (h:ZdQ p0=some r):Zb Tryz.prog 127 [p0.pv] (.str r):=by{
refine cF (fun r=>.str r) h mix Tryz.func127 fun r h=>?_
unfold ZdQ at h
refine Zf ?_
refine rg ?_
refine rg ?_
refine aC h (Zp8 _) fun r1 h=>?_
refine sT h fun s2 h=>?_
refine sT h fun s3 h=>?_
cases h
exact rQ}
def Zef (p0:State) (p1:Change) (p2:Int):Option (State×Int):=(ZcK p0.pages p1.title).bind fun r1=>if (decide (r1<0)) then (some (p0,4):Option (State×Int)) else (ZcK p0.pages p1.to).bind fun r2=>if (decide (0<=r2)) then (some (p0,5):Option (State×Int)) else letk (fun (x3:Bool)=>if x3 then (some (p0,8):Option (State×Int)) else (atI p0.pages r1).bind fun e4=>(Zcu p0.pages r1).bind fun r5=>(Zb4 r5 (⟨p1.to,e4.history⟩:Stored)).bind fun r6=>letk (fun (x9:List Stored)=>(Zhd p0.proposals p1.title).bind fun r10=>(some ((⟨p0.seq,p0.clock,x9,p0.gone,r10,p0.proposed,p0.watches,p0.lasts⟩:State),0):Option (State×Int))) fun k2=>if (decide (p1.n=1)) then (ZdQ p1.to).bind fun r11=>(Zb4 r6 (⟨p1.title,[(⟨1,p1.user,(⟨#[]⟩:ByteArray),r11,p0.clock,p2⟩:Revision)]⟩:Stored)).bind fun r12=>k2 r12 else k2 r6) fun k1=>if (decide (p1.n=1)) then k1 (decide (200<=(p0.pages.length:Int))) else k1 false
theorem Zse (p0:State) (p1:Change) (p2:Int) (r:State×Int) (h:Zef p0 p1 p2=some r):Zb Tryz.prog 67 [p0.pv,p1.pv,.int .i64 p2] (.tup [r.1.pv,.int .i64 r.2]):=by{
refine cF (fun r=>.tup [r.1.pv,.int .i64 r.2]) h mix Tryz.func67 fun r h=>?_
unfold Zef at h
refine Zf ?_
refine rg ?_
refine rg ?_
refine aC h (Zdf _ _) fun r1 h=>?_
refine rg ?_
refine cS h rfl (fun h=>?_) fun h=>?_
refine rg ?_
cases h
exact rQ
refine rg ?_
refine aC h (Zdf _ _) fun r2 h=>?_
refine cS h rfl (fun h=>?_) fun h=>?_
refine rg ?_
cases h
exact rQ
refine jL h (fun x3=>mkS [(2,.int .i64 p2),(3,.ptr 3 (1,3) 0),(4,.ptr 4 (1,4) 0),(6,.ptr 6 (1,6) 0),(8,.int .i64 r1),(34,.bool x3)] [(3,some ((1,3),.box (State.cs p0))),(4,some ((1,4),.box (Change.cs p1))),(6,some ((1,6),.box [.int .i64 0,.int .i64 0,.nil,.nil,.nil,.int .i64 0,.nil,.nil]))] 2) (fun k1 h=>?_) fun x3 h=>?_
refine rg ?_
refine kS 29 h rfl (fun h=>?_) fun h=>?_
refine lM Stored.cs p0.pages ?_
exact jn (decide (200<=(p0.pages.length:Int))) h (sR [(3,1,0),(4,1,1),(6,1,2)])
iterate 4 refine Zg rfl (Zf ?_)
exact jn false h (sR [(3,1,0),(4,1,1),(6,1,2)])
refine cS h rfl (fun h=>?_) fun h=>?_
refine rg ?_
cases h
exact rQ
refine rg ?_
refine aI Stored.cs h fun e4 h=>?_
refine rg ?_
refine rg ?_
refine aC h (ZfR _ _) fun r5 h=>?_
refine aC h (ZdV _ _) fun r6 h=>?_
refine rg ?_
refine jL h (fun x9=>mkS [(3,.ptr 3 (1,3) 0),(4,.ptr 4 (1,4) 0),(6,.ptr 6 (1,6) 0)] [(3,some ((1,3),.box [.int .i64 p0.seq,.int .i64 p0.clock,.sl (List.map Stored.cs x9),.sl (List.map Stored.cs p0.gone),.sl (List.map Proposal.cs p0.proposals),.int .i64 p0.proposed,.sl (List.map Watch.cs p0.watches),.sl (List.map Last.cs p0.lasts)])),(4,some ((1,4),.box (Change.cs p1))),(6,some ((1,6),.box [.int .i64 0,.int .i64 0,.nil,.nil,.nil,.int .i64 0,.nil,.nil]))] 2) (fun k2 h=>?_) fun x9 h=>?_
refine cS h rfl (fun h=>?_) fun h=>?_
refine rg ?_
refine aC h (ZlS _) fun r11 h=>?_
refine rg ?_
refine ZF (M:=([(⟨1,p1.user,(⟨#[]⟩:ByteArray),r11,p0.clock,p2⟩:Revision)]:List Revision)) (f:=Revision.cs) rfl rfl rfl rfl (Nat.le_of_ble_eq_true rfl) rfl (Zf ?_)
refine aC h (ZdV _ _) fun r12 h=>?_
exact jn r12 h (sR [(3,1,3),(4,1,4),(6,1,6)])
exact jn r6 h (sR [(3,1,3),(4,1,4),(6,1,6)])
refine rg ?_
refine aC h (Zmg _ _) fun r10 h=>?_
refine rg ?_
cases h
exact rQ}
def ZcW (p0:State) (p1:Change):Option (State×Int):=ZE Zaq (fun f7 ((x31,x32):Int×(List Watch))=>letk (fun (x42:Bool)=>if x42 then (atI p0.watches x31).bind fun e43=>(Zbo 40 x32 [e43]).bind fun l44=>f7 ((w64 (x31+1)),l44) else letk (fun (x46:Bool)=>if (decide (p1.kind=8)) then if (!x46) then (some (p0,4):Option (State×Int)) else (Zgj p0.watches (w64 (x31+1)) (p0.watches.length:Int)).bind fun l49=>(Zbo 40 x32 l49).bind fun l50=>(some ((⟨p0.seq,p0.clock,p0.pages,p0.gone,p0.proposals,p0.proposed,l50,p0.lasts⟩:State),0):Option (State×Int)) else if x46 then (some (p0,5):Option (State×Int)) else if (decide (100<=(p0.watches.length:Int))) then (some (p0,8):Option (State×Int)) else (Zbo 40 x32 [(⟨p1.user,p1.title⟩:Watch)]).bind fun l51=>(Zgj p0.watches x31 (p0.watches.length:Int)).bind fun l52=>(Zbo 40 l51 l52).bind fun l53=>(some ((⟨p0.seq,p0.clock,p0.pages,p0.gone,p0.proposals,p0.proposed,l53,p0.lasts⟩:State),0):Option (State×Int))) fun k9=>if (decide (x31<(p0.watches.length:Int))) then (atI p0.watches x31).bind fun e54=>k9 (decide (e54=(⟨p1.user,p1.title⟩:Watch))) else k9 false) fun k8=>if (decide (x31<(p0.watches.length:Int))) then (atI p0.watches x31).bind fun e55=>(Zek e55 (⟨p1.user,p1.title⟩:Watch)).bind fun r56=>k8 r56 else k8 false) (0,([]:List Watch))
theorem Zp9 (p0:State) (p1:Change) (r:State×Int) (h:ZcW p0 p1=some r):Zb Tryz.prog 69 [p0.pv,p1.pv] (.tup [r.1.pv,.int .i64 r.2]):=by{
refine cF (fun r=>.tup [r.1.pv,.int .i64 r.2]) h mix Tryz.func69 fun r h=>?_
unfold ZcW at h
refine Zf ?_
refine rg ?_
refine rg ?_
refine rg ?_
refine rg ?_
refine bl ?_
refine Zk h fun f7 mf7 hf7 h=>?_
refine Zi (α:=Nat×(Int×(List Watch))) (fun a _=>mkS [(2,.ptr 2 (1,2) 0),(3,.ptr 3 (1,3) 0),(4,.ptr 4 (1,4) 0),(6,.ptr 6 (1,6) 0),(7,.row 7 (1,7)),(8,.int .i64 a.2.1)] [(2,some ((1,2),.box (State.cs p0))),(3,some ((1,3),.box (Change.cs p1))),(4,some ((1,4),.box [.int .i64 0,.int .i64 0,.nil,.nil,.nil,.int .i64 0,.nil,.nil])),(6,some ((1,6),.box [.str p1.user,.int .i64 p1.title.space,.str p1.title.name])),(7,some ((1,7),.row 99 3 false (List.map Watch.cs a.2.2)))] 2) (fun a=>ZE a.1 f7 a.2=some r) (fun a=>a.1) (mf7,0,([]:List Watch)) 2 h (Zam [((1,2),(1,0)),((1,3),(1,1)),((1,4),(1,2)),((1,6),(2,5))] 7 99 3 rfl ⟨rfl,rfl,rfl,rfl,rfl,rfl,trivial⟩ ⟨⟨rfl,rfl⟩,⟨rfl,rfl⟩,⟨rfl,rfl⟩,⟨rfl,rfl⟩,⟨rfl,rfl⟩,trivial⟩ rfl) (fun a _ h=>?_)
obtain ⟨mf7,x31,x32⟩:=a
obtain ⟨mf7,rfl,h⟩:=Zl hf7 h
dsimp only at h ⊢
refine Zf ?_
refine jL h (fun x42=>mkS [(2,.ptr 2 (1,2) 0),(3,.ptr 3 (1,3) 0),(4,.ptr 4 (1,4) 0),(6,.ptr 6 (1,6) 0),(7,.row 7 (1,7)),(8,.int .i64 x31),(28,.bool x42)] [(2,some ((1,2),.box (State.cs p0))),(3,some ((1,3),.box (Change.cs p1))),(4,some ((1,4),.box [.int .i64 0,.int .i64 0,.nil,.nil,.nil,.int .i64 0,.nil,.nil])),(6,some ((1,6),.box [.str p1.user,.int .i64 p1.title.space,.str p1.title.name])),(7,some ((1,7),.row 99 3 false (List.map Watch.cs x32)))] 2) (fun k8 h=>?_) fun x42 h=>?_
refine rg ?_
refine lM Watch.cs p0.watches ?_
refine kS 20 h rfl (fun h=>?_) fun h=>?_
refine aI Watch.cs h fun e55 h=>?_
refine aC h (ZjF _ _) fun r56 h=>?_
exact jn r56 h (sR [(2,1,2),(3,1,3),(4,1,4),(6,1,6),(7,1,7)])
iterate 7 refine Zg rfl (Zf ?_)
exact jn false h (sR [(2,1,2),(3,1,3),(4,1,4),(6,1,6),(7,1,7)])
refine cS h rfl (fun h=>?_) fun h=>?_
refine bl ?_
refine rg ?_
refine aI Watch.cs h fun e43 h=>?_
refine ZF (M:=([e43]:List Watch)) (f:=Watch.cs) rfl rfl rfl rfl (Nat.le_of_ble_eq_true rfl) rfl (Zf ?_)
refine pR Watch.cs h fun l44 h=>?_
refine rg ?_
exact rn (mf7,(w64 (x31+1)),l44) h (sR [(2,1,2),(3,1,3),(4,1,4),(6,1,6),(7,2,7)])
refine jL h (fun x46=>mkS [(2,.ptr 2 (1,2) 0),(3,.ptr 3 (1,3) 0),(4,.ptr 4 (1,4) 0),(6,.ptr 6 (1,6) 0),(7,.row 7 (1,7)),(8,.int .i64 x31),(9,.bool x46)] [(2,some ((1,2),.box (State.cs p0))),(3,some ((1,3),.box (Change.cs p1))),(4,some ((1,4),.box [.int .i64 0,.int .i64 0,.nil,.nil,.nil,.int .i64 0,.nil,.nil])),(6,some ((1,6),.box [.str p1.user,.int .i64 p1.title.space,.str p1.title.name])),(7,some ((1,7),.row 99 3 false (List.map Watch.cs x32)))] 2) (fun k9 h=>?_) fun x46 h=>?_
refine rg ?_
refine lM Watch.cs p0.watches ?_
refine kS 44 h rfl (fun h=>?_) fun h=>?_
refine aI Watch.cs h fun e54 h=>?_
refine ZeM (.inl rfl) rfl rfl rfl rfl rfl (fun W=>Zvi e54 (⟨p1.user,p1.title⟩:Watch) W) (Zf ?_)
exact jn (decide (e54=(⟨p1.user,p1.title⟩:Watch))) h (sR [(2,1,2),(3,1,3),(4,1,4),(6,1,6),(7,1,7)])
iterate 7 refine Zg rfl (Zf ?_)
exact jn false h (sR [(2,1,2),(3,1,3),(4,1,4),(6,1,6),(7,1,7)])
refine rg ?_
refine cS h rfl (fun h=>?_) fun h=>?_
refine rg ?_
refine cS h rfl (fun h=>?_) fun h=>?_
refine rg ?_
cases h
exact rQ
refine rg ?_
refine sM Watch.cs h fun l49 h=>?_
refine pR Watch.cs h fun l50 h=>?_
refine rg ?_
cases h
exact rQ
refine rg ?_
refine cS h rfl (fun h=>?_) fun h=>?_
refine rg ?_
cases h
exact rQ
refine rg ?_
refine lM Watch.cs p0.watches ?_
refine cS h rfl (fun h=>?_) fun h=>?_
refine rg ?_
cases h
exact rQ
refine rg ?_
refine ZF (M:=([(⟨p1.user,p1.title⟩:Watch)]:List Watch)) (f:=Watch.cs) rfl rfl rfl rfl (Nat.le_of_ble_eq_true rfl) rfl (Zf ?_)
refine pR Watch.cs h fun l51 h=>?_
refine sM Watch.cs h fun l52 h=>?_
refine pR Watch.cs h fun l53 h=>?_
refine rg ?_
cases h
exact rQ}
def ZcF (p0:State) (p1:ByteArray) (p2:Int):Option (State×Int):=if (decide (p1=(⟨#[]⟩:ByteArray))) then (some (p0,0):Option (State×Int)) else ZE Zaq (fun f7 ((x23,x24):Int×(List Last))=>letk (fun (x31:Bool)=>if x31 then (atI p0.lasts x23).bind fun e32=>(Zbo 24 x24 [e32]).bind fun l33=>f7 ((w64 (x23+1)),l33) else letk (fun (x35:Bool)=>letk (fun (x36:Bool)=>if x36 then (some (p0,8):Option (State×Int)) else (Zbo 24 x24 [(⟨p1,p2⟩:Last)]).bind fun l37=>letk (fun (x38:Int)=>(Zgj p0.lasts x38 (p0.lasts.length:Int)).bind fun l39=>(Zbo 24 l37 l39).bind fun l40=>(some ((⟨p0.seq,p0.clock,p0.pages,p0.gone,p0.proposals,p0.proposed,p0.watches,l40⟩:State),0):Option (State×Int))) fun k11=>if x35 then k11 (w64 (x23+1)) else k11 x23) fun k10=>if (!x35) then k10 (decide (60<=(p0.lasts.length:Int))) else k10 false) fun k9=>if (decide (x23<(p0.lasts.length:Int))) then (atI p0.lasts x23).bind fun e41=>k9 (decide (e41.user=p1)) else k9 false) fun k8=>if (decide (x23<(p0.lasts.length:Int))) then (atI p0.lasts x23).bind fun e42=>k8 (ltS e42.user p1) else k8 false) (0,([]:List Last))
theorem Zpt (p0:State) (p1:ByteArray) (p2:Int) (r:State×Int) (h:ZcF p0 p1 p2=some r):Zb Tryz.prog 35 [p0.pv,.str p1,.int .i64 p2] (.tup [r.1.pv,.int .i64 r.2]):=by{
refine cF (fun r=>.tup [r.1.pv,.int .i64 r.2]) h mix Tryz.func35 fun r h=>?_
unfold ZcF at h
refine Zf ?_
refine rg ?_
refine rg ?_
refine cS h rfl (fun h=>?_) fun h=>?_
refine rg ?_
cases h
exact rQ
refine rg ?_
refine rg ?_
refine bl ?_
refine Zk h fun f7 mf7 hf7 h=>?_
refine Zi (α:=Nat×(Int×(List Last))) (fun a _=>mkS [(1,.str p1),(2,.int .i64 p2),(3,.ptr 3 (1,3) 0),(6,.ptr 6 (1,6) 0),(8,.row 8 (1,8)),(9,.int .i64 a.2.1)] [(3,some ((1,3),.box (State.cs p0))),(6,some ((1,6),.box [.int .i64 0,.int .i64 0,.nil,.nil,.nil,.int .i64 0,.nil,.nil])),(8,some ((1,8),.row 113 2 false (List.map Last.cs a.2.2)))] 2) (fun a=>ZE a.1 f7 a.2=some r) (fun a=>a.1) (mf7,0,([]:List Last)) 2 h (Zam [((1,3),(1,0)),((1,6),(1,1))] 8 113 2 rfl ⟨rfl,rfl,rfl,rfl,rfl,rfl,trivial⟩ ⟨⟨rfl,rfl⟩,⟨rfl,rfl⟩,⟨rfl,rfl⟩,trivial⟩ rfl) (fun a _ h=>?_)
obtain ⟨mf7,x23,x24⟩:=a
obtain ⟨mf7,rfl,h⟩:=Zl hf7 h
dsimp only at h ⊢
refine Zf ?_
refine jL h (fun x31=>mkS [(1,.str p1),(2,.int .i64 p2),(3,.ptr 3 (1,3) 0),(6,.ptr 6 (1,6) 0),(8,.row 8 (1,8)),(9,.int .i64 x23),(28,.bool x31)] [(3,some ((1,3),.box (State.cs p0))),(6,some ((1,6),.box [.int .i64 0,.int .i64 0,.nil,.nil,.nil,.int .i64 0,.nil,.nil])),(8,some ((1,8),.row 113 2 false (List.map Last.cs x24)))] 2) (fun k8 h=>?_) fun x31 h=>?_
refine rg ?_
refine lM Last.cs p0.lasts ?_
refine kS 19 h rfl (fun h=>?_) fun h=>?_
refine aI Last.cs h fun e42 h=>?_
exact jn (ltS e42.user p1) h (sR [(3,1,3),(6,1,6),(8,1,8)])
iterate 8 refine Zg rfl (Zf ?_)
exact jn false h (sR [(3,1,3),(6,1,6),(8,1,8)])
refine cS h rfl (fun h=>?_) fun h=>?_
refine bl ?_
refine rg ?_
refine aI Last.cs h fun e32 h=>?_
refine ZF (M:=([e32]:List Last)) (f:=Last.cs) rfl rfl rfl rfl (Nat.le_of_ble_eq_true rfl) rfl (Zf ?_)
refine pR Last.cs h fun l33 h=>?_
refine rg ?_
exact rn (mf7,(w64 (x23+1)),l33) h (sR [(3,1,3),(6,1,6),(8,2,7)])
refine jL h (fun x35=>mkS [(1,.str p1),(2,.int .i64 p2),(3,.ptr 3 (1,3) 0),(6,.ptr 6 (1,6) 0),(8,.row 8 (1,8)),(9,.int .i64 x23),(10,.bool x35)] [(3,some ((1,3),.box (State.cs p0))),(6,some ((1,6),.box [.int .i64 0,.int .i64 0,.nil,.nil,.nil,.int .i64 0,.nil,.nil])),(8,some ((1,8),.row 113 2 false (List.map Last.cs x24)))] 2) (fun k9 h=>?_) fun x35 h=>?_
refine rg ?_
refine lM Last.cs p0.lasts ?_
refine kS 44 h rfl (fun h=>?_) fun h=>?_
refine aI Last.cs h fun e41 h=>?_
exact jn (decide (e41.user=p1)) h (sR [(3,1,3),(6,1,6),(8,1,8)])
iterate 8 refine Zg rfl (Zf ?_)
exact jn false h (sR [(3,1,3),(6,1,6),(8,1,8)])
refine jL h (fun x36=>mkS [(1,.str p1),(2,.int .i64 p2),(3,.ptr 3 (1,3) 0),(6,.ptr 6 (1,6) 0),(8,.row 8 (1,8)),(9,.int .i64 x23),(10,.bool x35),(61,.bool x36)] [(3,some ((1,3),.box (State.cs p0))),(6,some ((1,6),.box [.int .i64 0,.int .i64 0,.nil,.nil,.nil,.int .i64 0,.nil,.nil])),(8,some ((1,8),.row 113 2 false (List.map Last.cs x24)))] 2) (fun k10 h=>?_) fun x36 h=>?_
refine rg ?_
refine kS 56 h rfl (fun h=>?_) fun h=>?_
refine lM Last.cs p0.lasts ?_
exact jn (decide (60<=(p0.lasts.length:Int))) h (sR [(3,1,3),(6,1,6),(8,1,8)])
iterate 4 refine Zg rfl (Zf ?_)
exact jn false h (sR [(3,1,3),(6,1,6),(8,1,8)])
refine cS h rfl (fun h=>?_) fun h=>?_
refine rg ?_
cases h
exact rQ
refine rg ?_
refine ZF (M:=([(⟨p1,p2⟩:Last)]:List Last)) (f:=Last.cs) rfl rfl rfl rfl (Nat.le_of_ble_eq_true rfl) rfl (Zf ?_)
refine pR Last.cs h fun l37 h=>?_
refine rg ?_
refine jL h (fun x38=>mkS [(3,.ptr 3 (1,3) 0),(6,.ptr 6 (1,6) 0),(8,.row 8 (1,8)),(9,.int .i64 x38)] [(3,some ((1,3),.box (State.cs p0))),(6,some ((1,6),.box [.int .i64 0,.int .i64 0,.nil,.nil,.nil,.int .i64 0,.nil,.nil])),(8,some ((1,8),.row 113 2 false (List.map Last.cs l37)))] 2) (fun k11 h=>?_) fun x38 h=>?_
refine cS h rfl (fun h=>?_) fun h=>?_
refine rg ?_
exact jn (w64 (x23+1)) h (sR [(3,1,3),(6,1,6),(8,2,5)])
exact jn x23 h (sR [(3,1,3),(6,1,6),(8,2,5)])
refine rg ?_
refine sM Last.cs h fun l39 h=>?_
refine pR Last.cs h fun l40 h=>?_
refine rg ?_
cases h
exact rQ}
def Zcq (p0:State) (p1:Change) (p2:Int):Option (State×Int):=if (decide (p1.kind=1)) then (Zgc p0 p1 p2).bind fun r9=>(some (r9.1,r9.2):Option (State×Int)) else if (decide (p1.kind=2)) then (Zb5 p0 p1).bind fun r10=>(some (r10.1,r10.2):Option (State×Int)) else if (decide (p1.kind=3)) then (ZbC p0 p1).bind fun r11=>(some (r11.1,r11.2):Option (State×Int)) else if (decide (p1.kind=4)) then (Zef p0 p1 p2).bind fun r12=>(some (r12.1,r12.2):Option (State×Int)) else if (decide (p1.kind=5)) then (Zei p0 p1 p2).bind fun r13=>(some (r13.1,r13.2):Option (State×Int)) else if (decide (p1.kind=6)) then if (decide ((w64 (52595999-p0.clock))<p1.n)) then (some (p0,2):Option (State×Int)) else (some ((⟨p0.seq,(w64 (p0.clock+p1.n)),p0.pages,p0.gone,p0.proposals,p0.proposed,p0.watches,p0.lasts⟩:State),0):Option (State×Int)) else letk (fun (x14:Bool)=>if x14 then (ZcW p0 p1).bind fun r15=>(some (r15.1,r15.2):Option (State×Int)) else if (decide (p1.kind=9)) then (Zbu p0 p1).bind fun r16=>(some (r16.1,r16.2):Option (State×Int)) else (ZfS p0 p1).bind fun r17=>(some (r17.1,r17.2):Option (State×Int))) fun k2=>if (decide (p1.kind=7)) then k2 (decide (p1.kind=7)) else k2 (decide (p1.kind=8))
theorem Zsp (p0:State) (p1:Change) (p2:Int) (r:State×Int) (h:Zcq p0 p1 p2=some r):Zb Tryz.prog 33 [p0.pv,p1.pv,.int .i64 p2] (.tup [r.1.pv,.int .i64 r.2]):=by{
refine cF (fun r=>.tup [r.1.pv,.int .i64 r.2]) h mix Tryz.func33 fun r h=>?_
unfold Zcq at h
refine Zf ?_
refine rg ?_
refine rg ?_
refine bl ?_
refine rg ?_
refine cS h rfl (fun h=>?_) fun h=>?_
refine rg ?_
refine aC h (Zuc _ _ _) fun r9 h=>?_
cases h
exact rQ
refine rg ?_
refine cS h rfl (fun h=>?_) fun h=>?_
refine rg ?_
refine aC h (Zo1 _ _) fun r10 h=>?_
cases h
exact rQ
refine rg ?_
refine cS h rfl (fun h=>?_) fun h=>?_
refine rg ?_
refine aC h (ZnI _ _) fun r11 h=>?_
cases h
exact rQ
refine rg ?_
refine cS h rfl (fun h=>?_) fun h=>?_
refine rg ?_
refine aC h (Zse _ _ _) fun r12 h=>?_
cases h
exact rQ
refine rg ?_
refine cS h rfl (fun h=>?_) fun h=>?_
refine rg ?_
refine aC h (Zsl _ _ _) fun r13 h=>?_
cases h
exact rQ
refine rg ?_
refine cS h rfl (fun h=>?_) fun h=>?_
refine rg ?_
refine cS h rfl (fun h=>?_) fun h=>?_
refine rg ?_
cases h
exact rQ
refine rg ?_
refine rg ?_
cases h
exact rQ
refine rg ?_
refine jL h (fun x14=>mkS [(3,.ptr 3 (1,3) 0),(4,.ptr 4 (1,4) 0),(6,.ptr 6 (1,6) 0),(9,.int .i64 p1.kind),(64,.bool x14)] [(3,some ((1,3),.box (State.cs p0))),(4,some ((1,4),.box (Change.cs p1))),(6,some ((1,6),.box [.int .i64 0,.int .i64 0,.nil,.nil,.nil,.int .i64 0,.nil,.nil]))] 2) (fun k2 h=>?_) fun x14 h=>?_
refine cS h rfl (fun h=>?_) fun h=>?_
exact jn (decide (p1.kind=7)) h (sR [(3,1,0),(4,1,1),(6,1,2)])
refine rg ?_
exact jn (decide (p1.kind=8)) h (sR [(3,1,0),(4,1,1),(6,1,2)])
refine cS h rfl (fun h=>?_) fun h=>?_
refine rg ?_
refine aC h (Zp9 _ _) fun r15 h=>?_
cases h
exact rQ
refine rg ?_
refine cS h rfl (fun h=>?_) fun h=>?_
refine rg ?_
refine aC h (Zm9 _ _) fun r16 h=>?_
cases h
exact rQ
refine rg ?_
refine aC h (ZrO _ _) fun r17 h=>?_
cases h
exact rQ}
def ZbE (p0:Change):Option Bool:=if (decide (p0.kind=1)) then (Zde).bind fun r10=>if (!decide (p0.title=r10)) then (some false:Option Bool) else (ZW p0.text).bind fun r11=>(some (!decide (r11.2.2=0)):Option Bool) else letk (fun (x12:Bool)=>if x12 then (Zde).bind fun r13=>(some (decide (p0.title=r13)):Option Bool) else if (decide (p0.kind=4)) then letk (fun (x16:Bool)=>(some x16:Option Bool)) fun k4=>(Zde).bind fun r17=>if (decide (p0.title=r17)) then k4 true else (Zde).bind fun r18=>k4 (decide (p0.to=r18)) else (some false:Option Bool)) fun k3=>if (decide (p0.kind=2)) then k3 (decide (p0.kind=2)) else if (decide (p0.kind=3)) then k3 (decide (p0.kind=3)) else k3 (decide (p0.kind=5))
theorem ZlC (p0:Change) (r:Bool) (h:ZbE p0=some r):Zb Tryz.prog 34 [p0.pv] (.bool r):=by{
refine cF (fun r=>.bool r) h mix Tryz.func34 fun r h=>?_
unfold ZbE at h
refine Zf ?_
refine rg ?_
refine rg ?_
refine bl ?_
refine rg ?_
refine cS h rfl (fun h=>?_) fun h=>?_
refine rg ?_
refine aC h ZdH fun r10 h=>?_
refine ZeM (.inr rfl) rfl rfl rfl rfl rfl (fun W=>ZeX p0.title r10 W) (Zf ?_)
refine cS h rfl (fun h=>?_) fun h=>?_
refine rg ?_
cases h
exact rQ
refine rg ?_
refine aC h (ZhO _) fun r11 h=>?_
refine rg ?_
cases h
exact rQ
refine rg ?_
refine jL h (fun x12=>mkS [(1,.ptr 1 (1,1) 0),(7,.int .i64 p0.kind),(23,.bool x12)] [(1,some ((1,1),.box (Change.cs p0)))] 2) (fun k3 h=>?_) fun x12 h=>?_
refine cS h rfl (fun h=>?_) fun h=>?_
exact jn (decide (p0.kind=2)) h (sR [(1,1,0)])
refine rg ?_
refine cS h rfl (fun h=>?_) fun h=>?_
exact jn (decide (p0.kind=3)) h (sR [(1,1,0)])
refine rg ?_
exact jn (decide (p0.kind=5)) h (sR [(1,1,0)])
refine cS h rfl (fun h=>?_) fun h=>?_
refine rg ?_
refine aC h ZdH fun r13 h=>?_
refine ZeM (.inl rfl) rfl rfl rfl rfl rfl (fun W=>ZcM p0.title r13 W) (Zf ?_)
cases h
exact rQ
refine rg ?_
refine cS h rfl (fun h=>?_) fun h=>?_
refine jL h (fun x16=>mkS [(2,.bool x16)] [] 2) (fun k4 h=>?_) fun x16 h=>?_
refine rg ?_
refine aC h ZdH fun r17 h=>?_
refine ZeM (.inl rfl) rfl rfl rfl rfl rfl (fun W=>ZcM p0.title r17 W) (Zf ?_)
refine kS 37 h rfl (fun h=>?_) fun h=>?_
iterate 4 refine Zg rfl (Zf ?_)
exact jn true h (sR [])
refine aC h ZdH fun r18 h=>?_
refine ZeM (.inl rfl) rfl rfl rfl rfl rfl (fun W=>ZcM p0.to r18 W) (Zf ?_)
exact jn (decide (p0.to=r18)) h (sR [])
cases h
exact rQ
refine rg ?_
cases h
exact rQ}
def Zay (p0:State) (p1:List Change):Option (State×Int):=(Zfj p0).bind fun r1=>if (!r1) then (some ((⟨0,0,[],[],[],0,[],[]⟩:State),11):Option (State×Int)) else letk (fun (x2:Bool)=>if x2 then (some ((⟨0,0,[],[],[],0,[],[]⟩:State),2):Option (State×Int)) else ZE Zaq (fun f3 ((x76,x77,x78,x79,x80,x81,x82,x83,x84):Int×Int×Int×(List Stored)×(List Stored)×(List Proposal)×Int×(List Watch)×(List Last))=>if (decide (x76<(p1.length:Int))) then (atI p1 x76).bind fun e109=>(ZdU e109).bind fun r110=>if (!decide (r110=0)) then (some ((⟨0,0,[],[],[],0,[],[]⟩:State),r110):Option (State×Int)) else (atI p1 x76).bind fun e111=>(Zcq (⟨x77,x78,x79,x80,x81,x82,x83,x84⟩:State) e111 (w64 (p0.seq+1))).bind fun r112=>if (!decide (r112.2=0)) then (some ((⟨0,0,[],[],[],0,[],[]⟩:State),r112.2):Option (State×Int)) else (atI p1 x76).bind fun e113=>(ZbE e113).bind fun r114=>if r114 then (some ((⟨0,0,[],[],[],0,[],[]⟩:State),7):Option (State×Int)) else (atI p1 x76).bind fun e115=>(ZcF r112.1 e115.user (w64 (p0.seq+1))).bind fun r116=>if (!decide (r116.2=0)) then (some ((⟨0,0,[],[],[],0,[],[]⟩:State),r116.2):Option (State×Int)) else f3 ((w64 (x76+1)),r116.1.seq,r116.1.clock,r116.1.pages,r116.1.gone,r116.1.proposals,r116.1.proposed,r116.1.watches,r116.1.lasts) else if (decide (1073741824<(w64 (p0.seq+1)))) then (some ((⟨0,0,[],[],[],0,[],[]⟩:State),8):Option (State×Int)) else (some ((⟨(w64 (p0.seq+1)),x78,x79,x80,x81,x82,x83,x84⟩:State),0):Option (State×Int))) (0,p0.seq,p0.clock,p0.pages,p0.gone,p0.proposals,p0.proposed,p0.watches,p0.lasts)) fun k1=>if (decide ((p1.length:Int)<1)) then k1 true else k1 (decide (16<(p1.length:Int)))
theorem Zdt (p0:State) (p1:List Change) (r:State×Int) (h:Zay p0 p1=some r):Zb Tryz.prog 13 [p0.pv,.sl (List.map Change.cs p1)] (.tup [r.1.pv,.int .i64 r.2]):=by{
refine cF (fun r=>.tup [r.1.pv,.int .i64 r.2]) h mix Tryz.func13 fun r h=>?_
unfold Zay at h
refine Zf ?_
refine rg ?_
refine rg ?_
refine aC h (Zpv _) fun r1 h=>?_
refine cS h rfl (fun h=>?_) fun h=>?_
refine rg ?_
cases h
exact rQ
refine jL h (fun x2=>mkS [(1,.sl (List.map Change.cs p1)),(2,.ptr 2 (1,2) 0),(4,.ptr 4 (1,4) 0),(22,.bool x2)] [(2,some ((1,2),.box (State.cs p0))),(4,some ((1,4),.box [.int .i64 0,.int .i64 0,.nil,.nil,.nil,.int .i64 0,.nil,.nil]))] 2) (fun k1 h=>?_) fun x2 h=>?_
refine rg ?_
refine lM Change.cs p1 ?_
refine kS 18 h rfl (fun h=>?_) fun h=>?_
iterate 3 refine Zg rfl (Zf ?_)
exact jn true h (sR [(2,1,0),(4,1,1)])
refine lM Change.cs p1 ?_
exact jn (decide (16<(p1.length:Int))) h (sR [(2,1,0),(4,1,1)])
refine cS h rfl (fun h=>?_) fun h=>?_
refine rg ?_
cases h
exact rQ
refine rg ?_
refine rg ?_
refine bl ?_
refine Zk h fun f3 mf3 hf3 h=>?_
refine Zi (α:=Nat×(Int×Int×Int×(List Stored)×(List Stored)×(List Proposal)×Int×(List Watch)×(List Last))) (fun a _=>mkS [(1,.sl (List.map Change.cs p1)),(2,.ptr 2 (1,2) 0),(4,.ptr 4 (1,4) 0),(6,.int .i64 (w64 (p0.seq+1))),(7,.int .i64 a.2.1)] [(2,some ((1,2),.box [.int .i64 a.2.2.1,.int .i64 a.2.2.2.1,.sl (List.map Stored.cs a.2.2.2.2.1),.sl (List.map Stored.cs a.2.2.2.2.2.1),.sl (List.map Proposal.cs a.2.2.2.2.2.2.1),.int .i64 a.2.2.2.2.2.2.2.1,.sl (List.map Watch.cs a.2.2.2.2.2.2.2.2.1),.sl (List.map Last.cs a.2.2.2.2.2.2.2.2.2)])),(4,some ((1,4),.box [.int .i64 0,.int .i64 0,.nil,.nil,.nil,.int .i64 0,.nil,.nil]))] 2) (fun a=>ZE a.1 f3 a.2=some r) (fun a=>a.1) (mf3,0,p0.seq,p0.clock,p0.pages,p0.gone,p0.proposals,p0.proposed,p0.watches,p0.lasts) 2 h (sR [(2,1,2),(4,1,4)]) (fun a _ h=>?_)
obtain ⟨mf3,x76,x77,x78,x79,x80,x81,x82,x83,x84⟩:=a
obtain ⟨mf3,rfl,h⟩:=Zl hf3 h
dsimp only at h ⊢
refine Zf ?_
refine rg ?_
refine lM Change.cs p1 ?_
refine cS h rfl (fun h=>?_) fun h=>?_
refine bl ?_
refine rg ?_
refine aI Change.cs h fun e109 h=>?_
refine aC h (Zqk _) fun r110 h=>?_
refine rg ?_
refine cS h rfl (fun h=>?_) fun h=>?_
refine rg ?_
cases h
exact rQ
refine rg ?_
refine aI Change.cs h fun e111 h=>?_
refine aC h (Zsp _ _ _) fun r112 h=>?_
refine rg ?_
refine cS h rfl (fun h=>?_) fun h=>?_
refine rg ?_
cases h
exact rQ
refine rg ?_
refine aI Change.cs h fun e113 h=>?_
refine aC h (ZlC _) fun r114 h=>?_
refine cS h rfl (fun h=>?_) fun h=>?_
refine rg ?_
cases h
exact rQ
refine rg ?_
refine aI Change.cs h fun e115 h=>?_
refine aC h (Zpt _ _ _) fun r116 h=>?_
refine rg ?_
refine cS h rfl (fun h=>?_) fun h=>?_
refine rg ?_
cases h
exact rQ
refine rg ?_
exact rn (mf3,(w64 (x76+1)),r116.1.seq,r116.1.clock,r116.1.pages,r116.1.gone,r116.1.proposals,r116.1.proposed,r116.1.watches,r116.1.lasts) h (sR [(2,1,2),(4,1,4)])
refine rg ?_
refine cS h rfl (fun h=>?_) fun h=>?_
refine rg ?_
cases h
exact rQ
refine rg ?_
refine rg ?_
cases h
exact rQ}
end
end Go.Proofs.YtpdaeclbndpabaaGreatDoor
