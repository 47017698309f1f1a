/- Functions of the program as Lean functions. Written by -/
import Derived.Test.YtpdaeclbndpabaaGreatDoorCM03
set_option linter.unusedVariables false
set_option maxHeartbeats 4000000
set_option maxRecDepth 100000
namespace Go.Proofs.YtpdaeclbndpabaaGreatDoor
section
open VL
def Zde:Option Title:=(some (⟨5,(⟨#[80,111,108,105,99,121]⟩:ByteArray)⟩:Title):Option Title)
theorem ZdH  (r:Title) (h:Zde=some r):Zb Tryz.prog 72 [] (r.pv):=by{
refine cF (fun r=>r.pv) h mix Tryz.func72 fun r h=>?_
unfold Zde at h
refine Zf ?_
refine rg ?_
refine rg ?_
cases h
exact rQ}
def ZcK (p0:List Stored) (p1:Title):Option Int:=ZE Zaq (fun f2 (x10:Int)=>if (decide (x10<(p0.length:Int))) then (atI p0 x10).bind fun e14=>if (decide (e14.title=p1)) then (some x10:Option Int) else f2 (w64 (x10+1)) else (some (-1):Option Int)) 0
theorem Zdf (p0:List Stored) (p1:Title) (r:Int) (h:ZcK p0 p1=some r):Zb Tryz.prog 108 [.sl (List.map Stored.cs p0),p1.pv] (.int .i64 r):=by{
refine cF (fun r=>.int .i64 r) h mix Tryz.func108 fun r h=>?_
unfold ZcK at h
refine Zf ?_
refine rg ?_
refine rg ?_
refine bl ?_
refine Zk h fun f2 mf2 hf2 h=>?_
refine Zi (α:=Nat×Int) (fun a _=>mkS [(0,.sl (List.map Stored.cs p0)),(3,.ptr 3 (1,3) 0),(5,.int .i64 a.2)] [(3,some ((1,3),.box (Title.cs p1)))] 2) (fun a=>ZE a.1 f2 a.2=some r) (fun a=>a.1) (mf2,0) 2 h (sR [(3,1,0)]) (fun a _ h=>?_)
obtain ⟨mf2,x10⟩:=a
obtain ⟨mf2,rfl,h⟩:=Zl hf2 h
dsimp only at h ⊢
refine Zf ?_
refine rg ?_
refine lM Stored.cs p0 ?_
refine cS h rfl (fun h=>?_) fun h=>?_
refine bl ?_
refine rg ?_
refine aI Stored.cs h fun e14 h=>?_
refine ZeM (.inl rfl) rfl rfl rfl rfl rfl (fun W=>ZcM e14.title p1 W) (Zf ?_)
refine cS h rfl (fun h=>?_) fun h=>?_
refine rg ?_
cases h
exact rQ
refine rg ?_
exact rn (mf2,(w64 (x10+1))) h (sR [(3,1,3)])
refine rg ?_
cases h
exact rQ}
def ZbY (p0:State) (p1:Title):Option (Stored×Bool):=(ZcK p0.pages p1).bind fun r1=>if (decide (r1<0)) then (some ((⟨(⟨0,(⟨#[]⟩:ByteArray)⟩:Title),[]⟩:Stored),false):Option (Stored×Bool)) else (atI p0.pages r1).bind fun e2=>(some (e2,true):Option (Stored×Bool))
theorem Zem (p0:State) (p1:Title) (r:Stored×Bool) (h:ZbY p0 p1=some r):Zb Tryz.prog 53 [p0.pv,p1.pv] (.tup [r.1.pv,.bool r.2]):=by{
refine cF (fun r=>.tup [r.1.pv,.bool r.2]) h mix Tryz.func53 fun r h=>?_
unfold ZbY at h
refine Zf ?_
refine rg ?_
refine rg ?_
refine aC h (Zdf _ _) fun r1 h=>?_
refine rg ?_
refine cS h rfl (fun h=>?_) fun h=>?_
refine rg ?_
cases h
exact rQ
refine rg ?_
refine aI Stored.cs h fun e2 h=>?_
cases h
exact rQ}
def Zct (p0:Stored):Option Revision:=if (decide ((p0.history.length:Int)=0)) then (some (⟨0,(⟨#[]⟩:ByteArray),(⟨#[]⟩:ByteArray),(⟨#[]⟩:ByteArray),0,0⟩:Revision):Option Revision) else (atI p0.history (w64 ((p0.history.length:Int)-1))).bind fun e1=>(some e1:Option Revision)
theorem Ziw (p0:Stored) (r:Revision) (h:Zct p0=some r):Zb Tryz.prog 118 [p0.pv] (r.pv):=by{
refine cF (fun r=>r.pv) h mix Tryz.func118 fun r h=>?_
unfold Zct at h
refine Zf ?_
refine rg ?_
refine rg ?_
refine lM Revision.cs p0.history ?_
refine cS h rfl (fun h=>?_) fun h=>?_
refine rg ?_
cases h
exact rQ
refine rg ?_
refine lM Revision.cs p0.history ?_
refine aI Revision.cs h fun e1 h=>?_
cases h
exact rQ}
def Zcu (p0:List Stored) (p1:Int):Option (List Stored):=(Zgj p0 0 p1).bind fun l1=>(Zbo 48 [] l1).bind fun l2=>(Zgj p0 (w64 (p1+1)) (p0.length:Int)).bind fun l3=>(Zbo 48 l2 l3).bind fun l4=>(some l4:Option (List Stored))
theorem ZfR (p0:List Stored) (p1:Int) (r:List Stored) (h:Zcu p0 p1=some r):Zb Tryz.prog 124 [.sl (List.map Stored.cs p0),.int .i64 p1] (.sl (List.map Stored.cs r)):=by{
refine cF (fun r=>.sl (List.map Stored.cs r)) h mix Tryz.func124 fun r h=>?_
unfold Zcu at h
refine Zf ?_
refine rg ?_
refine rg ?_
refine sM Stored.cs h fun l1 h=>?_
obtain ⟨l2,h2,h⟩:=bnd h
refine ZeS (f:=Stored.cs) rfl h2 (fun _=>rfl) rfl rfl rfl (Zf ?_)
refine sM Stored.cs h fun l3 h=>?_
refine pR Stored.cs h fun l4 h=>?_
cases h
exact rQ}
def Zhd (p0:List Proposal) (p1:Title):Option (List Proposal):=ZE Zaq (fun f7 ((x31,x32):Int×(List Proposal))=>if (decide (x31<(p0.length:Int))) then letk (fun (x43:List Proposal)=>f7 ((w64 (x31+1)),x43)) fun k8=>(atI p0 x31).bind fun e44=>if (!decide (e44.title=p1)) then (atI p0 x31).bind fun e45=>(Zbo 96 x32 [e45]).bind fun l46=>k8 l46 else k8 x32 else (some x32:Option (List Proposal))) (0,([]:List Proposal))
theorem Zmg (p0:List Proposal) (p1:Title) (r:List Proposal) (h:Zhd p0 p1=some r):Zb Tryz.prog 125 [.sl (List.map Proposal.cs p0),p1.pv] (.sl (List.map Proposal.cs r)):=by{
refine cF (fun r=>.sl (List.map Proposal.cs r)) h mix Tryz.func125 fun r h=>?_
unfold Zhd at h
refine Zf ?_
refine rg ?_
refine rg ?_
refine rg ?_
refine bl ?_
refine Zk h fun f7 mf7 hf7 h=>?_
refine Zi (α:=Nat×(Int×(List Proposal))) (fun a _=>mkS [(0,.sl (List.map Proposal.cs p0)),(3,.ptr 3 (1,3) 0),(5,.row 5 (1,5)),(6,.int .i64 a.2.1)] [(3,some ((1,3),.box (Title.cs p1))),(5,some ((1,5),.row 166 8 false (List.map Proposal.cs a.2.2)))] 2) (fun a=>ZE a.1 f7 a.2=some r) (fun a=>a.1) (mf7,0,([]:List Proposal)) 2 h (Zam [((1,3),(1,0))] 5 166 8 rfl ⟨rfl,rfl,rfl,rfl,trivial⟩ ⟨⟨rfl,rfl⟩,⟨rfl,rfl⟩,trivial⟩ rfl) (fun a _ h=>?_)
obtain ⟨mf7,x31,x32⟩:=a
obtain ⟨mf7,rfl,h⟩:=Zl hf7 h
dsimp only at h ⊢
refine Zf ?_
refine rg ?_
refine lM Proposal.cs p0 ?_
refine cS h rfl (fun h=>?_) fun h=>?_
refine jL h (fun x43=>mkS [(0,.sl (List.map Proposal.cs p0)),(3,.ptr 3 (1,3) 0),(5,.row 5 (1,5)),(6,.int .i64 x31)] [(3,some ((1,3),.box (Title.cs p1))),(5,some ((1,5),.row 166 8 false (List.map Proposal.cs x43)))] 2) (fun k8 h=>?_) fun x43 h=>?_
refine bl ?_
refine rg ?_
refine aI Proposal.cs h fun e44 h=>?_
refine ZeM (.inr rfl) rfl rfl rfl rfl rfl (fun W=>ZeX e44.title p1 W) (Zf ?_)
refine cS h rfl (fun h=>?_) fun h=>?_
refine rg ?_
refine aI Proposal.cs h fun e45 h=>?_
refine ZF (M:=([e45]:List Proposal)) (f:=Proposal.cs) rfl rfl rfl rfl (Nat.le_of_ble_eq_true rfl) rfl (Zf ?_)
refine pR Proposal.cs h fun l46 h=>?_
exact jn l46 h (sR [(3,1,3),(5,4,6)])
exact jn x32 h (sR [(3,1,3),(5,1,5)])
refine rg ?_
exact rn (mf7,(w64 (x31+1)),x43) h (sR [(3,1,3),(5,1,5)])
refine rg ?_
cases h
exact rQ}
def ZdI (p0:State) (p1:Title):Option Int:=ZE Zaq (fun f2 (x10:Int)=>if (decide (0<=x10)) then (atI p0.gone x10).bind fun e14=>if (decide (e14.title=p1)) then (some x10:Option Int) else f2 (w64 (x10-1)) else (some (-1):Option Int)) (w64 ((p0.gone.length:Int)-1))
theorem ZlK (p0:State) (p1:Title) (r:Int) (h:ZdI p0 p1=some r):Zb Tryz.prog 126 [p0.pv,p1.pv] (.int .i64 r):=by{
refine cF (fun r=>.int .i64 r) h mix Tryz.func126 fun r h=>?_
unfold ZdI at h
refine Zf ?_
refine rg ?_
refine rg ?_
refine lM Stored.cs p0.gone ?_
refine bl ?_
refine Zk h fun f2 mf2 hf2 h=>?_
refine Zi (α:=Nat×Int) (fun a _=>mkS [(2,.ptr 2 (1,2) 0),(3,.ptr 3 (1,3) 0),(5,.int .i64 a.2)] [(2,some ((1,2),.box (State.cs p0))),(3,some ((1,3),.box (Title.cs p1)))] 2) (fun a=>ZE a.1 f2 a.2=some r) (fun a=>a.1) (mf2,(w64 ((p0.gone.length:Int)-1))) 2 h (sR [(2,1,0),(3,1,1)]) (fun a _ h=>?_)
obtain ⟨mf2,x10⟩:=a
obtain ⟨mf2,rfl,h⟩:=Zl hf2 h
dsimp only at h ⊢
refine Zf ?_
refine rg ?_
refine cS h rfl (fun h=>?_) fun h=>?_
refine bl ?_
refine rg ?_
refine aI Stored.cs h fun e14 h=>?_
refine ZeM (.inl rfl) rfl rfl rfl rfl rfl (fun W=>ZcM e14.title p1 W) (Zf ?_)
refine cS h rfl (fun h=>?_) fun h=>?_
refine rg ?_
cases h
exact rQ
refine rg ?_
exact rn (mf2,(w64 (x10-1))) h (sR [(2,1,2),(3,1,3)])
refine rg ?_
cases h
exact rQ}
def Zbu (p0:State) (p1:Change):Option (State×Int):=letk (fun (x1:Bool)=>if x1 then (some (p0,8):Option (State×Int)) else (Zbo 96 [] p0.proposals).bind fun l2=>(Zbo 96 l2 [(⟨(w64 (p0.proposed+1)),p1.user,p1.note,p1.title,p1.n,p1.text,p0.clock⟩:Proposal)]).bind fun l3=>(some ((⟨p0.seq,p0.clock,p0.pages,p0.gone,l3,(w64 (p0.proposed+1)),p0.watches,p0.lasts⟩:State),0):Option (State×Int))) fun k1=>if (decide (40<=(p0.proposals.length:Int))) then k1 true else k1 (decide (1073741824<=p0.proposed))
theorem Zm9 (p0:State) (p1:Change) (r:State×Int) (h:Zbu p0 p1=some r):Zb Tryz.prog 70 [p0.pv,p1.pv] (.tup [r.1.pv,.int .i64 r.2]):=by{
refine cF (fun r=>.tup [r.1.pv,.int .i64 r.2]) h mix Tryz.func70 fun r h=>?_
unfold Zbu at h
refine Zf ?_
refine rg ?_
refine jL h (fun x1=>mkS [(2,.ptr 2 (1,2) 0),(3,.ptr 3 (1,3) 0),(4,.ptr 4 (1,4) 0),(15,.bool x1)] [(2,some ((1,2),.box (State.cs p0))),(3,some ((1,3),.box (Change.cs p1))),(4,some ((1,4),.box [.int .i64 0,.int .i64 0,.nil,.nil,.nil,.int .i64 0,.nil,.nil]))] 2) (fun k1 h=>?_) fun x1 h=>?_
refine rg ?_
refine lM Proposal.cs p0.proposals ?_
refine kS 11 h rfl (fun h=>?_) fun h=>?_
iterate 3 refine Zg rfl (Zf ?_)
exact jn true h (sR [(2,1,0),(3,1,1),(4,1,2)])
exact jn (decide (1073741824<=p0.proposed)) h (sR [(2,1,0),(3,1,1),(4,1,2)])
refine cS h rfl (fun h=>?_) fun h=>?_
refine rg ?_
cases h
exact rQ
refine rg ?_
refine rg ?_
refine rg ?_
obtain ⟨l2,h1,h⟩:=bnd h
refine ZeS (f:=Proposal.cs) rfl h1 (fun _=>rfl) rfl rfl rfl (Zf ?_)
refine ZF (M:=([(⟨(w64 (p0.proposed+1)),p1.user,p1.note,p1.title,p1.n,p1.text,p0.clock⟩:Proposal)]:List Proposal)) (f:=Proposal.cs) rfl rfl rfl rfl (Nat.le_of_ble_eq_true rfl) rfl (Zf ?_)
refine pR Proposal.cs h fun l3 h=>?_
refine rg ?_
cases h
exact rQ}
def Zjm:Option Title:=(some (⟨5,(⟨#[80,111,108,105,99,121]⟩:ByteArray)⟩:Title):Option Title)
theorem Zox  (r:Title) (h:Zjm=some r):Zb Tryz.prog 154 [] (r.pv):=by{
refine cF (fun r=>r.pv) h mix Tryz.func154 fun r h=>?_
unfold Zjm at h
refine Zf ?_
refine rg ?_
refine rg ?_
cases h
exact rQ}
def Zkj (p0:State) (p1:Title):Option (ByteArray×Bool):=(ZbY p0 p1).bind fun r1=>(Zct r1.1).bind fun r2=>(some (r2.text,r1.2):Option (ByteArray×Bool))
theorem ZrN (p0:State) (p1:Title) (r:ByteArray×Bool) (h:Zkj p0 p1=some r):Zb Tryz.prog 153 [p0.pv,p1.pv] (.tup [.str r.1,.bool r.2]):=by{
refine cF (fun r=>.tup [.str r.1,.bool r.2]) h mix Tryz.func153 fun r h=>?_
unfold Zkj at h
refine Zf ?_
refine rg ?_
refine rg ?_
refine aC h (Zem _ _) fun r1 h=>?_
refine rg ?_
refine aC h (Ziw _) fun r2 h=>?_
cases h
exact rQ}
def ZfS (p0:State) (p1:Change):Option (State×Int):=ZE Zaq (fun f7 ((x31,x32):Int×(List Proposal))=>if (decide (x31<(p0.proposals.length:Int))) then letk (fun (x43:List Proposal)=>f7 ((w64 (x31+1)),x43)) fun k8=>(atI p0.proposals x31).bind fun e44=>if (!decide (e44.id=p1.n)) then (atI p0.proposals x31).bind fun e45=>(Zbo 96 x32 [e45]).bind fun l46=>k8 l46 else k8 x32 else if (decide ((x32.length:Int)=(p0.proposals.length:Int))) then (some (p0,4):Option (State×Int)) else (some ((⟨p0.seq,p0.clock,p0.pages,p0.gone,x32,p0.proposed,p0.watches,p0.lasts⟩:State),0):Option (State×Int))) (0,([]:List Proposal))
theorem ZrO (p0:State) (p1:Change) (r:State×Int) (h:ZfS p0 p1=some r):Zb Tryz.prog 71 [p0.pv,p1.pv] (.tup [r.1.pv,.int .i64 r.2]):=by{
refine cF (fun r=>.tup [r.1.pv,.int .i64 r.2]) h mix Tryz.func71 fun r h=>?_
unfold ZfS at h
refine Zf ?_
refine rg ?_
refine rg ?_
refine rg ?_
refine bl ?_
refine Zk h fun f7 mf7 hf7 h=>?_
refine Zi (α:=Nat×(Int×(List Proposal))) (fun a _=>mkS [(2,.ptr 2 (1,2) 0),(3,.ptr 3 (1,3) 0),(4,.ptr 4 (1,4) 0),(6,.row 6 (1,6)),(7,.int .i64 a.2.1)] [(2,some ((1,2),.box (State.cs p0))),(3,some ((1,3),.box (Change.cs p1))),(4,some ((1,4),.box [.int .i64 0,.int .i64 0,.nil,.nil,.nil,.int .i64 0,.nil,.nil])),(6,some ((1,6),.row 166 8 false (List.map Proposal.cs a.2.2)))] 2) (fun a=>ZE a.1 f7 a.2=some r) (fun a=>a.1) (mf7,0,([]:List Proposal)) 2 h (Zam [((1,2),(1,0)),((1,3),(1,1)),((1,4),(1,2))] 6 166 8 rfl ⟨rfl,rfl,rfl,rfl,rfl,trivial⟩ ⟨⟨rfl,rfl⟩,⟨rfl,rfl⟩,⟨rfl,rfl⟩,⟨rfl,rfl⟩,trivial⟩ rfl) (fun a _ h=>?_)
obtain ⟨mf7,x31,x32⟩:=a
obtain ⟨mf7,rfl,h⟩:=Zl hf7 h
dsimp only at h ⊢
refine Zf ?_
refine rg ?_
refine lM Proposal.cs p0.proposals ?_
refine cS h rfl (fun h=>?_) fun h=>?_
refine jL h (fun x43=>mkS [(2,.ptr 2 (1,2) 0),(3,.ptr 3 (1,3) 0),(4,.ptr 4 (1,4) 0),(6,.row 6 (1,6)),(7,.int .i64 x31)] [(2,some ((1,2),.box (State.cs p0))),(3,some ((1,3),.box (Change.cs p1))),(4,some ((1,4),.box [.int .i64 0,.int .i64 0,.nil,.nil,.nil,.int .i64 0,.nil,.nil])),(6,some ((1,6),.row 166 8 false (List.map Proposal.cs x43)))] 2) (fun k8 h=>?_) fun x43 h=>?_
refine bl ?_
refine rg ?_
refine aI Proposal.cs h fun e44 h=>?_
refine cS h rfl (fun h=>?_) fun h=>?_
refine rg ?_
refine aI Proposal.cs h fun e45 h=>?_
refine ZF (M:=([e45]:List Proposal)) (f:=Proposal.cs) rfl rfl rfl rfl (Nat.le_of_ble_eq_true rfl) rfl (Zf ?_)
refine pR Proposal.cs h fun l46 h=>?_
exact jn l46 h (sR [(2,1,2),(3,1,3),(4,1,4),(6,4,7)])
exact jn x32 h (sR [(2,1,2),(3,1,3),(4,1,4),(6,1,6)])
refine rg ?_
exact rn (mf7,(w64 (x31+1)),x43) h (sR [(2,1,2),(3,1,3),(4,1,4),(6,1,6)])
refine rg ?_
refine lM Proposal.cs x32 ?_
refine lM Proposal.cs p0.proposals ?_
refine cS h rfl (fun h=>?_) fun h=>?_
refine rg ?_
cases h
exact rQ
refine rg ?_
refine rg ?_
cases h
exact rQ}
end
end Go.Proofs.YtpdaeclbndpabaaGreatDoor
