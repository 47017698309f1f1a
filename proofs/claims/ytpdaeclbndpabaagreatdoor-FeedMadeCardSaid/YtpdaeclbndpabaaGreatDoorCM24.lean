/- Functions of the program as Lean functions. Written by -/
import Derived.Test.YtpdaeclbndpabaaGreatDoorCM06
import Derived.Test.YtpdaeclbndpabaaGreatDoorCM12
set_option linter.unusedVariables false
set_option maxHeartbeats 4000000
set_option maxRecDepth 100000
namespace Go.Proofs.YtpdaeclbndpabaaGreatDoor
section
open VL
def Zb4 (p0:List Stored) (p1:Stored):Option (List Stored):=ZE Zaq (fun f7 ((x31,x32):Int×(List Stored))=>letk (fun (x42:Bool)=>if x42 then (atI p0 x31).bind fun e43=>(Zbo 48 x32 [e43]).bind fun l44=>f7 ((w64 (x31+1)),l44) else (Zbo 48 x32 [p1]).bind fun l45=>(Zgj p0 x31 (p0.length:Int)).bind fun l46=>(Zbo 48 l45 l46).bind fun l47=>(some l47:Option (List Stored))) fun k8=>if (decide (x31<(p0.length:Int))) then (atI p0 x31).bind fun e48=>(Zfu e48.title p1.title).bind fun r49=>k8 (decide (r49<0)) else k8 false) (0,([]:List Stored))
theorem ZdV (p0:List Stored) (p1:Stored) (r:List Stored) (h:Zb4 p0 p1=some r):Zb Tryz.prog 123 [.sl (List.map Stored.cs p0),p1.pv] (.sl (List.map Stored.cs r)):=by{
refine cF (fun r=>.sl (List.map Stored.cs r)) h mix Tryz.func123 fun r h=>?_
unfold Zb4 at h
refine Zf ?_
refine rg ?_
refine rg ?_
refine rg ?_
refine bl ?_
refine Zk h fun f7 mf7 hf7 h=>?_
refine Zi (α:=Nat×(Int×(List Stored))) (fun a _=>mkS [(0,.sl (List.map Stored.cs p0)),(3,.ptr 3 (1,3) 0),(5,.row 5 (1,5)),(6,.int .i64 a.2.1)] [(3,some ((1,3),.box (Stored.cs p1))),(5,some ((1,5),.row 89 3 false (List.map Stored.cs a.2.2)))] 2) (fun a=>ZE a.1 f7 a.2=some r) (fun a=>a.1) (mf7,0,([]:List Stored)) 2 h (Zam [((1,3),(1,0))] 5 89 3 rfl ⟨rfl,rfl,rfl,rfl,trivial⟩ ⟨⟨rfl,rfl⟩,⟨rfl,rfl⟩,trivial⟩ rfl) (fun a _ h=>?_)
obtain ⟨mf7,x31,x32⟩:=a
obtain ⟨mf7,rfl,h⟩:=Zl hf7 h
dsimp only at h ⊢
refine Zf ?_
refine jL h (fun x42=>mkS [(0,.sl (List.map Stored.cs p0)),(3,.ptr 3 (1,3) 0),(5,.row 5 (1,5)),(6,.int .i64 x31),(21,.bool x42)] [(3,some ((1,3),.box (Stored.cs p1))),(5,some ((1,5),.row 89 3 false (List.map Stored.cs x32)))] 2) (fun k8 h=>?_) fun x42 h=>?_
refine rg ?_
refine lM Stored.cs p0 ?_
refine kS 11 h rfl (fun h=>?_) fun h=>?_
refine aI Stored.cs h fun e48 h=>?_
refine aC h (ZeY _ _) fun r49 h=>?_
exact jn (decide (r49<0)) h (sR [(3,1,3),(5,1,5)])
iterate 9 refine Zg rfl (Zf ?_)
exact jn false h (sR [(3,1,3),(5,1,5)])
refine cS h rfl (fun h=>?_) fun h=>?_
refine bl ?_
refine rg ?_
refine aI Stored.cs h fun e43 h=>?_
refine ZF (M:=([e43]:List Stored)) (f:=Stored.cs) rfl rfl rfl rfl (Nat.le_of_ble_eq_true rfl) rfl (Zf ?_)
refine pR Stored.cs h fun l44 h=>?_
refine rg ?_
exact rn (mf7,(w64 (x31+1)),l44) h (sR [(3,1,3),(5,2,6)])
refine rg ?_
refine ZF (M:=([p1]:List Stored)) (f:=Stored.cs) rfl rfl rfl rfl (Nat.le_of_ble_eq_true rfl) rfl (Zf ?_)
refine pR Stored.cs h fun l45 h=>?_
refine rg ?_
refine sM Stored.cs h fun l46 h=>?_
refine pR Stored.cs h fun l47 h=>?_
cases h
exact rQ}
def Zgc (p0:State) (p1:Change) (p2:Int):Option (State×Int):=(ZcK p0.pages p1.title).bind fun r1=>if (decide (r1<0)) then if (decide (200<=(p0.pages.length:Int))) then (some (p0,8):Option (State×Int)) else (Zb4 p0.pages (⟨p1.title,[(⟨1,p1.user,p1.note,p1.text,p0.clock,p2⟩:Revision)]⟩:Stored)).bind fun r3=>(some ((⟨p0.seq,p0.clock,r3,p0.gone,p0.proposals,p0.proposed,p0.watches,p0.lasts⟩:State),0):Option (State×Int)) else (atI p0.pages r1).bind fun e4=>if (decide (40<=(e4.history.length:Int))) then (some (p0,8):Option (State×Int)) else (Zbo 48 [] p0.pages).bind fun l5=>(Zbo 72 [] e4.history).bind fun l6=>(Zbo 72 l6 [(⟨(w64 ((e4.history.length:Int)+1)),p1.user,p1.note,p1.text,p0.clock,p2⟩:Revision)]).bind fun l7=>(atI l5 r1).bind fun e8=>(some ((⟨p0.seq,p0.clock,(ZbF l5 r1 (⟨e8.title,l7⟩:Stored)),p0.gone,p0.proposals,p0.proposed,p0.watches,p0.lasts⟩:State),0):Option (State×Int))
theorem Zuc (p0:State) (p1:Change) (p2:Int) (r:State×Int) (h:Zgc p0 p1 p2=some r):Zb Tryz.prog 64 [p0.pv,p1.pv,.int .i64 p2] (.tup [r.1.pv,.int .i64 r.2]):=by{
refine cF (fun r=>.tup [r.1.pv,.int .i64 r.2]) h mix Tryz.func64 fun r h=>?_
unfold Zgc at h
refine Zf ?_
refine rg ?_
refine rg ?_
refine rg ?_
refine aC h (Zdf _ _) fun r1 h=>?_
refine rg ?_
refine cS h rfl (fun h=>?_) fun h=>?_
refine rg ?_
refine lM Stored.cs p0.pages ?_
refine cS h rfl (fun h=>?_) fun h=>?_
refine rg ?_
cases h
exact rQ
refine rg ?_
refine ZF (M:=([(⟨1,p1.user,p1.note,p1.text,p0.clock,p2⟩:Revision)]:List Revision)) (f:=Revision.cs) rfl rfl rfl rfl (Nat.le_of_ble_eq_true rfl) rfl (Zf ?_)
refine aC h (ZdV _ _) fun r3 h=>?_
refine rg ?_
cases h
exact rQ
refine rg ?_
refine aI Stored.cs h fun e4 h=>?_
refine rg ?_
refine lM Revision.cs e4.history ?_
refine cS h rfl (fun h=>?_) fun h=>?_
refine rg ?_
cases h
exact rQ
refine rg ?_
refine lM Revision.cs e4.history ?_
refine rg ?_
obtain ⟨l5,h5,h⟩:=bnd h
refine ZeS (f:=Stored.cs) rfl h5 (fun _=>rfl) rfl rfl rfl (Zf ?_)
refine rg ?_
obtain ⟨l6,h6,h⟩:=bnd h
refine ZeS (f:=Revision.cs) rfl h6 (fun _=>rfl) rfl rfl rfl (Zf ?_)
refine ZF (M:=([(⟨(w64 ((e4.history.length:Int)+1)),p1.user,p1.note,p1.text,p0.clock,p2⟩:Revision)]:List Revision)) (f:=Revision.cs) rfl rfl rfl rfl (Nat.le_of_ble_eq_true rfl) rfl (Zf ?_)
refine pR Revision.cs h fun l7 h=>?_
obtain ⟨e8,h8,h⟩:=bnd h
refine ZA rfl h8 rfl rfl rfl (Zf ?_)
refine ZaR (e':=(⟨e8.title,l7⟩:Stored)) rfl h8 rfl rfl rfl rfl rfl rfl (Nat.le_of_ble_eq_true rfl) rfl rfl (Zf ?_)
refine rg ?_
cases h
exact rQ}
def Zb5 (p0:State) (p1:Change):Option (State×Int):=(ZcK p0.pages p1.title).bind fun r1=>if (decide (r1<0)) then (some (p0,4):Option (State×Int)) else if (decide (100<=(p0.gone.length:Int))) then (some (p0,8):Option (State×Int)) else (Zbo 48 [] p0.gone).bind fun l2=>(atI p0.pages r1).bind fun e3=>(Zbo 48 l2 [e3]).bind fun l4=>(Zcu p0.pages r1).bind fun r5=>(Zhd p0.proposals p1.title).bind fun r6=>(some ((⟨p0.seq,p0.clock,r5,l4,r6,p0.proposed,p0.watches,p0.lasts⟩:State),0):Option (State×Int))
theorem Zo1 (p0:State) (p1:Change) (r:State×Int) (h:Zb5 p0 p1=some r):Zb Tryz.prog 65 [p0.pv,p1.pv] (.tup [r.1.pv,.int .i64 r.2]):=by{
refine cF (fun r=>.tup [r.1.pv,.int .i64 r.2]) h mix Tryz.func65 fun r h=>?_
unfold Zb5 at h
refine Zf ?_
refine rg ?_
refine rg ?_
refine aC h (Zdf _ _) fun r1 h=>?_
refine rg ?_
refine cS h rfl (fun h=>?_) fun h=>?_
refine rg ?_
cases h
exact rQ
refine rg ?_
refine lM Stored.cs p0.gone ?_
refine cS h rfl (fun h=>?_) fun h=>?_
refine rg ?_
cases h
exact rQ
refine rg ?_
obtain ⟨l2,h2,h⟩:=bnd h
refine ZeS (f:=Stored.cs) rfl h2 (fun _=>rfl) rfl rfl rfl (Zf ?_)
refine aI Stored.cs h fun e3 h=>?_
refine ZF (M:=([e3]:List Stored)) (f:=Stored.cs) rfl rfl rfl rfl (Nat.le_of_ble_eq_true rfl) rfl (Zf ?_)
refine pR Stored.cs h fun l4 h=>?_
refine rg ?_
refine aC h (ZfR _ _) fun r5 h=>?_
refine rg ?_
refine aC h (Zmg _ _) fun r6 h=>?_
refine rg ?_
cases h
exact rQ}
def ZbC (p0:State) (p1:Change):Option (State×Int):=(ZdI p0 p1.title).bind fun r1=>(ZcK p0.pages p1.title).bind fun r2=>if (decide (0<=r2)) then (some (p0,5):Option (State×Int)) else if (decide (r1<0)) then (some (p0,4):Option (State×Int)) else if (decide (200<=(p0.pages.length:Int))) then (some (p0,8):Option (State×Int)) else (atI p0.gone r1).bind fun e3=>(Zb4 p0.pages e3).bind fun r4=>(Zcu p0.gone r1).bind fun r5=>(some ((⟨p0.seq,p0.clock,r4,r5,p0.proposals,p0.proposed,p0.watches,p0.lasts⟩:State),0):Option (State×Int))
theorem ZnI (p0:State) (p1:Change) (r:State×Int) (h:ZbC p0 p1=some r):Zb Tryz.prog 66 [p0.pv,p1.pv] (.tup [r.1.pv,.int .i64 r.2]):=by{
refine cF (fun r=>.tup [r.1.pv,.int .i64 r.2]) h mix Tryz.func66 fun r h=>?_
unfold ZbC at h
refine Zf ?_
refine rg ?_
refine rg ?_
refine aC h (ZlK _ _) fun r1 h=>?_
refine rg ?_
refine aC h (Zdf _ _) fun r2 h=>?_
refine cS h rfl (fun h=>?_) fun h=>?_
refine rg ?_
cases h
exact rQ
refine rg ?_
refine cS h rfl (fun h=>?_) fun h=>?_
refine rg ?_
cases h
exact rQ
refine rg ?_
refine lM Stored.cs p0.pages ?_
refine cS h rfl (fun h=>?_) fun h=>?_
refine rg ?_
cases h
exact rQ
refine rg ?_
refine aI Stored.cs h fun e3 h=>?_
refine aC h (ZdV _ _) fun r4 h=>?_
refine rg ?_
refine aC h (ZfR _ _) fun r5 h=>?_
refine rg ?_
cases h
exact rQ}
def Zei (p0:State) (p1:Change) (p2:Int):Option (State×Int):=(ZcK p0.pages p1.title).bind fun r1=>if (decide (0<=r1)) then (some (p0,5):Option (State×Int)) else (atI p1.history (w64 ((p1.history.length:Int)-1))).bind fun e2=>if (decide (p0.clock<e2.minute)) then (some (p0,2):Option (State×Int)) else if (decide (200<=(p0.pages.length:Int))) then (some (p0,8):Option (State×Int)) else (Zbo 72 [] p1.history).bind fun l3=>ZE Zaq (fun f2 ((x14,x15):Int×(List Revision))=>if (decide (x14<(x15.length:Int))) then (atI x15 x14).bind fun e19=>f2 ((w64 (x14+1)),(ZbF x15 x14 (⟨e19.number,e19.user,e19.note,e19.text,e19.minute,p2⟩:Revision))) else (Zb4 p0.pages (⟨p1.title,x15⟩:Stored)).bind fun r20=>(some ((⟨p0.seq,p0.clock,r20,p0.gone,p0.proposals,p0.proposed,p0.watches,p0.lasts⟩:State),0):Option (State×Int))) (0,l3)
theorem Zsl (p0:State) (p1:Change) (p2:Int) (r:State×Int) (h:Zei p0 p1 p2=some r):Zb Tryz.prog 68 [p0.pv,p1.pv,.int .i64 p2] (.tup [r.1.pv,.int .i64 r.2]):=by{
refine cF (fun r=>.tup [r.1.pv,.int .i64 r.2]) h mix Tryz.func68 fun r h=>?_
unfold Zei at h
refine Zf ?_
refine rg ?_
refine rg ?_
refine aC h (Zdf _ _) fun r1 h=>?_
refine cS h rfl (fun h=>?_) fun h=>?_
refine rg ?_
cases h
exact rQ
refine rg ?_
refine lM Revision.cs p1.history ?_
refine aI Revision.cs h fun e2 h=>?_
refine cS h rfl (fun h=>?_) fun h=>?_
refine rg ?_
cases h
exact rQ
refine rg ?_
refine lM Stored.cs p0.pages ?_
refine cS h rfl (fun h=>?_) fun h=>?_
refine rg ?_
cases h
exact rQ
refine rg ?_
obtain ⟨l3,h3,h⟩:=bnd h
refine ZeS (f:=Revision.cs) rfl h3 (fun _=>rfl) rfl rfl rfl (Zf ?_)
refine rg ?_
refine bl ?_
refine Zk h fun f2 mf2 hf2 h=>?_
refine Zi (α:=Nat×(Int×(List Revision))) (fun a _=>mkS [(2,.int .i64 p2),(3,.ptr 3 (1,3) 0),(4,.ptr 4 (1,4) 0),(6,.ptr 6 (1,6) 0),(8,.row 37 (1,37)),(9,.int .i64 a.2.1)] [(3,some ((1,3),.box (State.cs p0))),(4,some ((1,4),.box (Change.cs p1))),(6,some ((1,6),.box [.int .i64 0,.int .i64 0,.nil,.nil,.nil,.int .i64 0,.nil,.nil])),(37,some ((1,37),.row 108 6 false (List.map Revision.cs a.2.2)))] 2) (fun a=>ZE a.1 f2 a.2=some r) (fun a=>a.1) (mf2,0,l3) 2 h (sR [(3,1,0),(4,1,1),(6,1,2),(37,5,2)]) (fun a _ h=>?_)
obtain ⟨mf2,x14,x15⟩:=a
obtain ⟨mf2,rfl,h⟩:=Zl hf2 h
dsimp only at h ⊢
refine Zf ?_
refine rg ?_
refine lM Revision.cs x15 ?_
refine cS h rfl (fun h=>?_) fun h=>?_
refine bl ?_
refine rg ?_
obtain ⟨e19,h15,h⟩:=bnd h
refine ZA rfl h15 rfl rfl rfl (Zf ?_)
refine ZaR (e':=(⟨e19.number,e19.user,e19.note,e19.text,e19.minute,p2⟩:Revision)) rfl h15 rfl rfl rfl rfl rfl rfl (Nat.le_of_ble_eq_true rfl) rfl rfl (Zf ?_)
refine rg ?_
exact rn (mf2,(w64 (x14+1)),(ZbF x15 x14 (⟨e19.number,e19.user,e19.note,e19.text,e19.minute,p2⟩:Revision))) h (sR [(3,1,3),(4,1,4),(6,1,6),(37,1,37)])
refine rg ?_
refine aC h (ZdV _ _) fun r20 h=>?_
refine rg ?_
cases h
exact rQ}
end
end Go.Proofs.YtpdaeclbndpabaaGreatDoor
