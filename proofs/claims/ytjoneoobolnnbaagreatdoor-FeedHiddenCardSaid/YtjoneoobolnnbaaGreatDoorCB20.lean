/- Functions of the program as Lean functions. Written by fxgen.py. -/
import Derived.Test.YtjoneoobolnnbaaGreatDoorCB03
import Derived.Test.YtjoneoobolnnbaaGreatDoorCB04
set_option linter.unusedVariables false
set_option maxHeartbeats 4000000
set_option maxRecDepth 100000
namespace Go.Proofs.YtjoneoobolnnbaaGreatDoor
open VL
def Zed:Option Title:=
 (some (⟨5,(⟨#[80,111,108,105,99,121]⟩:ByteArray)⟩:Title):Option Title)
theorem ZeC  (r:Title) (h:Zed=some r):Zd Tryz.prog 97 [] (r.pv):=by
 refine cF (fun r=>r.pv) h mix Tryz.func97 fun r h=>?_
 unfold Zed at h
 refine Zh ?_
 refine rg ?_
 refine rg ?_
 cases h
 exact rQ
def Zcd (p0:List Stored) (p1:Title):Option Int:=
 ZE Zaj (fun f2 (x10:Int)=>
  if (decide (x10<(p0.length:Int))) then
   (atI p0 x10).bind fun e14=>
   if (decide (e14.title=p1)) then
    (some x10:Option Int)
   else
   f2 (w64 (x10+1))
  else
  (some (-1):Option Int)) 0
theorem Zee (p0:List Stored) (p1:Title) (r:Int) (h:Zcd p0 p1=some r):Zd Tryz.prog 47 [.sl (List.map Stored.cs p0),p1.pv] (.int .i64 r):=by
 refine cF (fun r=>.int .i64 r) h mix Tryz.func47 fun r h=>?_
 unfold Zcd at h
 refine Zh ?_
 refine rg ?_
 refine rg ?_
 refine bl ?_
 refine Zn h fun f2 mf2 hf2 h=>?_
 refine Zk (α:=Nat×Int) (fun a _=>mkS [(0,.sl (List.map Stored.cs p0)),(3,.ptr 3 (1,3) 0),(5,.int .i64 a.2)] [(3,some ((1,3),.box (Title.cs p1)))] 2) (fun a=>ZE a.1 f2 a.2=some r) (fun a=>a.1) (mf2,0) 2 h (sR [(3,1,0)]) (fun a _ h=>?_)
 obtain ⟨mf2,x10⟩:=a
 obtain ⟨mf2,rfl,h⟩:=Zo hf2 h
 dsimp only at h ⊢
 refine Zh ?_
 refine rg ?_
 refine lM Stored.cs p0 ?_
 refine cS h rfl (fun h=>?_) fun h=>?_
 ·refine bl ?_
  refine rg ?_
  refine aI Stored.cs h fun e14 h=>?_
  refine Ze3 (.inl rfl) rfl rfl rfl rfl rfl (fun W=>ZdP e14.title p1 W) (Zh ?_)
  refine cS h rfl (fun h=>?_) fun h=>?_
  ·refine rg ?_
   cases h
   exact rQ
  refine rg ?_
  exact rn (mf2,(w64 (x10+1))) h (sR [(3,1,3)])
 refine rg ?_
 cases h
 exact rQ
def Zce (p0:State) (p1:Title):Option (Stored×Bool):=
 (Zcd p0.pages p1).bind fun r1=>
 if (decide (r1<0)) then
  (some ((⟨(⟨0,(⟨#[]⟩:ByteArray)⟩:Title),[]⟩:Stored),false):Option (Stored×Bool))
 else
 (atI p0.pages r1).bind fun e2=>
 (some (e2,true):Option (Stored×Bool))
theorem Zef (p0:State) (p1:Title) (r:Stored×Bool) (h:Zce p0 p1=some r):Zd Tryz.prog 24 [p0.pv,p1.pv] (.tup [r.1.pv,.bool r.2]):=by
 refine cF (fun r=>.tup [r.1.pv,.bool r.2]) h mix Tryz.func24 fun r h=>?_
 unfold Zce at h
 refine Zh ?_
 refine rg ?_
 refine rg ?_
 refine aC h (Zee _ _) fun r1 h=>?_
 refine rg ?_
 refine cS h rfl (fun h=>?_) fun h=>?_
 ·refine rg ?_
  cases h
  exact rQ
 refine rg ?_
 refine aI Stored.cs h fun e2 h=>?_
 cases h
 exact rQ
def Zdi (p0:Stored):Option Revision:=
 if (decide ((p0.history.length:Int)=0)) then
  (some (⟨0,(⟨#[]⟩:ByteArray),(⟨#[]⟩:ByteArray),(⟨#[]⟩:ByteArray),0,0⟩:Revision):Option Revision)
 else
 (atI p0.history (w64 ((p0.history.length:Int) - 1))).bind fun e1=>
 (some e1:Option Revision)
theorem ZjN (p0:Stored) (r:Revision) (h:Zdi p0=some r):Zd Tryz.prog 140 [p0.pv] (r.pv):=by
 refine cF (fun r=>r.pv) h mix Tryz.func140 fun r h=>?_
 unfold Zdi at h
 refine Zh ?_
 refine rg ?_
 refine rg ?_
 refine lM Revision.cs p0.history ?_
 refine cS h rfl (fun h=>?_) fun h=>?_
 ·refine rg ?_
  cases h
  exact rQ
 refine rg ?_
 refine lM Revision.cs p0.history ?_
 refine aI Revision.cs h fun e1 h=>?_
 cases h
 exact rQ
def Zdj (p0:List Stored) (p1:Int):Option (List Stored):=
 (ZjA p0 0 p1).bind fun l1=>
 (ZcF 48 [] l1).bind fun l2=>
 (ZjA p0 (w64 (p1+1)) (p0.length:Int)).bind fun l3=>
 (ZcF 48 l2 l3).bind fun l4=>
 (some l4:Option (List Stored))
theorem ZgU (p0:List Stored) (p1:Int) (r:List Stored) (h:Zdj p0 p1=some r):Zd Tryz.prog 146 [.sl (List.map Stored.cs p0),.int .i64 p1] (.sl (List.map Stored.cs r)):=by
 refine cF (fun r=>.sl (List.map Stored.cs r)) h mix Tryz.func146 fun r h=>?_
 unfold Zdj at h
 refine Zh ?_
 refine rg ?_
 refine rg ?_
 refine sM Stored.cs h fun l1 h=>?_
 obtain ⟨l2,h2,h⟩:=bnd h
 refine Zil (f:=Stored.cs) rfl h2 (fun _=>rfl) rfl rfl rfl (Zh ?_)
 refine sM Stored.cs h fun l3 h=>?_
 refine pR Stored.cs h fun l4 h=>?_
 cases h
 exact rQ
def Zit (p0:List Proposal) (p1:Title):Option (List Proposal):=
 ZE Zaj (fun f7 ((x31,x32):Int×(List Proposal))=>
  if (decide (x31<(p0.length:Int))) then
   letk (fun (x43:List Proposal)=>
    f7 ((w64 (x31+1)),x43)) fun k8=>
   (atI p0 x31).bind fun e44=>
   if (!decide (e44.title=p1)) then
    (atI p0 x31).bind fun e45=>
    (ZcF 96 x32 [e45]).bind fun l46=>
    k8 l46
   else
   k8 x32
  else
  (some x32:Option (List Proposal))) (0,([]:List Proposal))
theorem Zny (p0:List Proposal) (p1:Title) (r:List Proposal) (h:Zit p0 p1=some r):Zd Tryz.prog 147 [.sl (List.map Proposal.cs p0),p1.pv] (.sl (List.map Proposal.cs r)):=by
 refine cF (fun r=>.sl (List.map Proposal.cs r)) h mix Tryz.func147 fun r h=>?_
 unfold Zit at h
 refine Zh ?_
 refine rg ?_
 refine rg ?_
 refine rg ?_
 refine bl ?_
 refine Zn h fun f7 mf7 hf7 h=>?_
 refine Zk (α:=Nat×(Int×(List Proposal))) (fun a _=>mkS [(0,.sl (List.map Proposal.cs p0)),(3,.ptr 3 (1,3) 0),(5,.row 5 (1,5)),(6,.int .i64 a.2.1)] [(3,some ((1,3),.box (Title.cs p1))),(5,some ((1,5),.row 183 8 false (List.map Proposal.cs a.2.2)))] 2) (fun a=>ZE a.1 f7 a.2=some r) (fun a=>a.1) (mf7,0,([]:List Proposal)) 2 h (Za9 [((1,3),(1,0))] 5 183 8 rfl ⟨rfl,rfl,rfl,rfl,trivial⟩ ⟨⟨rfl,rfl⟩,⟨rfl,rfl⟩,trivial⟩ rfl) (fun a _ h=>?_)
 obtain ⟨mf7,x31,x32⟩:=a
 obtain ⟨mf7,rfl,h⟩:=Zo hf7 h
 dsimp only at h ⊢
 refine Zh ?_
 refine rg ?_
 refine lM Proposal.cs p0 ?_
 refine cS h rfl (fun h=>?_) fun h=>?_
 ·refine jL h (fun x43=>mkS [(0,.sl (List.map Proposal.cs p0)),(3,.ptr 3 (1,3) 0),(5,.row 5 (1,5)),(6,.int .i64 x31)] [(3,some ((1,3),.box (Title.cs p1))),(5,some ((1,5),.row 183 8 false (List.map Proposal.cs x43)))] 2) (fun k8 h=>?_) fun x43 h=>?_
  ·refine bl ?_
   refine rg ?_
   refine aI Proposal.cs h fun e44 h=>?_
   refine Ze3 (.inr rfl) rfl rfl rfl rfl rfl (fun W=>ZfU e44.title p1 W) (Zh ?_)
   refine cS h rfl (fun h=>?_) fun h=>?_
   ·refine rg ?_
    refine aI Proposal.cs h fun e45 h=>?_
    refine ZZ (M:=([e45]:List Proposal)) (f:=Proposal.cs) rfl rfl rfl rfl (Nat.le_of_ble_eq_true rfl) rfl (Zh ?_)
    refine pR Proposal.cs h fun l46 h=>?_
    exact jn l46 h (sR [(3,1,3),(5,4,6)])
   exact jn x32 h (sR [(3,1,3),(5,1,5)])
  refine rg ?_
  exact rn (mf7,(w64 (x31+1)),x43) h (sR [(3,1,3),(5,1,5)])
 refine rg ?_
 cases h
 exact rQ
def ZeD (p0:State) (p1:Title):Option Int:=
 ZE Zaj (fun f2 (x10:Int)=>
  if (decide (0≤x10)) then
   (atI p0.gone x10).bind fun e14=>
   if (decide (e14.title=p1)) then
    (some x10:Option Int)
   else
   f2 (w64 (x10 - 1))
  else
  (some (-1):Option Int)) (w64 ((p0.gone.length:Int) - 1))
theorem Zng (p0:State) (p1:Title) (r:Int) (h:ZeD p0 p1=some r):Zd Tryz.prog 148 [p0.pv,p1.pv] (.int .i64 r):=by
 refine cF (fun r=>.int .i64 r) h mix Tryz.func148 fun r h=>?_
 unfold ZeD at h
 refine Zh ?_
 refine rg ?_
 refine rg ?_
 refine lM Stored.cs p0.gone ?_
 refine bl ?_
 refine Zn h fun f2 mf2 hf2 h=>?_
 refine Zk (α:=Nat×Int) (fun a _=>mkS [(2,.ptr 2 (1,2) 0),(3,.ptr 3 (1,3) 0),(5,.int .i64 a.2)] [(2,some ((1,2),.box (State.cs p0))),(3,some ((1,3),.box (Title.cs p1)))] 2) (fun a=>ZE a.1 f2 a.2=some r) (fun a=>a.1) (mf2,(w64 ((p0.gone.length:Int) - 1))) 2 h (sR [(2,1,0),(3,1,1)]) (fun a _ h=>?_)
 obtain ⟨mf2,x10⟩:=a
 obtain ⟨mf2,rfl,h⟩:=Zo hf2 h
 dsimp only at h ⊢
 refine Zh ?_
 refine rg ?_
 refine cS h rfl (fun h=>?_) fun h=>?_
 ·refine bl ?_
  refine rg ?_
  refine aI Stored.cs h fun e14 h=>?_
  refine Ze3 (.inl rfl) rfl rfl rfl rfl rfl (fun W=>ZdP e14.title p1 W) (Zh ?_)
  refine cS h rfl (fun h=>?_) fun h=>?_
  ·refine rg ?_
   cases h
   exact rQ
  refine rg ?_
  exact rn (mf2,(w64 (x10 - 1))) h (sR [(2,1,2),(3,1,3)])
 refine rg ?_
 cases h
 exact rQ
def Zcf (p0:State) (p1:Change):Option (State×Int):=
 letk (fun (x1:Bool)=>
  if x1 then
   (some (p0,8):Option (State×Int))
  else
  (ZcF 96 [] p0.proposals).bind fun l2=>
  (ZcF 96 l2 [(⟨(w64 (p0.proposed+1)),p1.user,p1.note,p1.title,p1.n,p1.text,p0.clock⟩:Proposal)]).bind fun l3=>
  (some ((⟨p0.seq,p0.clock,p0.pages,p0.gone,l3,(w64 (p0.proposed+1)),p0.watches,p0.lasts⟩:State),0):Option (State×Int))) fun k1=>
 if (decide (40≤(p0.proposals.length:Int))) then
  k1 true
 else
 k1 (decide (1073741824≤p0.proposed))
theorem Zoj (p0:State) (p1:Change) (r:State×Int) (h:Zcf p0 p1=some r):Zd Tryz.prog 95 [p0.pv,p1.pv] (.tup [r.1.pv,.int .i64 r.2]):=by
 refine cF (fun r=>.tup [r.1.pv,.int .i64 r.2]) h mix Tryz.func95 fun r h=>?_
 unfold Zcf at h
 refine Zh ?_
 refine rg ?_
 refine jL h (fun x1=>mkS [(2,.ptr 2 (1,2) 0),(3,.ptr 3 (1,3) 0),(4,.ptr 4 (1,4) 0),(15,.bool x1)] [(2,some ((1,2),.box (State.cs p0))),(3,some ((1,3),.box (Change.cs p1))),(4,some ((1,4),.box [.int .i64 0,.int .i64 0,.nil,.nil,.nil,.int .i64 0,.nil,.nil]))] 2) (fun k1 h=>?_) fun x1 h=>?_
 ·refine rg ?_
  refine lM Proposal.cs p0.proposals ?_
  refine kS 11 h rfl (fun h=>?_) fun h=>?_
  ·iterate 3 refine Zi rfl (Zh ?_)
   exact jn true h (sR [(2,1,0),(3,1,1),(4,1,2)])
  exact jn (decide (1073741824≤p0.proposed)) h (sR [(2,1,0),(3,1,1),(4,1,2)])
 refine cS h rfl (fun h=>?_) fun h=>?_
 ·refine rg ?_
  cases h
  exact rQ
 refine rg ?_
 refine rg ?_
 refine rg ?_
 obtain ⟨l2,h1,h⟩:=bnd h
 refine Zil (f:=Proposal.cs) rfl h1 (fun _=>rfl) rfl rfl rfl (Zh ?_)
 refine ZZ (M:=([(⟨(w64 (p0.proposed+1)),p1.user,p1.note,p1.title,p1.n,p1.text,p0.clock⟩:Proposal)]:List Proposal)) (f:=Proposal.cs) rfl rfl rfl rfl (Nat.le_of_ble_eq_true rfl) rfl (Zh ?_)
 refine pR Proposal.cs h fun l3 h=>?_
 refine rg ?_
 cases h
 exact rQ
def Zkv:Option Title:=
 (some (⟨5,(⟨#[80,111,108,105,99,121]⟩:ByteArray)⟩:Title):Option Title)
theorem Zpi  (r:Title) (h:Zkv=some r):Zd Tryz.prog 132 [] (r.pv):=by
 refine cF (fun r=>r.pv) h mix Tryz.func132 fun r h=>?_
 unfold Zkv at h
 refine Zh ?_
 refine rg ?_
 refine rg ?_
 cases h
 exact rQ
def Zlz (p0:State) (p1:Title):Option (ByteArray×Bool):=
 (Zce p0 p1).bind fun r1=>
 (Zdi r1.1).bind fun r2=>
 (some (r2.text,r1.2):Option (ByteArray×Bool))
theorem Zso (p0:State) (p1:Title) (r:ByteArray×Bool) (h:Zlz p0 p1=some r):Zd Tryz.prog 131 [p0.pv,p1.pv] (.tup [.str r.1,.bool r.2]):=by
 refine cF (fun r=>.tup [.str r.1,.bool r.2]) h mix Tryz.func131 fun r h=>?_
 unfold Zlz at h
 refine Zh ?_
 refine rg ?_
 refine rg ?_
 refine aC h (Zef _ _) fun r1 h=>?_
 refine rg ?_
 refine aC h (ZjN _) fun r2 h=>?_
 cases h
 exact rQ
def ZgV (p0:State) (p1:Change):Option (State×Int):=
 ZE Zaj (fun f7 ((x31,x32):Int×(List Proposal))=>
  if (decide (x31<(p0.proposals.length:Int))) then
   letk (fun (x43:List Proposal)=>
    f7 ((w64 (x31+1)),x43)) fun k8=>
   (atI p0.proposals x31).bind fun e44=>
   if (!decide (e44.id=p1.n)) then
    (atI p0.proposals x31).bind fun e45=>
    (ZcF 96 x32 [e45]).bind fun l46=>
    k8 l46
   else
   k8 x32
  else
  if (decide ((x32.length:Int)=(p0.proposals.length:Int))) then
   (some (p0,4):Option (State×Int))
  else
  (some ((⟨p0.seq,p0.clock,p0.pages,p0.gone,x32,p0.proposed,p0.watches,p0.lasts⟩:State),0):Option (State×Int))) (0,([]:List Proposal))
theorem Zsp (p0:State) (p1:Change) (r:State×Int) (h:ZgV p0 p1=some r):Zd Tryz.prog 96 [p0.pv,p1.pv] (.tup [r.1.pv,.int .i64 r.2]):=by
 refine cF (fun r=>.tup [r.1.pv,.int .i64 r.2]) h mix Tryz.func96 fun r h=>?_
 unfold ZgV at h
 refine Zh ?_
 refine rg ?_
 refine rg ?_
 refine rg ?_
 refine bl ?_
 refine Zn h fun f7 mf7 hf7 h=>?_
 refine Zk (α:=Nat×(Int×(List Proposal))) (fun a _=>mkS [(2,.ptr 2 (1,2) 0),(3,.ptr 3 (1,3) 0),(4,.ptr 4 (1,4) 0),(6,.row 6 (1,6)),(7,.int .i64 a.2.1)] [(2,some ((1,2),.box (State.cs p0))),(3,some ((1,3),.box (Change.cs p1))),(4,some ((1,4),.box [.int .i64 0,.int .i64 0,.nil,.nil,.nil,.int .i64 0,.nil,.nil])),(6,some ((1,6),.row 183 8 false (List.map Proposal.cs a.2.2)))] 2) (fun a=>ZE a.1 f7 a.2=some r) (fun a=>a.1) (mf7,0,([]:List Proposal)) 2 h (Za9 [((1,2),(1,0)),((1,3),(1,1)),((1,4),(1,2))] 6 183 8 rfl ⟨rfl,rfl,rfl,rfl,rfl,trivial⟩ ⟨⟨rfl,rfl⟩,⟨rfl,rfl⟩,⟨rfl,rfl⟩,⟨rfl,rfl⟩,trivial⟩ rfl) (fun a _ h=>?_)
 obtain ⟨mf7,x31,x32⟩:=a
 obtain ⟨mf7,rfl,h⟩:=Zo hf7 h
 dsimp only at h ⊢
 refine Zh ?_
 refine rg ?_
 refine lM Proposal.cs p0.proposals ?_
 refine cS h rfl (fun h=>?_) fun h=>?_
 ·refine jL h (fun x43=>mkS [(2,.ptr 2 (1,2) 0),(3,.ptr 3 (1,3) 0),(4,.ptr 4 (1,4) 0),(6,.row 6 (1,6)),(7,.int .i64 x31)] [(2,some ((1,2),.box (State.cs p0))),(3,some ((1,3),.box (Change.cs p1))),(4,some ((1,4),.box [.int .i64 0,.int .i64 0,.nil,.nil,.nil,.int .i64 0,.nil,.nil])),(6,some ((1,6),.row 183 8 false (List.map Proposal.cs x43)))] 2) (fun k8 h=>?_) fun x43 h=>?_
  ·refine bl ?_
   refine rg ?_
   refine aI Proposal.cs h fun e44 h=>?_
   refine cS h rfl (fun h=>?_) fun h=>?_
   ·refine rg ?_
    refine aI Proposal.cs h fun e45 h=>?_
    refine ZZ (M:=([e45]:List Proposal)) (f:=Proposal.cs) rfl rfl rfl rfl (Nat.le_of_ble_eq_true rfl) rfl (Zh ?_)
    refine pR Proposal.cs h fun l46 h=>?_
    exact jn l46 h (sR [(2,1,2),(3,1,3),(4,1,4),(6,4,7)])
   exact jn x32 h (sR [(2,1,2),(3,1,3),(4,1,4),(6,1,6)])
  refine rg ?_
  exact rn (mf7,(w64 (x31+1)),x43) h (sR [(2,1,2),(3,1,3),(4,1,4),(6,1,6)])
 refine rg ?_
 refine lM Proposal.cs x32 ?_
 refine lM Proposal.cs p0.proposals ?_
 refine cS h rfl (fun h=>?_) fun h=>?_
 ·refine rg ?_
  cases h
  exact rQ
 refine rg ?_
 refine rg ?_
 cases h
 exact rQ
end Go.Proofs.YtjoneoobolnnbaaGreatDoor
