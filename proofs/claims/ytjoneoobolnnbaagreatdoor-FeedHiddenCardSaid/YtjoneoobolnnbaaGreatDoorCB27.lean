/- Functions of the program as Lean functions. Written by fxgen.py. -/
import Derived.Test.YtjoneoobolnnbaaGreatDoorCB26
import Derived.Test.YtjoneoobolnnbaaGreatDoorCB16
import Derived.Test.YtjoneoobolnnbaaGreatDoorCB35
import Derived.Test.YtjoneoobolnnbaaGreatDoorCB04
import Derived.Test.YtjoneoobolnnbaaGreatDoorCB03
set_option linter.unusedVariables false
set_option maxHeartbeats 4000000
set_option maxRecDepth 100000
namespace Go.Proofs.YtjoneoobolnnbaaGreatDoor
open VL
def ZhZ (p0:Title):Option ByteArray:=
 (ZbD p0).bind fun r1=>
 if (!r1) then
  (some (⟨#[]⟩:ByteArray):Option ByteArray)
 else
 if (decide (p0.space=0)) then
  (some p0.name:Option ByteArray)
 else
 (ZcM p0.space).bind fun r2=>
 (Zns r2 (⟨#[58]⟩:ByteArray)).bind fun s3=>
 (Zns s3 p0.name).bind fun s4=>
 (some s4:Option ByteArray)
theorem Zrd (p0:Title) (r:ByteArray) (h:ZhZ p0=some r):Zd Tryz.prog 185 [p0.pv] (.str r):=by
 refine cF (fun r=>.str r) h mix Tryz.func185 fun r h=>?_
 unfold ZhZ at h
 refine Zh ?_
 refine rg ?_
 refine rg ?_
 refine aC h (Zcv _) fun r1 h=>?_
 refine cS h rfl (fun h=>?_) fun h=>?_
 ·refine rg ?_
  cases h
  exact rQ
 refine rg ?_
 refine cS h rfl (fun h=>?_) fun h=>?_
 ·refine rg ?_
  cases h
  exact rQ
 refine rg ?_
 refine aC h (Zgb _) fun r2 h=>?_
 refine sT h fun s3 h=>?_
 refine sT h fun s4 h=>?_
 cases h
 exact rQ
def ZeJ (p0:Title):Option ByteArray:=
 (ZhZ p0).bind fun r1=>
 (Zns (⟨#[35,82,69,68,73,82,69,67,84,32,91,91]⟩:ByteArray) r1).bind fun s2=>
 (Zns s2 (⟨#[93,93]⟩:ByteArray)).bind fun s3=>
 (some s3:Option ByteArray)
theorem Znk (p0:Title) (r:ByteArray) (h:ZeJ p0=some r):Zd Tryz.prog 149 [p0.pv] (.str r):=by
 refine cF (fun r=>.str r) h mix Tryz.func149 fun r h=>?_
 unfold ZeJ at h
 refine Zh ?_
 refine rg ?_
 refine rg ?_
 refine aC h (Zrd _) fun r1 h=>?_
 refine sT h fun s2 h=>?_
 refine sT h fun s3 h=>?_
 cases h
 exact rQ
def Ze7 (p0:State) (p1:Change) (p2:Int):Option (State×Int):=
 (Zcd p0.pages p1.title).bind fun r1=>
 if (decide (r1<0)) then
  (some (p0,4):Option (State×Int))
 else
 (Zcd p0.pages p1.to).bind fun r2=>
 if (decide (0≤r2)) then
  (some (p0,5):Option (State×Int))
 else
 letk (fun (x3:Bool)=>
  if x3 then
   (some (p0,8):Option (State×Int))
  else
  (atI p0.pages r1).bind fun e4=>
  (Zdj p0.pages r1).bind fun r5=>
  (ZcS r5 (⟨p1.to,e4.history⟩:Stored)).bind fun r6=>
  letk (fun (x9:List Stored)=>
   (Zit p0.proposals p1.title).bind fun r10=>
   (some ((⟨p0.seq,p0.clock,x9,p0.gone,r10,p0.proposed,p0.watches,p0.lasts⟩:State),0):Option (State×Int))) fun k2=>
  if (decide (p1.n=1)) then
   (ZeJ p1.to).bind fun r11=>
   (ZcS r6 (⟨p1.title,[(⟨1,p1.user,(⟨#[]⟩:ByteArray),r11,p0.clock,p2⟩:Revision)]⟩:Stored)).bind fun r12=>
   k2 r12
  else
  k2 r6) fun k1=>
 if (decide (p1.n=1)) then
  k1 (decide (200≤(p0.pages.length:Int)))
 else
 k1 false
theorem ZsS (p0:State) (p1:Change) (p2:Int) (r:State×Int) (h:Ze7 p0 p1 p2=some r):Zd Tryz.prog 92 [p0.pv,p1.pv,.int .i64 p2] (.tup [r.1.pv,.int .i64 r.2]):=by
 refine cF (fun r=>.tup [r.1.pv,.int .i64 r.2]) h mix Tryz.func92 fun r h=>?_
 unfold Ze7 at h
 refine Zh ?_
 refine rg ?_
 refine rg ?_
 refine aC h (Zee _ _) fun r1 h=>?_
 refine rg ?_
 refine cS h rfl (fun h=>?_) fun h=>?_
 ·refine rg ?_
  cases h
  exact rQ
 refine rg ?_
 refine aC h (Zee _ _) fun r2 h=>?_
 refine cS h rfl (fun h=>?_) fun h=>?_
 ·refine rg ?_
  cases h
  exact rQ
 refine jL h (fun x3=>mkS [(2,.int .i64 p2),(3,.ptr 3 (1,3) 0),(4,.ptr 4 (1,4) 0),(6,.ptr 6 (1,6) 0),(8,.int .i64 r1),(34,.bool x3)] [(3,some ((1,3),.box (State.cs p0))),(4,some ((1,4),.box (Change.cs p1))),(6,some ((1,6),.box [.int .i64 0,.int .i64 0,.nil,.nil,.nil,.int .i64 0,.nil,.nil]))] 2) (fun k1 h=>?_) fun x3 h=>?_
 ·refine rg ?_
  refine kS 29 h rfl (fun h=>?_) fun h=>?_
  ·refine lM Stored.cs p0.pages ?_
   exact jn (decide (200≤(p0.pages.length:Int))) h (sR [(3,1,0),(4,1,1),(6,1,2)])
  iterate 4 refine Zi rfl (Zh ?_)
  exact jn false h (sR [(3,1,0),(4,1,1),(6,1,2)])
 refine cS h rfl (fun h=>?_) fun h=>?_
 ·refine rg ?_
  cases h
  exact rQ
 refine rg ?_
 refine aI Stored.cs h fun e4 h=>?_
 refine rg ?_
 refine rg ?_
 refine aC h (ZgU _ _) fun r5 h=>?_
 refine aC h (ZeF _ _) fun r6 h=>?_
 refine rg ?_
 refine jL h (fun x9=>mkS [(3,.ptr 3 (1,3) 0),(4,.ptr 4 (1,4) 0),(6,.ptr 6 (1,6) 0)] [(3,some ((1,3),.box [.int .i64 p0.seq,.int .i64 p0.clock,.sl (List.map Stored.cs x9),.sl (List.map Stored.cs p0.gone),.sl (List.map Proposal.cs p0.proposals),.int .i64 p0.proposed,.sl (List.map Watch.cs p0.watches),.sl (List.map Last.cs p0.lasts)])),(4,some ((1,4),.box (Change.cs p1))),(6,some ((1,6),.box [.int .i64 0,.int .i64 0,.nil,.nil,.nil,.int .i64 0,.nil,.nil]))] 2) (fun k2 h=>?_) fun x9 h=>?_
 ·refine cS h rfl (fun h=>?_) fun h=>?_
  ·refine rg ?_
   refine aC h (Znk _) fun r11 h=>?_
   refine rg ?_
   refine ZZ (M:=([(⟨1,p1.user,(⟨#[]⟩:ByteArray),r11,p0.clock,p2⟩:Revision)]:List Revision)) (f:=Revision.cs) rfl rfl rfl rfl (Nat.le_of_ble_eq_true rfl) rfl (Zh ?_)
   refine aC h (ZeF _ _) fun r12 h=>?_
   exact jn r12 h (sR [(3,1,3),(4,1,4),(6,1,6)])
  exact jn r6 h (sR [(3,1,3),(4,1,4),(6,1,6)])
 refine rg ?_
 refine aC h (Zny _ _) fun r10 h=>?_
 refine rg ?_
 cases h
 exact rQ
def ZcK (p0:State) (p1:Change):Option (State×Int):=
 ZE Zaj (fun f7 ((x31,x32):Int×(List Watch))=>
  letk (fun (x42:Bool)=>
   if x42 then
    (atI p0.watches x31).bind fun e43=>
    (ZcF 40 x32 [e43]).bind fun l44=>
    f7 ((w64 (x31+1)),l44)
   else
   letk (fun (x46:Bool)=>
    if (decide (p1.kind=8)) then
     if (!x46) then
      (some (p0,4):Option (State×Int))
     else
     (ZjA p0.watches (w64 (x31+1)) (p0.watches.length:Int)).bind fun l49=>
     (ZcF 40 x32 l49).bind fun l50=>
     (some ((⟨p0.seq,p0.clock,p0.pages,p0.gone,p0.proposals,p0.proposed,l50,p0.lasts⟩:State),0):Option (State×Int))
    else
    if x46 then
     (some (p0,5):Option (State×Int))
    else
    if (decide (100≤(p0.watches.length:Int))) then
     (some (p0,8):Option (State×Int))
    else
    (ZcF 40 x32 [(⟨p1.user,p1.title⟩:Watch)]).bind fun l51=>
    (ZjA p0.watches x31 (p0.watches.length:Int)).bind fun l52=>
    (ZcF 40 l51 l52).bind fun l53=>
    (some ((⟨p0.seq,p0.clock,p0.pages,p0.gone,p0.proposals,p0.proposed,l53,p0.lasts⟩:State),0):Option (State×Int))) fun k9=>
   if (decide (x31<(p0.watches.length:Int))) then
    (atI p0.watches x31).bind fun e54=>
    k9 (decide (e54=(⟨p1.user,p1.title⟩:Watch)))
   else
   k9 false) fun k8=>
  if (decide (x31<(p0.watches.length:Int))) then
   (atI p0.watches x31).bind fun e55=>
   (Zfi e55 (⟨p1.user,p1.title⟩:Watch)).bind fun r56=>
   k8 r56
  else
  k8 false) (0,([]:List Watch))
theorem Zre (p0:State) (p1:Change) (r:State×Int) (h:ZcK p0 p1=some r):Zd Tryz.prog 94 [p0.pv,p1.pv] (.tup [r.1.pv,.int .i64 r.2]):=by
 refine cF (fun r=>.tup [r.1.pv,.int .i64 r.2]) h mix Tryz.func94 fun r h=>?_
 unfold ZcK at h
 refine Zh ?_
 refine rg ?_
 refine rg ?_
 refine rg ?_
 refine rg ?_
 refine bl ?_
 refine Zn h fun f7 mf7 hf7 h=>?_
 refine Zk (α:=Nat×(Int×(List Watch))) (fun a _=>mkS [(2,.ptr 2 (1,2) 0),(3,.ptr 3 (1,3) 0),(4,.ptr 4 (1,4) 0),(6,.ptr 6 (1,6) 0),(7,.row 7 (1,7)),(8,.int .i64 a.2.1)] [(2,some ((1,2),.box (State.cs p0))),(3,some ((1,3),.box (Change.cs p1))),(4,some ((1,4),.box [.int .i64 0,.int .i64 0,.nil,.nil,.nil,.int .i64 0,.nil,.nil])),(6,some ((1,6),.box [.str p1.user,.int .i64 p1.title.space,.str p1.title.name])),(7,some ((1,7),.row 34 3 false (List.map Watch.cs a.2.2)))] 2) (fun a=>ZE a.1 f7 a.2=some r) (fun a=>a.1) (mf7,0,([]:List Watch)) 2 h (Za9 [((1,2),(1,0)),((1,3),(1,1)),((1,4),(1,2)),((1,6),(2,5))] 7 34 3 rfl ⟨rfl,rfl,rfl,rfl,rfl,rfl,trivial⟩ ⟨⟨rfl,rfl⟩,⟨rfl,rfl⟩,⟨rfl,rfl⟩,⟨rfl,rfl⟩,⟨rfl,rfl⟩,trivial⟩ rfl) (fun a _ h=>?_)
 obtain ⟨mf7,x31,x32⟩:=a
 obtain ⟨mf7,rfl,h⟩:=Zo hf7 h
 dsimp only at h ⊢
 refine Zh ?_
 refine jL h (fun x42=>mkS [(2,.ptr 2 (1,2) 0),(3,.ptr 3 (1,3) 0),(4,.ptr 4 (1,4) 0),(6,.ptr 6 (1,6) 0),(7,.row 7 (1,7)),(8,.int .i64 x31),(28,.bool x42)] [(2,some ((1,2),.box (State.cs p0))),(3,some ((1,3),.box (Change.cs p1))),(4,some ((1,4),.box [.int .i64 0,.int .i64 0,.nil,.nil,.nil,.int .i64 0,.nil,.nil])),(6,some ((1,6),.box [.str p1.user,.int .i64 p1.title.space,.str p1.title.name])),(7,some ((1,7),.row 34 3 false (List.map Watch.cs x32)))] 2) (fun k8 h=>?_) fun x42 h=>?_
 ·refine rg ?_
  refine lM Watch.cs p0.watches ?_
  refine kS 20 h rfl (fun h=>?_) fun h=>?_
  ·refine aI Watch.cs h fun e55 h=>?_
   refine aC h (Zk4 _ _) fun r56 h=>?_
   exact jn r56 h (sR [(2,1,2),(3,1,3),(4,1,4),(6,1,6),(7,1,7)])
  iterate 7 refine Zi rfl (Zh ?_)
  exact jn false h (sR [(2,1,2),(3,1,3),(4,1,4),(6,1,6),(7,1,7)])
 refine cS h rfl (fun h=>?_) fun h=>?_
 ·refine bl ?_
  refine rg ?_
  refine aI Watch.cs h fun e43 h=>?_
  refine ZZ (M:=([e43]:List Watch)) (f:=Watch.cs) rfl rfl rfl rfl (Nat.le_of_ble_eq_true rfl) rfl (Zh ?_)
  refine pR Watch.cs h fun l44 h=>?_
  refine rg ?_
  exact rn (mf7,(w64 (x31+1)),l44) h (sR [(2,1,2),(3,1,3),(4,1,4),(6,1,6),(7,2,7)])
 refine jL h (fun x46=>mkS [(2,.ptr 2 (1,2) 0),(3,.ptr 3 (1,3) 0),(4,.ptr 4 (1,4) 0),(6,.ptr 6 (1,6) 0),(7,.row 7 (1,7)),(8,.int .i64 x31),(9,.bool x46)] [(2,some ((1,2),.box (State.cs p0))),(3,some ((1,3),.box (Change.cs p1))),(4,some ((1,4),.box [.int .i64 0,.int .i64 0,.nil,.nil,.nil,.int .i64 0,.nil,.nil])),(6,some ((1,6),.box [.str p1.user,.int .i64 p1.title.space,.str p1.title.name])),(7,some ((1,7),.row 34 3 false (List.map Watch.cs x32)))] 2) (fun k9 h=>?_) fun x46 h=>?_
 ·refine rg ?_
  refine lM Watch.cs p0.watches ?_
  refine kS 44 h rfl (fun h=>?_) fun h=>?_
  ·refine aI Watch.cs h fun e54 h=>?_
   refine Ze3 (.inl rfl) rfl rfl rfl rfl rfl (fun W=>ZvS e54 (⟨p1.user,p1.title⟩:Watch) W) (Zh ?_)
   exact jn (decide (e54=(⟨p1.user,p1.title⟩:Watch))) h (sR [(2,1,2),(3,1,3),(4,1,4),(6,1,6),(7,1,7)])
  iterate 7 refine Zi rfl (Zh ?_)
  exact jn false h (sR [(2,1,2),(3,1,3),(4,1,4),(6,1,6),(7,1,7)])
 refine rg ?_
 refine cS h rfl (fun h=>?_) fun h=>?_
 ·refine rg ?_
  refine cS h rfl (fun h=>?_) fun h=>?_
  ·refine rg ?_
   cases h
   exact rQ
  refine rg ?_
  refine sM Watch.cs h fun l49 h=>?_
  refine pR Watch.cs h fun l50 h=>?_
  refine rg ?_
  cases h
  exact rQ
 refine rg ?_
 refine cS h rfl (fun h=>?_) fun h=>?_
 ·refine rg ?_
  cases h
  exact rQ
 refine rg ?_
 refine lM Watch.cs p0.watches ?_
 refine cS h rfl (fun h=>?_) fun h=>?_
 ·refine rg ?_
  cases h
  exact rQ
 refine rg ?_
 refine ZZ (M:=([(⟨p1.user,p1.title⟩:Watch)]:List Watch)) (f:=Watch.cs) rfl rfl rfl rfl (Nat.le_of_ble_eq_true rfl) rfl (Zh ?_)
 refine pR Watch.cs h fun l51 h=>?_
 refine sM Watch.cs h fun l52 h=>?_
 refine pR Watch.cs h fun l53 h=>?_
 refine rg ?_
 cases h
 exact rQ
def Zg2 (p0:Change):Option Bool:=
 letk (fun (x1:Bool)=>
  letk (fun (x2:Bool)=>
   letk (fun (x3:Bool)=>
    letk (fun (x4:Bool)=>
     if x4 then
      (some false:Option Bool)
     else
     letk (fun (x5:Bool)=>
      if x5 then
       (some false:Option Bool)
      else
      letk (fun (x6:Bool)=>
       if x6 then
        (some false:Option Bool)
       else
       letk (fun (x7:Bool)=>
        (some x7:Option Bool)) fun k7=>
       if (decide (p0.kind=4)) then
        if (decide (p0.kind=5)) then
         k7 true
        else
        k7 (decide ((p0.history.length:Int)=0))
       else
       if (decide (p0.to=(⟨0,(⟨#[]⟩:ByteArray)⟩:Title))) then
        if (decide (p0.kind=5)) then
         k7 true
        else
        k7 (decide ((p0.history.length:Int)=0))
       else
       k7 false) fun k6=>
      if (decide (p0.kind=6)) then
       k6 (!decide (p0.user=(⟨#[]⟩:ByteArray)))
      else
      k6 false) fun k5=>
     if (!x1) then
      if (!decide (p0.note=(⟨#[]⟩:ByteArray))) then
       k5 true
      else
      if (!decide (p0.text=(⟨#[]⟩:ByteArray))) then
       k5 true
      else
      if (!x2) then
       if (!decide (p0.n=0)) then
        k5 true
       else
       if (!x3) then
        k5 (!decide (p0.title=(⟨0,(⟨#[]⟩:ByteArray)⟩:Title)))
       else
       k5 false
      else
      if (!x3) then
       k5 (!decide (p0.title=(⟨0,(⟨#[]⟩:ByteArray)⟩:Title)))
      else
      k5 false
     else
     if (!x2) then
      if (!decide (p0.n=0)) then
       k5 true
      else
      if (!x3) then
       k5 (!decide (p0.title=(⟨0,(⟨#[]⟩:ByteArray)⟩:Title)))
      else
      k5 false
     else
     if (!x3) then
      k5 (!decide (p0.title=(⟨0,(⟨#[]⟩:ByteArray)⟩:Title)))
     else
     k5 false) fun k4=>
    if (decide (p0.kind<1)) then
     k4 true
    else
    k4 (decide (10<p0.kind))) fun k3=>
   if (!decide (p0.kind=6)) then
    k3 (!decide (p0.kind=10))
   else
   k3 false) fun k2=>
  if (decide (p0.kind=4)) then
   k2 true
  else
  if (decide (p0.kind=6)) then
   k2 true
  else
  if (decide (p0.kind=9)) then
   k2 true
  else
  k2 (decide (p0.kind=10))) fun k1=>
 if (decide (p0.kind=1)) then
  k1 true
 else
 k1 (decide (p0.kind=9))
theorem ZsR (p0:Change) (r:Bool) (h:Zg2 p0=some r):Zd Tryz.prog 87 [p0.pv] (.bool r):=by
 refine cF (fun r=>.bool r) h mix Tryz.func87 fun r h=>?_
 unfold Zg2 at h
 refine Zh ?_
 refine rg ?_
 refine jL h (fun x1=>mkS [(1,.ptr 1 (1,1) 0),(3,.bool x1)] [(1,some ((1,1),.box (Change.cs p0)))] 2) (fun k1 h=>?_) fun x1 h=>?_
 ·refine rg ?_
  refine kS 9 h rfl (fun h=>?_) fun h=>?_
  ·iterate 3 refine Zi rfl (Zh ?_)
   exact jn true h (sR [(1,1,0)])
  exact jn (decide (p0.kind=9)) h (sR [(1,1,0)])
 refine jL h (fun x2=>mkS [(1,.ptr 1 (1,1) 0),(3,.bool x1),(4,.bool x2)] [(1,some ((1,1),.box (Change.cs p0)))] 2) (fun k2 h=>?_) fun x2 h=>?_
 ·refine rg ?_
  refine kS 17 h rfl (fun h=>?_) fun h=>?_
  ·iterate 9 refine Zi rfl (Zh ?_)
   exact jn true h (sR [(1,1,1)])
  refine kS 22 h rfl (fun h=>?_) fun h=>?_
  ·iterate 6 refine Zi rfl (Zh ?_)
   exact jn true h (sR [(1,1,1)])
  refine kS 27 h rfl (fun h=>?_) fun h=>?_
  ·iterate 3 refine Zi rfl (Zh ?_)
   exact jn true h (sR [(1,1,1)])
  exact jn (decide (p0.kind=10)) h (sR [(1,1,1)])
 refine jL h (fun x3=>mkS [(1,.ptr 1 (1,1) 0),(3,.bool x1),(4,.bool x2),(5,.bool x3)] [(1,some ((1,1),.box (Change.cs p0)))] 2) (fun k3 h=>?_) fun x3 h=>?_
 ·refine rg ?_
  refine kS 35 h rfl (fun h=>?_) fun h=>?_
  ·exact jn (!decide (p0.kind=10)) h (sR [(1,1,1)])
  iterate 3 refine Zi rfl (Zh ?_)
  exact jn false h (sR [(1,1,1)])
 refine jL h (fun x4=>mkS [(1,.ptr 1 (1,1) 0),(3,.bool x1),(4,.bool x2),(5,.bool x3),(47,.bool x4)] [(1,some ((1,1),.box (Change.cs p0)))] 2) (fun k4 h=>?_) fun x4 h=>?_
 ·refine rg ?_
  refine kS 43 h rfl (fun h=>?_) fun h=>?_
  ·iterate 3 refine Zi rfl (Zh ?_)
   exact jn true h (sR [(1,1,1)])
  exact jn (decide (10<p0.kind)) h (sR [(1,1,1)])
 refine cS h rfl (fun h=>?_) fun h=>?_
 ·refine rg ?_
  cases h
  exact rQ
 refine jL h (fun x5=>mkS [(1,.ptr 1 (1,1) 0),(78,.bool x5)] [(1,some ((1,1),.box (Change.cs p0)))] 2) (fun k5 h=>?_) fun x5 h=>?_
 ·refine rg ?_
  refine kS 50 h rfl (fun h=>?_) fun h=>?_
  ·refine kS 54 h rfl (fun h=>?_) fun h=>?_
   ·iterate 18 refine Zi rfl (Zh ?_)
    exact jn true h (sR [(1,1,1)])
   refine kS 60 h rfl (fun h=>?_) fun h=>?_
   ·iterate 15 refine Zi rfl (Zh ?_)
    exact jn true h (sR [(1,1,1)])
   refine kS 63 h rfl (fun h=>?_) fun h=>?_
   ·refine kS 69 h rfl (fun h=>?_) fun h=>?_
    ·iterate 8 refine Zi rfl (Zh ?_)
     exact jn true h (sR [(1,1,1)])
    refine kS 72 h rfl (fun h=>?_) fun h=>?_
    ·refine Ze3 (.inr rfl) rfl rfl rfl rfl rfl (fun W=>ZfU p0.title (⟨0,(⟨#[]⟩:ByteArray)⟩:Title) W) (Zh ?_)
     exact jn (!decide (p0.title=(⟨0,(⟨#[]⟩:ByteArray)⟩:Title))) h (sR [(1,1,1)])
    iterate 4 refine Zi rfl (Zh ?_)
    exact jn false h (sR [(1,1,1)])
   iterate 3 refine Zi rfl (Zh ?_)
   refine kS 72 h rfl (fun h=>?_) fun h=>?_
   ·refine Ze3 (.inr rfl) rfl rfl rfl rfl rfl (fun W=>ZfU p0.title (⟨0,(⟨#[]⟩:ByteArray)⟩:Title) W) (Zh ?_)
    exact jn (!decide (p0.title=(⟨0,(⟨#[]⟩:ByteArray)⟩:Title))) h (sR [(1,1,1)])
   iterate 4 refine Zi rfl (Zh ?_)
   exact jn false h (sR [(1,1,1)])
  iterate 8 refine Zi rfl (Zh ?_)
  refine kS 63 h rfl (fun h=>?_) fun h=>?_
  ·refine kS 69 h rfl (fun h=>?_) fun h=>?_
   ·iterate 8 refine Zi rfl (Zh ?_)
    exact jn true h (sR [(1,1,1)])
   refine kS 72 h rfl (fun h=>?_) fun h=>?_
   ·refine Ze3 (.inr rfl) rfl rfl rfl rfl rfl (fun W=>ZfU p0.title (⟨0,(⟨#[]⟩:ByteArray)⟩:Title) W) (Zh ?_)
    exact jn (!decide (p0.title=(⟨0,(⟨#[]⟩:ByteArray)⟩:Title))) h (sR [(1,1,1)])
   iterate 4 refine Zi rfl (Zh ?_)
   exact jn false h (sR [(1,1,1)])
  iterate 3 refine Zi rfl (Zh ?_)
  refine kS 72 h rfl (fun h=>?_) fun h=>?_
  ·refine Ze3 (.inr rfl) rfl rfl rfl rfl rfl (fun W=>ZfU p0.title (⟨0,(⟨#[]⟩:ByteArray)⟩:Title) W) (Zh ?_)
   exact jn (!decide (p0.title=(⟨0,(⟨#[]⟩:ByteArray)⟩:Title))) h (sR [(1,1,1)])
  iterate 4 refine Zi rfl (Zh ?_)
  exact jn false h (sR [(1,1,1)])
 refine cS h rfl (fun h=>?_) fun h=>?_
 ·refine rg ?_
  cases h
  exact rQ
 refine jL h (fun x6=>mkS [(1,.ptr 1 (1,1) 0),(86,.bool x6)] [(1,some ((1,1),.box (Change.cs p0)))] 2) (fun k6 h=>?_) fun x6 h=>?_
 ·refine rg ?_
  refine kS 82 h rfl (fun h=>?_) fun h=>?_
  ·exact jn (!decide (p0.user=(⟨#[]⟩:ByteArray))) h (sR [(1,1,1)])
  iterate 3 refine Zi rfl (Zh ?_)
  exact jn false h (sR [(1,1,1)])
 refine cS h rfl (fun h=>?_) fun h=>?_
 ·refine rg ?_
  cases h
  exact rQ
 refine jL h (fun x7=>mkS [(2,.bool x7)] [] 2) (fun k7 h=>?_) fun x7 h=>?_
 ·refine rg ?_
  refine kS 90 h rfl (fun h=>?_) fun h=>?_
  ·iterate 4 refine Zi rfl (Zh ?_)
   refine kS 100 h rfl (fun h=>?_) fun h=>?_
   ·iterate 4 refine Zi rfl (Zh ?_)
    exact jn true h (sR [])
   refine lM Revision.cs p0.history ?_
   exact jn (decide ((p0.history.length:Int)=0)) h (sR [])
  refine Ze3 (.inl rfl) rfl rfl rfl rfl rfl (fun W=>ZdP p0.to (⟨0,(⟨#[]⟩:ByteArray)⟩:Title) W) (Zh ?_)
  refine kS 96 h rfl (fun h=>?_) fun h=>?_
  ·refine kS 100 h rfl (fun h=>?_) fun h=>?_
   ·iterate 4 refine Zi rfl (Zh ?_)
    exact jn true h (sR [])
   refine lM Revision.cs p0.history ?_
   exact jn (decide ((p0.history.length:Int)=0)) h (sR [])
  iterate 9 refine Zi rfl (Zh ?_)
  exact jn false h (sR [])
 cases h
 exact rQ
end Go.Proofs.YtjoneoobolnnbaaGreatDoor
