/- Functions of the program as Lean functions. Written by fxgen.py. -/
import Derived.Test.YtjoneoobolnnbaaGreatDoorCB18
import Derived.Test.YtjoneoobolnnbaaGreatDoorCB04
set_option linter.unusedVariables false
set_option maxHeartbeats 4000000
set_option maxRecDepth 100000
namespace Go.Proofs.YtjoneoobolnnbaaGreatDoor
open VL
def Zr (p0:Policy) (p1:ByteArray):Option (Policy×Bool):=
 (ZmT p1).bind fun r1=>
 letk (fun (x4:Bool)=>
  if x4 then
   (some (p0,true):Option (Policy×Bool))
  else
  (atI r1 0).bind fun e5=>
  if (decide (e5=(⟨#[103,114,111,117,112]⟩:ByteArray))) then
   if (decide ((r1.length:Int)<2)) then
    (some (p0,false):Option (Policy×Bool))
   else
   (ZcF 40 [] p0.groups).bind fun l32=>
   (atI r1 1).bind fun e33=>
   (ZjA r1 2 (r1.length:Int)).bind fun l34=>
   (ZcF 16 [] l34).bind fun l35=>
   (ZcF 40 l32 [(⟨e33,l35⟩:Group)]).bind fun l36=>
   (some ((⟨l36,p0.rules,p0.guards⟩:Policy),true):Option (Policy×Bool))
  else
  letk (fun (x37:Bool)=>
   if x37 then
    letk (fun (x40:Bool)=>
     if x40 then
      (some (p0,false):Option (Policy×Bool))
     else
     (Zlw p1 3).bind fun r41=>
     (ZgZ r41).bind fun r42=>
     (ZcF 64 [] p0.rules).bind fun l43=>
     (atI r1 0).bind fun e44=>
     (atI r1 1).bind fun e45=>
     (Zg7 e45).bind fun r46=>
     (atI r1 2).bind fun e47=>
     (ZcF 64 l43 [(⟨(decide (e44=(⟨#[97,108,108,111,119]⟩:ByteArray))),r46,e47,r42.1⟩:Rule)]).bind fun l48=>
     (some ((⟨p0.groups,l48,p0.guards⟩:Policy),r42.2):Option (Policy×Bool))) fun k6=>
    if (decide ((r1.length:Int)<4)) then
     k6 true
    else
    (atI r1 1).bind fun e49=>
    (Zg7 e49).bind fun r50=>
    k6 (decide (r50=0))
   else
   letk (fun (x51:Bool)=>
    if x51 then
     if (decide ((r1.length:Int)<3)) then
      (some (p0,false):Option (Policy×Bool))
     else
     (Zlw p1 2).bind fun r52=>
     (Zg0 r52).bind fun r53=>
     (ZcF 64 [] p0.guards).bind fun l54=>
     (atI r1 0).bind fun e55=>
     (atI r1 1).bind fun e56=>
     (ZcF 64 l54 [(⟨(decide (e55=(⟨#[115,116,114,105,99,116]⟩:ByteArray))),e56,r53.1,r53.2.1⟩:Guard)]).bind fun l57=>
     (some ((⟨p0.groups,p0.rules,l57⟩:Policy),r53.2.2):Option (Policy×Bool))
    else
    (some (p0,false):Option (Policy×Bool))) fun k7=>
   if (decide (e5=(⟨#[103,117,97,114,100]⟩:ByteArray))) then
    k7 (decide (e5=(⟨#[103,117,97,114,100]⟩:ByteArray)))
   else
   k7 (decide (e5=(⟨#[115,116,114,105,99,116]⟩:ByteArray)))) fun k5=>
  if (decide (e5=(⟨#[97,108,108,111,119]⟩:ByteArray))) then
   k5 (decide (e5=(⟨#[97,108,108,111,119]⟩:ByteArray)))
  else
  k5 (decide (e5=(⟨#[100,101,110,121]⟩:ByteArray)))) fun k1=>
 if (decide ((r1.length:Int)=0)) then
  k1 true
 else
 (atI r1 0).bind fun e58=>
 (atS e58 0).bind fun c59=>
 k1 (decide (c59=35))
theorem ZmV (p0:Policy) (p1:ByteArray) (r:Policy×Bool) (h:Zr p0 p1=some r):Zd Tryz.prog 151 [p0.pv,.str p1] (.tup [r.1.pv,.bool r.2]):=by
 refine cF (fun r=>.tup [r.1.pv,.bool r.2]) h mix Tryz.func151 fun r h=>?_
 unfold Zr at h
 refine Zh ?_
 refine rg ?_
 refine rg ?_
 refine aC h (Zro _) fun r1 h=>?_
 refine jL h (fun x4=>mkS [(1,.str p1),(2,.ptr 2 (1,2) 0),(4,.ptr 4 (1,4) 0),(6,.sl (List.map csS r1)),(23,.bool x4)] [(2,some ((1,2),.box (Policy.cs p0))),(4,some ((1,4),.box [.nil,.nil,.nil]))] 2) (fun k1 h=>?_) fun x4 h=>?_
 ·refine rg ?_
  refine lM csS r1 ?_
  refine kS 17 h rfl (fun h=>?_) fun h=>?_
  ·iterate 5 refine Zi rfl (Zh ?_)
   exact jn true h (sR [(2,1,0),(4,1,1)])
  refine aI csS h fun e58 h=>?_
  refine aS h fun c59 h=>?_
  exact jn (decide (c59=35)) h (sR [(2,1,0),(4,1,1)])
 refine cS h rfl (fun h=>?_) fun h=>?_
 ·refine rg ?_
  cases h
  exact rQ
 refine rg ?_
 refine aI csS h fun e5 h=>?_
 refine bl ?_
 refine rg ?_
 refine cS h rfl (fun h=>?_) fun h=>?_
 ·refine rg ?_
  refine lM csS r1 ?_
  refine cS h rfl (fun h=>?_) fun h=>?_
  ·refine rg ?_
   cases h
   exact rQ
  refine rg ?_
  obtain ⟨l32,h28,h⟩:=bnd h
  refine Zil (f:=Group.cs) rfl h28 (fun _=>rfl) rfl rfl rfl (Zh ?_)
  refine aI csS h fun e33 h=>?_
  refine sM csS h fun l34 h=>?_
  obtain ⟨l35,h31,h⟩:=bnd h
  refine Zil (f:=csS) rfl h31 (fun _=>rfl) rfl rfl rfl (Zh ?_)
  refine ZZ (M:=([(⟨e33,l35⟩:Group)]:List Group)) (f:=Group.cs) rfl rfl rfl rfl (Nat.le_of_ble_eq_true rfl) rfl (Zh ?_)
  refine pR Group.cs h fun l36 h=>?_
  refine rg ?_
  cases h
  exact rQ
 refine rg ?_
 refine jL h (fun x37=>mkS [(1,.str p1),(2,.ptr 2 (1,2) 0),(4,.ptr 4 (1,4) 0),(6,.sl (List.map csS r1)),(27,.str e5),(48,.bool x37)] [(2,some ((1,2),.box (Policy.cs p0))),(4,some ((1,4),.box [.nil,.nil,.nil]))] 2) (fun k5 h=>?_) fun x37 h=>?_
 ·refine cS h rfl (fun h=>?_) fun h=>?_
  ·exact jn (decide (e5=(⟨#[97,108,108,111,119]⟩:ByteArray))) h (sR [(2,1,2),(4,1,4)])
  refine rg ?_
  exact jn (decide (e5=(⟨#[100,101,110,121]⟩:ByteArray))) h (sR [(2,1,2),(4,1,4)])
 refine cS h rfl (fun h=>?_) fun h=>?_
 ·refine jL h (fun x40=>mkS [(1,.str p1),(2,.ptr 2 (1,2) 0),(4,.ptr 4 (1,4) 0),(6,.sl (List.map csS r1)),(60,.bool x40)] [(2,some ((1,2),.box (Policy.cs p0))),(4,some ((1,4),.box [.nil,.nil,.nil]))] 2) (fun k6 h=>?_) fun x40 h=>?_
  ·refine rg ?_
   refine lM csS r1 ?_
   refine kS 54 h rfl (fun h=>?_) fun h=>?_
   ·iterate 5 refine Zi rfl (Zh ?_)
    exact jn true h (sR [(2,1,2),(4,1,4)])
   refine aI csS h fun e49 h=>?_
   refine aC h (Zkg _) fun r50 h=>?_
   exact jn (decide (r50=0)) h (sR [(2,1,2),(4,1,4)])
  refine cS h rfl (fun h=>?_) fun h=>?_
  ·refine rg ?_
   cases h
   exact rQ
  refine rg ?_
  refine aC h (Znx _ _) fun r41 h=>?_
  refine aC h (Zmp _) fun r42 h=>?_
  refine rg ?_
  obtain ⟨l43,h37,h⟩:=bnd h
  refine Zil (f:=Rule.cs) rfl h37 (fun _=>rfl) rfl rfl rfl (Zh ?_)
  refine aI csS h fun e44 h=>?_
  refine aI csS h fun e45 h=>?_
  refine aC h (Zkg _) fun r46 h=>?_
  refine aI csS h fun e47 h=>?_
  refine ZZ (M:=([(⟨(decide (e44=(⟨#[97,108,108,111,119]⟩:ByteArray))),r46,e47,r42.1⟩:Rule)]:List Rule)) (f:=Rule.cs) rfl rfl rfl rfl (Nat.le_of_ble_eq_true rfl) rfl (Zh ?_)
  refine pR Rule.cs h fun l48 h=>?_
  refine rg ?_
  cases h
  exact rQ
 refine rg ?_
 refine jL h (fun x51=>mkS [(1,.str p1),(2,.ptr 2 (1,2) 0),(4,.ptr 4 (1,4) 0),(6,.sl (List.map csS r1)),(89,.bool x51)] [(2,some ((1,2),.box (Policy.cs p0))),(4,some ((1,4),.box [.nil,.nil,.nil]))] 2) (fun k7 h=>?_) fun x51 h=>?_
 ·refine cS h rfl (fun h=>?_) fun h=>?_
  ·exact jn (decide (e5=(⟨#[103,117,97,114,100]⟩:ByteArray))) h (sR [(2,1,2),(4,1,4)])
  refine rg ?_
  exact jn (decide (e5=(⟨#[115,116,114,105,99,116]⟩:ByteArray))) h (sR [(2,1,2),(4,1,4)])
 refine cS h rfl (fun h=>?_) fun h=>?_
 ·refine rg ?_
  refine lM csS r1 ?_
  refine cS h rfl (fun h=>?_) fun h=>?_
  ·refine rg ?_
   cases h
   exact rQ
  refine rg ?_
  refine aC h (Znx _ _) fun r52 h=>?_
  refine aC h (Zmq _) fun r53 h=>?_
  refine rg ?_
  obtain ⟨l54,h47,h⟩:=bnd h
  refine Zil (f:=Guard.cs) rfl h47 (fun _=>rfl) rfl rfl rfl (Zh ?_)
  refine aI csS h fun e55 h=>?_
  refine aI csS h fun e56 h=>?_
  refine ZZ (M:=([(⟨(decide (e55=(⟨#[115,116,114,105,99,116]⟩:ByteArray))),e56,r53.1,r53.2.1⟩:Guard)]:List Guard)) (f:=Guard.cs) rfl rfl rfl rfl (Nat.le_of_ble_eq_true rfl) rfl (Zh ?_)
  refine pR Guard.cs h fun l57 h=>?_
  refine rg ?_
  cases h
  exact rQ
 refine rg ?_
 cases h
 exact rQ
def Zai (p0:ByteArray):Option (Policy×Int×Int):=
 if (decide (8192<(p0.size:Int))) then
  (some ((⟨[],[],[]⟩:Policy),0,3):Option (Policy×Int×Int))
 else
 (Zkf p0).bind fun r1=>
 ZE Zaj (fun f2 ((x22,x23,x24,x25):Int×(List Group)×(List Rule)×(List Guard))=>
  if (decide (x22<(r1.length:Int))) then
   (atI r1 x22).bind fun e32=>
   (Zr (⟨x23,x24,x25⟩:Policy) e32).bind fun r33=>
   if (!r33.2) then
    (some ((⟨[],[],[]⟩:Policy),(w64 (x22+1)),1):Option (Policy×Int×Int))
   else
   f2 ((w64 (x22+1)),r33.1.groups,r33.1.rules,r33.1.guards)
  else
  (ZfV (⟨x23,x24,x25⟩:Policy)).bind fun r34=>
  if (!decide (r34=0)) then
   (some ((⟨[],[],[]⟩:Policy),0,r34):Option (Policy×Int×Int))
  else
  (some ((⟨x23,x24,x25⟩:Policy),0,0):Option (Policy×Int×Int))) (0,[],[],[])
theorem Zjr (p0:ByteArray) (r:Policy×Int×Int) (h:Zai p0=some r):Zd Tryz.prog 98 [.str p0] (.tup [r.1.pv,.int .i64 r.2.1,.int .i64 r.2.2]):=by
 refine cF (fun r=>.tup [r.1.pv,.int .i64 r.2.1,.int .i64 r.2.2]) h mix Tryz.func98 fun r h=>?_
 unfold Zai at h
 refine Zh ?_
 refine rg ?_
 refine rg ?_
 refine cS h rfl (fun h=>?_) fun h=>?_
 ·refine rg ?_
  cases h
  exact rQ
 refine rg ?_
 refine rg ?_
 refine aC h (Zrn _) fun r1 h=>?_
 refine rg ?_
 refine bl ?_
 refine Zn h fun f2 mf2 hf2 h=>?_
 refine Zk (α:=Nat×(Int×(List Group)×(List Rule)×(List Guard))) (fun a _=>mkS [(2,.ptr 2 (1,2) 0),(5,.ptr 5 (1,5) 0),(6,.sl (List.map csS r1)),(7,.int .i64 a.2.1)] [(2,some ((1,2),.box [.nil,.nil,.nil])),(5,some ((1,5),.box [.sl (List.map Group.cs a.2.2.1),.sl (List.map Rule.cs a.2.2.2.1),.sl (List.map Guard.cs a.2.2.2.2)]))] 2) (fun a=>ZE a.1 f2 a.2=some r) (fun a=>a.1) (mf2,0,[],[],[]) 2 h (Shift.trans (Zfx 5 rfl rfl) (Shift.trans (Zfx 5 rfl rfl) (Shift.trans (Zfx 5 rfl rfl) (sR [(2,1,0),(5,3,0)])))) (fun a _ h=>?_)
 obtain ⟨mf2,x22,x23,x24,x25⟩:=a
 obtain ⟨mf2,rfl,h⟩:=Zo hf2 h
 dsimp only at h ⊢
 refine Zh ?_
 refine rg ?_
 refine lM csS r1 ?_
 refine cS h rfl (fun h=>?_) fun h=>?_
 ·refine bl ?_
  refine rg ?_
  refine aI csS h fun e32 h=>?_
  refine aC h (ZmV _ _) fun r33 h=>?_
  refine rg ?_
  refine cS h rfl (fun h=>?_) fun h=>?_
  ·refine rg ?_
   cases h
   exact rQ
  refine rg ?_
  refine rg ?_
  exact rn (mf2,(w64 (x22+1)),r33.1.groups,r33.1.rules,r33.1.guards) h (sR [(2,1,2),(5,1,5)])
 refine rg ?_
 refine aC h (Zni _) fun r34 h=>?_
 refine rg ?_
 refine cS h rfl (fun h=>?_) fun h=>?_
 ·refine rg ?_
  cases h
  exact rQ
 refine rg ?_
 cases h
 exact rQ
end Go.Proofs.YtjoneoobolnnbaaGreatDoor
