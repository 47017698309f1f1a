/- Functions of the program as Lean functions. Written by fxgen.py. -/
import Derived.Test.YtjoneoobolnnbaaGreatDoorCF24
import Derived.Test.YtjoneoobolnnbaaGreatDoorCF04
set_option linter.unusedVariables false
set_option maxHeartbeats 4000000
set_option maxRecDepth 100000
namespace Go.Proofs.YtjoneoobolnnbaaGreatDoor
open VL
def Zp (p0:Policy) (p1:ByteArray):Option (Policy×Bool):=
 (ZjX p1).bind fun r1=>
 letk (fun (x4:Bool)=>
  if x4 then
   (some (p0,true):Option (Policy×Bool))
  else
  (atI r1 0).bind fun e5=>
  if (decide (e5=(⟨#[103,114,111,117,112]⟩:ByteArray))) then
   if (decide ((r1.length:Int)<2)) then
    (some (p0,false):Option (Policy×Bool))
   else
   (ZbY 40 [] p0.groups).bind fun l32=>
   (atI r1 1).bind fun e33=>
   (Zin r1 2 (r1.length:Int)).bind fun l34=>
   (ZbY 16 [] l34).bind fun l35=>
   (ZbY 40 l32 [(⟨e33,l35⟩:Group)]).bind fun l36=>
   (some ((⟨l36,p0.rules,p0.guards⟩:Policy),true):Option (Policy×Bool))
  else
  letk (fun (x37:Bool)=>
   if x37 then
    letk (fun (x40:Bool)=>
     if x40 then
      (some (p0,false):Option (Policy×Bool))
     else
     (ZiR p1 3).bind fun r41=>
     (Zfc r41).bind fun r42=>
     (ZbY 64 [] p0.rules).bind fun l43=>
     (atI r1 0).bind fun e44=>
     (atI r1 1).bind fun e45=>
     (Zfm e45).bind fun r46=>
     (atI r1 2).bind fun e47=>
     (ZbY 64 l43 [(⟨(decide (e44=(⟨#[97,108,108,111,119]⟩:ByteArray))),r46,e47,r42.1⟩:Rule)]).bind fun l48=>
     (some ((⟨p0.groups,l48,p0.guards⟩:Policy),r42.2):Option (Policy×Bool))) fun k6=>
    if (decide ((r1.length:Int)<4)) then
     k6 true
    else
    (atI r1 1).bind fun e49=>
    (Zfm e49).bind fun r50=>
    k6 (decide (r50=0))
   else
   letk (fun (x51:Bool)=>
    if x51 then
     if (decide ((r1.length:Int)<3)) then
      (some (p0,false):Option (Policy×Bool))
     else
     (ZiR p1 2).bind fun r52=>
     (Zfd r52).bind fun r53=>
     (ZbY 64 [] p0.guards).bind fun l54=>
     (atI r1 0).bind fun e55=>
     (atI r1 1).bind fun e56=>
     (ZbY 64 l54 [(⟨(decide (e55=(⟨#[115,116,114,105,99,116]⟩:ByteArray))),e56,r53.1,r53.2.1⟩:Guard)]).bind fun l57=>
     (some ((⟨p0.groups,p0.rules,l57⟩:Policy),r53.2.2):Option (Policy×Bool))
    else
    (some (p0,false):Option (Policy×Bool))) fun k7=>
   if (decide (e5=(⟨#[103,117,97,114,100]⟩:ByteArray))) then
    k7 (decide (e5=(⟨#[103,117,97,114,100]⟩:ByteArray)))
   else
   k7 (decide (e5=(⟨#[115,116,114,105,99,116]⟩:ByteArray)))) fun k5=>
  if (decide (e5=(⟨#[97,108,108,111,119]⟩:ByteArray))) then
   k5 (decide (e5=(⟨#[97,108,108,111,119]⟩:ByteArray)))
  else
  k5 (decide (e5=(⟨#[100,101,110,121]⟩:ByteArray)))) fun k1=>
 if (decide ((r1.length:Int)=0)) then
  k1 true
 else
 (atI r1 0).bind fun e58=>
 (atS e58 0).bind fun c59=>
 k1 (decide (c59=35))
theorem ZjZ (p0:Policy) (p1:ByteArray) (r:Policy×Bool) (hF:Zp p0 p1=some r):Zb Tryz.prog 151 [p0.pv,.str p1] (.tup [r.1.pv,.bool r.2]):=by
 refine cF (fun r=>.tup [r.1.pv,.bool r.2]) hF mix Tryz.func151 fun r hF=>?_
 unfold Zp at hF
 refine Za ?_
 refine rg ?_
 refine rg ?_
 obtain ⟨r1,h1,hF⟩:=bnd hF
 refine Zf (Zn5 _ _ h1) rfl rfl (Za ?_)
 refine jL hF (fun x4=>mkS [(1,.str p1),(2,.ptr 2 (1,2) 0),(4,.ptr 4 (1,4) 0),(6,.sl (List.map csS r1)),(23,.bool x4)] [(2,some ((1,2),.box [.sl (List.map Group.cs p0.groups),.sl (List.map Rule.cs p0.rules),.sl (List.map Guard.cs p0.guards)])),(4,some ((1,4),.box [.nil,.nil,.nil]))] 2) (fun k1 hF=>?_) fun x4 hF=>?_
 ·refine rg ?_
  refine Zr rfl (M:=r1) (f:=csS) rfl (Za ?_)
  refine kS 17 hF rfl (fun hF=>?_) fun hF=>?_
  ·iterate 5 refine Zh rfl (Za ?_)
   exact jn true hF (sR [(2,1,0),(4,1,1)])
  obtain ⟨e58,h51,hF⟩:=bnd hF
  refine Zk (f:=csS) rfl h51 rfl rfl rfl (Za ?_)
  obtain ⟨c59,h52,hF⟩:=bnd hF
  refine ZI StrT.eq rfl h52 rfl rfl (Za ?_)
  exact jn (decide (c59=35)) hF (sR [(2,1,0),(4,1,1)])
 refine cS hF rfl (fun hF=>?_) fun hF=>?_
 ·refine rg ?_
  cases hF
  exact rQ
 refine rg ?_
 obtain ⟨e5,h4,hF⟩:=bnd hF
 refine Zk (f:=csS) rfl h4 rfl rfl rfl (Za ?_)
 refine bl ?_
 refine rg ?_
 refine cS hF rfl (fun hF=>?_) fun hF=>?_
 ·refine rg ?_
  refine Zr rfl (M:=r1) (f:=csS) rfl (Za ?_)
  refine cS hF rfl (fun hF=>?_) fun hF=>?_
  ·refine rg ?_
   cases hF
   exact rQ
  refine rg ?_
  obtain ⟨l32,h28,hF⟩:=bnd hF
  refine ZgS (f:=Group.cs) rfl h28 (fun _=>rfl) rfl rfl rfl (Za ?_)
  obtain ⟨e33,h29,hF⟩:=bnd hF
  refine Zk (f:=csS) rfl h29 rfl rfl rfl (Za ?_)
  obtain ⟨l34,h30,hF⟩:=bnd hF
  refine Zbp (f:=csS) rfl h30 (fun _=>rfl) rfl rfl rfl rfl (Za ?_)
  obtain ⟨l35,h31,hF⟩:=bnd hF
  refine ZgS (f:=csS) rfl h31 (fun _=>rfl) rfl rfl rfl (Za ?_)
  refine Zw (M:=([(⟨e33,l35⟩:Group)]:List Group)) (f:=Group.cs) rfl rfl rfl rfl (Nat.le_of_ble_eq_true rfl) rfl (Za ?_)
  obtain ⟨l36,h32,hF⟩:=bnd hF
  refine Zaj (f:=Group.cs) rfl h32 (fun _=>rfl) rfl rfl rfl rfl (Za ?_)
  refine rg ?_
  cases hF
  exact rQ
 refine rg ?_
 refine jL hF (fun x37=>mkS [(1,.str p1),(2,.ptr 2 (1,2) 0),(4,.ptr 4 (1,4) 0),(6,.sl (List.map csS r1)),(27,.str e5),(48,.bool x37)] [(2,some ((1,2),.box [.sl (List.map Group.cs p0.groups),.sl (List.map Rule.cs p0.rules),.sl (List.map Guard.cs p0.guards)])),(4,some ((1,4),.box [.nil,.nil,.nil]))] 2) (fun k5 hF=>?_) fun x37 hF=>?_
 ·refine cS hF rfl (fun hF=>?_) fun hF=>?_
  ·exact jn (decide (e5=(⟨#[97,108,108,111,119]⟩:ByteArray))) hF (sR [(2,1,2),(4,1,4)])
  refine rg ?_
  exact jn (decide (e5=(⟨#[100,101,110,121]⟩:ByteArray))) hF (sR [(2,1,2),(4,1,4)])
 refine cS hF rfl (fun hF=>?_) fun hF=>?_
 ·refine jL hF (fun x40=>mkS [(1,.str p1),(2,.ptr 2 (1,2) 0),(4,.ptr 4 (1,4) 0),(6,.sl (List.map csS r1)),(60,.bool x40)] [(2,some ((1,2),.box [.sl (List.map Group.cs p0.groups),.sl (List.map Rule.cs p0.rules),.sl (List.map Guard.cs p0.guards)])),(4,some ((1,4),.box [.nil,.nil,.nil]))] 2) (fun k6 hF=>?_) fun x40 hF=>?_
  ·refine rg ?_
   refine Zr rfl (M:=r1) (f:=csS) rfl (Za ?_)
   refine kS 54 hF rfl (fun hF=>?_) fun hF=>?_
   ·iterate 5 refine Zh rfl (Za ?_)
    exact jn true hF (sR [(2,1,2),(4,1,4)])
   obtain ⟨e49,h43,hF⟩:=bnd hF
   refine Zk (f:=csS) rfl h43 rfl rfl rfl (Za ?_)
   obtain ⟨r50,h44,hF⟩:=bnd hF
   refine Zf (ZhJ _ _ h44) rfl rfl (Za ?_)
   exact jn (decide (r50=0)) hF (sR [(2,1,2),(4,1,4)])
  refine cS hF rfl (fun hF=>?_) fun hF=>?_
  ·refine rg ?_
   cases hF
   exact rQ
  refine rg ?_
  obtain ⟨r41,h35,hF⟩:=bnd hF
  refine Zf (ZkC _ _ _ h35) rfl rfl (Za ?_)
  obtain ⟨r42,h36,hF⟩:=bnd hF
  refine Zf (Zjr _ _ h36) rfl rfl (Za ?_)
  refine rg ?_
  obtain ⟨l43,h37,hF⟩:=bnd hF
  refine ZgS (f:=Rule.cs) rfl h37 (fun _=>rfl) rfl rfl rfl (Za ?_)
  obtain ⟨e44,h38,hF⟩:=bnd hF
  refine Zk (f:=csS) rfl h38 rfl rfl rfl (Za ?_)
  obtain ⟨e45,h39,hF⟩:=bnd hF
  refine Zk (f:=csS) rfl h39 rfl rfl rfl (Za ?_)
  obtain ⟨r46,h40,hF⟩:=bnd hF
  refine Zf (ZhJ _ _ h40) rfl rfl (Za ?_)
  obtain ⟨e47,h41,hF⟩:=bnd hF
  refine Zk (f:=csS) rfl h41 rfl rfl rfl (Za ?_)
  refine Zw (M:=([(⟨(decide (e44=(⟨#[97,108,108,111,119]⟩:ByteArray))),r46,e47,r42.1⟩:Rule)]:List Rule)) (f:=Rule.cs) rfl rfl rfl rfl (Nat.le_of_ble_eq_true rfl) rfl (Za ?_)
  obtain ⟨l48,h42,hF⟩:=bnd hF
  refine Zaj (f:=Rule.cs) rfl h42 (fun _=>rfl) rfl rfl rfl rfl (Za ?_)
  refine rg ?_
  cases hF
  exact rQ
 refine rg ?_
 refine jL hF (fun x51=>mkS [(1,.str p1),(2,.ptr 2 (1,2) 0),(4,.ptr 4 (1,4) 0),(6,.sl (List.map csS r1)),(89,.bool x51)] [(2,some ((1,2),.box [.sl (List.map Group.cs p0.groups),.sl (List.map Rule.cs p0.rules),.sl (List.map Guard.cs p0.guards)])),(4,some ((1,4),.box [.nil,.nil,.nil]))] 2) (fun k7 hF=>?_) fun x51 hF=>?_
 ·refine cS hF rfl (fun hF=>?_) fun hF=>?_
  ·exact jn (decide (e5=(⟨#[103,117,97,114,100]⟩:ByteArray))) hF (sR [(2,1,2),(4,1,4)])
  refine rg ?_
  exact jn (decide (e5=(⟨#[115,116,114,105,99,116]⟩:ByteArray))) hF (sR [(2,1,2),(4,1,4)])
 refine cS hF rfl (fun hF=>?_) fun hF=>?_
 ·refine rg ?_
  refine Zr rfl (M:=r1) (f:=csS) rfl (Za ?_)
  refine cS hF rfl (fun hF=>?_) fun hF=>?_
  ·refine rg ?_
   cases hF
   exact rQ
  refine rg ?_
  obtain ⟨r52,h45,hF⟩:=bnd hF
  refine Zf (ZkC _ _ _ h45) rfl rfl (Za ?_)
  obtain ⟨r53,h46,hF⟩:=bnd hF
  refine Zf (Zjs _ _ h46) rfl rfl (Za ?_)
  refine rg ?_
  obtain ⟨l54,h47,hF⟩:=bnd hF
  refine ZgS (f:=Guard.cs) rfl h47 (fun _=>rfl) rfl rfl rfl (Za ?_)
  obtain ⟨e55,h48,hF⟩:=bnd hF
  refine Zk (f:=csS) rfl h48 rfl rfl rfl (Za ?_)
  obtain ⟨e56,h49,hF⟩:=bnd hF
  refine Zk (f:=csS) rfl h49 rfl rfl rfl (Za ?_)
  refine Zw (M:=([(⟨(decide (e55=(⟨#[115,116,114,105,99,116]⟩:ByteArray))),e56,r53.1,r53.2.1⟩:Guard)]:List Guard)) (f:=Guard.cs) rfl rfl rfl rfl (Nat.le_of_ble_eq_true rfl) rfl (Za ?_)
  obtain ⟨l57,h50,hF⟩:=bnd hF
  refine Zaj (f:=Guard.cs) rfl h50 (fun _=>rfl) rfl rfl rfl rfl (Za ?_)
  refine rg ?_
  cases hF
  exact rQ
 refine rg ?_
 cases hF
 exact rQ
def Zaf (p0:ByteArray):Option (Policy×Int×Int):=
 if (decide (8192<(p0.size:Int))) then
  (some ((⟨[],[],[]⟩:Policy),0,3):Option (Policy×Int×Int))
 else
 (ZhI p0).bind fun r1=>
 ZK Zax (fun f2 ((x22,x23,x24,x25):Int×(List Group)×(List Rule)×(List Guard))=>
  if (decide (x22<(r1.length:Int))) then
   (atI r1 x22).bind fun e32=>
   (Zp (⟨x23,x24,x25⟩:Policy) e32).bind fun r33=>
   if (!r33.2) then
    (some ((⟨[],[],[]⟩:Policy),(w64 (x22+1)),1):Option (Policy×Int×Int))
   else
   f2 ((w64 (x22+1)),r33.1.groups,r33.1.rules,r33.1.guards)
  else
  (Zen (⟨x23,x24,x25⟩:Policy)).bind fun r34=>
  if (!decide (r34=0)) then
   (some ((⟨[],[],[]⟩:Policy),0,r34):Option (Policy×Int×Int))
  else
  (some ((⟨x23,x24,x25⟩:Policy),0,0):Option (Policy×Int×Int))) (0,[],[],[])
theorem Zj0 (p0:ByteArray) (r:Policy×Int×Int) (hF:Zaf p0=some r):Zb Tryz.prog 98 [.str p0] (.tup [r.1.pv,.int .i64 r.2.1,.int .i64 r.2.2]):=by
 refine cF (fun r=>.tup [r.1.pv,.int .i64 r.2.1,.int .i64 r.2.2]) hF mix Tryz.func98 fun r hF=>?_
 unfold Zaf at hF
 refine Za ?_
 refine rg ?_
 refine rg ?_
 refine cS hF rfl (fun hF=>?_) fun hF=>?_
 ·refine rg ?_
  cases hF
  exact rQ
 refine rg ?_
 refine rg ?_
 obtain ⟨r1,h1,hF⟩:=bnd hF
 refine Zf (Zn4 _ _ h1) rfl rfl (Za ?_)
 refine rg ?_
 refine bl ?_
 refine Zn hF fun f2 mf2 hf2 hF=>?_
 refine Zl (α:=Nat×(Int×(List Group)×(List Rule)×(List Guard))) (fun a _=>mkS [(2,.ptr 2 (1,2) 0),(5,.ptr 5 (1,5) 0),(6,.sl (List.map csS r1)),(7,.int .i64 a.2.1)] [(2,some ((1,2),.box [.nil,.nil,.nil])),(5,some ((1,5),.box [.sl (List.map Group.cs a.2.2.1),.sl (List.map Rule.cs a.2.2.2.1),.sl (List.map Guard.cs a.2.2.2.2)]))] 2) (fun a=>ZK a.1 f2 a.2=some r) (fun a=>a.1) (mf2,0,[],[],[]) 2 hF (Shift.trans (ZdW 5 rfl rfl) (Shift.trans (ZdW 5 rfl rfl) (Shift.trans (ZdW 5 rfl rfl) (sR [(2,1,0),(5,3,0)])))) (fun a _ hF=>?_)
 obtain ⟨mf2,x22,x23,x24,x25⟩:=a
 obtain ⟨mf2,rfl,hF⟩:=Zo hf2 hF
 dsimp only at hF ⊢
 refine Za ?_
 refine rg ?_
 refine Zr rfl (M:=r1) (f:=csS) rfl (Za ?_)
 refine cS hF rfl (fun hF=>?_) fun hF=>?_
 ·refine bl ?_
  refine rg ?_
  obtain ⟨e32,h24,hF⟩:=bnd hF
  refine Zk (f:=csS) rfl h24 rfl rfl rfl (Za ?_)
  obtain ⟨r33,h25,hF⟩:=bnd hF
  refine Zf (ZjZ _ _ _ h25) rfl rfl (Za ?_)
  refine rg ?_
  refine cS hF rfl (fun hF=>?_) fun hF=>?_
  ·refine rg ?_
   cases hF
   exact rQ
  refine rg ?_
  refine rg ?_
  exact rn (mf2,(w64 (x22+1)),r33.1.groups,r33.1.rules,r33.1.guards) hF (sR [(2,1,2),(5,1,5)])
 refine rg ?_
 obtain ⟨r34,h26,hF⟩:=bnd hF
 refine Zf (Zks _ _ h26) rfl rfl (Za ?_)
 refine rg ?_
 refine cS hF rfl (fun hF=>?_) fun hF=>?_
 ·refine rg ?_
  cases hF
  exact rQ
 refine rg ?_
 cases hF
 exact rQ
end Go.Proofs.YtjoneoobolnnbaaGreatDoor
