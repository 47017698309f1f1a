/- Functions of the program as Lean functions. Written by fxgen.py. | Functions of the program as Lean functions. Written by fxgen.py. -/
import Derived.Test.YtjoneoobolnnbaaGreatDoorCF13
import Derived.Test.YtjoneoobolnnbaaGreatDoorCF12
import Derived.Test.YtjoneoobolnnbaaGreatDoorCF04
set_option linter.unusedVariables false
set_option maxHeartbeats 4000000
set_option maxRecDepth 100000
namespace Go.Proofs.YtjoneoobolnnbaaGreatDoor
open VL
def ZaE (p0:ByteArray) (p1:ByteArray):Option (ByteArray×Bool):=
 (ZU p0 p1).bind fun r1=>
 if (!r1) then
  (some (p0,false):Option (ByteArray×Bool))
 else
 (ZfF p0 (p1.size:Int) (p0.size:Int)).bind fun l2=>
 (some (l2,true):Option (ByteArray×Bool))
theorem ZcN (p0:ByteArray) (p1:ByteArray) (r:ByteArray×Bool) (hF:ZaE p0 p1=some r):Zb Tryz.prog 279 [.str p0,.str p1] (.tup [.str r.1,.bool r.2]):=by
 refine cF (fun r=>.tup [.str r.1,.bool r.2]) hF mix Tryz.func279 fun r hF=>?_
 unfold ZaE at hF
 refine Za ?_
 refine rg ?_
 refine rg ?_
 obtain ⟨r1,h1,hF⟩:=bnd hF
 refine Zf (Zas _ _ _ h1) rfl rfl (Za ?_)
 refine cS hF rfl (fun hF=>?_) fun hF=>?_
 ·refine rg ?_
  cases hF
  exact rQ
 refine rg ?_
 obtain ⟨l2,h2,hF⟩:=bnd hF
 refine ZN StrT.eq rfl h2 rfl rfl rfl (Za ?_)
 cases hF
 exact rQ
def Zc3 (p0:ByteArray) (p1:ByteArray):Option (ByteArray×Bool):=
 (ZaE p0 p1).bind fun r1=>
 (some (r1.1,r1.2):Option (ByteArray×Bool))
theorem Zhd (p0:ByteArray) (p1:ByteArray) (r:ByteArray×Bool) (hF:Zc3 p0 p1=some r):Zb Tryz.prog 247 [.str p0,.str p1] (.tup [.str r.1,.bool r.2]):=by
 refine cF (fun r=>.tup [.str r.1,.bool r.2]) hF mix Tryz.func247 fun r hF=>?_
 unfold Zc3 at hF
 refine Za ?_
 refine rg ?_
 refine rg ?_
 obtain ⟨r1,h1,hF⟩:=bnd hF
 refine Zf (ZcN _ _ _ h1) rfl rfl (Za ?_)
 cases hF
 exact rQ
def Zcg (p0:ByteArray):Option (ByteArray×ByteArray):=
 (ZbF p0 (⟨#[32,9]⟩:ByteArray)).bind fun r1=>
 (Zdv r1 (⟨#[32,9]⟩:ByteArray)).bind fun r2=>
 if (decide (r2<0)) then
  (some (r1,(⟨#[]⟩:ByteArray)):Option (ByteArray×ByteArray))
 else
 (ZfF r1 0 r2).bind fun l3=>
 (ZfF r1 r2 (r1.size:Int)).bind fun l4=>
 (ZbF l4 (⟨#[32,9]⟩:ByteArray)).bind fun r5=>
 (some (l3,r5):Option (ByteArray×ByteArray))
theorem ZcI (p0:ByteArray) (r:ByteArray×ByteArray) (hF:Zcg p0=some r):Zb Tryz.prog 201 [.str p0] (.tup [.str r.1,.str r.2]):=by
 refine cF (fun r=>.tup [.str r.1,.str r.2]) hF mix Tryz.func201 fun r hF=>?_
 unfold Zcg at hF
 refine Za ?_
 refine rg ?_
 refine rg ?_
 obtain ⟨r1,h1,hF⟩:=bnd hF
 refine Zf (Zb3 _ _ _ h1) rfl rfl (Za ?_)
 refine rg ?_
 obtain ⟨r2,h2,hF⟩:=bnd hF
 refine Zf (ZhF _ _ _ h2) rfl rfl (Za ?_)
 refine rg ?_
 refine cS hF rfl (fun hF=>?_) fun hF=>?_
 ·refine rg ?_
  cases hF
  exact rQ
 refine rg ?_
 obtain ⟨l3,h3,hF⟩:=bnd hF
 refine ZN StrT.eq rfl h3 rfl rfl rfl (Za ?_)
 obtain ⟨l4,h4,hF⟩:=bnd hF
 refine ZN StrT.eq rfl h4 rfl rfl rfl (Za ?_)
 obtain ⟨r5,h5,hF⟩:=bnd hF
 refine Zf (Zb3 _ _ _ h5) rfl rfl (Za ?_)
 cases hF
 exact rQ
def Zgb (p0:Policy) (p1:ByteArray):Option (Bool×Policy):=
 (Zcg p1).bind fun r1=>
 (Zcr r1.2).bind fun r2=>
 (ZbY 40 p0.groups [(⟨r1.1,r2⟩:Group)]).bind fun l3=>
 (some ((!decide (r1.1=(⟨#[]⟩:ByteArray))),(⟨l3,p0.rules,p0.guards⟩:Policy)):Option (Bool×Policy))
theorem Zkw (p0:Policy) (p1:ByteArray) (r:Bool×Policy) (hF:Zgb p0 p1=some r):ContractP Tryz.prog 202 [.ptr 0 (0,0) 0,.str p1] 0 [.row 149 2 false (List.map Group.cs p0.groups),.row 145 6 false (List.map Rule.cs p0.rules),.row 233 5 false (List.map Guard.cs p0.guards)] (.bool r.1) [.row 149 2 false (List.map Group.cs r.2.groups),.row 145 6 false (List.map Rule.cs r.2.rules),.row 233 5 false (List.map Guard.cs r.2.guards)]:=by
 refine Zba (R:=fun r=>.bool r.1) (O:=fun r=>[.row 149 2 false (List.map Group.cs r.2.groups),.row 145 6 false (List.map Rule.cs r.2.rules),.row 233 5 false (List.map Guard.cs r.2.guards)]) hF mix Tryz.func202 (by kernel_rfl) rfl (by kernel_rfl) rfl fun r hF=>?_
 unfold Zgb at hF
 refine Za ?_
 refine rg ?_
 refine rg ?_
 obtain ⟨r1,h1,hF⟩:=bnd hF
 refine Zf (ZcI _ _ h1) rfl rfl (Za ?_)
 refine rg ?_
 obtain ⟨r2,h2,hF⟩:=bnd hF
 refine ZrZ (ZgE _ _ h2) rfl rfl rfl (Za ?_)
 refine rg ?_
 refine Zw (M:=([(⟨r1.1,r2⟩:Group)]:List Group)) (f:=Group.cs) rfl rfl rfl rfl (Nat.le_of_ble_eq_true rfl) rfl (Za ?_)
 obtain ⟨l3,h3,hF⟩:=bnd hF
 refine Zaj (f:=Group.cs) rfl h3 (fun _=>rfl) rfl rfl rfl rfl (Za ?_)
 refine rg ?_
 cases hF
 exact ZfL rfl rfl rfl rfl rfl rfl
def Zc4 (p0:Policy) (p1:Int):Option Int:=
 (atI p0.groups p1).bind fun e1=>
 (ZcG e1.name).bind fun r2=>
 if (!r2) then
  (some 1:Option Int)
 else
 letk (fun (x6:Bool)=>
  if x6 then
   (some 5:Option Int)
  else
  if (decide (24<(e1.members.length:Int))) then
   (some 3:Option Int)
  else
  ZK Zax (fun f13 (x56:Int)=>
   if (decide (x56<(e1.members.length:Int))) then
    (atI e1.members x56).bind fun e75=>
    (Zc3 e75 (⟨#[64]⟩:ByteArray)).bind fun r76=>
    (ZcG r76.1).bind fun r77=>
    if (!r77) then
     (some 1:Option Int)
    else
    letk (fun (x79:Bool)=>
     if x79 then
      (some 4:Option Int)
     else
     f13 (w64 (x56+1))) fun k15=>
    if r76.2 then
     (Zcu p0 r76.1).bind fun r80=>
     k15 (!r80)
    else
    k15 false
   else
   (some 0:Option Int)) 0) fun k1=>
 (Zc8 e1.name).bind fun r81=>
 if r81 then
  k1 true
 else
 (Zin p0.groups 0 p1).bind fun l82=>
 (Zay l82 (fun y0=>Zbj y0 e1)).bind fun r83=>
 k1 r83
theorem Zhe (p0:Policy) (p1:Int) (r:Int) (hF:Zc4 p0 p1=some r):Zb Tryz.prog 205 [p0.pv,.int .i64 p1] (.int .i64 r):=by
 refine cF (fun r=>.int .i64 r) hF mix Tryz.func205 fun r hF=>?_
 unfold Zc4 at hF
 refine Za ?_
 refine rg ?_
 refine rg ?_
 obtain ⟨e1,h1,hF⟩:=bnd hF
 refine Zk (f:=Group.cs) rfl h1 rfl rfl rfl (Za ?_)
 refine rg ?_
 obtain ⟨r2,h2,hF⟩:=bnd hF
 refine Zf (ZcH _ _ h2) rfl rfl (Za ?_)
 refine cS hF rfl (fun hF=>?_) fun hF=>?_
 ·refine rg ?_
  cases hF
  exact rQ
 refine jL hF (fun x6=>mkS [(2,.ptr 2 (1,2) 0),(5,.ptr 5 (1,5) 0),(29,.bool x6)] [(2,some ((1,2),.box [.sl (List.map Group.cs p0.groups),.sl (List.map Rule.cs p0.rules),.sl (List.map Guard.cs p0.guards)])),(5,some ((1,5),.box [.str e1.name,.sl (List.map csS e1.members)]))] 2) (fun k1 hF=>?_) fun x6 hF=>?_
 ·refine rg ?_
  obtain ⟨r81,h66,hF⟩:=bnd hF
  refine Zf (Zfw _ _ h66) rfl rfl (Za ?_)
  refine kS 22 hF rfl (fun hF=>?_) fun hF=>?_
  ·iterate 6 refine Zh rfl (Za ?_)
   exact jn true hF (sR [(2,1,0),(5,2,5)])
  obtain ⟨l82,h67,hF⟩:=bnd hF
  refine Zbp (f:=Group.cs) rfl h67 (fun _=>rfl) rfl rfl rfl rfl (Za ?_)
  refine Zh0 rfl rfl (Za ?_)
  obtain ⟨r83,h68,hF⟩:=bnd hF
  refine Zej (ZbE _ (fun y0=>Zbj y0 e1) 246 [[.str e1.name,.sl (List.map csS e1.members)]] (fun y0 r h=>ZfK y0 e1 r h) _ h68) rfl rfl rfl (Za ?_)
  exact jn r83 hF (sR [(2,1,0),(5,2,5)])
 refine cS hF rfl (fun hF=>?_) fun hF=>?_
 ·refine rg ?_
  cases hF
  exact rQ
 refine rg ?_
 refine Zr rfl (M:=e1.members) (f:=csS) rfl (Za ?_)
 refine cS hF rfl (fun hF=>?_) fun hF=>?_
 ·refine rg ?_
  cases hF
  exact rQ
 refine rg ?_
 refine Zr rfl (M:=e1.members) (f:=csS) rfl (Za ?_)
 refine bl ?_
 refine Zn hF fun f13 mf13 hf13 hF=>?_
 refine Zl (α:=Nat×Int) (fun a _=>mkS [(2,.ptr 2 (1,2) 0),(35,.sl (List.map csS e1.members)),(36,.int .i64 (e1.members.length:Int)),(37,.int .i64 a.2)] [(2,some ((1,2),.box [.sl (List.map Group.cs p0.groups),.sl (List.map Rule.cs p0.rules),.sl (List.map Guard.cs p0.guards)]))] 2) (fun a=>ZK a.1 f13 a.2=some r) (fun a=>a.1) (mf13,0) 2 hF (sR [(2,1,2)]) (fun a _ hF=>?_)
 obtain ⟨mf13,x56⟩:=a
 obtain ⟨mf13,rfl,hF⟩:=Zo hf13 hF
 dsimp only at hF ⊢
 refine Za ?_
 refine rg ?_
 refine cS hF rfl (fun hF=>?_) fun hF=>?_
 ·refine bl ?_
  refine rg ?_
  obtain ⟨e75,h61,hF⟩:=bnd hF
  refine Zk (f:=csS) rfl h61 rfl rfl rfl (Za ?_)
  refine rg ?_
  obtain ⟨r76,h62,hF⟩:=bnd hF
  refine Zf (Zhd _ _ _ h62) rfl rfl (Za ?_)
  refine rg ?_
  obtain ⟨r77,h63,hF⟩:=bnd hF
  refine Zf (ZcH _ _ h63) rfl rfl (Za ?_)
  refine cS hF rfl (fun hF=>?_) fun hF=>?_
  ·refine rg ?_
   cases hF
   exact rQ
  refine jL hF (fun x79=>mkS [(2,.ptr 2 (1,2) 0),(35,.sl (List.map csS e1.members)),(36,.int .i64 (e1.members.length:Int)),(37,.int .i64 x56),(55,.bool x79)] [(2,some ((1,2),.box [.sl (List.map Group.cs p0.groups),.sl (List.map Rule.cs p0.rules),.sl (List.map Guard.cs p0.guards)]))] 2) (fun k15 hF=>?_) fun x79 hF=>?_
  ·refine rg ?_
   refine kS 50 hF rfl (fun hF=>?_) fun hF=>?_
   ·obtain ⟨r80,h65,hF⟩:=bnd hF
    refine Zf (ZdU _ _ _ h65) rfl rfl (Za ?_)
    exact jn (!r80) hF (sR [(2,1,2)])
   iterate 4 refine Zh rfl (Za ?_)
   exact jn false hF (sR [(2,1,2)])
  refine cS hF rfl (fun hF=>?_) fun hF=>?_
  ·refine rg ?_
   cases hF
   exact rQ
  refine rg ?_
  exact rn (mf13,(w64 (x56+1))) hF (sR [(2,1,2)])
 refine rg ?_
 cases hF
 exact rQ
def Zhh (p0:Policy) (p1:ByteArray) (p2:Bool):Option (Bool×Policy):=
 (Zcg p1).bind fun r1=>
 (Zcg r1.2).bind fun r2=>
 (Ze6).bind fun r3=>
 (Zbi r3 r1.1).bind fun r4=>
 if (decide ((w64 (r4+1))=0)) then
  (some (false,p0):Option (Bool×Policy))
 else
 letk (fun (x8:Int) (x9:Int) (x10:ByteArray)=>
  (ZbY 64 p0.rules [(⟨p2,(w64 (r4+1)),r2.1,(⟨x8,(⟨x9,x10⟩:Title)⟩:Scope)⟩:Rule)]).bind fun l11=>
  (some (true,(⟨p0.groups,l11,p0.guards⟩:Policy)):Option (Bool×Policy))) fun k1=>
 if (decide (r2.2=(⟨#[60,97,108,108,62]⟩:ByteArray))) then
  k1 1 0 (⟨#[]⟩:ByteArray)
 else
 (Ze7).bind fun r12=>
 (Zbi r12 r2.2).bind fun r13=>
 if (decide (0≤r13)) then
  k1 2 r13 (⟨#[]⟩:ByteArray)
 else
 (ZeZ r2.2).bind fun r14=>
 if (!decide (r14.2=0)) then
  (some (false,p0):Option (Bool×Policy))
 else
 k1 3 r14.1.space r14.1.name
theorem Zl2 (p0:Policy) (p1:ByteArray) (p2:Bool) (r:Bool×Policy) (hF:Zhh p0 p1 p2=some r):ContractP Tryz.prog 203 [.ptr 0 (0,0) 0,.str p1,.bool p2] 0 [.row 149 2 false (List.map Group.cs p0.groups),.row 145 6 false (List.map Rule.cs p0.rules),.row 233 5 false (List.map Guard.cs p0.guards)] (.bool r.1) [.row 149 2 false (List.map Group.cs r.2.groups),.row 145 6 false (List.map Rule.cs r.2.rules),.row 233 5 false (List.map Guard.cs r.2.guards)]:=by
 refine Zba (R:=fun r=>.bool r.1) (O:=fun r=>[.row 149 2 false (List.map Group.cs r.2.groups),.row 145 6 false (List.map Rule.cs r.2.rules),.row 233 5 false (List.map Guard.cs r.2.guards)]) hF mix Tryz.func203 (by kernel_rfl) rfl (by kernel_rfl) rfl fun r hF=>?_
 unfold Zhh at hF
 refine Za ?_
 refine rg ?_
 refine rg ?_
 obtain ⟨r1,h1,hF⟩:=bnd hF
 refine Zf (ZcI _ _ h1) rfl rfl (Za ?_)
 refine rg ?_
 obtain ⟨r2,h2,hF⟩:=bnd hF
 refine Zf (ZcI _ _ h2) rfl rfl (Za ?_)
 refine rg ?_
 obtain ⟨r3,h3,hF⟩:=bnd hF
 refine Zf (Zji _ h3) rfl rfl (Za ?_)
 obtain ⟨r4,h4,hF⟩:=bnd hF
 refine Zf (Zde _ _ _ h4) rfl rfl (Za ?_)
 refine rg ?_
 refine cS hF rfl (fun hF=>?_) fun hF=>?_
 ·refine rg ?_
  cases hF
  exact ZfL rfl rfl rfl rfl rfl rfl
 refine rg ?_
 refine Zar hF fun k1 hk1 hF=>?_
 refine ZaF (α:=Int×Int×ByteArray) (fun a _=>mkS [(0,.ptr 0 (0,0) 0),(10,.ptr 10 (1,10) 0)] [(0,some ((0,0),.box [.row 1000 (1,1000),.row 1001 (1,1001),.row 1002 (1,1002)])),(10,some ((1,10),.box [.bool p2,.int .i64 (w64 (r4+1)),.str r2.1,.int .i64 a.1,.int .i64 a.2.1,.str a.2.2])),(1000,some ((1,1000),.row 149 2 false (List.map Group.cs p0.groups))),(1001,some ((1,1001),.row 145 6 false (List.map Rule.cs p0.rules))),(1002,some ((1,1002),.row 233 5 false (List.map Guard.cs p0.guards)))] 2) (fun a=>k1 a.1 a.2.1 a.2.2=some r) (Za ?_) (fun a _ hF=>?_)
 ·refine cS hF rfl (fun hF=>?_) fun hF=>?_
  ·refine rg ?_
   exact jn (1,0,(⟨#[]⟩:ByteArray)) hF (sR [(10,4,7),(1000,0,1000),(1001,0,1001),(1002,0,1002)])
  refine rg ?_
  obtain ⟨r12,h9,hF⟩:=bnd hF
  refine Zf (Zjj _ h9) rfl rfl (Za ?_)
  obtain ⟨r13,h10,hF⟩:=bnd hF
  refine Zf (Zde _ _ _ h10) rfl rfl (Za ?_)
  refine rg ?_
  refine cS hF rfl (fun hF=>?_) fun hF=>?_
  ·refine rg ?_
   exact jn (2,r13,(⟨#[]⟩:ByteArray)) hF (sR [(10,4,7),(1000,0,1000),(1001,0,1001),(1002,0,1002)])
  refine rg ?_
  obtain ⟨r14,h11,hF⟩:=bnd hF
  refine Zf (Zhm _ _ h11) rfl rfl (Za ?_)
  refine rg ?_
  refine cS hF rfl (fun hF=>?_) fun hF=>?_
  ·refine rg ?_
   cases hF
   exact ZfL rfl rfl rfl rfl rfl rfl
  refine rg ?_
  exact jn (3,r14.1.space,r14.1.name) hF (sR [(10,4,7),(1000,0,1000),(1001,0,1001),(1002,0,1002)])
 obtain ⟨x8,x9,x10⟩:=a
 subst hk1
 dsimp only at hF ⊢
 refine Za ?_
 refine rg ?_
 refine Zw (M:=([(⟨p2,(w64 (r4+1)),r2.1,(⟨x8,(⟨x9,x10⟩:Title)⟩:Scope)⟩:Rule)]:List Rule)) (f:=Rule.cs) rfl rfl rfl rfl (Nat.le_of_ble_eq_true rfl) rfl (Za ?_)
 obtain ⟨l11,h8,hF⟩:=bnd hF
 refine Zaj (f:=Rule.cs) rfl h8 (fun _=>rfl) rfl rfl rfl rfl (Za ?_)
 refine rg ?_
 cases hF
 exact ZfL rfl rfl rfl rfl rfl rfl
def Zge (p0:Policy) (p1:ByteArray) (p2:Bool):Option (Bool×Policy):=
 (Zcg p1).bind fun r1=>
 (strings_Cut r1.2 (⟨#[124]⟩:ByteArray)).bind fun r2=>
 (ZbF r2.2.1 (⟨#[32,9]⟩:ByteArray)).bind fun r3=>
 (ZbF r2.1 (⟨#[32,9]⟩:ByteArray)).bind fun r4=>
 (ZeZ r4).bind fun r5=>
 letk (fun (x6:Bool)=>
  if x6 then
   (some (false,p0):Option (Bool×Policy))
  else
  (ZbY 64 p0.guards [(⟨p2,r1.1,r5.1,r3⟩:Guard)]).bind fun l7=>
  (some (true,(⟨p0.groups,p0.rules,l7⟩:Policy)):Option (Bool×Policy))) fun k1=>
 if (!decide (r5.2=0)) then
  k1 true
 else
 if r2.2.2 then
  k1 (decide (r3=(⟨#[]⟩:ByteArray)))
 else
 k1 false
theorem Zky (p0:Policy) (p1:ByteArray) (p2:Bool) (r:Bool×Policy) (hF:Zge p0 p1 p2=some r):ContractP Tryz.prog 204 [.ptr 0 (0,0) 0,.str p1,.bool p2] 0 [.row 149 2 false (List.map Group.cs p0.groups),.row 145 6 false (List.map Rule.cs p0.rules),.row 233 5 false (List.map Guard.cs p0.guards)] (.bool r.1) [.row 149 2 false (List.map Group.cs r.2.groups),.row 145 6 false (List.map Rule.cs r.2.rules),.row 233 5 false (List.map Guard.cs r.2.guards)]:=by
 refine Zba (R:=fun r=>.bool r.1) (O:=fun r=>[.row 149 2 false (List.map Group.cs r.2.groups),.row 145 6 false (List.map Rule.cs r.2.rules),.row 233 5 false (List.map Guard.cs r.2.guards)]) hF mix Tryz.func204 (by kernel_rfl) rfl (by kernel_rfl) rfl fun r hF=>?_
 unfold Zge at hF
 refine Za ?_
 refine rg ?_
 refine rg ?_
 obtain ⟨r1,h1,hF⟩:=bnd hF
 refine Zf (ZcI _ _ h1) rfl rfl (Za ?_)
 refine rg ?_
 obtain ⟨r2,h2,hF⟩:=bnd hF
 refine Zf (ZlO _ _ _ h2) rfl rfl (Za ?_)
 refine rg ?_
 obtain ⟨r3,h3,hF⟩:=bnd hF
 refine Zf (Zb3 _ _ _ h3) rfl rfl (Za ?_)
 refine rg ?_
 obtain ⟨r4,h4,hF⟩:=bnd hF
 refine Zf (Zb3 _ _ _ h4) rfl rfl (Za ?_)
 obtain ⟨r5,h5,hF⟩:=bnd hF
 refine Zf (Zhm _ _ h5) rfl rfl (Za ?_)
 refine jL hF (fun x6=>mkS [(0,.ptr 0 (0,0) 0),(2,.bool p2),(7,.str r1.1),(9,.str r3),(11,.ptr 11 (1,11) 0),(40,.bool x6)] [(0,some ((0,0),.box [.row 1000 (1,1000),.row 1001 (1,1001),.row 1002 (1,1002)])),(11,some ((1,11),.box [.int .i64 r5.1.space,.str r5.1.name])),(1000,some ((1,1000),.row 149 2 false (List.map Group.cs p0.groups))),(1001,some ((1,1001),.row 145 6 false (List.map Rule.cs p0.rules))),(1002,some ((1,1002),.row 233 5 false (List.map Guard.cs p0.guards)))] 2) (fun k1 hF=>?_) fun x6 hF=>?_
 ·refine rg ?_
  refine kS 34 hF rfl (fun hF=>?_) fun hF=>?_
  ·iterate 5 refine Zh rfl (Za ?_)
   exact jn true hF (sR [(11,5,6),(1000,0,1000),(1001,0,1001),(1002,0,1002)])
  refine kS 36 hF rfl (fun hF=>?_) fun hF=>?_
  ·exact jn (decide (r3=(⟨#[]⟩:ByteArray))) hF (sR [(11,5,6),(1000,0,1000),(1001,0,1001),(1002,0,1002)])
  iterate 2 refine Zh rfl (Za ?_)
  exact jn false hF (sR [(11,5,6),(1000,0,1000),(1001,0,1001),(1002,0,1002)])
 refine cS hF rfl (fun hF=>?_) fun hF=>?_
 ·refine rg ?_
  cases hF
  exact ZfL rfl rfl rfl rfl rfl rfl
 refine rg ?_
 refine Zw (M:=([(⟨p2,r1.1,r5.1,r3⟩:Guard)]:List Guard)) (f:=Guard.cs) rfl rfl rfl rfl (Nat.le_of_ble_eq_true rfl) rfl (Za ?_)
 obtain ⟨l7,h6,hF⟩:=bnd hF
 refine Zaj (f:=Guard.cs) rfl h6 (fun _=>rfl) rfl rfl rfl rfl (Za ?_)
 refine rg ?_
 cases hF
 exact ZfL rfl rfl rfl rfl rfl rfl
def Zj (p0:Policy) (p1:ByteArray):Option (Bool×Policy):=
 (Zcg p1).bind fun r1=>
 letk (fun (x11:Bool)=>
  if x11 then
   (some (true,p0):Option (Bool×Policy))
  else
  if (decide (r1.1=(⟨#[103,114,111,117,112]⟩:ByteArray))) then
   (Zgb p0 r1.2).bind fun r12=>
   (some (r12.1,r12.2):Option (Bool×Policy))
  else
  letk (fun (x13:Bool)=>
   if x13 then
    (Zhh p0 r1.2 (decide (r1.1=(⟨#[97,108,108,111,119]⟩:ByteArray)))).bind fun r14=>
    (some (r14.1,r14.2):Option (Bool×Policy))
   else
   letk (fun (x15:Bool)=>
    if x15 then
     (Zge p0 r1.2 (decide (r1.1=(⟨#[115,116,114,105,99,116]⟩:ByteArray)))).bind fun r16=>
     (some (r16.1,r16.2):Option (Bool×Policy))
    else
    (some (false,p0):Option (Bool×Policy))) fun k6=>
   if (decide (r1.1=(⟨#[103,117,97,114,100]⟩:ByteArray))) then
    k6 true
   else
   k6 (decide (r1.1=(⟨#[115,116,114,105,99,116]⟩:ByteArray)))) fun k5=>
  if (decide (r1.1=(⟨#[97,108,108,111,119]⟩:ByteArray))) then
   k5 true
  else
  k5 (decide (r1.1=(⟨#[100,101,110,121]⟩:ByteArray)))) fun k4=>
 if (decide (r1.1=(⟨#[]⟩:ByteArray))) then
  k4 true
 else
 (atS r1.1 0).bind fun c17=>
 k4 (decide (c17=35))
theorem ZhN (p0:Policy) (p1:ByteArray) (r:Bool×Policy) (hF:Zj p0 p1=some r):ContractP Tryz.prog 159 [.ptr 0 (0,0) 0,.str p1] 0 [.row 149 2 false (List.map Group.cs p0.groups),.row 145 6 false (List.map Rule.cs p0.rules),.row 233 5 false (List.map Guard.cs p0.guards)] (.bool r.1) [.row 149 2 false (List.map Group.cs r.2.groups),.row 145 6 false (List.map Rule.cs r.2.rules),.row 233 5 false (List.map Guard.cs r.2.guards)]:=by
 refine Zba (R:=fun r=>.bool r.1) (O:=fun r=>[.row 149 2 false (List.map Group.cs r.2.groups),.row 145 6 false (List.map Rule.cs r.2.rules),.row 233 5 false (List.map Guard.cs r.2.guards)]) hF mix Tryz.func159 (by kernel_rfl) rfl (by kernel_rfl) rfl fun r hF=>?_
 unfold Zj at hF
 refine Za ?_
 refine rg ?_
 refine rg ?_
 obtain ⟨r1,h1,hF⟩:=bnd hF
 refine Zf (ZcI _ _ h1) rfl rfl (Za ?_)
 refine bl ?_
 refine jL hF (fun x11=>mkS [(0,.ptr 0 (0,0) 0),(5,.str r1.1),(6,.str r1.2),(12,.bool x11)] [(0,some ((0,0),.box [.row 1000 (1,1000),.row 1001 (1,1001),.row 1002 (1,1002)])),(1000,some ((1,1000),.row 149 2 false (List.map Group.cs p0.groups))),(1001,some ((1,1001),.row 145 6 false (List.map Rule.cs p0.rules))),(1002,some ((1,1002),.row 233 5 false (List.map Guard.cs p0.guards)))] 2) (fun k4 hF=>?_) fun x11 hF=>?_
 ·refine rg ?_
  refine kS 15 hF rfl (fun hF=>?_) fun hF=>?_
  ·iterate 3 refine Zh rfl (Za ?_)
   exact jn true hF (sR [(1000,0,1000),(1001,0,1001),(1002,0,1002)])
  obtain ⟨c17,h11,hF⟩:=bnd hF
  refine ZI StrT.eq rfl h11 rfl rfl (Za ?_)
  exact jn (decide (c17=35)) hF (sR [(1000,0,1000),(1001,0,1001),(1002,0,1002)])
 refine cS hF rfl (fun hF=>?_) fun hF=>?_
 ·refine rg ?_
  cases hF
  exact ZfL rfl rfl rfl rfl rfl rfl
 refine rg ?_
 refine cS hF rfl (fun hF=>?_) fun hF=>?_
 ·refine rg ?_
  obtain ⟨r12,h8,hF⟩:=bnd hF
  refine Zdq (Zkw _ _ _ h8) rfl rfl rfl rfl rfl rfl rfl rfl (Za ?_)
  cases hF
  exact ZfL rfl rfl rfl rfl rfl rfl
 refine jL hF (fun x13=>mkS [(0,.ptr 0 (0,0) 0),(5,.str r1.1),(6,.str r1.2),(26,.bool x13)] [(0,some ((0,0),.box [.row 1000 (1,1000),.row 1001 (1,1001),.row 1002 (1,1002)])),(1000,some ((1,1000),.row 149 2 false (List.map Group.cs p0.groups))),(1001,some ((1,1001),.row 145 6 false (List.map Rule.cs p0.rules))),(1002,some ((1,1002),.row 233 5 false (List.map Guard.cs p0.guards)))] 2) (fun k5 hF=>?_) fun x13 hF=>?_
 ·refine rg ?_
  refine kS 29 hF rfl (fun hF=>?_) fun hF=>?_
  ·iterate 2 refine Zh rfl (Za ?_)
   exact jn true hF (sR [(1000,1,1000),(1001,1,1001),(1002,1,1002)])
  exact jn (decide (r1.1=(⟨#[100,101,110,121]⟩:ByteArray))) hF (sR [(1000,1,1000),(1001,1,1001),(1002,1,1002)])
 refine cS hF rfl (fun hF=>?_) fun hF=>?_
 ·refine rg ?_
  obtain ⟨r14,h9,hF⟩:=bnd hF
  refine Zdq (Zl2 _ _ _ _ h9) rfl rfl rfl rfl rfl rfl rfl rfl (Za ?_)
  cases hF
  exact ZfL rfl rfl rfl rfl rfl rfl
 refine jL hF (fun x15=>mkS [(0,.ptr 0 (0,0) 0),(5,.str r1.1),(6,.str r1.2),(38,.bool x15)] [(0,some ((0,0),.box [.row 1000 (1,1000),.row 1001 (1,1001),.row 1002 (1,1002)])),(1000,some ((1,1000),.row 149 2 false (List.map Group.cs p0.groups))),(1001,some ((1,1001),.row 145 6 false (List.map Rule.cs p0.rules))),(1002,some ((1,1002),.row 233 5 false (List.map Guard.cs p0.guards)))] 2) (fun k6 hF=>?_) fun x15 hF=>?_
 ·refine rg ?_
  refine kS 41 hF rfl (fun hF=>?_) fun hF=>?_
  ·iterate 2 refine Zh rfl (Za ?_)
   exact jn true hF (sR [(1000,1,1000),(1001,1,1001),(1002,1,1002)])
  exact jn (decide (r1.1=(⟨#[115,116,114,105,99,116]⟩:ByteArray))) hF (sR [(1000,1,1000),(1001,1,1001),(1002,1,1002)])
 refine cS hF rfl (fun hF=>?_) fun hF=>?_
 ·refine rg ?_
  obtain ⟨r16,h10,hF⟩:=bnd hF
  refine Zdq (Zky _ _ _ _ h10) rfl rfl rfl rfl rfl rfl rfl rfl (Za ?_)
  cases hF
  exact ZfL rfl rfl rfl rfl rfl rfl
 refine rg ?_
 cases hF
 exact ZfL rfl rfl rfl rfl rfl rfl
end Go.Proofs.YtjoneoobolnnbaaGreatDoor
