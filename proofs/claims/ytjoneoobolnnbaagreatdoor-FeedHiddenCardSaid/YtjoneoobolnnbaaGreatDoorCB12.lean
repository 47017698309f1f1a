/- Functions of the program as Lean functions. Written by fxgen.py. -/
import Derived.Test.YtjoneoobolnnbaaGreatDoorCB11
import Derived.Test.YtjoneoobolnnbaaGreatDoorCB10
import Derived.Test.YtjoneoobolnnbaaGreatDoorCB04
set_option linter.unusedVariables false
set_option maxHeartbeats 4000000
set_option maxRecDepth 100000
namespace Go.Proofs.YtjoneoobolnnbaaGreatDoor
open VL
def Za6 (p0:ByteArray) (p1:ByteArray):Option (ByteArray×Bool):=
 (Zah p0 p1).bind fun r1=>
 if (!r1) then
  (some (p0,false):Option (ByteArray×Bool))
 else
 (Zge p0 (p1.size:Int) (p0.size:Int)).bind fun l2=>
 (some (l2,true):Option (ByteArray×Bool))
theorem Zd5 (p0:ByteArray) (p1:ByteArray) (r:ByteArray×Bool) (h:Za6 p0 p1=some r):Zd Tryz.prog 279 [.str p0,.str p1] (.tup [.str r.1,.bool r.2]):=by
 refine cF (fun r=>.tup [.str r.1,.bool r.2]) h mix Tryz.func279 fun r h=>?_
 unfold Za6 at h
 refine Zh ?_
 refine rg ?_
 refine rg ?_
 refine aC h (ZaV _ _) fun r1 h=>?_
 refine cS h rfl (fun h=>?_) fun h=>?_
 ·refine rg ?_
  cases h
  exact rQ
 refine rg ?_
 refine sS h fun l2 h=>?_
 cases h
 exact rQ
def Zeo (p0:ByteArray) (p1:ByteArray):Option (ByteArray×Bool):=
 (Za6 p0 p1).bind fun r1=>
 (some (r1.1,r1.2):Option (ByteArray×Bool))
theorem Zjt (p0:ByteArray) (p1:ByteArray) (r:ByteArray×Bool) (h:Zeo p0 p1=some r):Zd Tryz.prog 247 [.str p0,.str p1] (.tup [.str r.1,.bool r.2]):=by
 refine cF (fun r=>.tup [.str r.1,.bool r.2]) h mix Tryz.func247 fun r h=>?_
 unfold Zeo at h
 refine Zh ?_
 refine rg ?_
 refine rg ?_
 refine aC h (Zd5 _ _) fun r1 h=>?_
 cases h
 exact rQ
def Zdo (p0:ByteArray):Option (ByteArray×ByteArray):=
 (ZcL p0 (⟨#[32,9]⟩:ByteArray)).bind fun r1=>
 (ZeX r1 (⟨#[32,9]⟩:ByteArray)).bind fun r2=>
 if (decide (r2<0)) then
  (some (r1,(⟨#[]⟩:ByteArray)):Option (ByteArray×ByteArray))
 else
 (Zge r1 0 r2).bind fun l3=>
 (Zge r1 r2 (r1.size:Int)).bind fun l4=>
 (ZcL l4 (⟨#[32,9]⟩:ByteArray)).bind fun r5=>
 (some (l3,r5):Option (ByteArray×ByteArray))
theorem ZdZ (p0:ByteArray) (r:ByteArray×ByteArray) (h:Zdo p0=some r):Zd Tryz.prog 201 [.str p0] (.tup [.str r.1,.str r.2]):=by
 refine cF (fun r=>.tup [.str r.1,.str r.2]) h mix Tryz.func201 fun r h=>?_
 unfold Zdo at h
 refine Zh ?_
 refine rg ?_
 refine rg ?_
 refine aC h (Zc8 _ _) fun r1 h=>?_
 refine rg ?_
 refine aC h (Zkc _ _) fun r2 h=>?_
 refine rg ?_
 refine cS h rfl (fun h=>?_) fun h=>?_
 ·refine rg ?_
  cases h
  exact rQ
 refine rg ?_
 refine sS h fun l3 h=>?_
 refine sS h fun l4 h=>?_
 refine aC h (Zc8 _ _) fun r5 h=>?_
 cases h
 exact rQ
def Zid (p0:Policy) (p1:ByteArray):Option (Bool×Policy):=
 (Zdo p1).bind fun r1=>
 (ZdE r1.2).bind fun r2=>
 (ZcF 40 p0.groups [(⟨r1.1,r2⟩:Group)]).bind fun l3=>
 (some ((!decide (r1.1=(⟨#[]⟩:ByteArray))),(⟨l3,p0.rules,p0.guards⟩:Policy)):Option (Bool×Policy))
theorem Znn (p0:Policy) (p1:ByteArray) (r:Bool×Policy) (h:Zid p0 p1=some r):ContractP Tryz.prog 202 [.ptr 0 (0,0) 0,.str p1] 0 [.row 149 2 false (List.map Group.cs p0.groups),.row 145 6 false (List.map Rule.cs p0.rules),.row 233 5 false (List.map Guard.cs p0.guards)] (.bool r.1) [.row 149 2 false (List.map Group.cs r.2.groups),.row 145 6 false (List.map Rule.cs r.2.rules),.row 233 5 false (List.map Guard.cs r.2.guards)]:=by
 refine ZbP (R:=fun r=>.bool r.1) (O:=fun r=>[.row 149 2 false (List.map Group.cs r.2.groups),.row 145 6 false (List.map Rule.cs r.2.rules),.row 233 5 false (List.map Guard.cs r.2.guards)]) h mix Tryz.func202 (by kernel_rfl) rfl (by kernel_rfl) rfl fun r h=>?_
 unfold Zid at h
 refine Zh ?_
 refine rg ?_
 refine rg ?_
 refine aC h (ZdZ _) fun r1 h=>?_
 refine rg ?_
 obtain ⟨r2,h2,h⟩:=bnd h
 refine Zvd (ZiN _ _ h2) rfl rfl rfl (Zh ?_)
 refine rg ?_
 refine ZZ (M:=([(⟨r1.1,r2⟩:Group)]:List Group)) (f:=Group.cs) rfl rfl rfl rfl (Nat.le_of_ble_eq_true rfl) rfl (Zh ?_)
 refine pR Group.cs h fun l3 h=>?_
 refine rg ?_
 cases h
 exact ZhE rfl rfl rfl rfl rfl rfl
def Zep (p0:Policy) (p1:Int):Option Int:=
 (atI p0.groups p1).bind fun e1=>
 (Zcn e1.name).bind fun r2=>
 if (!r2) then
  (some 1:Option Int)
 else
 letk (fun (x6:Bool)=>
  if x6 then
   (some 5:Option Int)
  else
  if (decide (24<(e1.members.length:Int))) then
   (some 3:Option Int)
  else
  ZE Zaj (fun f13 (x56:Int)=>
   if (decide (x56<(e1.members.length:Int))) then
    (atI e1.members x56).bind fun e75=>
    (Zeo e75 (⟨#[64]⟩:ByteArray)).bind fun r76=>
    (Zcn r76.1).bind fun r77=>
    if (!r77) then
     (some 1:Option Int)
    else
    letk (fun (x79:Bool)=>
     if x79 then
      (some 4:Option Int)
     else
     f13 (w64 (x56+1))) fun k15=>
    if r76.2 then
     (ZdJ p0 r76.1).bind fun r80=>
     k15 (!r80)
    else
    k15 false
   else
   (some 0:Option Int)) 0) fun k1=>
 (Zet e1.name).bind fun r81=>
 if r81 then
  k1 true
 else
 (ZjA p0.groups 0 p1).bind fun l82=>
 (Za1 l82 (fun y0=>Zcb y0 e1)).bind fun r83=>
 k1 r83
theorem Zju (p0:Policy) (p1:Int) (r:Int) (h:Zep p0 p1=some r):Zd Tryz.prog 205 [p0.pv,.int .i64 p1] (.int .i64 r):=by
 refine cF (fun r=>.int .i64 r) h mix Tryz.func205 fun r h=>?_
 unfold Zep at h
 refine Zh ?_
 refine rg ?_
 refine rg ?_
 refine aI Group.cs h fun e1 h=>?_
 refine rg ?_
 refine aC h (ZdY _) fun r2 h=>?_
 refine cS h rfl (fun h=>?_) fun h=>?_
 ·refine rg ?_
  cases h
  exact rQ
 refine jL h (fun x6=>mkS [(2,.ptr 2 (1,2) 0),(5,.ptr 5 (1,5) 0),(29,.bool x6)] [(2,some ((1,2),.box (Policy.cs p0))),(5,some ((1,5),.box (Group.cs e1)))] 2) (fun k1 h=>?_) fun x6 h=>?_
 ·refine rg ?_
  refine aC h (Zhh _) fun r81 h=>?_
  refine kS 22 h rfl (fun h=>?_) fun h=>?_
  ·iterate 6 refine Zi rfl (Zh ?_)
   exact jn true h (sR [(2,1,0),(5,2,5)])
  refine sM Group.cs h fun l82 h=>?_
  refine Zkx rfl rfl (Zh ?_)
  obtain ⟨r83,h68,h⟩:=bnd h
  refine ZjO (ZcI _ (fun y0=>Zcb y0 e1) 246 [[.str e1.name,.sl (List.map csS e1.members)]] (fun y0 r h=>ZhD y0 e1 r h) _ h68) rfl rfl rfl (Zh ?_)
  exact jn r83 h (sR [(2,1,0),(5,2,5)])
 refine cS h rfl (fun h=>?_) fun h=>?_
 ·refine rg ?_
  cases h
  exact rQ
 refine rg ?_
 refine lM csS e1.members ?_
 refine cS h rfl (fun h=>?_) fun h=>?_
 ·refine rg ?_
  cases h
  exact rQ
 refine rg ?_
 refine lM csS e1.members ?_
 refine bl ?_
 refine Zn h fun f13 mf13 hf13 h=>?_
 refine Zk (α:=Nat×Int) (fun a _=>mkS [(2,.ptr 2 (1,2) 0),(35,.sl (List.map csS e1.members)),(36,.int .i64 (e1.members.length:Int)),(37,.int .i64 a.2)] [(2,some ((1,2),.box (Policy.cs p0)))] 2) (fun a=>ZE a.1 f13 a.2=some r) (fun a=>a.1) (mf13,0) 2 h (sR [(2,1,2)]) (fun a _ h=>?_)
 obtain ⟨mf13,x56⟩:=a
 obtain ⟨mf13,rfl,h⟩:=Zo hf13 h
 dsimp only at h ⊢
 refine Zh ?_
 refine rg ?_
 refine cS h rfl (fun h=>?_) fun h=>?_
 ·refine bl ?_
  refine rg ?_
  refine aI csS h fun e75 h=>?_
  refine rg ?_
  refine aC h (Zjt _ _) fun r76 h=>?_
  refine rg ?_
  refine aC h (ZdY _) fun r77 h=>?_
  refine cS h rfl (fun h=>?_) fun h=>?_
  ·refine rg ?_
   cases h
   exact rQ
  refine jL h (fun x79=>mkS [(2,.ptr 2 (1,2) 0),(35,.sl (List.map csS e1.members)),(36,.int .i64 (e1.members.length:Int)),(37,.int .i64 x56),(55,.bool x79)] [(2,some ((1,2),.box (Policy.cs p0)))] 2) (fun k15 h=>?_) fun x79 h=>?_
  ·refine rg ?_
   refine kS 50 h rfl (fun h=>?_) fun h=>?_
   ·refine aC h (Zfs _ _) fun r80 h=>?_
    exact jn (!r80) h (sR [(2,1,2)])
   iterate 4 refine Zi rfl (Zh ?_)
   exact jn false h (sR [(2,1,2)])
  refine cS h rfl (fun h=>?_) fun h=>?_
  ·refine rg ?_
   cases h
   exact rQ
  refine rg ?_
  exact rn (mf13,(w64 (x56+1))) h (sR [(2,1,2)])
 refine rg ?_
 cases h
 exact rQ
def Zjy (p0:Policy) (p1:ByteArray) (p2:Bool):Option (Bool×Policy):=
 (Zdo p1).bind fun r1=>
 (Zdo r1.2).bind fun r2=>
 (ZgS).bind fun r3=>
 (Zca r3 r1.1).bind fun r4=>
 if (decide ((w64 (r4+1))=0)) then
  (some (false,p0):Option (Bool×Policy))
 else
 letk (fun (x8:Int) (x9:Int) (x10:ByteArray)=>
  (ZcF 64 p0.rules [(⟨p2,(w64 (r4+1)),r2.1,(⟨x8,(⟨x9,x10⟩:Title)⟩:Scope)⟩:Rule)]).bind fun l11=>
  (some (true,(⟨p0.groups,l11,p0.guards⟩:Policy)):Option (Bool×Policy))) fun k1=>
 if (decide (r2.2=(⟨#[60,97,108,108,62]⟩:ByteArray))) then
  k1 1 0 (⟨#[]⟩:ByteArray)
 else
 (ZgT).bind fun r12=>
 (Zca r12 r2.2).bind fun r13=>
 if (decide (0≤r13)) then
  k1 2 r13 (⟨#[]⟩:ByteArray)
 else
 (ZgM r2.2).bind fun r14=>
 if (!decide (r14.2=0)) then
  (some (false,p0):Option (Bool×Policy))
 else
 k1 3 r14.1.space r14.1.name
theorem Zo1 (p0:Policy) (p1:ByteArray) (p2:Bool) (r:Bool×Policy) (h:Zjy p0 p1 p2=some r):ContractP Tryz.prog 203 [.ptr 0 (0,0) 0,.str p1,.bool p2] 0 [.row 149 2 false (List.map Group.cs p0.groups),.row 145 6 false (List.map Rule.cs p0.rules),.row 233 5 false (List.map Guard.cs p0.guards)] (.bool r.1) [.row 149 2 false (List.map Group.cs r.2.groups),.row 145 6 false (List.map Rule.cs r.2.rules),.row 233 5 false (List.map Guard.cs r.2.guards)]:=by
 refine ZbP (R:=fun r=>.bool r.1) (O:=fun r=>[.row 149 2 false (List.map Group.cs r.2.groups),.row 145 6 false (List.map Rule.cs r.2.rules),.row 233 5 false (List.map Guard.cs r.2.guards)]) h mix Tryz.func203 (by kernel_rfl) rfl (by kernel_rfl) rfl fun r h=>?_
 unfold Zjy at h
 refine Zh ?_
 refine rg ?_
 refine rg ?_
 refine aC h (ZdZ _) fun r1 h=>?_
 refine rg ?_
 refine aC h (ZdZ _) fun r2 h=>?_
 refine rg ?_
 refine aC h Zma fun r3 h=>?_
 refine aC h (ZeB _ _) fun r4 h=>?_
 refine rg ?_
 refine cS h rfl (fun h=>?_) fun h=>?_
 ·refine rg ?_
  cases h
  exact ZhE rfl rfl rfl rfl rfl rfl
 refine rg ?_
 refine Zax h fun k1 hk1 h=>?_
 refine ZaO (α:=Int×Int×ByteArray) (fun a _=>mkS [(0,.ptr 0 (0,0) 0),(10,.ptr 10 (1,10) 0)] [(0,some ((0,0),.box [.row 1000 (1,1000),.row 1001 (1,1001),.row 1002 (1,1002)])),(10,some ((1,10),.box [.bool p2,.int .i64 (w64 (r4+1)),.str r2.1,.int .i64 a.1,.int .i64 a.2.1,.str a.2.2])),(1000,some ((1,1000),.row 149 2 false (List.map Group.cs p0.groups))),(1001,some ((1,1001),.row 145 6 false (List.map Rule.cs p0.rules))),(1002,some ((1,1002),.row 233 5 false (List.map Guard.cs p0.guards)))] 2) (fun a=>k1 a.1 a.2.1 a.2.2=some r) (Zh ?_) (fun a _ h=>?_)
 ·refine cS h rfl (fun h=>?_) fun h=>?_
  ·refine rg ?_
   exact jn (1,0,(⟨#[]⟩:ByteArray)) h (sR [(10,4,7),(1000,0,1000),(1001,0,1001),(1002,0,1002)])
  refine rg ?_
  refine aC h Zmb fun r12 h=>?_
  refine aC h (ZeB _ _) fun r13 h=>?_
  refine rg ?_
  refine cS h rfl (fun h=>?_) fun h=>?_
  ·refine rg ?_
   exact jn (2,r13,(⟨#[]⟩:ByteArray)) h (sR [(10,4,7),(1000,0,1000),(1001,0,1001),(1002,0,1002)])
  refine rg ?_
  refine aC h (ZjG _) fun r14 h=>?_
  refine rg ?_
  refine cS h rfl (fun h=>?_) fun h=>?_
  ·refine rg ?_
   cases h
   exact ZhE rfl rfl rfl rfl rfl rfl
  refine rg ?_
  exact jn (3,r14.1.space,r14.1.name) h (sR [(10,4,7),(1000,0,1000),(1001,0,1001),(1002,0,1002)])
 obtain ⟨x8,x9,x10⟩:=a
 subst hk1
 dsimp only at h ⊢
 refine Zh ?_
 refine rg ?_
 refine ZZ (M:=([(⟨p2,(w64 (r4+1)),r2.1,(⟨x8,(⟨x9,x10⟩:Title)⟩:Scope)⟩:Rule)]:List Rule)) (f:=Rule.cs) rfl rfl rfl rfl (Nat.le_of_ble_eq_true rfl) rfl (Zh ?_)
 refine pR Rule.cs h fun l11 h=>?_
 refine rg ?_
 cases h
 exact ZhE rfl rfl rfl rfl rfl rfl
def Zig (p0:Policy) (p1:ByteArray) (p2:Bool):Option (Bool×Policy):=
 (Zdo p1).bind fun r1=>
 (strings_Cut r1.2 (⟨#[124]⟩:ByteArray)).bind fun r2=>
 (ZcL r2.2.1 (⟨#[32,9]⟩:ByteArray)).bind fun r3=>
 (ZcL r2.1 (⟨#[32,9]⟩:ByteArray)).bind fun r4=>
 (ZgM r4).bind fun r5=>
 letk (fun (x6:Bool)=>
  if x6 then
   (some (false,p0):Option (Bool×Policy))
  else
  (ZcF 64 p0.guards [(⟨p2,r1.1,r5.1,r3⟩:Guard)]).bind fun l7=>
  (some (true,(⟨p0.groups,p0.rules,l7⟩:Policy)):Option (Bool×Policy))) fun k1=>
 if (!decide (r5.2=0)) then
  k1 true
 else
 if r2.2.2 then
  k1 (decide (r3=(⟨#[]⟩:ByteArray)))
 else
 k1 false
theorem Znp (p0:Policy) (p1:ByteArray) (p2:Bool) (r:Bool×Policy) (h:Zig p0 p1 p2=some r):ContractP Tryz.prog 204 [.ptr 0 (0,0) 0,.str p1,.bool p2] 0 [.row 149 2 false (List.map Group.cs p0.groups),.row 145 6 false (List.map Rule.cs p0.rules),.row 233 5 false (List.map Guard.cs p0.guards)] (.bool r.1) [.row 149 2 false (List.map Group.cs r.2.groups),.row 145 6 false (List.map Rule.cs r.2.rules),.row 233 5 false (List.map Guard.cs r.2.guards)]:=by
 refine ZbP (R:=fun r=>.bool r.1) (O:=fun r=>[.row 149 2 false (List.map Group.cs r.2.groups),.row 145 6 false (List.map Rule.cs r.2.rules),.row 233 5 false (List.map Guard.cs r.2.guards)]) h mix Tryz.func204 (by kernel_rfl) rfl (by kernel_rfl) rfl fun r h=>?_
 unfold Zig at h
 refine Zh ?_
 refine rg ?_
 refine rg ?_
 refine aC h (ZdZ _) fun r1 h=>?_
 refine rg ?_
 refine aC h (ZoN _ _) fun r2 h=>?_
 refine rg ?_
 refine aC h (Zc8 _ _) fun r3 h=>?_
 refine rg ?_
 refine aC h (Zc8 _ _) fun r4 h=>?_
 refine aC h (ZjG _) fun r5 h=>?_
 refine jL h (fun x6=>mkS [(0,.ptr 0 (0,0) 0),(2,.bool p2),(7,.str r1.1),(9,.str r3),(11,.ptr 11 (1,11) 0),(40,.bool x6)] [(0,some ((0,0),.box [.row 1000 (1,1000),.row 1001 (1,1001),.row 1002 (1,1002)])),(11,some ((1,11),.box (Title.cs r5.1))),(1000,some ((1,1000),.row 149 2 false (List.map Group.cs p0.groups))),(1001,some ((1,1001),.row 145 6 false (List.map Rule.cs p0.rules))),(1002,some ((1,1002),.row 233 5 false (List.map Guard.cs p0.guards)))] 2) (fun k1 h=>?_) fun x6 h=>?_
 ·refine rg ?_
  refine kS 34 h rfl (fun h=>?_) fun h=>?_
  ·iterate 5 refine Zi rfl (Zh ?_)
   exact jn true h (sR [(11,5,6),(1000,0,1000),(1001,0,1001),(1002,0,1002)])
  refine kS 36 h rfl (fun h=>?_) fun h=>?_
  ·exact jn (decide (r3=(⟨#[]⟩:ByteArray))) h (sR [(11,5,6),(1000,0,1000),(1001,0,1001),(1002,0,1002)])
  iterate 2 refine Zi rfl (Zh ?_)
  exact jn false h (sR [(11,5,6),(1000,0,1000),(1001,0,1001),(1002,0,1002)])
 refine cS h rfl (fun h=>?_) fun h=>?_
 ·refine rg ?_
  cases h
  exact ZhE rfl rfl rfl rfl rfl rfl
 refine rg ?_
 refine ZZ (M:=([(⟨p2,r1.1,r5.1,r3⟩:Guard)]:List Guard)) (f:=Guard.cs) rfl rfl rfl rfl (Nat.le_of_ble_eq_true rfl) rfl (Zh ?_)
 refine pR Guard.cs h fun l7 h=>?_
 refine rg ?_
 cases h
 exact ZhE rfl rfl rfl rfl rfl rfl
def Zm (p0:Policy) (p1:ByteArray):Option (Bool×Policy):=
 (Zdo p1).bind fun r1=>
 letk (fun (x11:Bool)=>
  if x11 then
   (some (true,p0):Option (Bool×Policy))
  else
  if (decide (r1.1=(⟨#[103,114,111,117,112]⟩:ByteArray))) then
   (Zid p0 r1.2).bind fun r12=>
   (some (r12.1,r12.2):Option (Bool×Policy))
  else
  letk (fun (x13:Bool)=>
   if x13 then
    (Zjy p0 r1.2 (decide (r1.1=(⟨#[97,108,108,111,119]⟩:ByteArray)))).bind fun r14=>
    (some (r14.1,r14.2):Option (Bool×Policy))
   else
   letk (fun (x15:Bool)=>
    if x15 then
     (Zig p0 r1.2 (decide (r1.1=(⟨#[115,116,114,105,99,116]⟩:ByteArray)))).bind fun r16=>
     (some (r16.1,r16.2):Option (Bool×Policy))
    else
    (some (false,p0):Option (Bool×Policy))) fun k6=>
   if (decide (r1.1=(⟨#[103,117,97,114,100]⟩:ByteArray))) then
    k6 true
   else
   k6 (decide (r1.1=(⟨#[115,116,114,105,99,116]⟩:ByteArray)))) fun k5=>
  if (decide (r1.1=(⟨#[97,108,108,111,119]⟩:ByteArray))) then
   k5 true
  else
  k5 (decide (r1.1=(⟨#[100,101,110,121]⟩:ByteArray)))) fun k4=>
 if (decide (r1.1=(⟨#[]⟩:ByteArray))) then
  k4 true
 else
 (atS r1.1 0).bind fun c17=>
 k4 (decide (c17=35))
theorem Zkm (p0:Policy) (p1:ByteArray) (r:Bool×Policy) (h:Zm p0 p1=some r):ContractP Tryz.prog 159 [.ptr 0 (0,0) 0,.str p1] 0 [.row 149 2 false (List.map Group.cs p0.groups),.row 145 6 false (List.map Rule.cs p0.rules),.row 233 5 false (List.map Guard.cs p0.guards)] (.bool r.1) [.row 149 2 false (List.map Group.cs r.2.groups),.row 145 6 false (List.map Rule.cs r.2.rules),.row 233 5 false (List.map Guard.cs r.2.guards)]:=by
 refine ZbP (R:=fun r=>.bool r.1) (O:=fun r=>[.row 149 2 false (List.map Group.cs r.2.groups),.row 145 6 false (List.map Rule.cs r.2.rules),.row 233 5 false (List.map Guard.cs r.2.guards)]) h mix Tryz.func159 (by kernel_rfl) rfl (by kernel_rfl) rfl fun r h=>?_
 unfold Zm at h
 refine Zh ?_
 refine rg ?_
 refine rg ?_
 refine aC h (ZdZ _) fun r1 h=>?_
 refine bl ?_
 refine jL h (fun x11=>mkS [(0,.ptr 0 (0,0) 0),(5,.str r1.1),(6,.str r1.2),(12,.bool x11)] [(0,some ((0,0),.box [.row 1000 (1,1000),.row 1001 (1,1001),.row 1002 (1,1002)])),(1000,some ((1,1000),.row 149 2 false (List.map Group.cs p0.groups))),(1001,some ((1,1001),.row 145 6 false (List.map Rule.cs p0.rules))),(1002,some ((1,1002),.row 233 5 false (List.map Guard.cs p0.guards)))] 2) (fun k4 h=>?_) fun x11 h=>?_
 ·refine rg ?_
  refine kS 15 h rfl (fun h=>?_) fun h=>?_
  ·iterate 3 refine Zi rfl (Zh ?_)
   exact jn true h (sR [(1000,0,1000),(1001,0,1001),(1002,0,1002)])
  refine aS h fun c17 h=>?_
  exact jn (decide (c17=35)) h (sR [(1000,0,1000),(1001,0,1001),(1002,0,1002)])
 refine cS h rfl (fun h=>?_) fun h=>?_
 ·refine rg ?_
  cases h
  exact ZhE rfl rfl rfl rfl rfl rfl
 refine rg ?_
 refine cS h rfl (fun h=>?_) fun h=>?_
 ·refine rg ?_
  obtain ⟨r12,h8,h⟩:=bnd h
  refine ZeR (Znn _ _ _ h8) rfl rfl rfl rfl rfl rfl rfl rfl (Zh ?_)
  cases h
  exact ZhE rfl rfl rfl rfl rfl rfl
 refine jL h (fun x13=>mkS [(0,.ptr 0 (0,0) 0),(5,.str r1.1),(6,.str r1.2),(26,.bool x13)] [(0,some ((0,0),.box [.row 1000 (1,1000),.row 1001 (1,1001),.row 1002 (1,1002)])),(1000,some ((1,1000),.row 149 2 false (List.map Group.cs p0.groups))),(1001,some ((1,1001),.row 145 6 false (List.map Rule.cs p0.rules))),(1002,some ((1,1002),.row 233 5 false (List.map Guard.cs p0.guards)))] 2) (fun k5 h=>?_) fun x13 h=>?_
 ·refine rg ?_
  refine kS 29 h rfl (fun h=>?_) fun h=>?_
  ·iterate 2 refine Zi rfl (Zh ?_)
   exact jn true h (sR [(1000,1,1000),(1001,1,1001),(1002,1,1002)])
  exact jn (decide (r1.1=(⟨#[100,101,110,121]⟩:ByteArray))) h (sR [(1000,1,1000),(1001,1,1001),(1002,1,1002)])
 refine cS h rfl (fun h=>?_) fun h=>?_
 ·refine rg ?_
  obtain ⟨r14,h9,h⟩:=bnd h
  refine ZeR (Zo1 _ _ _ _ h9) rfl rfl rfl rfl rfl rfl rfl rfl (Zh ?_)
  cases h
  exact ZhE rfl rfl rfl rfl rfl rfl
 refine jL h (fun x15=>mkS [(0,.ptr 0 (0,0) 0),(5,.str r1.1),(6,.str r1.2),(38,.bool x15)] [(0,some ((0,0),.box [.row 1000 (1,1000),.row 1001 (1,1001),.row 1002 (1,1002)])),(1000,some ((1,1000),.row 149 2 false (List.map Group.cs p0.groups))),(1001,some ((1,1001),.row 145 6 false (List.map Rule.cs p0.rules))),(1002,some ((1,1002),.row 233 5 false (List.map Guard.cs p0.guards)))] 2) (fun k6 h=>?_) fun x15 h=>?_
 ·refine rg ?_
  refine kS 41 h rfl (fun h=>?_) fun h=>?_
  ·iterate 2 refine Zi rfl (Zh ?_)
   exact jn true h (sR [(1000,1,1000),(1001,1,1001),(1002,1,1002)])
  exact jn (decide (r1.1=(⟨#[115,116,114,105,99,116]⟩:ByteArray))) h (sR [(1000,1,1000),(1001,1,1001),(1002,1,1002)])
 refine cS h rfl (fun h=>?_) fun h=>?_
 ·refine rg ?_
  obtain ⟨r16,h10,h⟩:=bnd h
  refine ZeR (Znp _ _ _ _ h10) rfl rfl rfl rfl rfl rfl rfl rfl (Zh ?_)
  cases h
  exact ZhE rfl rfl rfl rfl rfl rfl
 refine rg ?_
 cases h
 exact ZhE rfl rfl rfl rfl rfl rfl
def ZeT (p0:Policy) (p1:Rule):Option Int:=
 letk (fun (x1:Bool)=>
  if x1 then
   (some 2:Option Int)
  else
  (ZdJ p0 p1.group).bind fun r2=>
  if (!r2) then
   (some 4:Option Int)
  else
  letk (fun (x4:Bool)=>
   if (!x4) then
    (some 7:Option Int)
   else
   (some 0:Option Int)) fun k2=>
  if (decide (p1.scope.kind=1)) then
   k2 (decide (p1.scope.title=(⟨0,(⟨#[]⟩:ByteArray)⟩:Title)))
  else
  if (decide (p1.scope.kind=2)) then
   if (decide (0≤p1.scope.title.space)) then
    if (decide (p1.scope.title.space<6)) then
     k2 (decide (p1.scope.title.name=(⟨#[]⟩:ByteArray)))
    else
    k2 false
   else
   k2 false
  else
  if (decide (p1.scope.kind=3)) then
   (Zdn p1.scope.title).bind fun r5=>
   k2 r5
  else
  k2 false) fun k1=>
 if (decide (p1.right<1)) then
  k1 true
 else
 k1 (decide (5<p1.right))
theorem ZjY (p0:Policy) (p1:Rule) (r:Int) (h:ZeT p0 p1=some r):Zd Tryz.prog 206 [p0.pv,p1.pv] (.int .i64 r):=by
 refine cF (fun r=>.int .i64 r) h mix Tryz.func206 fun r h=>?_
 unfold ZeT at h
 refine Zh ?_
 refine rg ?_
 refine jL h (fun x1=>mkS [(2,.ptr 2 (1,2) 0),(3,.ptr 3 (1,3) 0),(14,.bool x1)] [(2,some ((1,2),.box (Policy.cs p0))),(3,some ((1,3),.box (Rule.cs p1)))] 2) (fun k1 h=>?_) fun x1 h=>?_
 ·refine rg ?_
  refine kS 10 h rfl (fun h=>?_) fun h=>?_
  ·iterate 3 refine Zi rfl (Zh ?_)
   exact jn true h (sR [(2,1,0),(3,1,1)])
  exact jn (decide (5<p1.right)) h (sR [(2,1,0),(3,1,1)])
 refine cS h rfl (fun h=>?_) fun h=>?_
 ·refine rg ?_
  cases h
  exact rQ
 refine rg ?_
 refine aC h (Zfs _ _) fun r2 h=>?_
 refine cS h rfl (fun h=>?_) fun h=>?_
 ·refine rg ?_
  cases h
  exact rQ
 refine rg ?_
 refine rg ?_
 refine rg ?_
 refine jL h (fun x4=>mkS [(6,.bool x4)] [] 2) (fun k2 h=>?_) fun x4 h=>?_
 ·refine bl ?_
  refine rg ?_
  refine cS h rfl (fun h=>?_) fun h=>?_
  ·refine rg ?_
   refine Ze3 (.inl rfl) rfl rfl rfl rfl rfl (fun W=>ZdP p1.scope.title (⟨0,(⟨#[]⟩:ByteArray)⟩:Title) W) (Zh ?_)
   exact jn (decide (p1.scope.title=(⟨0,(⟨#[]⟩:ByteArray)⟩:Title))) h (sR [])
  refine rg ?_
  refine cS h rfl (fun h=>?_) fun h=>?_
  ·refine rg ?_
   refine kS 36 h rfl (fun h=>?_) fun h=>?_
   ·refine kS 41 h rfl (fun h=>?_) fun h=>?_
    ·exact jn (decide (p1.scope.title.name=(⟨#[]⟩:ByteArray))) h (sR [])
    iterate 3 refine Zi rfl (Zh ?_)
    exact jn false h (sR [])
   iterate 6 refine Zi rfl (Zh ?_)
   exact jn false h (sR [])
  refine rg ?_
  refine cS h rfl (fun h=>?_) fun h=>?_
  ·refine rg ?_
   refine aC h (Ze9 _) fun r5 h=>?_
   exact jn r5 h (sR [])
  exact jn false h (sR [])
 refine rg ?_
 refine cS h rfl (fun h=>?_) fun h=>?_
 ·refine rg ?_
  cases h
  exact rQ
 refine rg ?_
 cases h
 exact rQ
def Zei (p0:Policy) (p1:Guard):Option Int:=
 (ZdJ p0 p1.group).bind fun r1=>
 if (!r1) then
  (some 4:Option Int)
 else
 letk (fun (x5:Bool)=>
  if x5 then
   (some 7:Option Int)
  else
  (some 0:Option Int)) fun k1=>
 (Zdn p1.title).bind fun r6=>
 if (!r6) then
  k1 true
 else
 if (decide (100<(p1.section_.size:Int))) then
  k1 true
 else
 (Zdm p1.section_ (⟨#[10,124]⟩:ByteArray)).bind fun r7=>
 if r7 then
  k1 true
 else
 (ZcL p1.section_ (⟨#[32,9]⟩:ByteArray)).bind fun r8=>
 k1 (!decide (r8=p1.section_))
theorem Zjc (p0:Policy) (p1:Guard) (r:Int) (h:Zei p0 p1=some r):Zd Tryz.prog 207 [p0.pv,p1.pv] (.int .i64 r):=by
 refine cF (fun r=>.int .i64 r) h mix Tryz.func207 fun r h=>?_
 unfold Zei at h
 refine Zh ?_
 refine rg ?_
 refine rg ?_
 refine aC h (Zfs _ _) fun r1 h=>?_
 refine cS h rfl (fun h=>?_) fun h=>?_
 ·refine rg ?_
  cases h
  exact rQ
 refine jL h (fun x5=>mkS [(32,.bool x5)] [] 2) (fun k1 h=>?_) fun x5 h=>?_
 ·refine rg ?_
  refine aC h (Ze9 _) fun r6 h=>?_
  refine kS 14 h rfl (fun h=>?_) fun h=>?_
  ·iterate 13 refine Zi rfl (Zh ?_)
   exact jn true h (sR [])
  refine kS 20 h rfl (fun h=>?_) fun h=>?_
  ·iterate 9 refine Zi rfl (Zh ?_)
   exact jn true h (sR [])
  refine aC h (Zh0 _ _) fun r7 h=>?_
  refine kS 25 h rfl (fun h=>?_) fun h=>?_
  ·iterate 6 refine Zi rfl (Zh ?_)
   exact jn true h (sR [])
  refine aC h (Zc8 _ _) fun r8 h=>?_
  exact jn (!decide (r8=p1.section_)) h (sR [])
 refine cS h rfl (fun h=>?_) fun h=>?_
 ·refine rg ?_
  cases h
  exact rQ
 refine rg ?_
 cases h
 exact rQ
end Go.Proofs.YtjoneoobolnnbaaGreatDoor
