/- Functions of the program as Lean functions. Written by fxgen.py. -/
import Derived.Test.YtjoneoobolnnbaaGreatDoorCB37
import Derived.Test.YtjoneoobolnnbaaGreatDoorCB04
set_option linter.unusedVariables false
set_option maxHeartbeats 4000000
set_option maxRecDepth 100000
namespace Go.Proofs.YtjoneoobolnnbaaGreatDoor
open VL
def ZbJ (p0:ByteArray) (p1:ByteArray):Option (List ByteArray):=
 (strings_genSplit p0 p1 (p1.size:Int) (-1)).bind fun r1=>
 (some r1:Option (List ByteArray))
theorem ZiK (p0:ByteArray) (p1:ByteArray) (r:List ByteArray) (h:ZbJ p0 p1=some r):Zd Tryz.prog 167 [.str p0,.str p1] (.sl (List.map csS r)):=by
 refine cF (fun r=>.sl (List.map csS r)) h mix Tryz.func167 fun r h=>?_
 unfold ZbJ at h
 refine Zh ?_
 refine rg ?_
 refine rg ?_
 refine aN h (ZjS _ _ _ _) fun r1 h=>?_
 cases h
 exact rQ
def Zdq (p0:ByteArray):Option (List ByteArray):=
 (ZbJ p0 (⟨#[10]⟩:ByteArray)).bind fun r1=>
 (atI r1 (w64 ((r1.length:Int) - 1))).bind fun e2=>
 (ZjA r1 0 (w64 ((w64 ((r1.length:Int) - 1))+(if (e2.size:Int)<1 then (e2.size:Int) else 1)))).bind fun l3=>
 (some l3:Option (List ByteArray))
theorem ZkV (p0:ByteArray) (r:List ByteArray) (h:Zdq p0=some r):Zd Tryz.prog 112 [.str p0] (.sl (List.map csS r)):=by
 refine cF (fun r=>.sl (List.map csS r)) h mix Tryz.func112 fun r h=>?_
 unfold Zdq at h
 refine Zh ?_
 refine rg ?_
 refine rg ?_
 refine aC h (ZiK _ _) fun r1 h=>?_
 refine rg ?_
 refine lM csS r1 ?_
 refine lM csS r1 ?_
 refine aI csS h fun e2 h=>?_
 refine Zvz rfl rfl rfl (Zh ?_)
 refine sM csS h fun l3 h=>?_
 cases h
 exact rQ
def Zdg (p0:List ByteArray) (p1:List ByteArray):Option (List (List Int)):=
 (Zn7 24 (w64 ((p0.length:Int)+1))).bind fun _=>
 (Zn7 4 (w64 ((p1.length:Int)+1))).bind fun _=>
 (atI (List.replicate ((w64 ((p0.length:Int)+1))).toNat ([]:List Int)) (p0.length:Int)).bind fun e1=>
 ZE Zaj (fun f82 ((x772,x773):Int×(List (List Int)))=>
  if (decide (0≤x772)) then
   (Zn7 4 (w64 ((p1.length:Int)+1))).bind fun _=>
   (atI x773 (w64 (x772+1))).bind fun e1062=>
   ZE Zaj (fun f97 ((x1125,x1126):Int×(List Int))=>
    if (decide (0≤x1125)) then
     letk (fun (x1149:List Int)=>
      f97 ((w64 (x1125 - 1)),x1149)) fun k98=>
     (atI p0 x772).bind fun e1150=>
     (atI p1 x1125).bind fun e1151=>
     if (decide (e1150=e1151)) then
      (atI e1062 (w64 (x1125+1))).bind fun e1152=>
      (atI x1126 x1125).bind fun e1153=>
      k98 (ZaS x1126 x1125 (IntKind.wrap .i32 (e1152+1)))
     else
     (atI e1062 x1125).bind fun e1154=>
     (atI x1126 (w64 (x1125+1))).bind fun e1155=>
     (atI x1126 x1125).bind fun e1156=>
     k98 (ZaS x1126 x1125 (if e1155 > e1154 then e1155 else e1154))
    else
    (atI x773 x772).bind fun e1157=>
    f82 ((w64 (x772 - 1)),(ZaS x773 x772 x1126))) ((w64 ((p1.length:Int) - 1)),(List.replicate ((w64 ((p1.length:Int)+1))).toNat 0))
  else
  (some x773:Option (List (List Int)))) ((w64 ((p0.length:Int) - 1)),(ZaS (List.replicate ((w64 ((p0.length:Int)+1))).toNat ([]:List Int)) (p0.length:Int) (List.replicate ((w64 ((p1.length:Int)+1))).toNat 0)))
theorem Zn0 (p0:List ByteArray) (p1:List ByteArray) (r:List (List Int)) (h:Zdg p0 p1=some r):Zd Tryz.prog 114 [.sl (List.map csS p0),.sl (List.map csS p1)] (.sl (List.map (fun y=>[PV.sl (y.map ZfH)]) r)):=by
 refine cF (fun r=>.sl (List.map (fun y=>[PV.sl (y.map ZfH)]) r)) h mix Tryz.func114 fun r h=>?_
 unfold Zdg at h
 refine Zh ?_
 refine rg ?_
 refine rg ?_
 refine lM csS p0 ?_
 obtain ⟨_,h1,h⟩:=bnd h
 refine Zqy (fun y=>[PV.sl (y.map ZfH)]) ([]:List Int) rfl rfl rfl h1 rfl rfl (Zh ?_)
 refine rg ?_
 refine lM csS p0 ?_
 refine lM csS p1 ?_
 obtain ⟨_,h2,h⟩:=bnd h
 refine Zqy ZfH 0 rfl rfl rfl h2 rfl rfl (Zh ?_)
 obtain ⟨e1,h3,h⟩:=bnd h
 refine ZD rfl h3 rfl rfl rfl (Zh ?_)
 refine Zbc (e':=(List.replicate ((w64 ((p1.length:Int)+1))).toNat 0)) rfl h3 rfl rfl rfl rfl rfl rfl (Nat.le_of_ble_eq_true rfl) rfl rfl (Zh ?_)
 refine rg ?_
 refine lM csS p0 ?_
 refine bl ?_
 refine Zn h fun f82 mf82 hf82 h=>?_
 refine Zk (α:=Nat×(Int×(List (List Int)))) (fun a _=>mkS [(0,.sl (List.map csS p0)),(1,.sl (List.map csS p1)),(5,.row 13 (1,13)),(6,.int .i64 a.2.1)] [(13,some ((1,13),.row 158 1 false (List.map (fun y=>[PV.sl (y.map ZfH)]) a.2.2)))] 2) (fun a=>ZE a.1 f82 a.2=some r) (fun a=>a.1) (mf82,(w64 ((p0.length:Int) - 1)),(ZaS (List.replicate ((w64 ((p0.length:Int)+1))).toNat ([]:List Int)) (p0.length:Int) (List.replicate ((w64 ((p1.length:Int)+1))).toNat 0))) 2 h (sR [(13,2,3)]) (fun a _ h=>?_)
 obtain ⟨mf82,x772,x773⟩:=a
 obtain ⟨mf82,rfl,h⟩:=Zo hf82 h
 dsimp only at h ⊢
 refine Zh ?_
 refine rg ?_
 refine cS h rfl (fun h=>?_) fun h=>?_
 ·refine bl ?_
  refine rg ?_
  refine lM csS p1 ?_
  obtain ⟨_,h961,h⟩:=bnd h
  refine Zqy ZfH 0 rfl rfl rfl h961 rfl rfl (Zh ?_)
  obtain ⟨e1062,h962,h⟩:=bnd h
  refine ZD rfl h962 rfl rfl rfl (Zh ?_)
  refine ZaB rfl h962 rfl rfl rfl (Zh ?_)
  refine rg ?_
  refine lM csS p1 ?_
  refine bl ?_
  refine Zn h fun f97 mf97 hf97 h=>?_
  refine Zk (α:=Nat×(Int×(List Int))) (fun a _=>mkS [(0,.sl (List.map csS p0)),(1,.sl (List.map csS p1)),(5,.row 13 (1,13)),(6,.int .i64 x772),(7,.row 32 (1,32)),(8,.sl (List.map ZfH e1062)),(9,.int .i64 a.2.1)] [(13,some ((1,13),.row 158 1 false (List.map (fun y=>[PV.sl (y.map ZfH)]) x773))),(32,some ((1,32),.row 21 1 false (List.map ZfH a.2.2)))] 2) (fun a=>ZE a.1 f97 a.2=some r) (fun a=>a.1) (mf97,(w64 ((p1.length:Int) - 1)),(List.replicate ((w64 ((p1.length:Int)+1))).toNat 0)) 2 h (sR [(13,1,13),(32,3,3)]) (fun a _ h=>?_)
  obtain ⟨mf97,x1125,x1126⟩:=a
  obtain ⟨mf97,rfl,h⟩:=Zo hf97 h
  dsimp only at h ⊢
  refine Zh ?_
  refine rg ?_
  refine cS h rfl (fun h=>?_) fun h=>?_
  ·refine jL h (fun x1149=>mkS [(0,.sl (List.map csS p0)),(1,.sl (List.map csS p1)),(5,.row 13 (1,13)),(6,.int .i64 x772),(7,.row 32 (1,32)),(8,.sl (List.map ZfH e1062)),(9,.int .i64 x1125)] [(13,some ((1,13),.row 158 1 false (List.map (fun y=>[PV.sl (y.map ZfH)]) x773))),(32,some ((1,32),.row 21 1 false (List.map ZfH x1149)))] 2) (fun k98 h=>?_) fun x1149 h=>?_
   ·refine bl ?_
    refine rg ?_
    refine aI csS h fun e1150 h=>?_
    refine aI csS h fun e1151 h=>?_
    refine cS h rfl (fun h=>?_) fun h=>?_
    ·refine rg ?_
     refine aI ZfH h fun e1152 h=>?_
     obtain ⟨e1153,h1043,h⟩:=bnd h
     refine ZD rfl h1043 rfl rfl rfl (Zh ?_)
     refine Zbc (e':=(IntKind.wrap .i32 (e1152+1))) rfl h1043 rfl rfl rfl rfl rfl rfl (Nat.le_of_ble_eq_true rfl) rfl rfl (Zh ?_)
     exact jn (ZaS x1126 x1125 (IntKind.wrap .i32 (e1152+1))) h (sR [(13,1,13),(32,1,32)])
    refine rg ?_
    refine aI ZfH h fun e1154 h=>?_
    obtain ⟨e1155,h1045,h⟩:=bnd h
    refine ZD rfl h1045 rfl rfl rfl (Zh ?_)
    refine ZaB rfl h1045 rfl rfl rfl (Zh ?_)
    refine ZwZ rfl rfl rfl (Zh ?_)
    obtain ⟨e1156,h1046,h⟩:=bnd h
    refine ZD rfl h1046 rfl rfl rfl (Zh ?_)
    refine Zbc (e':=(if e1155 > e1154 then e1155 else e1154)) rfl h1046 rfl rfl rfl rfl rfl rfl (Nat.le_of_ble_eq_true rfl) rfl rfl (Zh ?_)
    exact jn (ZaS x1126 x1125 (if e1155 > e1154 then e1155 else e1154)) h (sR [(13,1,13),(32,1,32)])
   refine rg ?_
   exact rn (mf97,(w64 (x1125 - 1)),x1149) h (sR [(13,1,13),(32,1,32)])
  refine rg ?_
  obtain ⟨e1157,h1047,h⟩:=bnd h
  refine ZD rfl h1047 rfl rfl rfl (Zh ?_)
  refine Zbc (e':=x1126) rfl h1047 rfl rfl rfl rfl rfl rfl (Nat.le_of_ble_eq_true rfl) rfl rfl (Zh ?_)
  refine rg ?_
  exact rn (mf82,(w64 (x772 - 1)),(ZaS x773 x772 x1126)) h (sR [(13,1,13)])
 refine rg ?_
 cases h
 exact rQ
def Zab (p0:Script) (p1:Int) (p2:List ByteArray):Option Script:=
 if (decide (0<(p2.length:Int))) then
  (ZcF 32 p0.edits [(⟨p1,p2⟩:Edit)]).bind fun l1=>
  (some (⟨l1,p0.deleted,p0.insert,p0.kept⟩:Script):Option Script)
 else
 (some p0:Option Script)
theorem Zcx (p0:Script) (p1:Int) (p2:List ByteArray) (r:Script) (h:Zab p0 p1 p2=some r):ContractP Tryz.prog 113 [.ptr 0 (0,0) 0,.int .i64 p1,.sl (List.map csS p2)] 0 [.row 116 2 false (List.map Edit.cs p0.edits),.row 9 1 false (List.map csS p0.deleted),.row 9 1 false (List.map csS p0.insert),.row 9 1 false (List.map csS p0.kept)] (.tup []) [.row 116 2 false (List.map Edit.cs r.edits),.row 9 1 false (List.map csS r.deleted),.row 9 1 false (List.map csS r.insert),.row 9 1 false (List.map csS r.kept)]:=by
 refine ZbP (R:=fun r=>.tup []) (O:=fun r=>[.row 116 2 false (List.map Edit.cs r.edits),.row 9 1 false (List.map csS r.deleted),.row 9 1 false (List.map csS r.insert),.row 9 1 false (List.map csS r.kept)]) h mix Tryz.func113 (by kernel_rfl) rfl (by kernel_rfl) rfl fun r h=>?_
 unfold Zab at h
 refine Zh ?_
 refine rg ?_
 refine lM csS p2 ?_
 refine cS h rfl (fun h=>?_) fun h=>?_
 ·refine rg ?_
  refine bM Edit.cs ([(⟨p1,p2⟩:Edit)]:List Edit) ?_
  refine pR Edit.cs h fun l1 h=>?_
  cases h
  exact Zc6 rfl rfl rfl rfl rfl rfl
 cases h
 exact Zc6 rfl rfl rfl rfl rfl rfl
def Zbi (p0:Script) (p1:Int) (p2:List ByteArray):Option Script:=
 if (decide (0<(p2.length:Int))) then
  (ZcF 32 p0.edits [(⟨p1,p2⟩:Edit)]).bind fun l1=>
  (some (⟨l1,p0.deleted,p0.insert,p0.kept⟩:Script):Option Script)
 else
 (some p0:Option Script)
theorem Zhl (p0:Script) (p1:Int) (p2:List ByteArray) (r:Script) (h:Zbi p0 p1 p2=some r):ContractP Tryz.prog 113 [.ptr 0 (0,0) 0,.int .i64 p1,.sl (List.map csS p2)] 0 [.row 116 2 false (List.map Edit.cs p0.edits),.row 9 1 true (List.map csS p0.deleted),.row 9 1 false (List.map csS p0.insert),.row 9 1 false (List.map csS p0.kept)] (.tup []) [.row 116 2 false (List.map Edit.cs r.edits),.row 9 1 true (List.map csS r.deleted),.row 9 1 false (List.map csS r.insert),.row 9 1 false (List.map csS r.kept)]:=by
 refine ZbP (R:=fun r=>.tup []) (O:=fun r=>[.row 116 2 false (List.map Edit.cs r.edits),.row 9 1 true (List.map csS r.deleted),.row 9 1 false (List.map csS r.insert),.row 9 1 false (List.map csS r.kept)]) h mix Tryz.func113 (by kernel_rfl) rfl (by kernel_rfl) rfl fun r h=>?_
 unfold Zbi at h
 refine Zh ?_
 refine rg ?_
 refine lM csS p2 ?_
 refine cS h rfl (fun h=>?_) fun h=>?_
 ·refine rg ?_
  refine bM Edit.cs ([(⟨p1,p2⟩:Edit)]:List Edit) ?_
  refine pR Edit.cs h fun l1 h=>?_
  cases h
  exact Zc6 rfl rfl rfl rfl rfl rfl
 cases h
 exact Zc6 rfl rfl rfl rfl rfl rfl
def Zbj (p0:Script) (p1:Int) (p2:List ByteArray):Option Script:=
 if (decide (0<(p2.length:Int))) then
  (ZcF 32 p0.edits [(⟨p1,p2⟩:Edit)]).bind fun l1=>
  (some (⟨l1,p0.deleted,p0.insert,p0.kept⟩:Script):Option Script)
 else
 (some p0:Option Script)
theorem Zhm (p0:Script) (p1:Int) (p2:List ByteArray) (r:Script) (h:Zbj p0 p1 p2=some r):ContractP Tryz.prog 113 [.ptr 0 (0,0) 0,.int .i64 p1,.sl (List.map csS p2)] 0 [.row 116 2 false (List.map Edit.cs p0.edits),.row 9 1 true (List.map csS p0.deleted),.row 9 1 true (List.map csS p0.insert),.row 9 1 false (List.map csS p0.kept)] (.tup []) [.row 116 2 false (List.map Edit.cs r.edits),.row 9 1 true (List.map csS r.deleted),.row 9 1 true (List.map csS r.insert),.row 9 1 false (List.map csS r.kept)]:=by
 refine ZbP (R:=fun r=>.tup []) (O:=fun r=>[.row 116 2 false (List.map Edit.cs r.edits),.row 9 1 true (List.map csS r.deleted),.row 9 1 true (List.map csS r.insert),.row 9 1 false (List.map csS r.kept)]) h mix Tryz.func113 (by kernel_rfl) rfl (by kernel_rfl) rfl fun r h=>?_
 unfold Zbj at h
 refine Zh ?_
 refine rg ?_
 refine lM csS p2 ?_
 refine cS h rfl (fun h=>?_) fun h=>?_
 ·refine rg ?_
  refine bM Edit.cs ([(⟨p1,p2⟩:Edit)]:List Edit) ?_
  refine pR Edit.cs h fun l1 h=>?_
  cases h
  exact Zc6 rfl rfl rfl rfl rfl rfl
 cases h
 exact Zc6 rfl rfl rfl rfl rfl rfl
def Zbk (p0:Script) (p1:Int) (p2:List ByteArray):Option Script:=
 if (decide (0<(p2.length:Int))) then
  (ZcF 32 p0.edits [(⟨p1,p2⟩:Edit)]).bind fun l1=>
  (some (⟨l1,p0.deleted,p0.insert,p0.kept⟩:Script):Option Script)
 else
 (some p0:Option Script)
theorem Zhn (p0:Script) (p1:Int) (p2:List ByteArray) (r:Script) (h:Zbk p0 p1 p2=some r):ContractP Tryz.prog 113 [.ptr 0 (0,0) 0,.int .i64 p1,.sl (List.map csS p2)] 0 [.row 116 2 false (List.map Edit.cs p0.edits),.row 9 1 false (List.map csS p0.deleted),.row 9 1 false (List.map csS p0.insert),.row 9 1 true (List.map csS p0.kept)] (.tup []) [.row 116 2 false (List.map Edit.cs r.edits),.row 9 1 false (List.map csS r.deleted),.row 9 1 false (List.map csS r.insert),.row 9 1 true (List.map csS r.kept)]:=by
 refine ZbP (R:=fun r=>.tup []) (O:=fun r=>[.row 116 2 false (List.map Edit.cs r.edits),.row 9 1 false (List.map csS r.deleted),.row 9 1 false (List.map csS r.insert),.row 9 1 true (List.map csS r.kept)]) h mix Tryz.func113 (by kernel_rfl) rfl (by kernel_rfl) rfl fun r h=>?_
 unfold Zbk at h
 refine Zh ?_
 refine rg ?_
 refine lM csS p2 ?_
 refine cS h rfl (fun h=>?_) fun h=>?_
 ·refine rg ?_
  refine bM Edit.cs ([(⟨p1,p2⟩:Edit)]:List Edit) ?_
  refine pR Edit.cs h fun l1 h=>?_
  cases h
  exact Zc6 rfl rfl rfl rfl rfl rfl
 cases h
 exact Zc6 rfl rfl rfl rfl rfl rfl
def ZW (p0:Script):Option Script:=
 (Zbi p0 2 p0.deleted).bind fun r1=>
 (Zbj r1 3 r1.insert).bind fun r2=>
 (some (⟨r2.edits,[],[],r2.kept⟩:Script):Option Script)
theorem Zc1 (p0:Script) (r:Script) (h:ZW p0=some r):ContractP Tryz.prog 115 [.ptr 0 (0,0) 0] 0 [.row 116 2 false (List.map Edit.cs p0.edits),.row 9 1 false (List.map csS p0.deleted),.row 9 1 false (List.map csS p0.insert),.row 9 1 false (List.map csS p0.kept)] (.tup []) [.row 116 2 false (List.map Edit.cs r.edits),.pv .nil,.pv .nil,.row 9 1 false (List.map csS r.kept)]:=by
 refine ZbP (R:=fun r=>.tup []) (O:=fun r=>[.row 116 2 false (List.map Edit.cs r.edits),.pv .nil,.pv .nil,.row 9 1 false (List.map csS r.kept)]) h mix Tryz.func115 (by kernel_rfl) rfl (by kernel_rfl) rfl fun r h=>?_
 unfold ZW at h
 refine Zh ?_
 refine rg ?_
 obtain ⟨r1,h1,h⟩:=bnd h
 refine ZnX (Zhl _ _ _ _ h1) rfl rfl rfl rfl rfl rfl rfl rfl rfl rfl (Zh ?_)
 refine rg ?_
 obtain ⟨r2,h2,h⟩:=bnd h
 refine ZnX (Zhm _ _ _ _ h2) rfl rfl rfl rfl rfl rfl rfl rfl rfl rfl (Zh ?_)
 refine rg ?_
 cases h
 exact Zc6 rfl rfl rfl rfl rfl rfl
def ZX (p0:Script):Option Script:=
 (Zbk p0 1 p0.kept).bind fun r1=>
 (some (⟨r1.edits,r1.deleted,r1.insert,[]⟩:Script):Option Script)
theorem Zb9 (p0:Script) (r:Script) (h:ZX p0=some r):ContractP Tryz.prog 116 [.ptr 0 (0,0) 0] 0 [.row 116 2 false (List.map Edit.cs p0.edits),.row 9 1 false (List.map csS p0.deleted),.row 9 1 false (List.map csS p0.insert),.row 9 1 false (List.map csS p0.kept)] (.tup []) [.row 116 2 false (List.map Edit.cs r.edits),.row 9 1 false (List.map csS r.deleted),.row 9 1 false (List.map csS r.insert),.pv .nil]:=by
 refine ZbP (R:=fun r=>.tup []) (O:=fun r=>[.row 116 2 false (List.map Edit.cs r.edits),.row 9 1 false (List.map csS r.deleted),.row 9 1 false (List.map csS r.insert),.pv .nil]) h mix Tryz.func116 (by kernel_rfl) rfl (by kernel_rfl) rfl fun r h=>?_
 unfold ZX at h
 refine Zh ?_
 refine rg ?_
 obtain ⟨r1,h1,h⟩:=bnd h
 refine ZnX (Zhn _ _ _ _ h1) rfl rfl rfl rfl rfl rfl rfl rfl rfl rfl (Zh ?_)
 refine rg ?_
 cases h
 exact Zc6 rfl rfl rfl rfl rfl rfl
def Zdy (p0:ByteArray) (p1:ByteArray):Option (List Edit):=
 (Zdq p0).bind fun r1=>
 (Zdq p1).bind fun r2=>
 if (decide (p0=p1)) then
  (Zab (⟨([]:List Edit),([]:List ByteArray),([]:List ByteArray),([]:List ByteArray)⟩:Script) 1 r1).bind fun r4=>
  (some r4.edits:Option (List Edit))
 else
 letk (fun (x5:Bool)=>
  if x5 then
   (Zab (⟨([]:List Edit),([]:List ByteArray),([]:List ByteArray),([]:List ByteArray)⟩:Script) 2 r1).bind fun r8=>
   (Zab r8 3 r2).bind fun r9=>
   (some r9.edits:Option (List Edit))
  else
  (Zdg r1 r2).bind fun r10=>
  ZE Zaj (fun f18 ((x113,x114,x115,x116,x117,x118):Int×Int×(List Edit)×(List ByteArray)×(List ByteArray)×(List ByteArray))=>
   letk (fun (x143:Bool)=>
    if x143 then
     letk (fun (x146:Bool)=>
      if x146 then
       (ZW (⟨x115,x116,x117,x118⟩:Script)).bind fun r147=>
       (atI r1 x113).bind fun e148=>
       (ZcF 16 r147.kept [e148]).bind fun l149=>
       f18 ((w64 (x113+1)),(w64 (x114+1)),r147.edits,([]:List ByteArray),([]:List ByteArray),l149)
      else
      letk (fun (x154:Bool)=>
       if x154 then
        (ZX (⟨x115,x116,x117,x118⟩:Script)).bind fun r155=>
        (atI r1 x113).bind fun e156=>
        (ZcF 16 r155.deleted [e156]).bind fun l157=>
        f18 ((w64 (x113+1)),x114,r155.edits,l157,r155.insert,([]:List ByteArray))
       else
       (ZX (⟨x115,x116,x117,x118⟩:Script)).bind fun r158=>
       (atI r2 x114).bind fun e159=>
       (ZcF 16 r158.insert [e159]).bind fun l160=>
       f18 (x113,(w64 (x114+1)),r158.edits,r158.deleted,l160,([]:List ByteArray))) fun k21=>
      if (decide (x114=(r2.length:Int))) then
       k21 true
      else
      if (decide (x113<(r1.length:Int))) then
       (atI r10 (w64 (x113+1))).bind fun e161=>
       (atI e161 x114).bind fun e162=>
       (atI r10 x113).bind fun e163=>
       (atI e163 (w64 (x114+1))).bind fun e164=>
       k21 (decide (e164≤e162))
      else
      k21 false) fun k20=>
     if (decide (x113<(r1.length:Int))) then
      if (decide (x114<(r2.length:Int))) then
       (atI r1 x113).bind fun e165=>
       (atI r2 x114).bind fun e166=>
       k20 (decide (e165=e166))
      else
      k20 false
     else
     k20 false
    else
    (ZX (⟨x115,x116,x117,x118⟩:Script)).bind fun r167=>
    (ZW (⟨r167.edits,r167.deleted,r167.insert,([]:List ByteArray)⟩:Script)).bind fun r168=>
    (some r168.edits:Option (List Edit))) fun k19=>
   if (decide (x113<(r1.length:Int))) then
    k19 true
   else
   k19 (decide (x114<(r2.length:Int)))) (0,0,([]:List Edit),([]:List ByteArray),([]:List ByteArray),([]:List ByteArray))) fun k1=>
 if (decide (1000<(r1.length:Int))) then
  k1 true
 else
 k1 (decide (1000<(r2.length:Int)))
theorem Zqo (p0:ByteArray) (p1:ByteArray) (r:List Edit) (h:Zdy p0 p1=some r):Zd Tryz.prog 61 [.str p0,.str p1] (.sl (List.map Edit.cs r)):=by
 refine cF (fun r=>.sl (List.map Edit.cs r)) h mix Tryz.func61 fun r h=>?_
 unfold Zdy at h
 refine Zh ?_
 refine rg ?_
 refine rg ?_
 refine aC h (ZkV _) fun r1 h=>?_
 refine aC h (ZkV _) fun r2 h=>?_
 refine rg ?_
 refine Zco (ZcC 16 2600 0 116 2 rfl rfl rfl) (Zh ?_) (List.cons_ne_nil _ _)
 refine Zco (ZcC 16 2601 1 9 1 rfl rfl rfl) (Zh ?_) (List.cons_ne_nil _ _)
 refine Zco (ZcC 16 2602 2 9 1 rfl rfl rfl) (Zh ?_) (List.cons_ne_nil _ _)
 refine Zco (ZcC 16 2603 3 9 1 rfl rfl rfl) (Zh ?_) (List.cons_ne_nil _ _)
 refine rg ?_
 refine cS h rfl (fun h=>?_) fun h=>?_
 ·refine rg ?_
  obtain ⟨r4,h4,h⟩:=bnd h
  refine ZeR (Zcx _ _ _ _ h4) rfl rfl rfl rfl rfl rfl rfl rfl (Zh ?_)
  refine rg ?_
  cases h
  exact rQ
 refine jL h (fun x5=>mkS [(5,.sl (List.map csS r1)),(6,.sl (List.map csS r2)),(7,.ptr 16 (1,16) 0),(34,.bool x5)] [(16,some ((1,16),.box [.row 2600 (1,2600),.row 2601 (1,2601),.row 2602 (1,2602),.row 2603 (1,2603)])),(2600,some ((1,2600),.row 116 2 false (List.map Edit.cs ([]:List Edit)))),(2601,some ((1,2601),.row 9 1 false (List.map csS ([]:List ByteArray)))),(2602,some ((1,2602),.row 9 1 false (List.map csS ([]:List ByteArray)))),(2603,some ((1,2603),.row 9 1 false (List.map csS ([]:List ByteArray))))] 2) (fun k1 h=>?_) fun x5 h=>?_
 ·refine rg ?_
  refine lM csS r1 ?_
  refine kS 30 h rfl (fun h=>?_) fun h=>?_
  ·iterate 3 refine Zi rfl (Zh ?_)
   exact jn true h (sR [(16,3,1),(2600,4,0),(2601,5,0),(2602,6,0),(2603,7,0)])
  refine lM csS r2 ?_
  exact jn (decide (1000<(r2.length:Int))) h (sR [(16,3,1),(2600,4,0),(2601,5,0),(2602,6,0),(2603,7,0)])
 refine cS h rfl (fun h=>?_) fun h=>?_
 ·refine rg ?_
  obtain ⟨r8,h7,h⟩:=bnd h
  refine ZeR (Zcx _ _ _ _ h7) rfl rfl rfl rfl rfl rfl rfl rfl (Zh ?_)
  refine rg ?_
  obtain ⟨r9,h8,h⟩:=bnd h
  refine ZeR (Zcx _ _ _ _ h8) rfl rfl rfl rfl rfl rfl rfl rfl (Zh ?_)
  refine rg ?_
  cases h
  exact rQ
 refine rg ?_
 refine aC h (Zn0 _ _) fun r10 h=>?_
 refine rg ?_
 refine bl ?_
 refine Zn h fun f18 mf18 hf18 h=>?_
 refine Zk (α:=Nat×(Int×Int×(List Edit)×(List ByteArray)×(List ByteArray)×(List ByteArray))) (fun a _=>mkS [(5,.sl (List.map csS r1)),(6,.sl (List.map csS r2)),(7,.ptr 16 (1,16) 0),(8,.sl (List.map (fun y=>[PV.sl (y.map ZfH)]) r10)),(9,.int .i64 a.2.1),(10,.int .i64 a.2.2.1)] [(16,some ((1,16),.box [.row 2600 (1,2600),.row 2601 (1,2601),.row 2602 (1,2602),.row 2603 (1,2603)])),(2600,some ((1,2600),.row 116 2 false (List.map Edit.cs a.2.2.2.1))),(2601,some ((1,2601),.row 9 1 false (List.map csS a.2.2.2.2.1))),(2602,some ((1,2602),.row 9 1 false (List.map csS a.2.2.2.2.2.1))),(2603,some ((1,2603),.row 9 1 false (List.map csS a.2.2.2.2.2.2)))] 2) (fun a=>ZE a.1 f18 a.2=some r) (fun a=>a.1) (mf18,0,0,([]:List Edit),([]:List ByteArray),([]:List ByteArray),([]:List ByteArray)) 2 h (sR [(16,1,16),(2600,1,2600),(2601,1,2601),(2602,1,2602),(2603,1,2603)]) (fun a _ h=>?_)
 obtain ⟨mf18,x113,x114,x115,x116,x117,x118⟩:=a
 obtain ⟨mf18,rfl,h⟩:=Zo hf18 h
 dsimp only at h ⊢
 refine Zh ?_
 refine jL h (fun x143=>mkS [(5,.sl (List.map csS r1)),(6,.sl (List.map csS r2)),(7,.ptr 16 (1,16) 0),(8,.sl (List.map (fun y=>[PV.sl (y.map ZfH)]) r10)),(9,.int .i64 x113),(10,.int .i64 x114),(57,.bool x143)] [(16,some ((1,16),.box [.row 2600 (1,2600),.row 2601 (1,2601),.row 2602 (1,2602),.row 2603 (1,2603)])),(2600,some ((1,2600),.row 116 2 false (List.map Edit.cs x115))),(2601,some ((1,2601),.row 9 1 false (List.map csS x116))),(2602,some ((1,2602),.row 9 1 false (List.map csS x117))),(2603,some ((1,2603),.row 9 1 false (List.map csS x118)))] 2) (fun k19 h=>?_) fun x143 h=>?_
 ·refine rg ?_
  refine lM csS r1 ?_
  refine kS 52 h rfl (fun h=>?_) fun h=>?_
  ·iterate 4 refine Zi rfl (Zh ?_)
   exact jn true h (sR [(16,1,16),(2600,1,2600),(2601,1,2601),(2602,1,2602),(2603,1,2603)])
  refine lM csS r2 ?_
  exact jn (decide (x114<(r2.length:Int))) h (sR [(16,1,16),(2600,1,2600),(2601,1,2601),(2602,1,2602),(2603,1,2603)])
 refine cS h rfl (fun h=>?_) fun h=>?_
 ·refine bl ?_
  refine bl ?_
  refine jL h (fun x146=>mkS [(5,.sl (List.map csS r1)),(6,.sl (List.map csS r2)),(7,.ptr 16 (1,16) 0),(8,.sl (List.map (fun y=>[PV.sl (y.map ZfH)]) r10)),(9,.int .i64 x113),(10,.int .i64 x114),(75,.bool x146)] [(16,some ((1,16),.box [.row 2600 (1,2600),.row 2601 (1,2601),.row 2602 (1,2602),.row 2603 (1,2603)])),(2600,some ((1,2600),.row 116 2 false (List.map Edit.cs x115))),(2601,some ((1,2601),.row 9 1 false (List.map csS x116))),(2602,some ((1,2602),.row 9 1 false (List.map csS x117))),(2603,some ((1,2603),.row 9 1 false (List.map csS x118)))] 2) (fun k20 h=>?_) fun x146 h=>?_
  ·refine rg ?_
   refine lM csS r1 ?_
   refine kS 80 h rfl (fun h=>?_) fun h=>?_
   ·refine lM csS r2 ?_
    refine kS 86 h rfl (fun h=>?_) fun h=>?_
    ·refine aI csS h fun e165 h=>?_
     refine aI csS h fun e166 h=>?_
     exact jn (decide (e165=e166)) h (sR [(16,1,16),(2600,1,2600),(2601,1,2601),(2602,1,2602),(2603,1,2603)])
    iterate 9 refine Zi rfl (Zh ?_)
    exact jn false h (sR [(16,1,16),(2600,1,2600),(2601,1,2601),(2602,1,2602),(2603,1,2603)])
   iterate 13 refine Zi rfl (Zh ?_)
   exact jn false h (sR [(16,1,16),(2600,1,2600),(2601,1,2601),(2602,1,2602),(2603,1,2603)])
  refine cS h rfl (fun h=>?_) fun h=>?_
  ·refine rg ?_
   obtain ⟨r147,h117,h⟩:=bnd h
   refine ZeR (Zc1 _ _ h117) rfl rfl rfl rfl rfl rfl rfl rfl (Zh ?_)
   refine Zco (ZcC 16 2601 1 9 1 rfl rfl rfl) (Zh ?_) (List.cons_ne_nil _ _)
   refine Zco (ZcC 16 2602 2 9 1 rfl rfl rfl) (Zh ?_) (List.cons_ne_nil _ _)
   refine rg ?_
   refine aI csS h fun e148 h=>?_
   refine bM csS ([e148]:List ByteArray) ?_
   refine pR csS h fun l149 h=>?_
   refine rg ?_
   refine rg ?_
   exact rn (mf18,(w64 (x113+1)),(w64 (x114+1)),r147.edits,([]:List ByteArray),([]:List ByteArray),l149) h (sR [(16,1,16),(2600,2,1000001),(2601,3,0),(2602,4,0),(2603,5,10)])
  refine jL h (fun x154=>mkS [(5,.sl (List.map csS r1)),(6,.sl (List.map csS r2)),(7,.ptr 16 (1,16) 0),(8,.sl (List.map (fun y=>[PV.sl (y.map ZfH)]) r10)),(9,.int .i64 x113),(10,.int .i64 x114),(116,.bool x154)] [(16,some ((1,16),.box [.row 2600 (1,2600),.row 2601 (1,2601),.row 2602 (1,2602),.row 2603 (1,2603)])),(2600,some ((1,2600),.row 116 2 false (List.map Edit.cs x115))),(2601,some ((1,2601),.row 9 1 false (List.map csS x116))),(2602,some ((1,2602),.row 9 1 false (List.map csS x117))),(2603,some ((1,2603),.row 9 1 false (List.map csS x118)))] 2) (fun k21 h=>?_) fun x154 h=>?_
  ·refine rg ?_
   refine lM csS r2 ?_
   refine kS 121 h rfl (fun h=>?_) fun h=>?_
   ·iterate 23 refine Zi rfl (Zh ?_)
    exact jn true h (sR [(16,1,16),(2600,1,2600),(2601,1,2601),(2602,1,2602),(2603,1,2603)])
   refine lM csS r1 ?_
   refine kS 126 h rfl (fun h=>?_) fun h=>?_
   ·refine aI (fun y=>[PV.sl (y.map ZfH)]) h fun e161 h=>?_
    refine aI ZfH h fun e162 h=>?_
    refine aI (fun y=>[PV.sl (y.map ZfH)]) h fun e163 h=>?_
    refine aI ZfH h fun e164 h=>?_
    exact jn (decide (e164≤e162)) h (sR [(16,1,16),(2600,1,2600),(2601,1,2601),(2602,1,2602),(2603,1,2603)])
   iterate 17 refine Zi rfl (Zh ?_)
   exact jn false h (sR [(16,1,16),(2600,1,2600),(2601,1,2601),(2602,1,2602),(2603,1,2603)])
  refine cS h rfl (fun h=>?_) fun h=>?_
  ·refine rg ?_
   obtain ⟨r155,h124,h⟩:=bnd h
   refine ZeR (Zb9 _ _ h124) rfl rfl rfl rfl rfl rfl rfl rfl (Zh ?_)
   refine Zco (ZcC 16 2603 3 9 1 rfl rfl rfl) (Zh ?_) (List.cons_ne_nil _ _)
   refine rg ?_
   refine aI csS h fun e156 h=>?_
   refine bM csS ([e156]:List ByteArray) ?_
   refine pR csS h fun l157 h=>?_
   refine rg ?_
   exact rn (mf18,(w64 (x113+1)),x114,r155.edits,l157,r155.insert,([]:List ByteArray)) h (sR [(16,1,16),(2600,2,1000001),(2601,4,10),(2602,2,3000001),(2603,3,0)])
  refine rg ?_
  obtain ⟨r158,h127,h⟩:=bnd h
  refine ZeR (Zb9 _ _ h127) rfl rfl rfl rfl rfl rfl rfl rfl (Zh ?_)
  refine Zco (ZcC 16 2603 3 9 1 rfl rfl rfl) (Zh ?_) (List.cons_ne_nil _ _)
  refine rg ?_
  refine aI csS h fun e159 h=>?_
  refine bM csS ([e159]:List ByteArray) ?_
  refine pR csS h fun l160 h=>?_
  refine rg ?_
  exact rn (mf18,x113,(w64 (x114+1)),r158.edits,r158.deleted,l160,([]:List ByteArray)) h (sR [(16,1,16),(2600,2,1000001),(2601,2,2000001),(2602,4,10),(2603,3,0)])
 refine rg ?_
 obtain ⟨r167,h136,h⟩:=bnd h
 refine ZeR (Zb9 _ _ h136) rfl rfl rfl rfl rfl rfl rfl rfl (Zh ?_)
 refine Zco (ZcC 16 2603 3 9 1 rfl rfl rfl) (Zh ?_) (List.cons_ne_nil _ _)
 refine rg ?_
 obtain ⟨r168,h137,h⟩:=bnd h
 refine ZeR (Zc1 _ _ h137) rfl rfl rfl rfl rfl rfl rfl rfl (Zh ?_)
 refine Zco (ZcC 16 2601 1 9 1 rfl rfl rfl) (Zh ?_) (List.cons_ne_nil _ _)
 refine Zco (ZcC 16 2602 2 9 1 rfl rfl rfl) (Zh ?_) (List.cons_ne_nil _ _)
 refine rg ?_
 cases h
 exact rQ
end Go.Proofs.YtjoneoobolnnbaaGreatDoor
