/- Functions of the program as Lean functions. Written by fxgen.py. -/
import Derived.Test.YtjoneoobolnnbaaGreatDoorCF16
import Derived.Test.YtjoneoobolnnbaaGreatDoorCF04
set_option linter.unusedVariables false
set_option maxHeartbeats 4000000
set_option maxRecDepth 100000
namespace Go.Proofs.YtjoneoobolnnbaaGreatDoor
open VL
def Zcn (p0:ByteArray) (p1:ByteArray):Option (List ByteArray):=
 (strings_genSplit p0 p1 (p1.size:Int) (-1)).bind fun r1=>
 (some r1:Option (List ByteArray))
theorem ZgB (p0:ByteArray) (p1:ByteArray) (r:List ByteArray) (hF:Zcn p0 p1=some r):Zb Tryz.prog 167 [.str p0,.str p1] (.sl (List.map csS r)):=by
 refine cF (fun r=>.sl (List.map csS r)) hF mix Tryz.func167 fun r hF=>?_
 unfold Zcn at hF
 refine Za ?_
 refine rg ?_
 refine rg ?_
 obtain ⟨r1,h1,hF⟩:=bnd hF
 refine Zev (Zhr _ _ _ _ _ h1) rfl rfl (Za ?_)
 cases hF
 exact rQ
def Zgk (p0:ByteArray):Option (List ByteArray):=
 (Zcn p0 (⟨#[10]⟩:ByteArray)).bind fun r1=>
 (atI r1 (w64 ((r1.length:Int) - 1))).bind fun e2=>
 (Zin r1 0 (w64 ((w64 ((r1.length:Int) - 1))+(if (e2.size:Int)<1 then (e2.size:Int) else 1)))).bind fun l3=>
 (some l3:Option (List ByteArray))
theorem Zir (p0:ByteArray) (r:List ByteArray) (hF:Zgk p0=some r):Zb Tryz.prog 112 [.str p0] (.sl (List.map csS r)):=by
 refine cF (fun r=>.sl (List.map csS r)) hF mix Tryz.func112 fun r hF=>?_
 unfold Zgk at hF
 refine Za ?_
 refine rg ?_
 refine rg ?_
 obtain ⟨r1,h1,hF⟩:=bnd hF
 refine Zf (ZgB _ _ _ h1) rfl rfl (Za ?_)
 refine rg ?_
 refine Zr rfl (M:=r1) (f:=csS) rfl (Za ?_)
 refine Zr rfl (M:=r1) (f:=csS) rfl (Za ?_)
 obtain ⟨e2,h2,hF⟩:=bnd hF
 refine Zk (f:=csS) rfl h2 rfl rfl rfl (Za ?_)
 refine Zqv rfl rfl rfl (Za ?_)
 obtain ⟨l3,h3,hF⟩:=bnd hF
 refine Zbp (f:=csS) rfl h3 (fun _=>rfl) rfl rfl rfl rfl (Za ?_)
 cases hF
 exact rQ
def ZgT (p0:List ByteArray) (p1:List ByteArray):Option (List (List Int)):=
 (Zp6 24 (w64 ((p0.length:Int)+1))).bind fun _=>
 (Zp6 4 (w64 ((p1.length:Int)+1))).bind fun _=>
 (atI (List.replicate ((w64 ((p0.length:Int)+1))).toNat ([]:List Int)) (p0.length:Int)).bind fun e1=>
 ZK Zax (fun f82 ((x772,x773):Int×(List (List Int)))=>
  if (decide (0≤x772)) then
   (Zp6 4 (w64 ((p1.length:Int)+1))).bind fun _=>
   (atI x773 (w64 (x772+1))).bind fun e1062=>
   ZK Zax (fun f97 ((x1125,x1126):Int×(List Int))=>
    if (decide (0≤x1125)) then
     letk (fun (x1149:List Int)=>
      f97 ((w64 (x1125 - 1)),x1149)) fun k98=>
     (atI p0 x772).bind fun e1150=>
     (atI p1 x1125).bind fun e1151=>
     if (decide (e1150=e1151)) then
      (atI e1062 (w64 (x1125+1))).bind fun e1152=>
      (atI x1126 x1125).bind fun e1153=>
      k98 (ZbI x1126 x1125 (IntKind.wrap .i32 (e1152+1)))
     else
     (atI e1062 x1125).bind fun e1154=>
     (atI x1126 (w64 (x1125+1))).bind fun e1155=>
     (atI x1126 x1125).bind fun e1156=>
     k98 (ZbI x1126 x1125 (if e1155 > e1154 then e1155 else e1154))
    else
    (atI x773 x772).bind fun e1157=>
    f82 ((w64 (x772 - 1)),(ZbI x773 x772 x1126))) ((w64 ((p1.length:Int) - 1)),(List.replicate ((w64 ((p1.length:Int)+1))).toNat 0))
  else
  (some x773:Option (List (List Int)))) ((w64 ((p0.length:Int) - 1)),(ZbI (List.replicate ((w64 ((p0.length:Int)+1))).toNat ([]:List Int)) (p0.length:Int) (List.replicate ((w64 ((p1.length:Int)+1))).toNat 0)))
theorem Zk5 (p0:List ByteArray) (p1:List ByteArray) (r:List (List Int)) (hF:ZgT p0 p1=some r):Zb Tryz.prog 114 [.sl (List.map csS p0),.sl (List.map csS p1)] (.sl (List.map (fun y=>[PV.sl (y.map Zd7)]) r)):=by
 refine cF (fun r=>.sl (List.map (fun y=>[PV.sl (y.map Zd7)]) r)) hF mix Tryz.func114 fun r hF=>?_
 unfold ZgT at hF
 refine Za ?_
 refine rg ?_
 refine rg ?_
 refine Zr rfl (M:=p0) (f:=csS) rfl (Za ?_)
 obtain ⟨_,h1,hF⟩:=bnd hF
 refine Znl (fun y=>[PV.sl (y.map Zd7)]) ([]:List Int) rfl rfl rfl h1 rfl rfl (Za ?_)
 refine rg ?_
 refine Zr rfl (M:=p0) (f:=csS) rfl (Za ?_)
 refine Zr rfl (M:=p1) (f:=csS) rfl (Za ?_)
 obtain ⟨_,h2,hF⟩:=bnd hF
 refine Znl Zd7 0 rfl rfl rfl h2 rfl rfl (Za ?_)
 obtain ⟨e1,h3,hF⟩:=bnd hF
 refine ZB rfl h3 rfl rfl rfl (Za ?_)
 refine ZaJ (e':=(List.replicate ((w64 ((p1.length:Int)+1))).toNat 0)) rfl h3 rfl rfl rfl rfl rfl rfl (Nat.le_of_ble_eq_true rfl) rfl rfl (Za ?_)
 refine rg ?_
 refine Zr rfl (M:=p0) (f:=csS) rfl (Za ?_)
 refine bl ?_
 refine Zn hF fun f82 mf82 hf82 hF=>?_
 refine Zl (α:=Nat×(Int×(List (List Int)))) (fun a _=>mkS [(0,.sl (List.map csS p0)),(1,.sl (List.map csS p1)),(5,.row 13 (1,13)),(6,.int .i64 a.2.1)] [(13,some ((1,13),.row 158 1 false (List.map (fun y=>[PV.sl (y.map Zd7)]) a.2.2)))] 2) (fun a=>ZK a.1 f82 a.2=some r) (fun a=>a.1) (mf82,(w64 ((p0.length:Int) - 1)),(ZbI (List.replicate ((w64 ((p0.length:Int)+1))).toNat ([]:List Int)) (p0.length:Int) (List.replicate ((w64 ((p1.length:Int)+1))).toNat 0))) 2 hF (sR [(13,2,3)]) (fun a _ hF=>?_)
 obtain ⟨mf82,x772,x773⟩:=a
 obtain ⟨mf82,rfl,hF⟩:=Zo hf82 hF
 dsimp only at hF ⊢
 refine Za ?_
 refine rg ?_
 refine cS hF rfl (fun hF=>?_) fun hF=>?_
 ·refine bl ?_
  refine rg ?_
  refine Zr rfl (M:=p1) (f:=csS) rfl (Za ?_)
  obtain ⟨_,h961,hF⟩:=bnd hF
  refine Znl Zd7 0 rfl rfl rfl h961 rfl rfl (Za ?_)
  obtain ⟨e1062,h962,hF⟩:=bnd hF
  refine ZB rfl h962 rfl rfl rfl (Za ?_)
  refine Zai rfl h962 rfl rfl rfl (Za ?_)
  refine rg ?_
  refine Zr rfl (M:=p1) (f:=csS) rfl (Za ?_)
  refine bl ?_
  refine Zn hF fun f97 mf97 hf97 hF=>?_
  refine Zl (α:=Nat×(Int×(List Int))) (fun a _=>mkS [(0,.sl (List.map csS p0)),(1,.sl (List.map csS p1)),(5,.row 13 (1,13)),(6,.int .i64 x772),(7,.row 32 (1,32)),(8,.sl (List.map Zd7 e1062)),(9,.int .i64 a.2.1)] [(13,some ((1,13),.row 158 1 false (List.map (fun y=>[PV.sl (y.map Zd7)]) x773))),(32,some ((1,32),.row 21 1 false (List.map Zd7 a.2.2)))] 2) (fun a=>ZK a.1 f97 a.2=some r) (fun a=>a.1) (mf97,(w64 ((p1.length:Int) - 1)),(List.replicate ((w64 ((p1.length:Int)+1))).toNat 0)) 2 hF (sR [(13,1,13),(32,3,3)]) (fun a _ hF=>?_)
  obtain ⟨mf97,x1125,x1126⟩:=a
  obtain ⟨mf97,rfl,hF⟩:=Zo hf97 hF
  dsimp only at hF ⊢
  refine Za ?_
  refine rg ?_
  refine cS hF rfl (fun hF=>?_) fun hF=>?_
  ·refine jL hF (fun x1149=>mkS [(0,.sl (List.map csS p0)),(1,.sl (List.map csS p1)),(5,.row 13 (1,13)),(6,.int .i64 x772),(7,.row 32 (1,32)),(8,.sl (List.map Zd7 e1062)),(9,.int .i64 x1125)] [(13,some ((1,13),.row 158 1 false (List.map (fun y=>[PV.sl (y.map Zd7)]) x773))),(32,some ((1,32),.row 21 1 false (List.map Zd7 x1149)))] 2) (fun k98 hF=>?_) fun x1149 hF=>?_
   ·refine bl ?_
    refine rg ?_
    obtain ⟨e1150,h1040,hF⟩:=bnd hF
    refine Zk (f:=csS) rfl h1040 rfl rfl rfl (Za ?_)
    obtain ⟨e1151,h1041,hF⟩:=bnd hF
    refine Zk (f:=csS) rfl h1041 rfl rfl rfl (Za ?_)
    refine cS hF rfl (fun hF=>?_) fun hF=>?_
    ·refine rg ?_
     obtain ⟨e1152,h1042,hF⟩:=bnd hF
     refine Zk (f:=Zd7) rfl h1042 rfl rfl rfl (Za ?_)
     obtain ⟨e1153,h1043,hF⟩:=bnd hF
     refine ZB rfl h1043 rfl rfl rfl (Za ?_)
     refine ZaJ (e':=(IntKind.wrap .i32 (e1152+1))) rfl h1043 rfl rfl rfl rfl rfl rfl (Nat.le_of_ble_eq_true rfl) rfl rfl (Za ?_)
     exact jn (ZbI x1126 x1125 (IntKind.wrap .i32 (e1152+1))) hF (sR [(13,1,13),(32,1,32)])
    refine rg ?_
    obtain ⟨e1154,h1044,hF⟩:=bnd hF
    refine Zk (f:=Zd7) rfl h1044 rfl rfl rfl (Za ?_)
    obtain ⟨e1155,h1045,hF⟩:=bnd hF
    refine ZB rfl h1045 rfl rfl rfl (Za ?_)
    refine Zai rfl h1045 rfl rfl rfl (Za ?_)
    refine Zss rfl rfl rfl (Za ?_)
    obtain ⟨e1156,h1046,hF⟩:=bnd hF
    refine ZB rfl h1046 rfl rfl rfl (Za ?_)
    refine ZaJ (e':=(if e1155 > e1154 then e1155 else e1154)) rfl h1046 rfl rfl rfl rfl rfl rfl (Nat.le_of_ble_eq_true rfl) rfl rfl (Za ?_)
    exact jn (ZbI x1126 x1125 (if e1155 > e1154 then e1155 else e1154)) hF (sR [(13,1,13),(32,1,32)])
   refine rg ?_
   exact rn (mf97,(w64 (x1125 - 1)),x1149) hF (sR [(13,1,13),(32,1,32)])
  refine rg ?_
  obtain ⟨e1157,h1047,hF⟩:=bnd hF
  refine ZB rfl h1047 rfl rfl rfl (Za ?_)
  refine ZaJ (e':=x1126) rfl h1047 rfl rfl rfl rfl rfl rfl (Nat.le_of_ble_eq_true rfl) rfl rfl (Za ?_)
  refine rg ?_
  exact rn (mf82,(w64 (x772 - 1)),(ZbI x773 x772 x1126)) hF (sR [(13,1,13)])
 refine rg ?_
 cases hF
 exact rQ
def ZaN (p0:Script) (p1:Int) (p2:List ByteArray):Option Script:=
 if (decide (0<(p2.length:Int))) then
  (ZbY 32 p0.edits [(⟨p1,p2⟩:Edit)]).bind fun l1=>
  (some (⟨l1,p0.deleted,p0.insert,p0.kept⟩:Script):Option Script)
 else
 (some p0:Option Script)
theorem Zbw (p0:Script) (p1:Int) (p2:List ByteArray) (r:Script) (hF:ZaN p0 p1 p2=some r):ContractP Tryz.prog 113 [.ptr 0 (0,0) 0,.int .i64 p1,.sl (List.map csS p2)] 0 [.row 116 2 false (List.map Edit.cs p0.edits),.row 9 1 false (List.map csS p0.deleted),.row 9 1 false (List.map csS p0.insert),.row 9 1 false (List.map csS p0.kept)] (.tup []) [.row 116 2 false (List.map Edit.cs r.edits),.row 9 1 false (List.map csS r.deleted),.row 9 1 false (List.map csS r.insert),.row 9 1 false (List.map csS r.kept)]:=by
 refine Zba (R:=fun r=>.tup []) (O:=fun r=>[.row 116 2 false (List.map Edit.cs r.edits),.row 9 1 false (List.map csS r.deleted),.row 9 1 false (List.map csS r.insert),.row 9 1 false (List.map csS r.kept)]) hF mix Tryz.func113 (by kernel_rfl) rfl (by kernel_rfl) rfl fun r hF=>?_
 unfold ZaN at hF
 refine Za ?_
 refine rg ?_
 refine Zr rfl (M:=p2) (f:=csS) rfl (Za ?_)
 refine cS hF rfl (fun hF=>?_) fun hF=>?_
 ·refine rg ?_
  refine Zw (M:=([(⟨p1,p2⟩:Edit)]:List Edit)) (f:=Edit.cs) rfl rfl rfl rfl (Nat.le_of_ble_eq_true rfl) rfl (Za ?_)
  obtain ⟨l1,h1,hF⟩:=bnd hF
  refine Zaj (f:=Edit.cs) rfl h1 (fun _=>rfl) rfl rfl rfl rfl (Za ?_)
  cases hF
  exact Zb1 rfl rfl rfl rfl rfl rfl
 cases hF
 exact Zb1 rfl rfl rfl rfl rfl rfl
def ZbS (p0:Script) (p1:Int) (p2:List ByteArray):Option Script:=
 if (decide (0<(p2.length:Int))) then
  (ZbY 32 p0.edits [(⟨p1,p2⟩:Edit)]).bind fun l1=>
  (some (⟨l1,p0.deleted,p0.insert,p0.kept⟩:Script):Option Script)
 else
 (some p0:Option Script)
theorem Zfz (p0:Script) (p1:Int) (p2:List ByteArray) (r:Script) (hF:ZbS p0 p1 p2=some r):ContractP Tryz.prog 113 [.ptr 0 (0,0) 0,.int .i64 p1,.sl (List.map csS p2)] 0 [.row 116 2 false (List.map Edit.cs p0.edits),.row 9 1 true (List.map csS p0.deleted),.row 9 1 false (List.map csS p0.insert),.row 9 1 false (List.map csS p0.kept)] (.tup []) [.row 116 2 false (List.map Edit.cs r.edits),.row 9 1 true (List.map csS r.deleted),.row 9 1 false (List.map csS r.insert),.row 9 1 false (List.map csS r.kept)]:=by
 refine Zba (R:=fun r=>.tup []) (O:=fun r=>[.row 116 2 false (List.map Edit.cs r.edits),.row 9 1 true (List.map csS r.deleted),.row 9 1 false (List.map csS r.insert),.row 9 1 false (List.map csS r.kept)]) hF mix Tryz.func113 (by kernel_rfl) rfl (by kernel_rfl) rfl fun r hF=>?_
 unfold ZbS at hF
 refine Za ?_
 refine rg ?_
 refine Zr rfl (M:=p2) (f:=csS) rfl (Za ?_)
 refine cS hF rfl (fun hF=>?_) fun hF=>?_
 ·refine rg ?_
  refine Zw (M:=([(⟨p1,p2⟩:Edit)]:List Edit)) (f:=Edit.cs) rfl rfl rfl rfl (Nat.le_of_ble_eq_true rfl) rfl (Za ?_)
  obtain ⟨l1,h1,hF⟩:=bnd hF
  refine Zaj (f:=Edit.cs) rfl h1 (fun _=>rfl) rfl rfl rfl rfl (Za ?_)
  cases hF
  exact Zb1 rfl rfl rfl rfl rfl rfl
 cases hF
 exact Zb1 rfl rfl rfl rfl rfl rfl
def ZbT (p0:Script) (p1:Int) (p2:List ByteArray):Option Script:=
 if (decide (0<(p2.length:Int))) then
  (ZbY 32 p0.edits [(⟨p1,p2⟩:Edit)]).bind fun l1=>
  (some (⟨l1,p0.deleted,p0.insert,p0.kept⟩:Script):Option Script)
 else
 (some p0:Option Script)
theorem ZfA (p0:Script) (p1:Int) (p2:List ByteArray) (r:Script) (hF:ZbT p0 p1 p2=some r):ContractP Tryz.prog 113 [.ptr 0 (0,0) 0,.int .i64 p1,.sl (List.map csS p2)] 0 [.row 116 2 false (List.map Edit.cs p0.edits),.row 9 1 true (List.map csS p0.deleted),.row 9 1 true (List.map csS p0.insert),.row 9 1 false (List.map csS p0.kept)] (.tup []) [.row 116 2 false (List.map Edit.cs r.edits),.row 9 1 true (List.map csS r.deleted),.row 9 1 true (List.map csS r.insert),.row 9 1 false (List.map csS r.kept)]:=by
 refine Zba (R:=fun r=>.tup []) (O:=fun r=>[.row 116 2 false (List.map Edit.cs r.edits),.row 9 1 true (List.map csS r.deleted),.row 9 1 true (List.map csS r.insert),.row 9 1 false (List.map csS r.kept)]) hF mix Tryz.func113 (by kernel_rfl) rfl (by kernel_rfl) rfl fun r hF=>?_
 unfold ZbT at hF
 refine Za ?_
 refine rg ?_
 refine Zr rfl (M:=p2) (f:=csS) rfl (Za ?_)
 refine cS hF rfl (fun hF=>?_) fun hF=>?_
 ·refine rg ?_
  refine Zw (M:=([(⟨p1,p2⟩:Edit)]:List Edit)) (f:=Edit.cs) rfl rfl rfl rfl (Nat.le_of_ble_eq_true rfl) rfl (Za ?_)
  obtain ⟨l1,h1,hF⟩:=bnd hF
  refine Zaj (f:=Edit.cs) rfl h1 (fun _=>rfl) rfl rfl rfl rfl (Za ?_)
  cases hF
  exact Zb1 rfl rfl rfl rfl rfl rfl
 cases hF
 exact Zb1 rfl rfl rfl rfl rfl rfl
def ZbU (p0:Script) (p1:Int) (p2:List ByteArray):Option Script:=
 if (decide (0<(p2.length:Int))) then
  (ZbY 32 p0.edits [(⟨p1,p2⟩:Edit)]).bind fun l1=>
  (some (⟨l1,p0.deleted,p0.insert,p0.kept⟩:Script):Option Script)
 else
 (some p0:Option Script)
theorem ZfB (p0:Script) (p1:Int) (p2:List ByteArray) (r:Script) (hF:ZbU p0 p1 p2=some r):ContractP Tryz.prog 113 [.ptr 0 (0,0) 0,.int .i64 p1,.sl (List.map csS p2)] 0 [.row 116 2 false (List.map Edit.cs p0.edits),.row 9 1 false (List.map csS p0.deleted),.row 9 1 false (List.map csS p0.insert),.row 9 1 true (List.map csS p0.kept)] (.tup []) [.row 116 2 false (List.map Edit.cs r.edits),.row 9 1 false (List.map csS r.deleted),.row 9 1 false (List.map csS r.insert),.row 9 1 true (List.map csS r.kept)]:=by
 refine Zba (R:=fun r=>.tup []) (O:=fun r=>[.row 116 2 false (List.map Edit.cs r.edits),.row 9 1 false (List.map csS r.deleted),.row 9 1 false (List.map csS r.insert),.row 9 1 true (List.map csS r.kept)]) hF mix Tryz.func113 (by kernel_rfl) rfl (by kernel_rfl) rfl fun r hF=>?_
 unfold ZbU at hF
 refine Za ?_
 refine rg ?_
 refine Zr rfl (M:=p2) (f:=csS) rfl (Za ?_)
 refine cS hF rfl (fun hF=>?_) fun hF=>?_
 ·refine rg ?_
  refine Zw (M:=([(⟨p1,p2⟩:Edit)]:List Edit)) (f:=Edit.cs) rfl rfl rfl rfl (Nat.le_of_ble_eq_true rfl) rfl (Za ?_)
  obtain ⟨l1,h1,hF⟩:=bnd hF
  refine Zaj (f:=Edit.cs) rfl h1 (fun _=>rfl) rfl rfl rfl rfl (Za ?_)
  cases hF
  exact Zb1 rfl rfl rfl rfl rfl rfl
 cases hF
 exact Zb1 rfl rfl rfl rfl rfl rfl
def ZaR (p0:Script):Option Script:=
 (ZbS p0 2 p0.deleted).bind fun r1=>
 (ZbT r1 3 r1.insert).bind fun r2=>
 (some (⟨r2.edits,[],[],r2.kept⟩:Script):Option Script)
theorem ZbZ (p0:Script) (r:Script) (hF:ZaR p0=some r):ContractP Tryz.prog 115 [.ptr 0 (0,0) 0] 0 [.row 116 2 false (List.map Edit.cs p0.edits),.row 9 1 false (List.map csS p0.deleted),.row 9 1 false (List.map csS p0.insert),.row 9 1 false (List.map csS p0.kept)] (.tup []) [.row 116 2 false (List.map Edit.cs r.edits),.pv .nil,.pv .nil,.row 9 1 false (List.map csS r.kept)]:=by
 refine Zba (R:=fun r=>.tup []) (O:=fun r=>[.row 116 2 false (List.map Edit.cs r.edits),.pv .nil,.pv .nil,.row 9 1 false (List.map csS r.kept)]) hF mix Tryz.func115 (by kernel_rfl) rfl (by kernel_rfl) rfl fun r hF=>?_
 unfold ZaR at hF
 refine Za ?_
 refine rg ?_
 obtain ⟨r1,h1,hF⟩:=bnd hF
 refine Zk2 (Zfz _ _ _ _ h1) rfl rfl rfl rfl rfl rfl rfl rfl rfl rfl (Za ?_)
 refine rg ?_
 obtain ⟨r2,h2,hF⟩:=bnd hF
 refine Zk2 (ZfA _ _ _ _ h2) rfl rfl rfl rfl rfl rfl rfl rfl rfl rfl (Za ?_)
 refine rg ?_
 cases hF
 exact Zb1 rfl rfl rfl rfl rfl rfl
def Zaz (p0:Script):Option Script:=
 (ZbU p0 1 p0.kept).bind fun r1=>
 (some (⟨r1.edits,r1.deleted,r1.insert,[]⟩:Script):Option Script)
theorem Zbh (p0:Script) (r:Script) (hF:Zaz p0=some r):ContractP Tryz.prog 116 [.ptr 0 (0,0) 0] 0 [.row 116 2 false (List.map Edit.cs p0.edits),.row 9 1 false (List.map csS p0.deleted),.row 9 1 false (List.map csS p0.insert),.row 9 1 false (List.map csS p0.kept)] (.tup []) [.row 116 2 false (List.map Edit.cs r.edits),.row 9 1 false (List.map csS r.deleted),.row 9 1 false (List.map csS r.insert),.pv .nil]:=by
 refine Zba (R:=fun r=>.tup []) (O:=fun r=>[.row 116 2 false (List.map Edit.cs r.edits),.row 9 1 false (List.map csS r.deleted),.row 9 1 false (List.map csS r.insert),.pv .nil]) hF mix Tryz.func116 (by kernel_rfl) rfl (by kernel_rfl) rfl fun r hF=>?_
 unfold Zaz at hF
 refine Za ?_
 refine rg ?_
 obtain ⟨r1,h1,hF⟩:=bnd hF
 refine Zk2 (ZfB _ _ _ _ h1) rfl rfl rfl rfl rfl rfl rfl rfl rfl rfl (Za ?_)
 refine rg ?_
 cases hF
 exact Zb1 rfl rfl rfl rfl rfl rfl
def Zi7 (p0:ByteArray) (p1:ByteArray):Option (List Edit):=
 (Zgk p0).bind fun r1=>
 (Zgk p1).bind fun r2=>
 if (decide (p0=p1)) then
  (ZaN (⟨([]:List Edit),([]:List ByteArray),([]:List ByteArray),([]:List ByteArray)⟩:Script) 1 r1).bind fun r4=>
  (some r4.edits:Option (List Edit))
 else
 letk (fun (x5:Bool)=>
  if x5 then
   (ZaN (⟨([]:List Edit),([]:List ByteArray),([]:List ByteArray),([]:List ByteArray)⟩:Script) 2 r1).bind fun r8=>
   (ZaN r8 3 r2).bind fun r9=>
   (some r9.edits:Option (List Edit))
  else
  (ZgT r1 r2).bind fun r10=>
  ZK Zax (fun f18 ((x113,x114,x115,x116,x117,x118):Int×Int×(List Edit)×(List ByteArray)×(List ByteArray)×(List ByteArray))=>
   letk (fun (x143:Bool)=>
    if x143 then
     letk (fun (x146:Bool)=>
      if x146 then
       (ZaR (⟨x115,x116,x117,x118⟩:Script)).bind fun r147=>
       (atI r1 x113).bind fun e148=>
       (ZbY 16 r147.kept [e148]).bind fun l149=>
       f18 ((w64 (x113+1)),(w64 (x114+1)),r147.edits,([]:List ByteArray),([]:List ByteArray),l149)
      else
      letk (fun (x154:Bool)=>
       if x154 then
        (Zaz (⟨x115,x116,x117,x118⟩:Script)).bind fun r155=>
        (atI r1 x113).bind fun e156=>
        (ZbY 16 r155.deleted [e156]).bind fun l157=>
        f18 ((w64 (x113+1)),x114,r155.edits,l157,r155.insert,([]:List ByteArray))
       else
       (Zaz (⟨x115,x116,x117,x118⟩:Script)).bind fun r158=>
       (atI r2 x114).bind fun e159=>
       (ZbY 16 r158.insert [e159]).bind fun l160=>
       f18 (x113,(w64 (x114+1)),r158.edits,r158.deleted,l160,([]:List ByteArray))) fun k21=>
      if (decide (x114=(r2.length:Int))) then
       k21 true
      else
      if (decide (x113<(r1.length:Int))) then
       (atI r10 (w64 (x113+1))).bind fun e161=>
       (atI e161 x114).bind fun e162=>
       (atI r10 x113).bind fun e163=>
       (atI e163 (w64 (x114+1))).bind fun e164=>
       k21 (decide (e164≤e162))
      else
      k21 false) fun k20=>
     if (decide (x113<(r1.length:Int))) then
      if (decide (x114<(r2.length:Int))) then
       (atI r1 x113).bind fun e165=>
       (atI r2 x114).bind fun e166=>
       k20 (decide (e165=e166))
      else
      k20 false
     else
     k20 false
    else
    (Zaz (⟨x115,x116,x117,x118⟩:Script)).bind fun r167=>
    (ZaR (⟨r167.edits,r167.deleted,r167.insert,([]:List ByteArray)⟩:Script)).bind fun r168=>
    (some r168.edits:Option (List Edit))) fun k19=>
   if (decide (x113<(r1.length:Int))) then
    k19 true
   else
   k19 (decide (x114<(r2.length:Int)))) (0,0,([]:List Edit),([]:List ByteArray),([]:List ByteArray),([]:List ByteArray))) fun k1=>
 if (decide (1000<(r1.length:Int))) then
  k1 true
 else
 k1 (decide (1000<(r2.length:Int)))
theorem Zng (p0:ByteArray) (p1:ByteArray) (r:List Edit) (hF:Zi7 p0 p1=some r):Zb Tryz.prog 61 [.str p0,.str p1] (.sl (List.map Edit.cs r)):=by
 refine cF (fun r=>.sl (List.map Edit.cs r)) hF mix Tryz.func61 fun r hF=>?_
 unfold Zi7 at hF
 refine Za ?_
 refine rg ?_
 refine rg ?_
 obtain ⟨r1,h1,hF⟩:=bnd hF
 refine Zf (Zir _ _ h1) rfl rfl (Za ?_)
 obtain ⟨r2,h2,hF⟩:=bnd hF
 refine Zf (Zir _ _ h2) rfl rfl (Za ?_)
 refine rg ?_
 refine Zbr (ZbA 16 2600 0 116 2 rfl rfl rfl) (Za ?_) (List.cons_ne_nil _ _)
 refine Zbr (ZbA 16 2601 1 9 1 rfl rfl rfl) (Za ?_) (List.cons_ne_nil _ _)
 refine Zbr (ZbA 16 2602 2 9 1 rfl rfl rfl) (Za ?_) (List.cons_ne_nil _ _)
 refine Zbr (ZbA 16 2603 3 9 1 rfl rfl rfl) (Za ?_) (List.cons_ne_nil _ _)
 refine rg ?_
 refine cS hF rfl (fun hF=>?_) fun hF=>?_
 ·refine rg ?_
  obtain ⟨r4,h4,hF⟩:=bnd hF
  refine Zdq (Zbw _ _ _ _ h4) rfl rfl rfl rfl rfl rfl rfl rfl (Za ?_)
  refine rg ?_
  cases hF
  exact rQ
 refine jL hF (fun x5=>mkS [(5,.sl (List.map csS r1)),(6,.sl (List.map csS r2)),(7,.ptr 16 (1,16) 0),(34,.bool x5)] [(16,some ((1,16),.box [.row 2600 (1,2600),.row 2601 (1,2601),.row 2602 (1,2602),.row 2603 (1,2603)])),(2600,some ((1,2600),.row 116 2 false (List.map Edit.cs ([]:List Edit)))),(2601,some ((1,2601),.row 9 1 false (List.map csS ([]:List ByteArray)))),(2602,some ((1,2602),.row 9 1 false (List.map csS ([]:List ByteArray)))),(2603,some ((1,2603),.row 9 1 false (List.map csS ([]:List ByteArray))))] 2) (fun k1 hF=>?_) fun x5 hF=>?_
 ·refine rg ?_
  refine Zr rfl (M:=r1) (f:=csS) rfl (Za ?_)
  refine kS 30 hF rfl (fun hF=>?_) fun hF=>?_
  ·iterate 3 refine Zh rfl (Za ?_)
   exact jn true hF (sR [(16,3,1),(2600,4,0),(2601,5,0),(2602,6,0),(2603,7,0)])
  refine Zr rfl (M:=r2) (f:=csS) rfl (Za ?_)
  exact jn (decide (1000<(r2.length:Int))) hF (sR [(16,3,1),(2600,4,0),(2601,5,0),(2602,6,0),(2603,7,0)])
 refine cS hF rfl (fun hF=>?_) fun hF=>?_
 ·refine rg ?_
  obtain ⟨r8,h7,hF⟩:=bnd hF
  refine Zdq (Zbw _ _ _ _ h7) rfl rfl rfl rfl rfl rfl rfl rfl (Za ?_)
  refine rg ?_
  obtain ⟨r9,h8,hF⟩:=bnd hF
  refine Zdq (Zbw _ _ _ _ h8) rfl rfl rfl rfl rfl rfl rfl rfl (Za ?_)
  refine rg ?_
  cases hF
  exact rQ
 refine rg ?_
 obtain ⟨r10,h9,hF⟩:=bnd hF
 refine Zf (Zk5 _ _ _ h9) rfl rfl (Za ?_)
 refine rg ?_
 refine bl ?_
 refine Zn hF fun f18 mf18 hf18 hF=>?_
 refine Zl (α:=Nat×(Int×Int×(List Edit)×(List ByteArray)×(List ByteArray)×(List ByteArray))) (fun a _=>mkS [(5,.sl (List.map csS r1)),(6,.sl (List.map csS r2)),(7,.ptr 16 (1,16) 0),(8,.sl (List.map (fun y=>[PV.sl (y.map Zd7)]) r10)),(9,.int .i64 a.2.1),(10,.int .i64 a.2.2.1)] [(16,some ((1,16),.box [.row 2600 (1,2600),.row 2601 (1,2601),.row 2602 (1,2602),.row 2603 (1,2603)])),(2600,some ((1,2600),.row 116 2 false (List.map Edit.cs a.2.2.2.1))),(2601,some ((1,2601),.row 9 1 false (List.map csS a.2.2.2.2.1))),(2602,some ((1,2602),.row 9 1 false (List.map csS a.2.2.2.2.2.1))),(2603,some ((1,2603),.row 9 1 false (List.map csS a.2.2.2.2.2.2)))] 2) (fun a=>ZK a.1 f18 a.2=some r) (fun a=>a.1) (mf18,0,0,([]:List Edit),([]:List ByteArray),([]:List ByteArray),([]:List ByteArray)) 2 hF (sR [(16,1,16),(2600,1,2600),(2601,1,2601),(2602,1,2602),(2603,1,2603)]) (fun a _ hF=>?_)
 obtain ⟨mf18,x113,x114,x115,x116,x117,x118⟩:=a
 obtain ⟨mf18,rfl,hF⟩:=Zo hf18 hF
 dsimp only at hF ⊢
 refine Za ?_
 refine jL hF (fun x143=>mkS [(5,.sl (List.map csS r1)),(6,.sl (List.map csS r2)),(7,.ptr 16 (1,16) 0),(8,.sl (List.map (fun y=>[PV.sl (y.map Zd7)]) r10)),(9,.int .i64 x113),(10,.int .i64 x114),(57,.bool x143)] [(16,some ((1,16),.box [.row 2600 (1,2600),.row 2601 (1,2601),.row 2602 (1,2602),.row 2603 (1,2603)])),(2600,some ((1,2600),.row 116 2 false (List.map Edit.cs x115))),(2601,some ((1,2601),.row 9 1 false (List.map csS x116))),(2602,some ((1,2602),.row 9 1 false (List.map csS x117))),(2603,some ((1,2603),.row 9 1 false (List.map csS x118)))] 2) (fun k19 hF=>?_) fun x143 hF=>?_
 ·refine rg ?_
  refine Zr rfl (M:=r1) (f:=csS) rfl (Za ?_)
  refine kS 52 hF rfl (fun hF=>?_) fun hF=>?_
  ·iterate 4 refine Zh rfl (Za ?_)
   exact jn true hF (sR [(16,1,16),(2600,1,2600),(2601,1,2601),(2602,1,2602),(2603,1,2603)])
  refine Zr rfl (M:=r2) (f:=csS) rfl (Za ?_)
  exact jn (decide (x114<(r2.length:Int))) hF (sR [(16,1,16),(2600,1,2600),(2601,1,2601),(2602,1,2602),(2603,1,2603)])
 refine cS hF rfl (fun hF=>?_) fun hF=>?_
 ·refine bl ?_
  refine bl ?_
  refine jL hF (fun x146=>mkS [(5,.sl (List.map csS r1)),(6,.sl (List.map csS r2)),(7,.ptr 16 (1,16) 0),(8,.sl (List.map (fun y=>[PV.sl (y.map Zd7)]) r10)),(9,.int .i64 x113),(10,.int .i64 x114),(75,.bool x146)] [(16,some ((1,16),.box [.row 2600 (1,2600),.row 2601 (1,2601),.row 2602 (1,2602),.row 2603 (1,2603)])),(2600,some ((1,2600),.row 116 2 false (List.map Edit.cs x115))),(2601,some ((1,2601),.row 9 1 false (List.map csS x116))),(2602,some ((1,2602),.row 9 1 false (List.map csS x117))),(2603,some ((1,2603),.row 9 1 false (List.map csS x118)))] 2) (fun k20 hF=>?_) fun x146 hF=>?_
  ·refine rg ?_
   refine Zr rfl (M:=r1) (f:=csS) rfl (Za ?_)
   refine kS 80 hF rfl (fun hF=>?_) fun hF=>?_
   ·refine Zr rfl (M:=r2) (f:=csS) rfl (Za ?_)
    refine kS 86 hF rfl (fun hF=>?_) fun hF=>?_
    ·obtain ⟨e165,h134,hF⟩:=bnd hF
     refine Zk (f:=csS) rfl h134 rfl rfl rfl (Za ?_)
     obtain ⟨e166,h135,hF⟩:=bnd hF
     refine Zk (f:=csS) rfl h135 rfl rfl rfl (Za ?_)
     exact jn (decide (e165=e166)) hF (sR [(16,1,16),(2600,1,2600),(2601,1,2601),(2602,1,2602),(2603,1,2603)])
    iterate 9 refine Zh rfl (Za ?_)
    exact jn false hF (sR [(16,1,16),(2600,1,2600),(2601,1,2601),(2602,1,2602),(2603,1,2603)])
   iterate 13 refine Zh rfl (Za ?_)
   exact jn false hF (sR [(16,1,16),(2600,1,2600),(2601,1,2601),(2602,1,2602),(2603,1,2603)])
  refine cS hF rfl (fun hF=>?_) fun hF=>?_
  ·refine rg ?_
   obtain ⟨r147,h117,hF⟩:=bnd hF
   refine Zdq (ZbZ _ _ h117) rfl rfl rfl rfl rfl rfl rfl rfl (Za ?_)
   refine Zbr (ZbA 16 2601 1 9 1 rfl rfl rfl) (Za ?_) (List.cons_ne_nil _ _)
   refine Zbr (ZbA 16 2602 2 9 1 rfl rfl rfl) (Za ?_) (List.cons_ne_nil _ _)
   refine rg ?_
   obtain ⟨e148,h118,hF⟩:=bnd hF
   refine Zk (f:=csS) rfl h118 rfl rfl rfl (Za ?_)
   refine Zw (M:=([e148]:List ByteArray)) (f:=csS) rfl rfl rfl rfl (Nat.le_of_ble_eq_true rfl) rfl (Za ?_)
   obtain ⟨l149,h119,hF⟩:=bnd hF
   refine Zaj (f:=csS) rfl h119 (fun _=>rfl) rfl rfl rfl rfl (Za ?_)
   refine rg ?_
   refine rg ?_
   exact rn (mf18,(w64 (x113+1)),(w64 (x114+1)),r147.edits,([]:List ByteArray),([]:List ByteArray),l149) hF (sR [(16,1,16),(2600,2,1000001),(2601,3,0),(2602,4,0),(2603,5,10)])
  refine jL hF (fun x154=>mkS [(5,.sl (List.map csS r1)),(6,.sl (List.map csS r2)),(7,.ptr 16 (1,16) 0),(8,.sl (List.map (fun y=>[PV.sl (y.map Zd7)]) r10)),(9,.int .i64 x113),(10,.int .i64 x114),(116,.bool x154)] [(16,some ((1,16),.box [.row 2600 (1,2600),.row 2601 (1,2601),.row 2602 (1,2602),.row 2603 (1,2603)])),(2600,some ((1,2600),.row 116 2 false (List.map Edit.cs x115))),(2601,some ((1,2601),.row 9 1 false (List.map csS x116))),(2602,some ((1,2602),.row 9 1 false (List.map csS x117))),(2603,some ((1,2603),.row 9 1 false (List.map csS x118)))] 2) (fun k21 hF=>?_) fun x154 hF=>?_
  ·refine rg ?_
   refine Zr rfl (M:=r2) (f:=csS) rfl (Za ?_)
   refine kS 121 hF rfl (fun hF=>?_) fun hF=>?_
   ·iterate 23 refine Zh rfl (Za ?_)
    exact jn true hF (sR [(16,1,16),(2600,1,2600),(2601,1,2601),(2602,1,2602),(2603,1,2603)])
   refine Zr rfl (M:=r1) (f:=csS) rfl (Za ?_)
   refine kS 126 hF rfl (fun hF=>?_) fun hF=>?_
   ·obtain ⟨e161,h130,hF⟩:=bnd hF
    refine Zk (f:=(fun y=>[PV.sl (y.map Zd7)])) rfl h130 rfl rfl rfl (Za ?_)
    obtain ⟨e162,h131,hF⟩:=bnd hF
    refine Zk (f:=Zd7) rfl h131 rfl rfl rfl (Za ?_)
    obtain ⟨e163,h132,hF⟩:=bnd hF
    refine Zk (f:=(fun y=>[PV.sl (y.map Zd7)])) rfl h132 rfl rfl rfl (Za ?_)
    obtain ⟨e164,h133,hF⟩:=bnd hF
    refine Zk (f:=Zd7) rfl h133 rfl rfl rfl (Za ?_)
    exact jn (decide (e164≤e162)) hF (sR [(16,1,16),(2600,1,2600),(2601,1,2601),(2602,1,2602),(2603,1,2603)])
   iterate 17 refine Zh rfl (Za ?_)
   exact jn false hF (sR [(16,1,16),(2600,1,2600),(2601,1,2601),(2602,1,2602),(2603,1,2603)])
  refine cS hF rfl (fun hF=>?_) fun hF=>?_
  ·refine rg ?_
   obtain ⟨r155,h124,hF⟩:=bnd hF
   refine Zdq (Zbh _ _ h124) rfl rfl rfl rfl rfl rfl rfl rfl (Za ?_)
   refine Zbr (ZbA 16 2603 3 9 1 rfl rfl rfl) (Za ?_) (List.cons_ne_nil _ _)
   refine rg ?_
   obtain ⟨e156,h125,hF⟩:=bnd hF
   refine Zk (f:=csS) rfl h125 rfl rfl rfl (Za ?_)
   refine Zw (M:=([e156]:List ByteArray)) (f:=csS) rfl rfl rfl rfl (Nat.le_of_ble_eq_true rfl) rfl (Za ?_)
   obtain ⟨l157,h126,hF⟩:=bnd hF
   refine Zaj (f:=csS) rfl h126 (fun _=>rfl) rfl rfl rfl rfl (Za ?_)
   refine rg ?_
   exact rn (mf18,(w64 (x113+1)),x114,r155.edits,l157,r155.insert,([]:List ByteArray)) hF (sR [(16,1,16),(2600,2,1000001),(2601,4,10),(2602,2,3000001),(2603,3,0)])
  refine rg ?_
  obtain ⟨r158,h127,hF⟩:=bnd hF
  refine Zdq (Zbh _ _ h127) rfl rfl rfl rfl rfl rfl rfl rfl (Za ?_)
  refine Zbr (ZbA 16 2603 3 9 1 rfl rfl rfl) (Za ?_) (List.cons_ne_nil _ _)
  refine rg ?_
  obtain ⟨e159,h128,hF⟩:=bnd hF
  refine Zk (f:=csS) rfl h128 rfl rfl rfl (Za ?_)
  refine Zw (M:=([e159]:List ByteArray)) (f:=csS) rfl rfl rfl rfl (Nat.le_of_ble_eq_true rfl) rfl (Za ?_)
  obtain ⟨l160,h129,hF⟩:=bnd hF
  refine Zaj (f:=csS) rfl h129 (fun _=>rfl) rfl rfl rfl rfl (Za ?_)
  refine rg ?_
  exact rn (mf18,x113,(w64 (x114+1)),r158.edits,r158.deleted,l160,([]:List ByteArray)) hF (sR [(16,1,16),(2600,2,1000001),(2601,2,2000001),(2602,4,10),(2603,3,0)])
 refine rg ?_
 obtain ⟨r167,h136,hF⟩:=bnd hF
 refine Zdq (Zbh _ _ h136) rfl rfl rfl rfl rfl rfl rfl rfl (Za ?_)
 refine Zbr (ZbA 16 2603 3 9 1 rfl rfl rfl) (Za ?_) (List.cons_ne_nil _ _)
 refine rg ?_
 obtain ⟨r168,h137,hF⟩:=bnd hF
 refine Zdq (ZbZ _ _ h137) rfl rfl rfl rfl rfl rfl rfl rfl (Za ?_)
 refine Zbr (ZbA 16 2601 1 9 1 rfl rfl rfl) (Za ?_) (List.cons_ne_nil _ _)
 refine Zbr (ZbA 16 2602 2 9 1 rfl rfl rfl) (Za ?_) (List.cons_ne_nil _ _)
 refine rg ?_
 cases hF
 exact rQ
end Go.Proofs.YtjoneoobolnnbaaGreatDoor
