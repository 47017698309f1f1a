/- Functions of the program as Lean functions. Written by -/
import Derived.Test.YtpdaeclbndpabaaGreatDoorCM07
set_option linter.unusedVariables false
set_option maxHeartbeats 4000000
set_option maxRecDepth 100000
namespace Go.Proofs.YtpdaeclbndpabaaGreatDoor
section
open VL
def ZbQ (p0:ByteArray) (p1:ByteArray):Option (List ByteArray):=(strings_genSplit p0 p1 (p1.size:Int) (-1)).bind fun r1=>(some r1:Option (List ByteArray))
theorem Zht (p0:ByteArray) (p1:ByteArray) (r:List ByteArray) (h:ZbQ p0 p1=some r):Zb Tryz.prog 150 [.str p0,.str p1] (.sl (List.map csS r)):=by{
refine cF (fun r=>.sl (List.map csS r)) h mix Tryz.func150 fun r h=>?_
unfold ZbQ at h
refine Zf ?_
refine rg ?_
refine rg ?_
refine aN h (Zim _ _ _ _) fun r1 h=>?_
cases h
exact rQ}
def Zeo (p0:ByteArray):Option (List ByteArray):=(ZbQ p0 (⟨#[10]⟩:ByteArray)).bind fun r1=>(atI r1 (w64 ((r1.length:Int)-1))).bind fun e2=>(Zgj r1 0 (w64 ((w64 ((r1.length:Int)-1))+(if (e2.size:Int)<1 then (e2.size:Int) else 1)))).bind fun l3=>(some l3:Option (List ByteArray))
theorem ZjR (p0:ByteArray) (r:List ByteArray) (h:Zeo p0=some r):Zb Tryz.prog 95 [.str p0] (.sl (List.map csS r)):=by{
refine cF (fun r=>.sl (List.map csS r)) h mix Tryz.func95 fun r h=>?_
unfold Zeo at h
refine Zf ?_
refine rg ?_
refine rg ?_
refine aC h (Zht _ _) fun r1 h=>?_
refine rg ?_
refine lM csS r1 ?_
refine lM csS r1 ?_
refine aI csS h fun e2 h=>?_
refine Zum rfl rfl rfl (Zf ?_)
refine sM csS h fun l3 h=>?_
cases h
exact rQ}
def Zcw (p0:List ByteArray) (p1:List ByteArray):Option (List (List Int)):=(Zpq 24 (w64 ((p0.length:Int)+1))).bind fun _=>(Zpq 4 (w64 ((p1.length:Int)+1))).bind fun _=>(atI (List.replicate ((w64 ((p0.length:Int)+1))).toNat ([]:List Int)) (p0.length:Int)).bind fun e1=>ZE Zaq (fun f82 ((x772,x773):Int×(List (List Int)))=>if (decide (0<=x772)) then (Zpq 4 (w64 ((p1.length:Int)+1))).bind fun _=>(atI x773 (w64 (x772+1))).bind fun e1062=>ZE Zaq (fun f97 ((x1125,x1126):Int×(List Int))=>if (decide (0<=x1125)) then letk (fun (x1149:List Int)=>f97 ((w64 (x1125-1)),x1149)) fun k98=>(atI p0 x772).bind fun e1150=>(atI p1 x1125).bind fun e1151=>if (decide (e1150=e1151)) then (atI e1062 (w64 (x1125+1))).bind fun e1152=>(atI x1126 x1125).bind fun e1153=>k98 (ZbF x1126 x1125 (IntKind.wrap .i32 (e1152+1))) else (atI e1062 x1125).bind fun e1154=>(atI x1126 (w64 (x1125+1))).bind fun e1155=>(atI x1126 x1125).bind fun e1156=>k98 (ZbF x1126 x1125 (if e1155 > e1154 then e1155 else e1154)) else (atI x773 x772).bind fun e1157=>f82 ((w64 (x772-1)),(ZbF x773 x772 x1126))) ((w64 ((p1.length:Int)-1)),(List.replicate ((w64 ((p1.length:Int)+1))).toNat 0)) else (some x773:Option (List (List Int)))) ((w64 ((p0.length:Int)-1)),(ZbF (List.replicate ((w64 ((p0.length:Int)+1))).toNat ([]:List Int)) (p0.length:Int) (List.replicate ((w64 ((p1.length:Int)+1))).toNat 0)))
theorem Zni (p0:List ByteArray) (p1:List ByteArray) (r:List (List Int)) (h:Zcw p0 p1=some r):Zb Tryz.prog 97 [.sl (List.map csS p0),.sl (List.map csS p1)] (.sl (List.map (fun y=>[PV.sl (y.map ZeL)]) r)):=by{
refine cF (fun r=>.sl (List.map (fun y=>[PV.sl (y.map ZeL)]) r)) h mix Tryz.func97 fun r h=>?_
unfold Zcw at h
refine Zf ?_
refine rg ?_
refine rg ?_
refine lM csS p0 ?_
obtain ⟨_,h1,h⟩:=bnd h
refine Zpr (fun y=>[PV.sl (y.map ZeL)]) ([]:List Int) rfl rfl rfl h1 rfl rfl (Zf ?_)
refine rg ?_
refine lM csS p0 ?_
refine lM csS p1 ?_
obtain ⟨_,h2,h⟩:=bnd h
refine Zpr ZeL 0 rfl rfl rfl h2 rfl rfl (Zf ?_)
obtain ⟨e1,h3,h⟩:=bnd h
refine ZA rfl h3 rfl rfl rfl (Zf ?_)
refine ZaR (e':=(List.replicate ((w64 ((p1.length:Int)+1))).toNat 0)) rfl h3 rfl rfl rfl rfl rfl rfl (Nat.le_of_ble_eq_true rfl) rfl rfl (Zf ?_)
refine rg ?_
refine lM csS p0 ?_
refine bl ?_
refine Zk h fun f82 mf82 hf82 h=>?_
refine Zi (α:=Nat×(Int×(List (List Int)))) (fun a _=>mkS [(0,.sl (List.map csS p0)),(1,.sl (List.map csS p1)),(5,.row 13 (1,13)),(6,.int .i64 a.2.1)] [(13,some ((1,13),.row 149 1 false (List.map (fun y=>[PV.sl (y.map ZeL)]) a.2.2)))] 2) (fun a=>ZE a.1 f82 a.2=some r) (fun a=>a.1) (mf82,(w64 ((p0.length:Int)-1)),(ZbF (List.replicate ((w64 ((p0.length:Int)+1))).toNat ([]:List Int)) (p0.length:Int) (List.replicate ((w64 ((p1.length:Int)+1))).toNat 0))) 2 h (sR [(13,2,3)]) (fun a _ h=>?_)
obtain ⟨mf82,x772,x773⟩:=a
obtain ⟨mf82,rfl,h⟩:=Zl hf82 h
dsimp only at h ⊢
refine Zf ?_
refine rg ?_
refine cS h rfl (fun h=>?_) fun h=>?_
refine bl ?_
refine rg ?_
refine lM csS p1 ?_
obtain ⟨_,h961,h⟩:=bnd h
refine Zpr ZeL 0 rfl rfl rfl h961 rfl rfl (Zf ?_)
obtain ⟨e1062,h962,h⟩:=bnd h
refine ZA rfl h962 rfl rfl rfl (Zf ?_)
refine Zaj rfl h962 rfl rfl rfl (Zf ?_)
refine rg ?_
refine lM csS p1 ?_
refine bl ?_
refine Zk h fun f97 mf97 hf97 h=>?_
refine Zi (α:=Nat×(Int×(List Int))) (fun a _=>mkS [(0,.sl (List.map csS p0)),(1,.sl (List.map csS p1)),(5,.row 13 (1,13)),(6,.int .i64 x772),(7,.row 32 (1,32)),(8,.sl (List.map ZeL e1062)),(9,.int .i64 a.2.1)] [(13,some ((1,13),.row 149 1 false (List.map (fun y=>[PV.sl (y.map ZeL)]) x773))),(32,some ((1,32),.row 21 1 false (List.map ZeL a.2.2)))] 2) (fun a=>ZE a.1 f97 a.2=some r) (fun a=>a.1) (mf97,(w64 ((p1.length:Int)-1)),(List.replicate ((w64 ((p1.length:Int)+1))).toNat 0)) 2 h (sR [(13,1,13),(32,3,3)]) (fun a _ h=>?_)
obtain ⟨mf97,x1125,x1126⟩:=a
obtain ⟨mf97,rfl,h⟩:=Zl hf97 h
dsimp only at h ⊢
refine Zf ?_
refine rg ?_
refine cS h rfl (fun h=>?_) fun h=>?_
refine jL h (fun x1149=>mkS [(0,.sl (List.map csS p0)),(1,.sl (List.map csS p1)),(5,.row 13 (1,13)),(6,.int .i64 x772),(7,.row 32 (1,32)),(8,.sl (List.map ZeL e1062)),(9,.int .i64 x1125)] [(13,some ((1,13),.row 149 1 false (List.map (fun y=>[PV.sl (y.map ZeL)]) x773))),(32,some ((1,32),.row 21 1 false (List.map ZeL x1149)))] 2) (fun k98 h=>?_) fun x1149 h=>?_
refine bl ?_
refine rg ?_
refine aI csS h fun e1150 h=>?_
refine aI csS h fun e1151 h=>?_
refine cS h rfl (fun h=>?_) fun h=>?_
refine rg ?_
refine aI ZeL h fun e1152 h=>?_
obtain ⟨e1153,h1043,h⟩:=bnd h
refine ZA rfl h1043 rfl rfl rfl (Zf ?_)
refine ZaR (e':=(IntKind.wrap .i32 (e1152+1))) rfl h1043 rfl rfl rfl rfl rfl rfl (Nat.le_of_ble_eq_true rfl) rfl rfl (Zf ?_)
exact jn (ZbF x1126 x1125 (IntKind.wrap .i32 (e1152+1))) h (sR [(13,1,13),(32,1,32)])
refine rg ?_
refine aI ZeL h fun e1154 h=>?_
obtain ⟨e1155,h1045,h⟩:=bnd h
refine ZA rfl h1045 rfl rfl rfl (Zf ?_)
refine Zaj rfl h1045 rfl rfl rfl (Zf ?_)
refine Zv2 rfl rfl rfl (Zf ?_)
obtain ⟨e1156,h1046,h⟩:=bnd h
refine ZA rfl h1046 rfl rfl rfl (Zf ?_)
refine ZaR (e':=(if e1155 > e1154 then e1155 else e1154)) rfl h1046 rfl rfl rfl rfl rfl rfl (Nat.le_of_ble_eq_true rfl) rfl rfl (Zf ?_)
exact jn (ZbF x1126 x1125 (if e1155 > e1154 then e1155 else e1154)) h (sR [(13,1,13),(32,1,32)])
refine rg ?_
exact rn (mf97,(w64 (x1125-1)),x1149) h (sR [(13,1,13),(32,1,32)])
refine rg ?_
obtain ⟨e1157,h1047,h⟩:=bnd h
refine ZA rfl h1047 rfl rfl rfl (Zf ?_)
refine ZaR (e':=x1126) rfl h1047 rfl rfl rfl rfl rfl rfl (Nat.le_of_ble_eq_true rfl) rfl rfl (Zf ?_)
refine rg ?_
exact rn (mf82,(w64 (x772-1)),(ZbF x773 x772 x1126)) h (sR [(13,1,13)])
refine rg ?_
cases h
exact rQ}
def ZU (p0:Script) (p1:Int) (p2:List ByteArray):Option Script:=if (decide (0<(p2.length:Int))) then (Zbo 32 p0.edits [(⟨p1,p2⟩:Edit)]).bind fun l1=>(some (⟨l1,p0.deleted,p0.insert,p0.kept⟩:Script):Option Script) else (some p0:Option Script)
theorem ZbK (p0:Script) (p1:Int) (p2:List ByteArray) (r:Script) (h:ZU p0 p1 p2=some r):ContractP Tryz.prog 96 [.ptr 0 (0,0) 0,.int .i64 p1,.sl (List.map csS p2)] 0 [.row 102 2 false (List.map Edit.cs p0.edits),.row 9 1 false (List.map csS p0.deleted),.row 9 1 false (List.map csS p0.insert),.row 9 1 false (List.map csS p0.kept)] (.tup []) [.row 102 2 false (List.map Edit.cs r.edits),.row 9 1 false (List.map csS r.deleted),.row 9 1 false (List.map csS r.insert),.row 9 1 false (List.map csS r.kept)]:=by{
refine Zbi (R:=fun r=>.tup []) (O:=fun r=>[.row 102 2 false (List.map Edit.cs r.edits),.row 9 1 false (List.map csS r.deleted),.row 9 1 false (List.map csS r.insert),.row 9 1 false (List.map csS r.kept)]) h mix Tryz.func96 (by kernel_rfl) rfl (by kernel_rfl) rfl fun r h=>?_
unfold ZU at h
refine Zf ?_
refine rg ?_
refine lM csS p2 ?_
refine cS h rfl (fun h=>?_) fun h=>?_
refine rg ?_
refine ZF (M:=([(⟨p1,p2⟩:Edit)]:List Edit)) (f:=Edit.cs) rfl rfl rfl rfl (Nat.le_of_ble_eq_true rfl) rfl (Zf ?_)
refine pR Edit.cs h fun l1 h=>?_
cases h
exact Zcm rfl rfl rfl rfl rfl rfl
cases h
exact Zcm rfl rfl rfl rfl rfl rfl}
def Zbl (p0:Script) (p1:Int) (p2:List ByteArray):Option Script:=if (decide (0<(p2.length:Int))) then (Zbo 32 p0.edits [(⟨p1,p2⟩:Edit)]).bind fun l1=>(some (⟨l1,p0.deleted,p0.insert,p0.kept⟩:Script):Option Script) else (some p0:Option Script)
theorem Zgm (p0:Script) (p1:Int) (p2:List ByteArray) (r:Script) (h:Zbl p0 p1 p2=some r):ContractP Tryz.prog 96 [.ptr 0 (0,0) 0,.int .i64 p1,.sl (List.map csS p2)] 0 [.row 102 2 false (List.map Edit.cs p0.edits),.row 9 1 true (List.map csS p0.deleted),.row 9 1 false (List.map csS p0.insert),.row 9 1 false (List.map csS p0.kept)] (.tup []) [.row 102 2 false (List.map Edit.cs r.edits),.row 9 1 true (List.map csS r.deleted),.row 9 1 false (List.map csS r.insert),.row 9 1 false (List.map csS r.kept)]:=by{
refine Zbi (R:=fun r=>.tup []) (O:=fun r=>[.row 102 2 false (List.map Edit.cs r.edits),.row 9 1 true (List.map csS r.deleted),.row 9 1 false (List.map csS r.insert),.row 9 1 false (List.map csS r.kept)]) h mix Tryz.func96 (by kernel_rfl) rfl (by kernel_rfl) rfl fun r h=>?_
unfold Zbl at h
refine Zf ?_
refine rg ?_
refine lM csS p2 ?_
refine cS h rfl (fun h=>?_) fun h=>?_
refine rg ?_
refine ZF (M:=([(⟨p1,p2⟩:Edit)]:List Edit)) (f:=Edit.cs) rfl rfl rfl rfl (Nat.le_of_ble_eq_true rfl) rfl (Zf ?_)
refine pR Edit.cs h fun l1 h=>?_
cases h
exact Zcm rfl rfl rfl rfl rfl rfl
cases h
exact Zcm rfl rfl rfl rfl rfl rfl}
def Zbm (p0:Script) (p1:Int) (p2:List ByteArray):Option Script:=if (decide (0<(p2.length:Int))) then (Zbo 32 p0.edits [(⟨p1,p2⟩:Edit)]).bind fun l1=>(some (⟨l1,p0.deleted,p0.insert,p0.kept⟩:Script):Option Script) else (some p0:Option Script)
theorem Zgn (p0:Script) (p1:Int) (p2:List ByteArray) (r:Script) (h:Zbm p0 p1 p2=some r):ContractP Tryz.prog 96 [.ptr 0 (0,0) 0,.int .i64 p1,.sl (List.map csS p2)] 0 [.row 102 2 false (List.map Edit.cs p0.edits),.row 9 1 true (List.map csS p0.deleted),.row 9 1 true (List.map csS p0.insert),.row 9 1 false (List.map csS p0.kept)] (.tup []) [.row 102 2 false (List.map Edit.cs r.edits),.row 9 1 true (List.map csS r.deleted),.row 9 1 true (List.map csS r.insert),.row 9 1 false (List.map csS r.kept)]:=by{
refine Zbi (R:=fun r=>.tup []) (O:=fun r=>[.row 102 2 false (List.map Edit.cs r.edits),.row 9 1 true (List.map csS r.deleted),.row 9 1 true (List.map csS r.insert),.row 9 1 false (List.map csS r.kept)]) h mix Tryz.func96 (by kernel_rfl) rfl (by kernel_rfl) rfl fun r h=>?_
unfold Zbm at h
refine Zf ?_
refine rg ?_
refine lM csS p2 ?_
refine cS h rfl (fun h=>?_) fun h=>?_
refine rg ?_
refine ZF (M:=([(⟨p1,p2⟩:Edit)]:List Edit)) (f:=Edit.cs) rfl rfl rfl rfl (Nat.le_of_ble_eq_true rfl) rfl (Zf ?_)
refine pR Edit.cs h fun l1 h=>?_
cases h
exact Zcm rfl rfl rfl rfl rfl rfl
cases h
exact Zcm rfl rfl rfl rfl rfl rfl}
def Zbn (p0:Script) (p1:Int) (p2:List ByteArray):Option Script:=if (decide (0<(p2.length:Int))) then (Zbo 32 p0.edits [(⟨p1,p2⟩:Edit)]).bind fun l1=>(some (⟨l1,p0.deleted,p0.insert,p0.kept⟩:Script):Option Script) else (some p0:Option Script)
theorem Zgo (p0:Script) (p1:Int) (p2:List ByteArray) (r:Script) (h:Zbn p0 p1 p2=some r):ContractP Tryz.prog 96 [.ptr 0 (0,0) 0,.int .i64 p1,.sl (List.map csS p2)] 0 [.row 102 2 false (List.map Edit.cs p0.edits),.row 9 1 false (List.map csS p0.deleted),.row 9 1 false (List.map csS p0.insert),.row 9 1 true (List.map csS p0.kept)] (.tup []) [.row 102 2 false (List.map Edit.cs r.edits),.row 9 1 false (List.map csS r.deleted),.row 9 1 false (List.map csS r.insert),.row 9 1 true (List.map csS r.kept)]:=by{
refine Zbi (R:=fun r=>.tup []) (O:=fun r=>[.row 102 2 false (List.map Edit.cs r.edits),.row 9 1 false (List.map csS r.deleted),.row 9 1 false (List.map csS r.insert),.row 9 1 true (List.map csS r.kept)]) h mix Tryz.func96 (by kernel_rfl) rfl (by kernel_rfl) rfl fun r h=>?_
unfold Zbn at h
refine Zf ?_
refine rg ?_
refine lM csS p2 ?_
refine cS h rfl (fun h=>?_) fun h=>?_
refine rg ?_
refine ZF (M:=([(⟨p1,p2⟩:Edit)]:List Edit)) (f:=Edit.cs) rfl rfl rfl rfl (Nat.le_of_ble_eq_true rfl) rfl (Zf ?_)
refine pR Edit.cs h fun l1 h=>?_
cases h
exact Zcm rfl rfl rfl rfl rfl rfl
cases h
exact Zcm rfl rfl rfl rfl rfl rfl}
def Zaf (p0:Script):Option Script:=(Zbl p0 2 p0.deleted).bind fun r1=>(Zbm r1 3 r1.insert).bind fun r2=>(some (⟨r2.edits,[],[],r2.kept⟩:Script):Option Script)
theorem Zci (p0:Script) (r:Script) (h:Zaf p0=some r):ContractP Tryz.prog 98 [.ptr 0 (0,0) 0] 0 [.row 102 2 false (List.map Edit.cs p0.edits),.row 9 1 false (List.map csS p0.deleted),.row 9 1 false (List.map csS p0.insert),.row 9 1 false (List.map csS p0.kept)] (.tup []) [.row 102 2 false (List.map Edit.cs r.edits),.pv .nil,.pv .nil,.row 9 1 false (List.map csS r.kept)]:=by{
refine Zbi (R:=fun r=>.tup []) (O:=fun r=>[.row 102 2 false (List.map Edit.cs r.edits),.pv .nil,.pv .nil,.row 9 1 false (List.map csS r.kept)]) h mix Tryz.func98 (by kernel_rfl) rfl (by kernel_rfl) rfl fun r h=>?_
unfold Zaf at h
refine Zf ?_
refine rg ?_
obtain ⟨r1,h1,h⟩:=bnd h
refine Znc (Zgm _ _ _ _ h1) rfl rfl rfl rfl rfl rfl rfl rfl rfl rfl (Zf ?_)
refine rg ?_
obtain ⟨r2,h2,h⟩:=bnd h
refine Znc (Zgn _ _ _ _ h2) rfl rfl rfl rfl rfl rfl rfl rfl rfl rfl (Zf ?_)
refine rg ?_
cases h
exact Zcm rfl rfl rfl rfl rfl rfl}
def Zab (p0:Script):Option Script:=(Zbn p0 1 p0.kept).bind fun r1=>(some (⟨r1.edits,r1.deleted,r1.insert,[]⟩:Script):Option Script)
theorem Zbw (p0:Script) (r:Script) (h:Zab p0=some r):ContractP Tryz.prog 99 [.ptr 0 (0,0) 0] 0 [.row 102 2 false (List.map Edit.cs p0.edits),.row 9 1 false (List.map csS p0.deleted),.row 9 1 false (List.map csS p0.insert),.row 9 1 false (List.map csS p0.kept)] (.tup []) [.row 102 2 false (List.map Edit.cs r.edits),.row 9 1 false (List.map csS r.deleted),.row 9 1 false (List.map csS r.insert),.pv .nil]:=by{
refine Zbi (R:=fun r=>.tup []) (O:=fun r=>[.row 102 2 false (List.map Edit.cs r.edits),.row 9 1 false (List.map csS r.deleted),.row 9 1 false (List.map csS r.insert),.pv .nil]) h mix Tryz.func99 (by kernel_rfl) rfl (by kernel_rfl) rfl fun r h=>?_
unfold Zab at h
refine Zf ?_
refine rg ?_
obtain ⟨r1,h1,h⟩:=bnd h
refine Znc (Zgo _ _ _ _ h1) rfl rfl rfl rfl rfl rfl rfl rfl rfl rfl (Zf ?_)
refine rg ?_
cases h
exact Zcm rfl rfl rfl rfl rfl rfl}
def ZcU (p0:ByteArray) (p1:ByteArray):Option (List Edit):=(Zeo p0).bind fun r1=>(Zeo p1).bind fun r2=>if (decide (p0=p1)) then (ZU (⟨([]:List Edit),([]:List ByteArray),([]:List ByteArray),([]:List ByteArray)⟩:Script) 1 r1).bind fun r4=>(some r4.edits:Option (List Edit)) else letk (fun (x5:Bool)=>if x5 then (ZU (⟨([]:List Edit),([]:List ByteArray),([]:List ByteArray),([]:List ByteArray)⟩:Script) 2 r1).bind fun r8=>(ZU r8 3 r2).bind fun r9=>(some r9.edits:Option (List Edit)) else (Zcw r1 r2).bind fun r10=>ZE Zaq (fun f18 ((x113,x114,x115,x116,x117,x118):Int×Int×(List Edit)×(List ByteArray)×(List ByteArray)×(List ByteArray))=>letk (fun (x143:Bool)=>if x143 then letk (fun (x146:Bool)=>if x146 then (Zaf (⟨x115,x116,x117,x118⟩:Script)).bind fun r147=>(atI r1 x113).bind fun e148=>(Zbo 16 r147.kept [e148]).bind fun l149=>f18 ((w64 (x113+1)),(w64 (x114+1)),r147.edits,([]:List ByteArray),([]:List ByteArray),l149) else letk (fun (x154:Bool)=>if x154 then (Zab (⟨x115,x116,x117,x118⟩:Script)).bind fun r155=>(atI r1 x113).bind fun e156=>(Zbo 16 r155.deleted [e156]).bind fun l157=>f18 ((w64 (x113+1)),x114,r155.edits,l157,r155.insert,([]:List ByteArray)) else (Zab (⟨x115,x116,x117,x118⟩:Script)).bind fun r158=>(atI r2 x114).bind fun e159=>(Zbo 16 r158.insert [e159]).bind fun l160=>f18 (x113,(w64 (x114+1)),r158.edits,r158.deleted,l160,([]:List ByteArray))) fun k21=>if (decide (x114=(r2.length:Int))) then k21 true else if (decide (x113<(r1.length:Int))) then (atI r10 (w64 (x113+1))).bind fun e161=>(atI e161 x114).bind fun e162=>(atI r10 x113).bind fun e163=>(atI e163 (w64 (x114+1))).bind fun e164=>k21 (decide (e164<=e162)) else k21 false) fun k20=>if (decide (x113<(r1.length:Int))) then if (decide (x114<(r2.length:Int))) then (atI r1 x113).bind fun e165=>(atI r2 x114).bind fun e166=>k20 (decide (e165=e166)) else k20 false else k20 false else (Zab (⟨x115,x116,x117,x118⟩:Script)).bind fun r167=>(Zaf (⟨r167.edits,r167.deleted,r167.insert,([]:List ByteArray)⟩:Script)).bind fun r168=>(some r168.edits:Option (List Edit))) fun k19=>if (decide (x113<(r1.length:Int))) then k19 true else k19 (decide (x114<(r2.length:Int)))) (0,0,([]:List Edit),([]:List ByteArray),([]:List ByteArray),([]:List ByteArray))) fun k1=>if (decide (1000<(r1.length:Int))) then k1 true else k1 (decide (1000<(r2.length:Int)))
theorem Zp4 (p0:ByteArray) (p1:ByteArray) (r:List Edit) (h:ZcU p0 p1=some r):Zb Tryz.prog 47 [.str p0,.str p1] (.sl (List.map Edit.cs r)):=by{
refine cF (fun r=>.sl (List.map Edit.cs r)) h mix Tryz.func47 fun r h=>?_
unfold ZcU at h
refine Zf ?_
refine rg ?_
refine rg ?_
refine aC h (ZjR _) fun r1 h=>?_
refine aC h (ZjR _) fun r2 h=>?_
refine rg ?_
refine ZbG (ZbO 16 2600 0 102 2 rfl rfl rfl) (Zf ?_) (List.cons_ne_nil _ _)
refine ZbG (ZbO 16 2601 1 9 1 rfl rfl rfl) (Zf ?_) (List.cons_ne_nil _ _)
refine ZbG (ZbO 16 2602 2 9 1 rfl rfl rfl) (Zf ?_) (List.cons_ne_nil _ _)
refine ZbG (ZbO 16 2603 3 9 1 rfl rfl rfl) (Zf ?_) (List.cons_ne_nil _ _)
refine rg ?_
refine cS h rfl (fun h=>?_) fun h=>?_
refine rg ?_
obtain ⟨r4,h4,h⟩:=bnd h
refine Zd8 (ZbK _ _ _ _ h4) rfl rfl rfl rfl rfl rfl rfl rfl (Zf ?_)
refine rg ?_
cases h
exact rQ
refine jL h (fun x5=>mkS [(5,.sl (List.map csS r1)),(6,.sl (List.map csS r2)),(7,.ptr 16 (1,16) 0),(34,.bool x5)] [(16,some ((1,16),.box [.row 2600 (1,2600),.row 2601 (1,2601),.row 2602 (1,2602),.row 2603 (1,2603)])),(2600,some ((1,2600),.row 102 2 false (List.map Edit.cs ([]:List Edit)))),(2601,some ((1,2601),.row 9 1 false (List.map csS ([]:List ByteArray)))),(2602,some ((1,2602),.row 9 1 false (List.map csS ([]:List ByteArray)))),(2603,some ((1,2603),.row 9 1 false (List.map csS ([]:List ByteArray))))] 2) (fun k1 h=>?_) fun x5 h=>?_
refine rg ?_
refine lM csS r1 ?_
refine kS 30 h rfl (fun h=>?_) fun h=>?_
iterate 3 refine Zg rfl (Zf ?_)
exact jn true h (sR [(16,3,1),(2600,4,0),(2601,5,0),(2602,6,0),(2603,7,0)])
refine lM csS r2 ?_
exact jn (decide (1000<(r2.length:Int))) h (sR [(16,3,1),(2600,4,0),(2601,5,0),(2602,6,0),(2603,7,0)])
refine cS h rfl (fun h=>?_) fun h=>?_
refine rg ?_
obtain ⟨r8,h7,h⟩:=bnd h
refine Zd8 (ZbK _ _ _ _ h7) rfl rfl rfl rfl rfl rfl rfl rfl (Zf ?_)
refine rg ?_
obtain ⟨r9,h8,h⟩:=bnd h
refine Zd8 (ZbK _ _ _ _ h8) rfl rfl rfl rfl rfl rfl rfl rfl (Zf ?_)
refine rg ?_
cases h
exact rQ
refine rg ?_
refine aC h (Zni _ _) fun r10 h=>?_
refine rg ?_
refine bl ?_
refine Zk h fun f18 mf18 hf18 h=>?_
refine Zi (α:=Nat×(Int×Int×(List Edit)×(List ByteArray)×(List ByteArray)×(List ByteArray))) (fun a _=>mkS [(5,.sl (List.map csS r1)),(6,.sl (List.map csS r2)),(7,.ptr 16 (1,16) 0),(8,.sl (List.map (fun y=>[PV.sl (y.map ZeL)]) r10)),(9,.int .i64 a.2.1),(10,.int .i64 a.2.2.1)] [(16,some ((1,16),.box [.row 2600 (1,2600),.row 2601 (1,2601),.row 2602 (1,2602),.row 2603 (1,2603)])),(2600,some ((1,2600),.row 102 2 false (List.map Edit.cs a.2.2.2.1))),(2601,some ((1,2601),.row 9 1 false (List.map csS a.2.2.2.2.1))),(2602,some ((1,2602),.row 9 1 false (List.map csS a.2.2.2.2.2.1))),(2603,some ((1,2603),.row 9 1 false (List.map csS a.2.2.2.2.2.2)))] 2) (fun a=>ZE a.1 f18 a.2=some r) (fun a=>a.1) (mf18,0,0,([]:List Edit),([]:List ByteArray),([]:List ByteArray),([]:List ByteArray)) 2 h (sR [(16,1,16),(2600,1,2600),(2601,1,2601),(2602,1,2602),(2603,1,2603)]) (fun a _ h=>?_)
obtain ⟨mf18,x113,x114,x115,x116,x117,x118⟩:=a
obtain ⟨mf18,rfl,h⟩:=Zl hf18 h
dsimp only at h ⊢
refine Zf ?_
refine jL h (fun x143=>mkS [(5,.sl (List.map csS r1)),(6,.sl (List.map csS r2)),(7,.ptr 16 (1,16) 0),(8,.sl (List.map (fun y=>[PV.sl (y.map ZeL)]) r10)),(9,.int .i64 x113),(10,.int .i64 x114),(57,.bool x143)] [(16,some ((1,16),.box [.row 2600 (1,2600),.row 2601 (1,2601),.row 2602 (1,2602),.row 2603 (1,2603)])),(2600,some ((1,2600),.row 102 2 false (List.map Edit.cs x115))),(2601,some ((1,2601),.row 9 1 false (List.map csS x116))),(2602,some ((1,2602),.row 9 1 false (List.map csS x117))),(2603,some ((1,2603),.row 9 1 false (List.map csS x118)))] 2) (fun k19 h=>?_) fun x143 h=>?_
refine rg ?_
refine lM csS r1 ?_
refine kS 52 h rfl (fun h=>?_) fun h=>?_
iterate 4 refine Zg rfl (Zf ?_)
exact jn true h (sR [(16,1,16),(2600,1,2600),(2601,1,2601),(2602,1,2602),(2603,1,2603)])
refine lM csS r2 ?_
exact jn (decide (x114<(r2.length:Int))) h (sR [(16,1,16),(2600,1,2600),(2601,1,2601),(2602,1,2602),(2603,1,2603)])
refine cS h rfl (fun h=>?_) fun h=>?_
refine bl ?_
refine bl ?_
refine jL h (fun x146=>mkS [(5,.sl (List.map csS r1)),(6,.sl (List.map csS r2)),(7,.ptr 16 (1,16) 0),(8,.sl (List.map (fun y=>[PV.sl (y.map ZeL)]) r10)),(9,.int .i64 x113),(10,.int .i64 x114),(75,.bool x146)] [(16,some ((1,16),.box [.row 2600 (1,2600),.row 2601 (1,2601),.row 2602 (1,2602),.row 2603 (1,2603)])),(2600,some ((1,2600),.row 102 2 false (List.map Edit.cs x115))),(2601,some ((1,2601),.row 9 1 false (List.map csS x116))),(2602,some ((1,2602),.row 9 1 false (List.map csS x117))),(2603,some ((1,2603),.row 9 1 false (List.map csS x118)))] 2) (fun k20 h=>?_) fun x146 h=>?_
refine rg ?_
refine lM csS r1 ?_
refine kS 80 h rfl (fun h=>?_) fun h=>?_
refine lM csS r2 ?_
refine kS 86 h rfl (fun h=>?_) fun h=>?_
refine aI csS h fun e165 h=>?_
refine aI csS h fun e166 h=>?_
exact jn (decide (e165=e166)) h (sR [(16,1,16),(2600,1,2600),(2601,1,2601),(2602,1,2602),(2603,1,2603)])
iterate 9 refine Zg rfl (Zf ?_)
exact jn false h (sR [(16,1,16),(2600,1,2600),(2601,1,2601),(2602,1,2602),(2603,1,2603)])
iterate 13 refine Zg rfl (Zf ?_)
exact jn false h (sR [(16,1,16),(2600,1,2600),(2601,1,2601),(2602,1,2602),(2603,1,2603)])
refine cS h rfl (fun h=>?_) fun h=>?_
refine rg ?_
obtain ⟨r147,h117,h⟩:=bnd h
refine Zd8 (Zci _ _ h117) rfl rfl rfl rfl rfl rfl rfl rfl (Zf ?_)
refine ZbG (ZbO 16 2601 1 9 1 rfl rfl rfl) (Zf ?_) (List.cons_ne_nil _ _)
refine ZbG (ZbO 16 2602 2 9 1 rfl rfl rfl) (Zf ?_) (List.cons_ne_nil _ _)
refine rg ?_
refine aI csS h fun e148 h=>?_
refine bM csS ([e148]:List ByteArray) ?_
refine pR csS h fun l149 h=>?_
refine rg ?_
refine rg ?_
exact rn (mf18,(w64 (x113+1)),(w64 (x114+1)),r147.edits,([]:List ByteArray),([]:List ByteArray),l149) h (sR [(16,1,16),(2600,2,1000001),(2601,3,0),(2602,4,0),(2603,5,10)])
refine jL h (fun x154=>mkS [(5,.sl (List.map csS r1)),(6,.sl (List.map csS r2)),(7,.ptr 16 (1,16) 0),(8,.sl (List.map (fun y=>[PV.sl (y.map ZeL)]) r10)),(9,.int .i64 x113),(10,.int .i64 x114),(116,.bool x154)] [(16,some ((1,16),.box [.row 2600 (1,2600),.row 2601 (1,2601),.row 2602 (1,2602),.row 2603 (1,2603)])),(2600,some ((1,2600),.row 102 2 false (List.map Edit.cs x115))),(2601,some ((1,2601),.row 9 1 false (List.map csS x116))),(2602,some ((1,2602),.row 9 1 false (List.map csS x117))),(2603,some ((1,2603),.row 9 1 false (List.map csS x118)))] 2) (fun k21 h=>?_) fun x154 h=>?_
refine rg ?_
refine lM csS r2 ?_
refine kS 121 h rfl (fun h=>?_) fun h=>?_
iterate 23 refine Zg rfl (Zf ?_)
exact jn true h (sR [(16,1,16),(2600,1,2600),(2601,1,2601),(2602,1,2602),(2603,1,2603)])
refine lM csS r1 ?_
refine kS 126 h rfl (fun h=>?_) fun h=>?_
refine aI (fun y=>[PV.sl (y.map ZeL)]) h fun e161 h=>?_
refine aI ZeL h fun e162 h=>?_
refine aI (fun y=>[PV.sl (y.map ZeL)]) h fun e163 h=>?_
refine aI ZeL h fun e164 h=>?_
exact jn (decide (e164<=e162)) h (sR [(16,1,16),(2600,1,2600),(2601,1,2601),(2602,1,2602),(2603,1,2603)])
iterate 17 refine Zg rfl (Zf ?_)
exact jn false h (sR [(16,1,16),(2600,1,2600),(2601,1,2601),(2602,1,2602),(2603,1,2603)])
refine cS h rfl (fun h=>?_) fun h=>?_
refine rg ?_
obtain ⟨r155,h124,h⟩:=bnd h
refine Zd8 (Zbw _ _ h124) rfl rfl rfl rfl rfl rfl rfl rfl (Zf ?_)
refine ZbG (ZbO 16 2603 3 9 1 rfl rfl rfl) (Zf ?_) (List.cons_ne_nil _ _)
refine rg ?_
refine aI csS h fun e156 h=>?_
refine bM csS ([e156]:List ByteArray) ?_
refine pR csS h fun l157 h=>?_
refine rg ?_
exact rn (mf18,(w64 (x113+1)),x114,r155.edits,l157,r155.insert,([]:List ByteArray)) h (sR [(16,1,16),(2600,2,1000001),(2601,4,10),(2602,2,3000001),(2603,3,0)])
refine rg ?_
obtain ⟨r158,h127,h⟩:=bnd h
refine Zd8 (Zbw _ _ h127) rfl rfl rfl rfl rfl rfl rfl rfl (Zf ?_)
refine ZbG (ZbO 16 2603 3 9 1 rfl rfl rfl) (Zf ?_) (List.cons_ne_nil _ _)
refine rg ?_
refine aI csS h fun e159 h=>?_
refine bM csS ([e159]:List ByteArray) ?_
refine pR csS h fun l160 h=>?_
refine rg ?_
exact rn (mf18,x113,(w64 (x114+1)),r158.edits,r158.deleted,l160,([]:List ByteArray)) h (sR [(16,1,16),(2600,2,1000001),(2601,2,2000001),(2602,4,10),(2603,3,0)])
refine rg ?_
obtain ⟨r167,h136,h⟩:=bnd h
refine Zd8 (Zbw _ _ h136) rfl rfl rfl rfl rfl rfl rfl rfl (Zf ?_)
refine ZbG (ZbO 16 2603 3 9 1 rfl rfl rfl) (Zf ?_) (List.cons_ne_nil _ _)
refine rg ?_
obtain ⟨r168,h137,h⟩:=bnd h
refine Zd8 (Zci _ _ h137) rfl rfl rfl rfl rfl rfl rfl rfl (Zf ?_)
refine ZbG (ZbO 16 2601 1 9 1 rfl rfl rfl) (Zf ?_) (List.cons_ne_nil _ _)
refine ZbG (ZbO 16 2602 2 9 1 rfl rfl rfl) (Zf ?_) (List.cons_ne_nil _ _)
refine rg ?_
cases h
exact rQ}
def ZaM (p0:List Revision):Option (List Revision):=(neL p0).bind fun u1=>(Zbo 72 [] p0).bind fun l2=>(some l2:Option (List Revision))
theorem Zf1 (p0:List Revision) (r:List Revision) (h:ZaM p0=some r):Zb Tryz.prog 144 [.sl (List.map Revision.cs p0)] (.sl (List.map Revision.cs r)):=by{
refine cF (fun r=>.sl (List.map Revision.cs r)) h mix Tryz.func144 fun r h=>?_
unfold ZaM at h
refine Zf ?_
refine rg ?_
refine rg ?_
obtain ⟨u1,h1,h⟩:=bnd h
refine ZsK rfl h1 rfl (Zf ?_)
refine ZS rfl rfl (Zf ?_)
refine rg ?_
refine ZF (M:=([]:List Revision)) (f:=Revision.cs) rfl rfl rfl rfl (Nat.le_of_ble_eq_true rfl) rfl (Zf ?_)
refine pR Revision.cs h fun l2 h=>?_
cases h
exact rQ}
def ZcV (p0:Stored):Option Stored:=(ZaM p0.history).bind fun r1=>(some (⟨p0.title,r1⟩:Stored):Option Stored)
theorem Zlh (p0:Stored) (r:Stored) (h:ZcV p0=some r):Zb Tryz.prog 87 [p0.pv] (r.pv):=by{
refine cF (fun r=>r.pv) h mix Tryz.func87 fun r h=>?_
unfold ZcV at h
refine Zf ?_
refine rg ?_
refine rg ?_
refine aC h (Zf1 _) fun r1 h=>?_
refine rg ?_
cases h
exact rQ}
def Zbs (p0:State) (p1:Title):Option (Stored×Bool):=ZE Zaq (fun f2 (x18:Int)=>if (decide (x18<(p0.pages.length:Int))) then (atI p0.pages x18).bind fun e25=>if (decide (e25.title=p1)) then (ZcV e25).bind fun r26=>(some (r26,true):Option (Stored×Bool)) else f2 (w64 (x18+1)) else (some ((⟨(⟨0,(⟨#[]⟩:ByteArray)⟩:Title),[]⟩:Stored),false):Option (Stored×Bool))) 0
theorem ZdP (p0:State) (p1:Title) (r:Stored×Bool) (h:Zbs p0 p1=some r):Zb Tryz.prog 43 [p0.pv,p1.pv] (.tup [r.1.pv,.bool r.2]):=by{
refine cF (fun r=>.tup [r.1.pv,.bool r.2]) h mix Tryz.func43 fun r h=>?_
unfold Zbs at h
refine Zf ?_
refine rg ?_
refine rg ?_
refine lM Stored.cs p0.pages ?_
refine bl ?_
refine Zk h fun f2 mf2 hf2 h=>?_
refine Zi (α:=Nat×Int) (fun a _=>mkS [(3,.ptr 3 (1,3) 0),(4,.ptr 4 (1,4) 0),(9,.sl (List.map Stored.cs p0.pages)),(10,.int .i64 (p0.pages.length:Int)),(11,.int .i64 a.2)] [(3,some ((1,3),.box (Title.cs p1))),(4,some ((1,4),.box [.int .i64 0,.str (⟨#[]⟩:ByteArray),.nil]))] 2) (fun a=>ZE a.1 f2 a.2=some r) (fun a=>a.1) (mf2,0) 2 h (sR [(3,1,1),(4,1,2)]) (fun a _ h=>?_)
obtain ⟨mf2,x18⟩:=a
obtain ⟨mf2,rfl,h⟩:=Zl hf2 h
dsimp only at h ⊢
refine Zf ?_
refine rg ?_
refine cS h rfl (fun h=>?_) fun h=>?_
refine bl ?_
refine rg ?_
refine aI Stored.cs h fun e25 h=>?_
refine rg ?_
refine ZeM (.inl rfl) rfl rfl rfl rfl rfl (fun W=>ZcM e25.title p1 W) (Zf ?_)
refine cS h rfl (fun h=>?_) fun h=>?_
refine rg ?_
refine aC h (Zlh _) fun r26 h=>?_
cases h
exact rQ
refine rg ?_
exact rn (mf2,(w64 (x18+1))) h (sR [(3,1,3),(4,1,4)])
refine rg ?_
cases h
exact rQ}
def Zee (p0:Stored):Option Revision:=if (decide ((p0.history.length:Int)=0)) then (some (⟨0,(⟨#[]⟩:ByteArray),(⟨#[]⟩:ByteArray),(⟨#[]⟩:ByteArray),0,0⟩:Revision):Option Revision) else (atI p0.history (w64 ((p0.history.length:Int)-1))).bind fun e1=>(some e1:Option Revision)
theorem Zli (p0:Stored) (r:Revision) (h:Zee p0=some r):Zb Tryz.prog 86 [p0.pv] (r.pv):=by{
refine cF (fun r=>r.pv) h mix Tryz.func86 fun r h=>?_
unfold Zee at h
refine Zf ?_
refine rg ?_
refine rg ?_
refine lM Revision.cs p0.history ?_
refine cS h rfl (fun h=>?_) fun h=>?_
refine rg ?_
cases h
exact rQ
refine rg ?_
refine lM Revision.cs p0.history ?_
refine aI Revision.cs h fun e1 h=>?_
cases h
exact rQ}
end
end Go.Proofs.YtpdaeclbndpabaaGreatDoor
