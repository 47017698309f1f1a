/- Functions of the program as Lean functions. Written by -/
import Derived.Test.YtpdaeclbndpabaaGreatDoorCM19
set_option linter.unusedSimpArgs false
set_option linter.unusedVariables false
set_option maxHeartbeats 4000000
set_option maxRecDepth 100000
namespace Go.Proofs.YtpdaeclbndpabaaGreatDoor
section
open VL
def ZO (p0:List Num) (p1:Int) (p2:Int):Option (List Num):=ZE Zaq (fun f17 ((x95,x96):Int×(List Num))=>if (decide (x95<p2)) then ZE Zaq (fun f24 ((x253,x254):Int×(List Num))=>letk (fun (x273:Bool)=>if x273 then (atI x254 (w64 (x253-1))).bind fun e278=>(atI x254 x253).bind fun e279=>(atI x254 x253).bind fun e280=>(atI (ZbF x254 x253 e278) (w64 (x253-1))).bind fun e281=>f24 ((w64 (x253-1)),(ZbF (ZbF x254 x253 e278) (w64 (x253-1)) e279)) else f17 ((w64 (x95+1)),x254)) fun k25=>if (decide (p1<x253)) then (atI x254 x253).bind fun e282=>(atI x254 (w64 (x253-1))).bind fun e283=>(ZaN e282 e283).bind fun r284=>k25 (decide (r284<0)) else k25 false) (x95,x96) else (some x96:Option (List Num))) ((w64 (p1+1)),p0)
theorem ZaS (p0:List Num) (p1:Int) (p2:Int) (r:List Num) (h:ZO p0 p1 p2=some r):ContractR Tryz.prog 172 [.int .i64 p1,.int .i64 p2,.fn 76 []] 117 7 (List.map Num.cs p0) (.tup []) (List.map Num.cs r):=by{
refine ZaT (R:=fun r=>.tup []) (O:=fun r=>(List.map Num.cs r)) h mix Tryz.func172 (by kernel_rfl) rfl (by kernel_rfl) fun r h=>?_
unfold ZO at h
refine Zf ?_
refine rg ?_
refine bl ?_
refine Zk h fun f17 mf17 hf17 h=>?_
refine Zi (α:=Nat×(Int×(List Num))) (fun a _=>mkS [(0,.row 0 (0,0)),(1,.int .i64 p1),(2,.int .i64 p2),(3,.fn 76 []),(8,.int .i64 a.2.1)] [(0,some ((0,0),.row 117 7 false (List.map Num.cs a.2.2)))] 2) (fun a=>ZE a.1 f17 a.2=some r) (fun a=>a.1) (mf17,(w64 (p1+1)),p0) 2 h (Zt [] ⟨rfl,rfl,rfl,rfl,rfl,trivial⟩ ⟨⟨rfl,rfl⟩,trivial⟩ rfl) (fun a _ h=>?_)
obtain ⟨mf17,x95,x96⟩:=a
obtain ⟨mf17,rfl,h⟩:=Zl hf17 h
dsimp only at h ⊢
refine Zf ?_
refine rg ?_
refine cS h rfl (fun h=>?_) fun h=>?_
refine bl ?_
refine rg ?_
refine bl ?_
refine Zk h fun f24 mf24 hf24 h=>?_
refine Zi (α:=Nat×(Int×(List Num))) (fun a _=>mkS [(0,.row 0 (0,0)),(1,.int .i64 p1),(2,.int .i64 p2),(3,.fn 76 []),(8,.int .i64 x95),(9,.int .i64 a.2.1)] [(0,some ((0,0),.row 117 7 false (List.map Num.cs a.2.2)))] 2) (fun a=>ZE a.1 f24 a.2=some r) (fun a=>a.1) (mf24,x95,x96) 2 h (Zt [] ⟨rfl,rfl,rfl,rfl,rfl,rfl,trivial⟩ ⟨⟨rfl,rfl⟩,trivial⟩ rfl) (fun a _ h=>?_)
obtain ⟨mf24,x253,x254⟩:=a
obtain ⟨mf24,rfl,h⟩:=Zl hf24 h
dsimp only at h ⊢
refine Zf ?_
refine jL h (fun x273=>mkS [(0,.row 0 (0,0)),(1,.int .i64 p1),(2,.int .i64 p2),(3,.fn 76 []),(8,.int .i64 x95),(9,.int .i64 x253),(34,.bool x273)] [(0,some ((0,0),.row 117 7 false (List.map Num.cs x254)))] 2) (fun k25 h=>?_) fun x273 h=>?_
refine rg ?_
refine kS 21 h rfl (fun h=>?_) fun h=>?_
obtain ⟨e282,h250,h⟩:=bnd h
refine ZA rfl h250 rfl rfl rfl (Zf ?_)
refine Zaj rfl h250 rfl rfl rfl (Zf ?_)
obtain ⟨e283,h251,h⟩:=bnd h
refine ZA rfl h251 rfl rfl rfl (Zf ?_)
refine Zaj rfl h251 rfl rfl rfl (Zf ?_)
obtain ⟨r284,h252,h⟩:=bnd h
refine Zgd (Lc:=[]) (args1:=[e282.pv,e283.pv]) (ZdA _ _ _ h252) rfl rfl rfl rfl (Zf ?_)
exact jn (decide (r284<0)) h (Zt [] ⟨rfl,rfl,rfl,rfl,rfl,rfl,rfl,trivial⟩ ⟨⟨rfl,rfl⟩,trivial⟩ rfl)
iterate 12 refine Zg rfl (Zf ?_)
exact jn false h (Zt [] ⟨rfl,rfl,rfl,rfl,rfl,rfl,rfl,trivial⟩ ⟨⟨rfl,rfl⟩,trivial⟩ rfl)
refine cS h rfl (fun h=>?_) fun h=>?_
refine bl ?_
refine rg ?_
obtain ⟨e278,h246,h⟩:=bnd h
refine ZA rfl h246 rfl rfl rfl (Zf ?_)
refine Zaj rfl h246 rfl rfl rfl (Zf ?_)
obtain ⟨e279,h247,h⟩:=bnd h
refine ZA rfl h247 rfl rfl rfl (Zf ?_)
refine Zaj rfl h247 rfl rfl rfl (Zf ?_)
obtain ⟨e280,h248,h⟩:=bnd h
refine ZA rfl h248 rfl rfl rfl (Zf ?_)
refine ZaR (e':=e278) rfl h248 rfl rfl rfl rfl rfl rfl (Nat.le_of_ble_eq_true rfl) rfl rfl (Zf ?_)
obtain ⟨e281,h249,h⟩:=bnd h
refine ZA rfl h249 rfl rfl rfl (Zf ?_)
refine ZaR (e':=e279) rfl h249 rfl rfl rfl rfl rfl rfl (Nat.le_of_ble_eq_true rfl) rfl rfl (Zf ?_)
refine rg ?_
exact rn (mf24,(w64 (x253-1)),(ZbF (ZbF x254 x253 e278) (w64 (x253-1)) e279)) h (Zt [] ⟨rfl,rfl,rfl,rfl,rfl,rfl,trivial⟩ ⟨⟨rfl,rfl⟩,trivial⟩ rfl)
refine rg ?_
exact rn (mf17,(w64 (x95+1)),x254) h (Zt [] ⟨rfl,rfl,rfl,rfl,rfl,trivial⟩ ⟨⟨rfl,rfl⟩,trivial⟩ rfl)
cases h
exact Zcl rfl rfl rfl}
def ZM (p0:List Num) (p1:Int) (p2:Int) (p3:Int):Option (List Num):=ZE Zaq (fun f1 ((x9,x10):Int×(List Num))=>if (decide (x9<p3)) then (atI x10 (w64 (p2+x9))).bind fun e23=>(atI x10 (w64 (p1+x9))).bind fun e24=>(atI x10 (w64 (p1+x9))).bind fun e25=>(atI (ZbF x10 (w64 (p1+x9)) e23) (w64 (p2+x9))).bind fun e26=>f1 ((w64 (x9+1)),(ZbF (ZbF x10 (w64 (p1+x9)) e23) (w64 (p2+x9)) e24)) else (some x10:Option (List Num))) (0,p0)
theorem Zat (p0:List Num) (p1:Int) (p2:Int) (p3:Int) (r:List Num) (h:ZM p0 p1 p2 p3=some r):ContractR Tryz.prog 246 [.int .i64 p1,.int .i64 p2,.int .i64 p3,.fn 76 []] 117 7 (List.map Num.cs p0) (.tup []) (List.map Num.cs r):=by{
refine ZaT (R:=fun r=>.tup []) (O:=fun r=>(List.map Num.cs r)) h mix Tryz.func246 (by kernel_rfl) rfl (by kernel_rfl) fun r h=>?_
unfold ZM at h
refine Zf ?_
refine rg ?_
refine bl ?_
refine Zk h fun f1 mf1 hf1 h=>?_
refine Zi (α:=Nat×(Int×(List Num))) (fun a _=>mkS [(0,.row 0 (0,0)),(1,.int .i64 p1),(2,.int .i64 p2),(3,.int .i64 p3),(10,.int .i64 a.2.1)] [(0,some ((0,0),.row 117 7 false (List.map Num.cs a.2.2)))] 2) (fun a=>ZE a.1 f1 a.2=some r) (fun a=>a.1) (mf1,0,p0) 2 h (sR []) (fun a _ h=>?_)
obtain ⟨mf1,x9,x10⟩:=a
obtain ⟨mf1,rfl,h⟩:=Zl hf1 h
dsimp only at h ⊢
refine Zf ?_
refine rg ?_
refine cS h rfl (fun h=>?_) fun h=>?_
refine bl ?_
refine rg ?_
obtain ⟨e23,h21,h⟩:=bnd h
refine ZA rfl h21 rfl rfl rfl (Zf ?_)
refine Zaj rfl h21 rfl rfl rfl (Zf ?_)
obtain ⟨e24,h22,h⟩:=bnd h
refine ZA rfl h22 rfl rfl rfl (Zf ?_)
refine Zaj rfl h22 rfl rfl rfl (Zf ?_)
obtain ⟨e25,h23,h⟩:=bnd h
refine ZA rfl h23 rfl rfl rfl (Zf ?_)
refine ZaR (e':=e23) rfl h23 rfl rfl rfl rfl rfl rfl (Nat.le_of_ble_eq_true rfl) rfl rfl (Zf ?_)
obtain ⟨e26,h24,h⟩:=bnd h
refine ZA rfl h24 rfl rfl rfl (Zf ?_)
refine ZaR (e':=e24) rfl h24 rfl rfl rfl rfl rfl rfl (Nat.le_of_ble_eq_true rfl) rfl rfl (Zf ?_)
refine rg ?_
exact rn (mf1,(w64 (x9+1)),(ZbF (ZbF x10 (w64 (p1+x9)) e23) (w64 (p2+x9)) e24)) h (sR [])
cases h
exact Zcl rfl rfl rfl}
def ZaU (p0:List Num) (p1:Int) (p2:Int) (p3:Int):Option (List Num):=ZE Zaq (fun f2 ((x12,x13,x14):Int×Int×(List Num))=>if (!decide (x12=x13)) then if (decide (x13<x12)) then (ZM x14 (w64 (p2-x12)) p2 x13).bind fun r17=>f2 ((w64 (x12-x13)),x13,r17) else (ZM x14 (w64 (p2-x12)) (w64 ((w64 (p2+x13))-x12)) x12).bind fun r18=>f2 (x12,(w64 (x13-x12)),r18) else (ZM x14 (w64 (p2-x12)) p2 x12).bind fun r19=>(some r19:Option (List Num))) ((w64 (p2-p1)),(w64 (p3-p2)),p0)
theorem Zdu (p0:List Num) (p1:Int) (p2:Int) (p3:Int) (r:List Num) (h:ZaU p0 p1 p2 p3=some r):ContractR Tryz.prog 213 [.int .i64 p1,.int .i64 p2,.int .i64 p3,.fn 76 []] 117 7 (List.map Num.cs p0) (.tup []) (List.map Num.cs r):=by{
refine ZaT (R:=fun r=>.tup []) (O:=fun r=>(List.map Num.cs r)) h mix Tryz.func213 (by kernel_rfl) rfl (by kernel_rfl) fun r h=>?_
unfold ZaU at h
refine Zf ?_
refine rg ?_
refine rg ?_
refine bl ?_
refine Zk h fun f2 mf2 hf2 h=>?_
refine Zi (α:=Nat×(Int×Int×(List Num))) (fun a _=>mkS [(0,.row 0 (0,0)),(2,.int .i64 p2),(4,.fn 76 []),(10,.int .i64 a.2.1),(11,.int .i64 a.2.2.1)] [(0,some ((0,0),.row 117 7 false (List.map Num.cs a.2.2.2)))] 2) (fun a=>ZE a.1 f2 a.2=some r) (fun a=>a.1) (mf2,(w64 (p2-p1)),(w64 (p3-p2)),p0) 2 h (Zt [] ⟨rfl,rfl,rfl,rfl,rfl,trivial⟩ ⟨⟨rfl,rfl⟩,trivial⟩ rfl) (fun a _ h=>?_)
obtain ⟨mf2,x12,x13,x14⟩:=a
obtain ⟨mf2,rfl,h⟩:=Zl hf2 h
dsimp only at h ⊢
refine Zf ?_
refine rg ?_
refine cS h rfl (fun h=>?_) fun h=>?_
refine bl ?_
refine rg ?_
refine cS h rfl (fun h=>?_) fun h=>?_
refine rg ?_
obtain ⟨r17,h11,h⟩:=bnd h
refine Zcd (Zat _ _ _ _ _ h11) rfl rfl rfl rfl rfl (Zf ?_)
refine rg ?_
exact rn (mf2,(w64 (x12-x13)),x13,r17) h (Zt [] ⟨rfl,rfl,rfl,rfl,rfl,trivial⟩ ⟨⟨rfl,rfl⟩,trivial⟩ rfl)
refine rg ?_
obtain ⟨r18,h12,h⟩:=bnd h
refine Zcd (Zat _ _ _ _ _ h12) rfl rfl rfl rfl rfl (Zf ?_)
refine rg ?_
exact rn (mf2,x12,(w64 (x13-x12)),r18) h (Zt [] ⟨rfl,rfl,rfl,rfl,rfl,trivial⟩ ⟨⟨rfl,rfl⟩,trivial⟩ rfl)
refine rg ?_
obtain ⟨r19,h13,h⟩:=bnd h
refine Zcd (Zat _ _ _ _ _ h13) rfl rfl rfl rfl rfl (Zf ?_)
cases h
exact Zcl rfl rfl rfl}
def ZD:Nat->(List Num)->Int->Int->Int->Option (List Num) | 0,_,_,_,_=>none | mF+1,p0,p1,p2,p3=>if (decide ((w64 (p2-p1))=1)) then ZE Zaq (fun f6 ((x99,x100):Int×Int)=>if (decide (x99<x100)) then (ZmW .u64 (IntKind.wrap .u64 (w64 (x99+x100))) 1).bind fun q105=>(atI p0 (IntKind.wrap .i64 q105)).bind fun e106=>(atI p0 p1).bind fun e107=>(ZaN e106 e107).bind fun r108=>if (decide (r108<0)) then f6 ((w64 ((IntKind.wrap .i64 q105)+1)),x100) else f6 (x99,(IntKind.wrap .i64 q105)) else ZE Zaq (fun f8 ((x143,x144):Int×(List Num))=>if (decide (x143<(w64 (x99-1)))) then (atI x144 (w64 (x143+1))).bind fun e157=>(atI x144 x143).bind fun e158=>(atI x144 x143).bind fun e159=>(atI (ZbF x144 x143 e157) (w64 (x143+1))).bind fun e160=>f8 ((w64 (x143+1)),(ZbF (ZbF x144 x143 e157) (w64 (x143+1)) e158)) else (some x144:Option (List Num))) (p1,p0)) (p2,p3) else if (decide ((w64 (p3-p2))=1)) then ZE Zaq (fun f14 ((x259,x260):Int×Int)=>if (decide (x259<x260)) then (ZmW .u64 (IntKind.wrap .u64 (w64 (x259+x260))) 1).bind fun q265=>(atI p0 p2).bind fun e266=>(atI p0 (IntKind.wrap .i64 q265)).bind fun e267=>(ZaN e266 e267).bind fun r268=>if (!(decide (r268<0))) then f14 ((w64 ((IntKind.wrap .i64 q265)+1)),x260) else f14 (x259,(IntKind.wrap .i64 q265)) else ZE Zaq (fun f16 ((x303,x304):Int×(List Num))=>if (decide (x259<x303)) then (atI x304 (w64 (x303-1))).bind fun e317=>(atI x304 x303).bind fun e318=>(atI x304 x303).bind fun e319=>(atI (ZbF x304 x303 e317) (w64 (x303-1))).bind fun e320=>f16 ((w64 (x303-1)),(ZbF (ZbF x304 x303 e317) (w64 (x303-1)) e318)) else (some x304:Option (List Num))) (p2,p0)) (p1,p2) else (ZmW .u64 (IntKind.wrap .u64 (w64 (p1+p3))) 1).bind fun q321=>letk (fun (x322:Int) (x323:Int)=>ZE Zaq (fun f19 ((x342,x343):Int×Int)=>if (decide (x342<x343)) then (ZmW .u64 (IntKind.wrap .u64 (w64 (x342+x343))) 1).bind fun q348=>(atI p0 (w64 ((w64 ((w64 ((IntKind.wrap .i64 q321)+p2))-1))-(IntKind.wrap .i64 q348)))).bind fun e349=>(atI p0 (IntKind.wrap .i64 q348)).bind fun e350=>(ZaN e349 e350).bind fun r351=>if (!(decide (r351<0))) then f19 ((w64 ((IntKind.wrap .i64 q348)+1)),x343) else f19 (x342,(IntKind.wrap .i64 q348)) else letk (fun (x352:Bool)=>letk (fun (x354:List Num)=>letk (fun (x355:Bool)=>letk (fun (x357:List Num)=>letk (fun (x358:Bool)=>if x358 then (ZD mF x357 (IntKind.wrap .i64 q321) (w64 ((w64 ((IntKind.wrap .i64 q321)+p2))-x342)) p3).bind fun r359=>(some r359:Option (List Num)) else (some x357:Option (List Num))) fun k24=>if (decide ((IntKind.wrap .i64 q321)<(w64 ((w64 ((IntKind.wrap .i64 q321)+p2))-x342)))) then k24 (decide ((w64 ((w64 ((IntKind.wrap .i64 q321)+p2))-x342))<p3)) else k24 false) fun k23=>if x355 then (ZD mF x354 p1 x342 (IntKind.wrap .i64 q321)).bind fun r360=>k23 r360 else k23 x354) fun k22=>if (decide (p1<x342)) then k22 (decide (x342<(IntKind.wrap .i64 q321))) else k22 false) fun k21=>if x352 then (ZaU p0 x342 p2 (w64 ((w64 ((IntKind.wrap .i64 q321)+p2))-x342))).bind fun r361=>k21 r361 else k21 p0) fun k20=>if (decide (x342<p2)) then k20 (decide (p2<(w64 ((w64 ((IntKind.wrap .i64 q321)+p2))-x342)))) else k20 false) (x322,x323)) fun k17=>if (decide ((IntKind.wrap .i64 q321)<p2)) then k17 (w64 ((w64 ((IntKind.wrap .i64 q321)+p2))-p3)) (IntKind.wrap .i64 q321) else k17 p1 p2
theorem Zbf (mF:Nat):∀ (p0:List Num) (p1:Int) (p2:Int) (p3:Int) (r:List Num),ZD mF p0 p1 p2 p3=some r->ContractR Tryz.prog 173 [.int .i64 p1,.int .i64 p2,.int .i64 p3,.fn 76 []] 117 7 (List.map Num.cs p0) (.tup []) (List.map Num.cs r):=by{
induction mF with
| zero=>intro p0 p1 p2 p3 r h;cases h
| succ mF ihF=>
intro p0 p1 p2 p3 r h
refine ZaT (R:=fun r=>.tup []) (O:=fun r=>(List.map Num.cs r)) h mix Tryz.func173 (by kernel_rfl) rfl (by kernel_rfl) fun r h=>?_
simp only [ZD] at h
refine Zf ?_
refine rg ?_
refine cS h rfl (fun h=>?_) fun h=>?_
refine rg ?_
refine rg ?_
refine bl ?_
refine Zk h fun f6 mf6 hf6 h=>?_
refine Zi (α:=Nat×(Int×Int)) (fun a _=>mkS [(0,.row 0 (0,0)),(1,.int .i64 p1),(4,.fn 76 []),(10,.int .i64 a.2.1),(11,.int .i64 a.2.2)] [(0,some ((0,0),.row 117 7 false (List.map Num.cs p0)))] 2) (fun a=>ZE a.1 f6 a.2=some r) (fun a=>a.1) (mf6,p2,p3) 2 h (Zt [] ⟨rfl,rfl,rfl,rfl,rfl,trivial⟩ ⟨⟨rfl,rfl⟩,trivial⟩ rfl) (fun a _ h=>?_)
obtain ⟨mf6,x99,x100⟩:=a
obtain ⟨mf6,rfl,h⟩:=Zl hf6 h
dsimp only at h ⊢
refine Zf ?_
refine rg ?_
refine cS h rfl (fun h=>?_) fun h=>?_
refine bl ?_
refine rg ?_
obtain ⟨q105,h93,h⟩:=bnd h
refine Zil rfl h93 rfl rfl (Zf ?_)
refine rg ?_
obtain ⟨e106,h94,h⟩:=bnd h
refine ZA rfl h94 rfl rfl rfl (Zf ?_)
refine Zaj rfl h94 rfl rfl rfl (Zf ?_)
obtain ⟨e107,h95,h⟩:=bnd h
refine ZA rfl h95 rfl rfl rfl (Zf ?_)
refine Zaj rfl h95 rfl rfl rfl (Zf ?_)
obtain ⟨r108,h96,h⟩:=bnd h
refine Zgd (Lc:=[]) (args1:=[e106.pv,e107.pv]) (ZdA _ _ _ h96) rfl rfl rfl rfl (Zf ?_)
refine cS h rfl (fun h=>?_) fun h=>?_
refine rg ?_
exact rn (mf6,(w64 ((IntKind.wrap .i64 q105)+1)),x100) h (Zt [] ⟨rfl,rfl,rfl,rfl,rfl,trivial⟩ ⟨⟨rfl,rfl⟩,trivial⟩ rfl)
refine rg ?_
exact rn (mf6,x99,(IntKind.wrap .i64 q105)) h (Zt [] ⟨rfl,rfl,rfl,rfl,rfl,trivial⟩ ⟨⟨rfl,rfl⟩,trivial⟩ rfl)
refine rg ?_
refine bl ?_
refine Zk h fun f8 mf8 hf8 h=>?_
refine Zi (α:=Nat×(Int×(List Num))) (fun a _=>mkS [(0,.row 0 (0,0)),(10,.int .i64 x99),(13,.int .i64 a.2.1)] [(0,some ((0,0),.row 117 7 false (List.map Num.cs a.2.2)))] 2) (fun a=>ZE a.1 f8 a.2=some r) (fun a=>a.1) (mf8,p1,p0) 2 h (sR []) (fun a _ h=>?_)
obtain ⟨mf8,x143,x144⟩:=a
obtain ⟨mf8,rfl,h⟩:=Zl hf8 h
dsimp only at h ⊢
refine Zf ?_
refine rg ?_
refine cS h rfl (fun h=>?_) fun h=>?_
refine bl ?_
refine rg ?_
obtain ⟨e157,h141,h⟩:=bnd h
refine ZA rfl h141 rfl rfl rfl (Zf ?_)
refine Zaj rfl h141 rfl rfl rfl (Zf ?_)
obtain ⟨e158,h142,h⟩:=bnd h
refine ZA rfl h142 rfl rfl rfl (Zf ?_)
refine Zaj rfl h142 rfl rfl rfl (Zf ?_)
obtain ⟨e159,h143,h⟩:=bnd h
refine ZA rfl h143 rfl rfl rfl (Zf ?_)
refine ZaR (e':=e157) rfl h143 rfl rfl rfl rfl rfl rfl (Nat.le_of_ble_eq_true rfl) rfl rfl (Zf ?_)
obtain ⟨e160,h144,h⟩:=bnd h
refine ZA rfl h144 rfl rfl rfl (Zf ?_)
refine ZaR (e':=e158) rfl h144 rfl rfl rfl rfl rfl rfl (Nat.le_of_ble_eq_true rfl) rfl rfl (Zf ?_)
refine rg ?_
exact rn (mf8,(w64 (x143+1)),(ZbF (ZbF x144 x143 e157) (w64 (x143+1)) e158)) h (sR [])
cases h
exact ZmA rfl rfl rfl
refine rg ?_
refine cS h rfl (fun h=>?_) fun h=>?_
refine rg ?_
refine rg ?_
refine bl ?_
refine Zk h fun f14 mf14 hf14 h=>?_
refine Zi (α:=Nat×(Int×Int)) (fun a _=>mkS [(0,.row 0 (0,0)),(2,.int .i64 p2),(4,.fn 76 []),(14,.int .i64 a.2.1),(15,.int .i64 a.2.2)] [(0,some ((0,0),.row 117 7 false (List.map Num.cs p0)))] 2) (fun a=>ZE a.1 f14 a.2=some r) (fun a=>a.1) (mf14,p1,p2) 2 h (Zt [] ⟨rfl,rfl,rfl,rfl,rfl,trivial⟩ ⟨⟨rfl,rfl⟩,trivial⟩ rfl) (fun a _ h=>?_)
obtain ⟨mf14,x259,x260⟩:=a
obtain ⟨mf14,rfl,h⟩:=Zl hf14 h
dsimp only at h ⊢
refine Zf ?_
refine rg ?_
refine cS h rfl (fun h=>?_) fun h=>?_
refine bl ?_
refine rg ?_
obtain ⟨q265,h237,h⟩:=bnd h
refine Zil rfl h237 rfl rfl (Zf ?_)
refine rg ?_
obtain ⟨e266,h238,h⟩:=bnd h
refine ZA rfl h238 rfl rfl rfl (Zf ?_)
refine Zaj rfl h238 rfl rfl rfl (Zf ?_)
obtain ⟨e267,h239,h⟩:=bnd h
refine ZA rfl h239 rfl rfl rfl (Zf ?_)
refine Zaj rfl h239 rfl rfl rfl (Zf ?_)
obtain ⟨r268,h240,h⟩:=bnd h
refine Zgd (Lc:=[]) (args1:=[e266.pv,e267.pv]) (ZdA _ _ _ h240) rfl rfl rfl rfl (Zf ?_)
refine cS h rfl (fun h=>?_) fun h=>?_
refine rg ?_
exact rn (mf14,(w64 ((IntKind.wrap .i64 q265)+1)),x260) h (Zt [] ⟨rfl,rfl,rfl,rfl,rfl,trivial⟩ ⟨⟨rfl,rfl⟩,trivial⟩ rfl)
refine rg ?_
exact rn (mf14,x259,(IntKind.wrap .i64 q265)) h (Zt [] ⟨rfl,rfl,rfl,rfl,rfl,trivial⟩ ⟨⟨rfl,rfl⟩,trivial⟩ rfl)
refine rg ?_
refine bl ?_
refine Zk h fun f16 mf16 hf16 h=>?_
refine Zi (α:=Nat×(Int×(List Num))) (fun a _=>mkS [(0,.row 0 (0,0)),(14,.int .i64 x259),(17,.int .i64 a.2.1)] [(0,some ((0,0),.row 117 7 false (List.map Num.cs a.2.2)))] 2) (fun a=>ZE a.1 f16 a.2=some r) (fun a=>a.1) (mf16,p2,p0) 2 h (sR []) (fun a _ h=>?_)
obtain ⟨mf16,x303,x304⟩:=a
obtain ⟨mf16,rfl,h⟩:=Zl hf16 h
dsimp only at h ⊢
refine Zf ?_
refine rg ?_
refine cS h rfl (fun h=>?_) fun h=>?_
refine bl ?_
refine rg ?_
obtain ⟨e317,h285,h⟩:=bnd h
refine ZA rfl h285 rfl rfl rfl (Zf ?_)
refine Zaj rfl h285 rfl rfl rfl (Zf ?_)
obtain ⟨e318,h286,h⟩:=bnd h
refine ZA rfl h286 rfl rfl rfl (Zf ?_)
refine Zaj rfl h286 rfl rfl rfl (Zf ?_)
obtain ⟨e319,h287,h⟩:=bnd h
refine ZA rfl h287 rfl rfl rfl (Zf ?_)
refine ZaR (e':=e317) rfl h287 rfl rfl rfl rfl rfl rfl (Nat.le_of_ble_eq_true rfl) rfl rfl (Zf ?_)
obtain ⟨e320,h288,h⟩:=bnd h
refine ZA rfl h288 rfl rfl rfl (Zf ?_)
refine ZaR (e':=e318) rfl h288 rfl rfl rfl rfl rfl rfl (Nat.le_of_ble_eq_true rfl) rfl rfl (Zf ?_)
refine rg ?_
exact rn (mf16,(w64 (x303-1)),(ZbF (ZbF x304 x303 e317) (w64 (x303-1)) e318)) h (sR [])
cases h
exact ZmA rfl rfl rfl
refine rg ?_
obtain ⟨q321,h289,h⟩:=bnd h
refine Zil rfl h289 rfl rfl (Zf ?_)
refine rg ?_
refine rg ?_
refine rg ?_
refine Zag h fun k17 hk17 h=>?_
refine Zax (α:=Int×Int) (fun a _=>mkS [(0,.row 0 (0,0)),(1,.int .i64 p1),(2,.int .i64 p2),(3,.int .i64 p3),(4,.fn 76 []),(18,.int .i64 (IntKind.wrap .i64 q321)),(19,.int .i64 (w64 ((IntKind.wrap .i64 q321)+p2))),(20,.int .i64 a.1),(21,.int .i64 a.2)] [(0,some ((0,0),.row 117 7 false (List.map Num.cs p0)))] 2) (fun a=>k17 a.1 a.2=some r) (Zf ?_) (fun a _ h=>?_)
refine cS h rfl (fun h=>?_) fun h=>?_
refine rg ?_
refine rg ?_
exact jn ((w64 ((w64 ((IntKind.wrap .i64 q321)+p2))-p3)),(IntKind.wrap .i64 q321)) h (Zt [] ⟨rfl,rfl,rfl,rfl,rfl,rfl,rfl,rfl,rfl,trivial⟩ ⟨⟨rfl,rfl⟩,trivial⟩ rfl)
refine rg ?_
refine rg ?_
exact jn (p1,p2) h (Zt [] ⟨rfl,rfl,rfl,rfl,rfl,rfl,rfl,rfl,rfl,trivial⟩ ⟨⟨rfl,rfl⟩,trivial⟩ rfl)
obtain ⟨x322,x323⟩:=a
subst hk17
dsimp only at h ⊢
refine Zf ?_
refine rg ?_
refine bl ?_
refine Zk h fun f19 mf19 hf19 h=>?_
refine Zi (α:=Nat×(Int×Int)) (fun a _=>mkS [(0,.row 0 (0,0)),(1,.int .i64 p1),(2,.int .i64 p2),(3,.int .i64 p3),(4,.fn 76 []),(18,.int .i64 (IntKind.wrap .i64 q321)),(19,.int .i64 (w64 ((IntKind.wrap .i64 q321)+p2))),(20,.int .i64 a.2.1),(21,.int .i64 a.2.2),(22,.int .i64 (w64 ((w64 ((IntKind.wrap .i64 q321)+p2))-1)))] [(0,some ((0,0),.row 117 7 false (List.map Num.cs p0)))] 2) (fun a=>ZE a.1 f19 a.2=some r) (fun a=>a.1) (mf19,x322,x323) 2 h (Zt [] ⟨rfl,rfl,rfl,rfl,rfl,rfl,rfl,rfl,rfl,rfl,trivial⟩ ⟨⟨rfl,rfl⟩,trivial⟩ rfl) (fun a _ h=>?_)
obtain ⟨mf19,x342,x343⟩:=a
obtain ⟨mf19,rfl,h⟩:=Zl hf19 h
dsimp only at h ⊢
refine Zf ?_
refine rg ?_
refine cS h rfl (fun h=>?_) fun h=>?_
refine bl ?_
refine rg ?_
obtain ⟨q348,h310,h⟩:=bnd h
refine Zil rfl h310 rfl rfl (Zf ?_)
refine rg ?_
obtain ⟨e349,h311,h⟩:=bnd h
refine ZA rfl h311 rfl rfl rfl (Zf ?_)
refine Zaj rfl h311 rfl rfl rfl (Zf ?_)
obtain ⟨e350,h312,h⟩:=bnd h
refine ZA rfl h312 rfl rfl rfl (Zf ?_)
refine Zaj rfl h312 rfl rfl rfl (Zf ?_)
obtain ⟨r351,h313,h⟩:=bnd h
refine Zgd (Lc:=[]) (args1:=[e349.pv,e350.pv]) (ZdA _ _ _ h313) rfl rfl rfl rfl (Zf ?_)
refine cS h rfl (fun h=>?_) fun h=>?_
refine rg ?_
exact rn (mf19,(w64 ((IntKind.wrap .i64 q348)+1)),x343) h (Zt [] ⟨rfl,rfl,rfl,rfl,rfl,rfl,rfl,rfl,rfl,rfl,trivial⟩ ⟨⟨rfl,rfl⟩,trivial⟩ rfl)
refine rg ?_
exact rn (mf19,x342,(IntKind.wrap .i64 q348)) h (Zt [] ⟨rfl,rfl,rfl,rfl,rfl,rfl,rfl,rfl,rfl,rfl,trivial⟩ ⟨⟨rfl,rfl⟩,trivial⟩ rfl)
refine rg ?_
refine jL h (fun x352=>mkS [(0,.row 0 (0,0)),(1,.int .i64 p1),(2,.int .i64 p2),(3,.int .i64 p3),(4,.fn 76 []),(18,.int .i64 (IntKind.wrap .i64 q321)),(20,.int .i64 x342),(24,.int .i64 (w64 ((w64 ((IntKind.wrap .i64 q321)+p2))-x342))),(185,.bool x352)] [(0,some ((0,0),.row 117 7 false (List.map Num.cs p0)))] 2) (fun k20 h=>?_) fun x352 h=>?_
refine rg ?_
refine kS 181 h rfl (fun h=>?_) fun h=>?_
exact jn (decide (p2<(w64 ((w64 ((IntKind.wrap .i64 q321)+p2))-x342)))) h (Zt [] ⟨rfl,rfl,rfl,rfl,rfl,rfl,rfl,rfl,rfl,trivial⟩ ⟨⟨rfl,rfl⟩,trivial⟩ rfl)
iterate 3 refine Zg rfl (Zf ?_)
exact jn false h (Zt [] ⟨rfl,rfl,rfl,rfl,rfl,rfl,rfl,rfl,rfl,trivial⟩ ⟨⟨rfl,rfl⟩,trivial⟩ rfl)
refine jL h (fun x354=>mkS [(0,.row 0 (0,0)),(1,.int .i64 p1),(3,.int .i64 p3),(4,.fn 76 []),(18,.int .i64 (IntKind.wrap .i64 q321)),(20,.int .i64 x342),(24,.int .i64 (w64 ((w64 ((IntKind.wrap .i64 q321)+p2))-x342)))] [(0,some ((0,0),.row 117 7 false (List.map Num.cs x354)))] 2) (fun k21 h=>?_) fun x354 h=>?_
refine cS h rfl (fun h=>?_) fun h=>?_
refine rg ?_
obtain ⟨r361,h318,h⟩:=bnd h
refine Zcd (Zdu _ _ _ _ _ h318) rfl rfl rfl rfl rfl (Zf ?_)
exact jn r361 h (Zt [] ⟨rfl,rfl,rfl,rfl,rfl,rfl,rfl,trivial⟩ ⟨⟨rfl,rfl⟩,trivial⟩ rfl)
exact jn p0 h (Zt [] ⟨rfl,rfl,rfl,rfl,rfl,rfl,rfl,trivial⟩ ⟨⟨rfl,rfl⟩,trivial⟩ rfl)
refine jL h (fun x355=>mkS [(0,.row 0 (0,0)),(1,.int .i64 p1),(3,.int .i64 p3),(4,.fn 76 []),(18,.int .i64 (IntKind.wrap .i64 q321)),(20,.int .i64 x342),(24,.int .i64 (w64 ((w64 ((IntKind.wrap .i64 q321)+p2))-x342))),(199,.bool x355)] [(0,some ((0,0),.row 117 7 false (List.map Num.cs x354)))] 2) (fun k22 h=>?_) fun x355 h=>?_
refine rg ?_
refine kS 195 h rfl (fun h=>?_) fun h=>?_
exact jn (decide (x342<(IntKind.wrap .i64 q321))) h (Zt [] ⟨rfl,rfl,rfl,rfl,rfl,rfl,rfl,rfl,trivial⟩ ⟨⟨rfl,rfl⟩,trivial⟩ rfl)
iterate 3 refine Zg rfl (Zf ?_)
exact jn false h (Zt [] ⟨rfl,rfl,rfl,rfl,rfl,rfl,rfl,rfl,trivial⟩ ⟨⟨rfl,rfl⟩,trivial⟩ rfl)
refine jL h (fun x357=>mkS [(0,.row 0 (0,0)),(3,.int .i64 p3),(4,.fn 76 []),(18,.int .i64 (IntKind.wrap .i64 q321)),(24,.int .i64 (w64 ((w64 ((IntKind.wrap .i64 q321)+p2))-x342)))] [(0,some ((0,0),.row 117 7 false (List.map Num.cs x357)))] 2) (fun k23 h=>?_) fun x357 h=>?_
refine cS h rfl (fun h=>?_) fun h=>?_
refine rg ?_
obtain ⟨r360,h317,h⟩:=bnd h
refine Zcd (ihF _ _ _ _ _ h317) rfl rfl rfl rfl rfl (Zf ?_)
exact jn r360 h (Zt [] ⟨rfl,rfl,rfl,rfl,rfl,trivial⟩ ⟨⟨rfl,rfl⟩,trivial⟩ rfl)
exact jn x354 h (Zt [] ⟨rfl,rfl,rfl,rfl,rfl,trivial⟩ ⟨⟨rfl,rfl⟩,trivial⟩ rfl)
refine jL h (fun x358=>mkS [(0,.row 0 (0,0)),(3,.int .i64 p3),(4,.fn 76 []),(18,.int .i64 (IntKind.wrap .i64 q321)),(24,.int .i64 (w64 ((w64 ((IntKind.wrap .i64 q321)+p2))-x342))),(213,.bool x358)] [(0,some ((0,0),.row 117 7 false (List.map Num.cs x357)))] 2) (fun k24 h=>?_) fun x358 h=>?_
refine rg ?_
refine kS 209 h rfl (fun h=>?_) fun h=>?_
exact jn (decide ((w64 ((w64 ((IntKind.wrap .i64 q321)+p2))-x342))<p3)) h (Zt [] ⟨rfl,rfl,rfl,rfl,rfl,rfl,trivial⟩ ⟨⟨rfl,rfl⟩,trivial⟩ rfl)
iterate 3 refine Zg rfl (Zf ?_)
exact jn false h (Zt [] ⟨rfl,rfl,rfl,rfl,rfl,rfl,trivial⟩ ⟨⟨rfl,rfl⟩,trivial⟩ rfl)
refine cS h rfl (fun h=>?_) fun h=>?_
refine rg ?_
obtain ⟨r359,h316,h⟩:=bnd h
refine Zcd (ihF _ _ _ _ _ h316) rfl rfl rfl rfl rfl (Zf ?_)
cases h
exact Zcl rfl rfl rfl
cases h
exact Zcl rfl rfl rfl}
def ZT (p0:List Num) (p1:Int):Option (List Num):=ZE Zaq (fun f2 ((x8,x9,x10):Int×Int×(List Num))=>if (decide (x9<=p1)) then (ZO x10 x8 x9).bind fun r12=>f2 (x9,(w64 (x9+20)),r12) else (ZO x10 x8 p1).bind fun r13=>ZE Zaq (fun f9 ((x29,x30):Int×(List Num))=>if (decide (x29<p1)) then ZE Zaq (fun f11 ((x53,x54,x55):Int×Int×(List Num))=>if (decide (x54<=p1)) then (ZD 64 x55 x53 (w64 (x53+x29)) x54).bind fun r57=>f11 (x54,(w64 (x54+(w64 (2 * x29)))),r57) else letk (fun (x59:List Num)=>f9 ((w64 (x29 * 2)),x59)) fun k12=>if (decide ((w64 (x53+x29))<p1)) then (ZD 64 x55 x53 (w64 (x53+x29)) p1).bind fun r60=>k12 r60 else k12 x55) (0,(w64 (2 * x29)),x30) else (some x30:Option (List Num))) (20,r13)) (0,20,p0)
theorem Zdv (p0:List Num) (p1:Int) (r:List Num) (h:ZT p0 p1=some r):ContractR Tryz.prog 131 [.int .i64 p1,.fn 76 []] 117 7 (List.map Num.cs p0) (.tup []) (List.map Num.cs r):=by{
refine ZaT (R:=fun r=>.tup []) (O:=fun r=>(List.map Num.cs r)) h mix Tryz.func131 (by kernel_rfl) rfl (by kernel_rfl) fun r h=>?_
unfold ZT at h
refine Zf ?_
refine rg ?_
refine rg ?_
refine bl ?_
refine Zk h fun f2 mf2 hf2 h=>?_
refine Zi (α:=Nat×(Int×Int×(List Num))) (fun a _=>mkS [(0,.row 0 (0,0)),(1,.int .i64 p1),(2,.fn 76 []),(6,.int .i64 20),(7,.int .i64 a.2.1),(8,.int .i64 a.2.2.1)] [(0,some ((0,0),.row 117 7 false (List.map Num.cs a.2.2.2)))] 2) (fun a=>ZE a.1 f2 a.2=some r) (fun a=>a.1) (mf2,0,20,p0) 2 h (Zt [] ⟨rfl,rfl,rfl,rfl,rfl,rfl,trivial⟩ ⟨⟨rfl,rfl⟩,trivial⟩ rfl) (fun a _ h=>?_)
obtain ⟨mf2,x8,x9,x10⟩:=a
obtain ⟨mf2,rfl,h⟩:=Zl hf2 h
dsimp only at h ⊢
refine Zf ?_
refine rg ?_
refine cS h rfl (fun h=>?_) fun h=>?_
refine bl ?_
refine rg ?_
obtain ⟨r12,h6,h⟩:=bnd h
refine Zcd (ZaS _ _ _ _ h6) rfl rfl rfl rfl rfl (Zf ?_)
refine rg ?_
refine rg ?_
exact rn (mf2,x9,(w64 (x9+20)),r12) h (Zt [] ⟨rfl,rfl,rfl,rfl,rfl,rfl,trivial⟩ ⟨⟨rfl,rfl⟩,trivial⟩ rfl)
refine rg ?_
obtain ⟨r13,h7,h⟩:=bnd h
refine Zcd (ZaS _ _ _ _ h7) rfl rfl rfl rfl rfl (Zf ?_)
refine bl ?_
refine Zk h fun f9 mf9 hf9 h=>?_
refine Zi (α:=Nat×(Int×(List Num))) (fun a _=>mkS [(0,.row 0 (0,0)),(1,.int .i64 p1),(2,.fn 76 []),(6,.int .i64 a.2.1)] [(0,some ((0,0),.row 117 7 false (List.map Num.cs a.2.2)))] 2) (fun a=>ZE a.1 f9 a.2=some r) (fun a=>a.1) (mf9,20,r13) 2 h (Zt [] ⟨rfl,rfl,rfl,rfl,trivial⟩ ⟨⟨rfl,rfl⟩,trivial⟩ rfl) (fun a _ h=>?_)
obtain ⟨mf9,x29,x30⟩:=a
obtain ⟨mf9,rfl,h⟩:=Zl hf9 h
dsimp only at h ⊢
refine Zf ?_
refine rg ?_
refine cS h rfl (fun h=>?_) fun h=>?_
refine bl ?_
refine rg ?_
refine bl ?_
refine Zk h fun f11 mf11 hf11 h=>?_
refine Zi (α:=Nat×(Int×Int×(List Num))) (fun a _=>mkS [(0,.row 0 (0,0)),(1,.int .i64 p1),(2,.fn 76 []),(6,.int .i64 x29),(7,.int .i64 a.2.1),(8,.int .i64 a.2.2.1)] [(0,some ((0,0),.row 117 7 false (List.map Num.cs a.2.2.2)))] 2) (fun a=>ZE a.1 f11 a.2=some r) (fun a=>a.1) (mf11,0,(w64 (2 * x29)),x30) 2 h (Zt [] ⟨rfl,rfl,rfl,rfl,rfl,rfl,trivial⟩ ⟨⟨rfl,rfl⟩,trivial⟩ rfl) (fun a _ h=>?_)
obtain ⟨mf11,x53,x54,x55⟩:=a
obtain ⟨mf11,rfl,h⟩:=Zl hf11 h
dsimp only at h ⊢
refine Zf ?_
refine rg ?_
refine cS h rfl (fun h=>?_) fun h=>?_
refine bl ?_
refine rg ?_
obtain ⟨r57,h29,h⟩:=bnd h
refine Zcd (Zbf 64 _ _ _ _ _ h29) rfl rfl rfl rfl rfl (Zf ?_)
refine rg ?_
refine rg ?_
exact rn (mf11,x54,(w64 (x54+(w64 (2 * x29)))),r57) h (Zt [] ⟨rfl,rfl,rfl,rfl,rfl,rfl,trivial⟩ ⟨⟨rfl,rfl⟩,trivial⟩ rfl)
refine rg ?_
refine rg ?_
refine jL h (fun x59=>mkS [(0,.row 0 (0,0)),(1,.int .i64 p1),(2,.fn 76 []),(6,.int .i64 x29)] [(0,some ((0,0),.row 117 7 false (List.map Num.cs x59)))] 2) (fun k12 h=>?_) fun x59 h=>?_
refine cS h rfl (fun h=>?_) fun h=>?_
refine rg ?_
obtain ⟨r60,h31,h⟩:=bnd h
refine Zcd (Zbf 64 _ _ _ _ _ h31) rfl rfl rfl rfl rfl (Zf ?_)
exact jn r60 h (Zt [] ⟨rfl,rfl,rfl,rfl,trivial⟩ ⟨⟨rfl,rfl⟩,trivial⟩ rfl)
exact jn x55 h (Zt [] ⟨rfl,rfl,rfl,rfl,trivial⟩ ⟨⟨rfl,rfl⟩,trivial⟩ rfl)
refine rg ?_
exact rn (mf9,(w64 (x29 * 2)),x59) h (Zt [] ⟨rfl,rfl,rfl,rfl,trivial⟩ ⟨⟨rfl,rfl⟩,trivial⟩ rfl)
cases h
exact Zcl rfl rfl rfl}
def ZQ (p0:List Num):Option (List Num):=(ZT p0 (p0.length:Int)).bind fun r1=>(some r1:Option (List Num))
theorem Zc6 (p0:List Num) (r:List Num) (h:ZQ p0=some r):ContractR Tryz.prog 75 [.fn 76 []] 117 7 (List.map Num.cs p0) (.tup []) (List.map Num.cs r):=by{
refine ZaT (R:=fun r=>.tup []) (O:=fun r=>(List.map Num.cs r)) h mix Tryz.func75 (by kernel_rfl) rfl (by kernel_rfl) fun r h=>?_
unfold ZQ at h
refine Zf ?_
refine rg ?_
refine lM Num.cs p0 ?_
obtain ⟨r1,h1,h⟩:=bnd h
refine Zcd (Zdv _ _ _ h1) rfl rfl rfl rfl rfl (Zf ?_)
cases h
exact Zcl rfl rfl rfl}
end
end Go.Proofs.YtpdaeclbndpabaaGreatDoor
