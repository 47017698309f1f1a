/- Functions of -/
import Derived.Test.YtmgfammllddkhaaGreatDoorCU10
set_option linter.unusedSimpArgs false
set_option linter.unusedVariables false
set_option maxHeartbeats 4000000
set_option maxRecDepth 100000
namespace Go.Proofs.YtmgfammllddkhaaGreatDoor
section
open VL
def ZN (p0:Q3 Memb) (p1:Int) (p2:Int):Q2 (Q3 Memb):=A4 A9 (fun f17 ((x95,x96):Int×(Q3 Memb))=>if decide (x95<p2) then A4 A9 (fun f24 ((x253,x254):Int×(Q3 Memb))=>letk (fun (x273:Bool)=>if x273 then (atI x254 (w64 (x253-1))).bind fun e278=>(atI x254 x253).bind fun e279=>(atI x254 x253).bind fun e280=>(atI (AQ x254 x253 e278) (w64 (x253-1))).bind fun e281=>f24 ((w64 (x253-1)),(AQ (AQ x254 x253 e278) (w64 (x253-1)) e279)) else f17 ((w64 (x95+1)),x254)) fun k25=>if decide (p1<x253) then (atI x254 x253).bind fun e282=>(atI x254 (w64 (x253-1))).bind fun e283=>(M9 e282 e283).bind fun r284=>k25 (decide (r284<0)) else k25 false) (x95,x96) else some x96) ((w64 (p1+1)),p0)
theorem pU (p0:Q3 Memb) (p1:Int) (p2:Int) (r:Q3 Memb) (h:ZN p0 p1 p2=some r):ContractR Q7 130 [.int .i64 p1,.int .i64 p2,.fn 38 []] 45 3 (List.map Memb.cs p0) (.tup []) (List.map Memb.cs r):=by{
refine PF (R:=fun r=>.tup []) (O:=fun r=>(Q8 Memb.cs r)) h mix Tryz.func130 (by kernel_rfl) rfl (by kernel_rfl) fun r h=>?_
unfold ZN at h
refine Zi ?_
refine rg ?_
refine bl ?_
refine Zy h fun f17 mf17 hf17 h=>?_
refine Zu (α:=Nat×(Int×(Q3 Memb))) (fun a _=>mkS [(0,.row 0 (0,0)),(1,Q5 p1),(2,Q5 p2),(3,.fn 38 []),(8,Q5 a.2.1)] [(0,some ((0,0),.row 45 3 false (Q8 Memb.cs a.2.2)))] 2) (fun a=>A4 a.1 f17 a.2=some r) (fun a=>a.1) (mf17,(w64 (p1+1)),p0) 2 h (Zx []) (fun a _ h=>?_)
obtain ⟨mf17,x95,x96⟩:=a
obtain ⟨mf17,rfl,h⟩:=Zz hf17 h
dsimp only at h ⊢
refine Zi ?_
refine rg ?_
refine cS h rfl (fun h=>?_) fun h=>?_
refine bl ?_
refine rg ?_
refine bl ?_
refine Zy h fun f24 mf24 hf24 h=>?_
refine Zu (α:=Nat×(Int×(Q3 Memb))) (fun a _=>mkS [(0,.row 0 (0,0)),(1,Q5 p1),(2,Q5 p2),(3,.fn 38 []),(8,Q5 x95),(9,Q5 a.2.1)] [(0,some ((0,0),.row 45 3 false (Q8 Memb.cs a.2.2)))] 2) (fun a=>A4 a.1 f24 a.2=some r) (fun a=>a.1) (mf24,x95,x96) 2 h (Zx []) (fun a _ h=>?_)
obtain ⟨mf24,x253,x254⟩:=a
obtain ⟨mf24,rfl,h⟩:=Zz hf24 h
dsimp only at h ⊢
refine Zi ?_
refine jL h (fun x273=>mkS [(0,.row 0 (0,0)),(1,Q5 p1),(2,Q5 p2),(3,.fn 38 []),(8,Q5 x95),(9,Q5 x253),(34,.bool x273)] [(0,some ((0,0),.row 45 3 false (Q8 Memb.cs x254)))] 2) (fun k25 h=>?_) fun x273 h=>?_
refine rg ?_
refine kS 21 h rfl (fun h=>?_) fun h=>?_
let ⟨e282,h250,h⟩:=bnd h
refine ZT rfl h250 rfl rfl rfl (Zi ?_)
refine B9 rfl h250 rfl rfl rfl (Zi ?_)
let ⟨e283,h251,h⟩:=bnd h
refine ZT rfl h251 rfl rfl rfl (Zi ?_)
refine B9 rfl h251 rfl rfl rfl (Zi ?_)
let ⟨r284,h252,h⟩:=bnd h
refine P3 (Lc:=[]) (args1:=[e282.pv,e283.pv]) (XG _ _ _ h252) rfl rfl rfl rfl (Zi ?_)
exact jn (decide (r284<0)) h (Zx [])
iterate 12 refine Zw rfl (Zi ?_)
exact jn false h (Zx [])
refine cS h rfl (fun h=>?_) fun h=>?_
refine bl ?_
refine rg ?_
let ⟨e278,h246,h⟩:=bnd h
refine ZT rfl h246 rfl rfl rfl (Zi ?_)
refine B9 rfl h246 rfl rfl rfl (Zi ?_)
let ⟨e279,h247,h⟩:=bnd h
refine ZT rfl h247 rfl rfl rfl (Zi ?_)
refine B9 rfl h247 rfl rfl rfl (Zi ?_)
let ⟨e280,h248,h⟩:=bnd h
refine ZT rfl h248 rfl rfl rfl (Zi ?_)
refine FM (e':=e278) rfl h248 rfl rfl rfl rfl rfl rfl (Yk rfl) rfl rfl (Zi ?_)
let ⟨e281,h249,h⟩:=bnd h
refine ZT rfl h249 rfl rfl rfl (Zi ?_)
refine FM (e':=e279) rfl h249 rfl rfl rfl rfl rfl rfl (Yk rfl) rfl rfl (Zi ?_)
refine rg ?_
exact rn (mf24,(w64 (x253-1)),(AQ (AQ x254 x253 e278) (w64 (x253-1)) e279)) h (Zx [])
refine rg ?_
exact rn (mf17,(w64 (x95+1)),x254) h (Zx [])
cases h
exact N9 rfl rfl rfl}
def ZM (p0:Q3 Memb) (p1:Int) (p2:Int) (p3:Int):Q2 (Q3 Memb):=A4 A9 (fun f1 ((x9,x10):Int×(Q3 Memb))=>if decide (x9<p3) then (atI x10 (w64 (p2+x9))).bind fun e23=>(atI x10 (w64 (p1+x9))).bind fun e24=>(atI x10 (w64 (p1+x9))).bind fun e25=>(atI (AQ x10 (w64 (p1+x9)) e23) (w64 (p2+x9))).bind fun e26=>f1 ((w64 (x9+1)),(AQ (AQ x10 (w64 (p1+x9)) e23) (w64 (p2+x9)) e24)) else some x10) (0,p0)
theorem fD (p0:Q3 Memb) (p1:Int) (p2:Int) (p3:Int) (r:Q3 Memb) (h:ZM p0 p1 p2 p3=some r):ContractR Q7 213 [.int .i64 p1,.int .i64 p2,.int .i64 p3,.fn 38 []] 45 3 (List.map Memb.cs p0) (.tup []) (List.map Memb.cs r):=by{
refine PF (R:=fun r=>.tup []) (O:=fun r=>(Q8 Memb.cs r)) h mix Tryz.func213 (by kernel_rfl) rfl (by kernel_rfl) fun r h=>?_
unfold ZM at h
refine Zi ?_
refine rg ?_
refine bl ?_
refine Zy h fun f1 mf1 hf1 h=>?_
refine Zu (α:=Nat×(Int×(Q3 Memb))) (fun a _=>mkS [(0,.row 0 (0,0)),(1,Q5 p1),(2,Q5 p2),(3,Q5 p3),(10,Q5 a.2.1)] [(0,some ((0,0),.row 45 3 false (Q8 Memb.cs a.2.2)))] 2) (fun a=>A4 a.1 f1 a.2=some r) (fun a=>a.1) (mf1,0,p0) 2 h (sR []) (fun a _ h=>?_)
obtain ⟨mf1,x9,x10⟩:=a
obtain ⟨mf1,rfl,h⟩:=Zz hf1 h
dsimp only at h ⊢
refine Zi ?_
refine rg ?_
refine cS h rfl (fun h=>?_) fun h=>?_
refine bl ?_
refine rg ?_
let ⟨e23,h21,h⟩:=bnd h
refine ZT rfl h21 rfl rfl rfl (Zi ?_)
refine B9 rfl h21 rfl rfl rfl (Zi ?_)
let ⟨e24,h22,h⟩:=bnd h
refine ZT rfl h22 rfl rfl rfl (Zi ?_)
refine B9 rfl h22 rfl rfl rfl (Zi ?_)
let ⟨e25,h23,h⟩:=bnd h
refine ZT rfl h23 rfl rfl rfl (Zi ?_)
refine FM (e':=e23) rfl h23 rfl rfl rfl rfl rfl rfl (Yk rfl) rfl rfl (Zi ?_)
let ⟨e26,h24,h⟩:=bnd h
refine ZT rfl h24 rfl rfl rfl (Zi ?_)
refine FM (e':=e24) rfl h24 rfl rfl rfl rfl rfl rfl (Yk rfl) rfl rfl (Zi ?_)
refine rg ?_
exact rn (mf1,(w64 (x9+1)),(AQ (AQ x10 (w64 (p1+x9)) e23) (w64 (p2+x9)) e24)) h (sR [])
cases h
exact N9 rfl rfl rfl}
def ZZ (p0:Q3 Memb) (p1:Int) (p2:Int) (p3:Int):Q2 (Q3 Memb):=A4 A9 (fun f2 ((x12,x13,x14):Int×Int×(Q3 Memb))=>if (!decide (x12=x13)) then if decide (x13<x12) then (ZM x14 (w64 (p2-x12)) p2 x13).bind fun r17=>f2 ((w64 (x12-x13)),x13,r17) else (ZM x14 (w64 (p2-x12)) (w64 ((w64 (p2+x13))-x12)) x12).bind fun r18=>f2 (x12,(w64 (x13-x12)),r18) else (ZM x14 (w64 (p2-x12)) p2 x12).bind fun r19=>some r19) ((w64 (p2-p1)),(w64 (p3-p2)),p0)
theorem Zdq (p0:Q3 Memb) (p1:Int) (p2:Int) (p3:Int) (r:Q3 Memb) (h:ZZ p0 p1 p2 p3=some r):ContractR Q7 184 [.int .i64 p1,.int .i64 p2,.int .i64 p3,.fn 38 []] 45 3 (List.map Memb.cs p0) (.tup []) (List.map Memb.cs r):=by{
refine PF (R:=fun r=>.tup []) (O:=fun r=>(Q8 Memb.cs r)) h mix Tryz.func184 (by kernel_rfl) rfl (by kernel_rfl) fun r h=>?_
unfold ZZ at h
refine Zi ?_
refine rg ?_
refine rg ?_
refine bl ?_
refine Zy h fun f2 mf2 hf2 h=>?_
refine Zu (α:=Nat×(Int×Int×(Q3 Memb))) (fun a _=>mkS [(0,.row 0 (0,0)),(2,Q5 p2),(4,.fn 38 []),(10,Q5 a.2.1),(11,Q5 a.2.2.1)] [(0,some ((0,0),.row 45 3 false (Q8 Memb.cs a.2.2.2)))] 2) (fun a=>A4 a.1 f2 a.2=some r) (fun a=>a.1) (mf2,(w64 (p2-p1)),(w64 (p3-p2)),p0) 2 h (Zx []) (fun a _ h=>?_)
obtain ⟨mf2,x12,x13,x14⟩:=a
obtain ⟨mf2,rfl,h⟩:=Zz hf2 h
dsimp only at h ⊢
refine Zi ?_
refine rg ?_
refine cS h rfl (fun h=>?_) fun h=>?_
refine bl ?_
refine rg ?_
refine cS h rfl (fun h=>?_) fun h=>?_
refine rg ?_
let ⟨r17,h11,h⟩:=bnd h
refine GO (fD _ _ _ _ _ h11) rfl rfl rfl rfl rfl (Zi ?_)
refine rg ?_
exact rn (mf2,(w64 (x12-x13)),x13,r17) h (Zx [])
refine rg ?_
let ⟨r18,h12,h⟩:=bnd h
refine GO (fD _ _ _ _ _ h12) rfl rfl rfl rfl rfl (Zi ?_)
refine rg ?_
exact rn (mf2,x12,(w64 (x13-x12)),r18) h (Zx [])
refine rg ?_
let ⟨r19,h13,h⟩:=bnd h
refine GO (fD _ _ _ _ _ h13) rfl rfl rfl rfl rfl (Zi ?_)
cases h
exact N9 rfl rfl rfl}
def Zq:Nat->(Q3 Memb)->Int->Int->Int->Q2 (Q3 Memb) | 0,_,_,_,_=>none | mF+1,p0,p1,p2,p3=>if decide ((w64 (p2-p1))=1) then A4 A9 (fun f6 ((x99,x100):Int×Int)=>if decide (x99<x100) then (K1 .u64 (IntKind.wrap .u64 (w64 (x99+x100))) 1).bind fun q105=>(atI p0 (IntKind.wrap .i64 q105)).bind fun e106=>(atI p0 p1).bind fun e107=>(M9 e106 e107).bind fun r108=>if decide (r108<0) then f6 ((w64 ((IntKind.wrap .i64 q105)+1)),x100) else f6 (x99,(IntKind.wrap .i64 q105)) else A4 A9 (fun f8 ((x143,x144):Int×(Q3 Memb))=>if decide (x143<(w64 (x99-1))) then (atI x144 (w64 (x143+1))).bind fun e157=>(atI x144 x143).bind fun e158=>(atI x144 x143).bind fun e159=>(atI (AQ x144 x143 e157) (w64 (x143+1))).bind fun e160=>f8 ((w64 (x143+1)),(AQ (AQ x144 x143 e157) (w64 (x143+1)) e158)) else some x144) (p1,p0)) (p2,p3) else if decide ((w64 (p3-p2))=1) then A4 A9 (fun f14 ((x259,x260):Int×Int)=>if decide (x259<x260) then (K1 .u64 (IntKind.wrap .u64 (w64 (x259+x260))) 1).bind fun q265=>(atI p0 p2).bind fun e266=>(atI p0 (IntKind.wrap .i64 q265)).bind fun e267=>(M9 e266 e267).bind fun r268=>if (!(decide (r268<0))) then f14 ((w64 ((IntKind.wrap .i64 q265)+1)),x260) else f14 (x259,(IntKind.wrap .i64 q265)) else A4 A9 (fun f16 ((x303,x304):Int×(Q3 Memb))=>if decide (x259<x303) then (atI x304 (w64 (x303-1))).bind fun e317=>(atI x304 x303).bind fun e318=>(atI x304 x303).bind fun e319=>(atI (AQ x304 x303 e317) (w64 (x303-1))).bind fun e320=>f16 ((w64 (x303-1)),(AQ (AQ x304 x303 e317) (w64 (x303-1)) e318)) else some x304) (p2,p0)) (p1,p2) else (K1 .u64 (IntKind.wrap .u64 (w64 (p1+p3))) 1).bind fun q321=>letk (fun (x322:Int) (x323:Int)=>A4 A9 (fun f19 ((x342,x343):Int×Int)=>if decide (x342<x343) then (K1 .u64 (IntKind.wrap .u64 (w64 (x342+x343))) 1).bind fun q348=>(atI p0 (w64 ((w64 ((w64 ((IntKind.wrap .i64 q321)+p2))-1))-(IntKind.wrap .i64 q348)))).bind fun e349=>(atI p0 (IntKind.wrap .i64 q348)).bind fun e350=>(M9 e349 e350).bind fun r351=>if (!(decide (r351<0))) then f19 ((w64 ((IntKind.wrap .i64 q348)+1)),x343) else f19 (x342,(IntKind.wrap .i64 q348)) else letk (fun (x352:Bool)=>letk (fun (x354:Q3 Memb)=>letk (fun (x355:Bool)=>letk (fun (x357:Q3 Memb)=>letk (fun (x358:Bool)=>if x358 then (Zq mF x357 (IntKind.wrap .i64 q321) (w64 ((w64 ((IntKind.wrap .i64 q321)+p2))-x342)) p3).bind fun r359=>some r359 else some x357) fun k24=>if decide ((IntKind.wrap .i64 q321)<(w64 ((w64 ((IntKind.wrap .i64 q321)+p2))-x342))) then k24 (decide ((w64 ((w64 ((IntKind.wrap .i64 q321)+p2))-x342))<p3)) else k24 false) fun k23=>if x355 then (Zq mF x354 p1 x342 (IntKind.wrap .i64 q321)).bind fun r360=>k23 r360 else k23 x354) fun k22=>if decide (p1<x342) then k22 (decide (x342<(IntKind.wrap .i64 q321))) else k22 false) fun k21=>if x352 then (ZZ p0 x342 p2 (w64 ((w64 ((IntKind.wrap .i64 q321)+p2))-x342))).bind fun r361=>k21 r361 else k21 p0) fun k20=>if decide (x342<p2) then k20 (decide (p2<(w64 ((w64 ((IntKind.wrap .i64 q321)+p2))-x342)))) else k20 false) (x322,x323)) fun k17=>if decide ((IntKind.wrap .i64 q321)<p2) then k17 (w64 ((w64 ((IntKind.wrap .i64 q321)+p2))-p3)) (IntKind.wrap .i64 q321) else k17 p1 p2
theorem pV (mF:Nat):∀ (p0:Q3 Memb) (p1:Int) (p2:Int) (p3:Int) (r:Q3 Memb),Zq mF p0 p1 p2 p3=some r->ContractR Q7 131 [.int .i64 p1,.int .i64 p2,.int .i64 p3,.fn 38 []] 45 3 (List.map Memb.cs p0) (.tup []) (List.map Memb.cs r):=by{
induction mF with
| zero=>intro p0 p1 p2 p3 r h;cases h
| succ mF ihF=>
intro p0 p1 p2 p3 r h
refine PF (R:=fun r=>.tup []) (O:=fun r=>(Q8 Memb.cs r)) h mix Tryz.func131 (by kernel_rfl) rfl (by kernel_rfl) fun r h=>?_
simp only [Zq] at h
refine Zi ?_
refine rg ?_
refine cS h rfl (fun h=>?_) fun h=>?_
refine rg ?_
refine rg ?_
refine bl ?_
refine Zy h fun f6 mf6 hf6 h=>?_
refine Zu (α:=Nat×(Int×Int)) (fun a _=>mkS [(0,.row 0 (0,0)),(1,Q5 p1),(4,.fn 38 []),(10,Q5 a.2.1),(11,Q5 a.2.2)] [(0,some ((0,0),.row 45 3 false (Q8 Memb.cs p0)))] 2) (fun a=>A4 a.1 f6 a.2=some r) (fun a=>a.1) (mf6,p2,p3) 2 h (Zx []) (fun a _ h=>?_)
obtain ⟨mf6,x99,x100⟩:=a
obtain ⟨mf6,rfl,h⟩:=Zz hf6 h
dsimp only at h ⊢
refine Zi ?_
refine rg ?_
refine cS h rfl (fun h=>?_) fun h=>?_
refine bl ?_
refine rg ?_
let ⟨q105,h93,h⟩:=bnd h
refine VT rfl h93 rfl rfl (Zi ?_)
refine rg ?_
let ⟨e106,h94,h⟩:=bnd h
refine ZT rfl h94 rfl rfl rfl (Zi ?_)
refine B9 rfl h94 rfl rfl rfl (Zi ?_)
let ⟨e107,h95,h⟩:=bnd h
refine ZT rfl h95 rfl rfl rfl (Zi ?_)
refine B9 rfl h95 rfl rfl rfl (Zi ?_)
let ⟨r108,h96,h⟩:=bnd h
refine P3 (Lc:=[]) (args1:=[e106.pv,e107.pv]) (XG _ _ _ h96) rfl rfl rfl rfl (Zi ?_)
refine cS h rfl (fun h=>?_) fun h=>?_
refine rg ?_
exact rn (mf6,(w64 ((IntKind.wrap .i64 q105)+1)),x100) h (Zx [])
refine rg ?_
exact rn (mf6,x99,(IntKind.wrap .i64 q105)) h (Zx [])
refine rg ?_
refine bl ?_
refine Zy h fun f8 mf8 hf8 h=>?_
refine Zu (α:=Nat×(Int×(Q3 Memb))) (fun a _=>mkS [(0,.row 0 (0,0)),(10,Q5 x99),(13,Q5 a.2.1)] [(0,some ((0,0),.row 45 3 false (Q8 Memb.cs a.2.2)))] 2) (fun a=>A4 a.1 f8 a.2=some r) (fun a=>a.1) (mf8,p1,p0) 2 h (sR []) (fun a _ h=>?_)
obtain ⟨mf8,x143,x144⟩:=a
obtain ⟨mf8,rfl,h⟩:=Zz hf8 h
dsimp only at h ⊢
refine Zi ?_
refine rg ?_
refine cS h rfl (fun h=>?_) fun h=>?_
refine bl ?_
refine rg ?_
let ⟨e157,h141,h⟩:=bnd h
refine ZT rfl h141 rfl rfl rfl (Zi ?_)
refine B9 rfl h141 rfl rfl rfl (Zi ?_)
let ⟨e158,h142,h⟩:=bnd h
refine ZT rfl h142 rfl rfl rfl (Zi ?_)
refine B9 rfl h142 rfl rfl rfl (Zi ?_)
let ⟨e159,h143,h⟩:=bnd h
refine ZT rfl h143 rfl rfl rfl (Zi ?_)
refine FM (e':=e157) rfl h143 rfl rfl rfl rfl rfl rfl (Yk rfl) rfl rfl (Zi ?_)
let ⟨e160,h144,h⟩:=bnd h
refine ZT rfl h144 rfl rfl rfl (Zi ?_)
refine FM (e':=e158) rfl h144 rfl rfl rfl rfl rfl rfl (Yk rfl) rfl rfl (Zi ?_)
refine rg ?_
exact rn (mf8,(w64 (x143+1)),(AQ (AQ x144 x143 e157) (w64 (x143+1)) e158)) h (sR [])
cases h
exact lN rfl rfl rfl
refine rg ?_
refine cS h rfl (fun h=>?_) fun h=>?_
refine rg ?_
refine rg ?_
refine bl ?_
refine Zy h fun f14 mf14 hf14 h=>?_
refine Zu (α:=Nat×(Int×Int)) (fun a _=>mkS [(0,.row 0 (0,0)),(2,Q5 p2),(4,.fn 38 []),(14,Q5 a.2.1),(15,Q5 a.2.2)] [(0,some ((0,0),.row 45 3 false (Q8 Memb.cs p0)))] 2) (fun a=>A4 a.1 f14 a.2=some r) (fun a=>a.1) (mf14,p1,p2) 2 h (Zx []) (fun a _ h=>?_)
obtain ⟨mf14,x259,x260⟩:=a
obtain ⟨mf14,rfl,h⟩:=Zz hf14 h
dsimp only at h ⊢
refine Zi ?_
refine rg ?_
refine cS h rfl (fun h=>?_) fun h=>?_
refine bl ?_
refine rg ?_
let ⟨q265,h237,h⟩:=bnd h
refine VT rfl h237 rfl rfl (Zi ?_)
refine rg ?_
let ⟨e266,h238,h⟩:=bnd h
refine ZT rfl h238 rfl rfl rfl (Zi ?_)
refine B9 rfl h238 rfl rfl rfl (Zi ?_)
let ⟨e267,h239,h⟩:=bnd h
refine ZT rfl h239 rfl rfl rfl (Zi ?_)
refine B9 rfl h239 rfl rfl rfl (Zi ?_)
let ⟨r268,h240,h⟩:=bnd h
refine P3 (Lc:=[]) (args1:=[e266.pv,e267.pv]) (XG _ _ _ h240) rfl rfl rfl rfl (Zi ?_)
refine cS h rfl (fun h=>?_) fun h=>?_
refine rg ?_
exact rn (mf14,(w64 ((IntKind.wrap .i64 q265)+1)),x260) h (Zx [])
refine rg ?_
exact rn (mf14,x259,(IntKind.wrap .i64 q265)) h (Zx [])
refine rg ?_
refine bl ?_
refine Zy h fun f16 mf16 hf16 h=>?_
refine Zu (α:=Nat×(Int×(Q3 Memb))) (fun a _=>mkS [(0,.row 0 (0,0)),(14,Q5 x259),(17,Q5 a.2.1)] [(0,some ((0,0),.row 45 3 false (Q8 Memb.cs a.2.2)))] 2) (fun a=>A4 a.1 f16 a.2=some r) (fun a=>a.1) (mf16,p2,p0) 2 h (sR []) (fun a _ h=>?_)
obtain ⟨mf16,x303,x304⟩:=a
obtain ⟨mf16,rfl,h⟩:=Zz hf16 h
dsimp only at h ⊢
refine Zi ?_
refine rg ?_
refine cS h rfl (fun h=>?_) fun h=>?_
refine bl ?_
refine rg ?_
let ⟨e317,h285,h⟩:=bnd h
refine ZT rfl h285 rfl rfl rfl (Zi ?_)
refine B9 rfl h285 rfl rfl rfl (Zi ?_)
let ⟨e318,h286,h⟩:=bnd h
refine ZT rfl h286 rfl rfl rfl (Zi ?_)
refine B9 rfl h286 rfl rfl rfl (Zi ?_)
let ⟨e319,h287,h⟩:=bnd h
refine ZT rfl h287 rfl rfl rfl (Zi ?_)
refine FM (e':=e317) rfl h287 rfl rfl rfl rfl rfl rfl (Yk rfl) rfl rfl (Zi ?_)
let ⟨e320,h288,h⟩:=bnd h
refine ZT rfl h288 rfl rfl rfl (Zi ?_)
refine FM (e':=e318) rfl h288 rfl rfl rfl rfl rfl rfl (Yk rfl) rfl rfl (Zi ?_)
refine rg ?_
exact rn (mf16,(w64 (x303-1)),(AQ (AQ x304 x303 e317) (w64 (x303-1)) e318)) h (sR [])
cases h
exact lN rfl rfl rfl
refine rg ?_
let ⟨q321,h289,h⟩:=bnd h
refine VT rfl h289 rfl rfl (Zi ?_)
refine rg ?_
refine rg ?_
refine rg ?_
refine ER h fun k17 hk17 h=>?_
refine DA (α:=Int×Int) (fun a _=>mkS [(0,.row 0 (0,0)),(1,Q5 p1),(2,Q5 p2),(3,Q5 p3),(4,.fn 38 []),(18,Q5 (IntKind.wrap .i64 q321)),(19,Q5 (w64 ((IntKind.wrap .i64 q321)+p2))),(20,Q5 a.1),(21,Q5 a.2)] [(0,some ((0,0),.row 45 3 false (Q8 Memb.cs p0)))] 2) (fun a=>k17 a.1 a.2=some r) (Zi ?_) (fun a _ h=>?_)
refine cS h rfl (fun h=>?_) fun h=>?_
refine rg ?_
refine rg ?_
exact jn ((w64 ((w64 ((IntKind.wrap .i64 q321)+p2))-p3)),(IntKind.wrap .i64 q321)) h (Zx [])
refine rg ?_
refine rg ?_
exact jn (p1,p2) h (Zx [])
obtain ⟨x322,x323⟩:=a
subst hk17
dsimp only at h ⊢
refine Zi ?_
refine rg ?_
refine bl ?_
refine Zy h fun f19 mf19 hf19 h=>?_
refine Zu (α:=Nat×(Int×Int)) (fun a _=>mkS [(0,.row 0 (0,0)),(1,Q5 p1),(2,Q5 p2),(3,Q5 p3),(4,.fn 38 []),(18,Q5 (IntKind.wrap .i64 q321)),(19,Q5 (w64 ((IntKind.wrap .i64 q321)+p2))),(20,Q5 a.2.1),(21,Q5 a.2.2),(22,Q5 (w64 ((w64 ((IntKind.wrap .i64 q321)+p2))-1)))] [(0,some ((0,0),.row 45 3 false (Q8 Memb.cs p0)))] 2) (fun a=>A4 a.1 f19 a.2=some r) (fun a=>a.1) (mf19,x322,x323) 2 h (Zx []) (fun a _ h=>?_)
obtain ⟨mf19,x342,x343⟩:=a
obtain ⟨mf19,rfl,h⟩:=Zz hf19 h
dsimp only at h ⊢
refine Zi ?_
refine rg ?_
refine cS h rfl (fun h=>?_) fun h=>?_
refine bl ?_
refine rg ?_
let ⟨q348,h310,h⟩:=bnd h
refine VT rfl h310 rfl rfl (Zi ?_)
refine rg ?_
let ⟨e349,h311,h⟩:=bnd h
refine ZT rfl h311 rfl rfl rfl (Zi ?_)
refine B9 rfl h311 rfl rfl rfl (Zi ?_)
let ⟨e350,h312,h⟩:=bnd h
refine ZT rfl h312 rfl rfl rfl (Zi ?_)
refine B9 rfl h312 rfl rfl rfl (Zi ?_)
let ⟨r351,h313,h⟩:=bnd h
refine P3 (Lc:=[]) (args1:=[e349.pv,e350.pv]) (XG _ _ _ h313) rfl rfl rfl rfl (Zi ?_)
refine cS h rfl (fun h=>?_) fun h=>?_
refine rg ?_
exact rn (mf19,(w64 ((IntKind.wrap .i64 q348)+1)),x343) h (Zx [])
refine rg ?_
exact rn (mf19,x342,(IntKind.wrap .i64 q348)) h (Zx [])
refine rg ?_
refine jL h (fun x352=>mkS [(0,.row 0 (0,0)),(1,Q5 p1),(2,Q5 p2),(3,Q5 p3),(4,.fn 38 []),(18,Q5 (IntKind.wrap .i64 q321)),(20,Q5 x342),(24,Q5 (w64 ((w64 ((IntKind.wrap .i64 q321)+p2))-x342))),(185,.bool x352)] [(0,some ((0,0),.row 45 3 false (Q8 Memb.cs p0)))] 2) (fun k20 h=>?_) fun x352 h=>?_
refine rg ?_
refine kS 181 h rfl (fun h=>?_) fun h=>?_
exact jn (decide (p2<(w64 ((w64 ((IntKind.wrap .i64 q321)+p2))-x342)))) h (Zx [])
iterate 3 refine Zw rfl (Zi ?_)
exact jn false h (Zx [])
refine jL h (fun x354=>mkS [(0,.row 0 (0,0)),(1,Q5 p1),(3,Q5 p3),(4,.fn 38 []),(18,Q5 (IntKind.wrap .i64 q321)),(20,Q5 x342),(24,Q5 (w64 ((w64 ((IntKind.wrap .i64 q321)+p2))-x342)))] [(0,some ((0,0),.row 45 3 false (Q8 Memb.cs x354)))] 2) (fun k21 h=>?_) fun x354 h=>?_
refine cS h rfl (fun h=>?_) fun h=>?_
refine rg ?_
let ⟨r361,h318,h⟩:=bnd h
refine GO (Zdq _ _ _ _ _ h318) rfl rfl rfl rfl rfl (Zi ?_)
exact jn r361 h (Zx [])
exact jn p0 h (Zx [])
refine jL h (fun x355=>mkS [(0,.row 0 (0,0)),(1,Q5 p1),(3,Q5 p3),(4,.fn 38 []),(18,Q5 (IntKind.wrap .i64 q321)),(20,Q5 x342),(24,Q5 (w64 ((w64 ((IntKind.wrap .i64 q321)+p2))-x342))),(199,.bool x355)] [(0,some ((0,0),.row 45 3 false (Q8 Memb.cs x354)))] 2) (fun k22 h=>?_) fun x355 h=>?_
refine rg ?_
refine kS 195 h rfl (fun h=>?_) fun h=>?_
exact jn (decide (x342<(IntKind.wrap .i64 q321))) h (Zx [])
iterate 3 refine Zw rfl (Zi ?_)
exact jn false h (Zx [])
refine jL h (fun x357=>mkS [(0,.row 0 (0,0)),(3,Q5 p3),(4,.fn 38 []),(18,Q5 (IntKind.wrap .i64 q321)),(24,Q5 (w64 ((w64 ((IntKind.wrap .i64 q321)+p2))-x342)))] [(0,some ((0,0),.row 45 3 false (Q8 Memb.cs x357)))] 2) (fun k23 h=>?_) fun x357 h=>?_
refine cS h rfl (fun h=>?_) fun h=>?_
refine rg ?_
let ⟨r360,h317,h⟩:=bnd h
refine GO (ihF _ _ _ _ _ h317) rfl rfl rfl rfl rfl (Zi ?_)
exact jn r360 h (Zx [])
exact jn x354 h (Zx [])
refine jL h (fun x358=>mkS [(0,.row 0 (0,0)),(3,Q5 p3),(4,.fn 38 []),(18,Q5 (IntKind.wrap .i64 q321)),(24,Q5 (w64 ((w64 ((IntKind.wrap .i64 q321)+p2))-x342))),(213,.bool x358)] [(0,some ((0,0),.row 45 3 false (Q8 Memb.cs x357)))] 2) (fun k24 h=>?_) fun x358 h=>?_
refine rg ?_
refine kS 209 h rfl (fun h=>?_) fun h=>?_
exact jn (decide ((w64 ((w64 ((IntKind.wrap .i64 q321)+p2))-x342))<p3)) h (Zx [])
iterate 3 refine Zw rfl (Zi ?_)
exact jn false h (Zx [])
refine cS h rfl (fun h=>?_) fun h=>?_
refine rg ?_
let ⟨r359,h316,h⟩:=bnd h
refine GO (ihF _ _ _ _ _ h316) rfl rfl rfl rfl rfl (Zi ?_)
cases h
exact N9 rfl rfl rfl
cases h
exact N9 rfl rfl rfl}
def U0 (p0:Q3 Memb) (p1:Int):Q2 (Q3 Memb):=A4 A9 (fun f2 ((x8,x9,x10):Int×Int×(Q3 Memb))=>if decide (x9<=p1) then (ZN x10 x8 x9).bind fun r12=>f2 (x9,(w64 (x9+20)),r12) else (ZN x10 x8 p1).bind fun r13=>A4 A9 (fun f9 ((x29,x30):Int×(Q3 Memb))=>if decide (x29<p1) then A4 A9 (fun f11 ((x53,x54,x55):Int×Int×(Q3 Memb))=>if decide (x54<=p1) then (Zq 64 x55 x53 (w64 (x53+x29)) x54).bind fun r57=>f11 (x54,(w64 (x54+(w64 (2 * x29)))),r57) else letk (fun (x59:Q3 Memb)=>f9 ((w64 (x29 * 2)),x59)) fun k12=>if decide ((w64 (x53+x29))<p1) then (Zq 64 x55 x53 (w64 (x53+x29)) p1).bind fun r60=>k12 r60 else k12 x55) (0,(w64 (2 * x29)),x30) else some x30) (20,r13)) (0,20,p0)
theorem Zdr (p0:Q3 Memb) (p1:Int) (r:Q3 Memb) (h:U0 p0 p1=some r):ContractR Q7 72 [.int .i64 p1,.fn 38 []] 45 3 (List.map Memb.cs p0) (.tup []) (List.map Memb.cs r):=by{
refine PF (R:=fun r=>.tup []) (O:=fun r=>(Q8 Memb.cs r)) h mix Tryz.func72 (by kernel_rfl) rfl (by kernel_rfl) fun r h=>?_
unfold U0 at h
refine Zi ?_
refine rg ?_
refine rg ?_
refine bl ?_
refine Zy h fun f2 mf2 hf2 h=>?_
refine Zu (α:=Nat×(Int×Int×(Q3 Memb))) (fun a _=>mkS [(0,.row 0 (0,0)),(1,Q5 p1),(2,.fn 38 []),(6,Q5 20),(7,Q5 a.2.1),(8,Q5 a.2.2.1)] [(0,some ((0,0),.row 45 3 false (Q8 Memb.cs a.2.2.2)))] 2) (fun a=>A4 a.1 f2 a.2=some r) (fun a=>a.1) (mf2,0,20,p0) 2 h (Zx []) (fun a _ h=>?_)
obtain ⟨mf2,x8,x9,x10⟩:=a
obtain ⟨mf2,rfl,h⟩:=Zz hf2 h
dsimp only at h ⊢
refine Zi ?_
refine rg ?_
refine cS h rfl (fun h=>?_) fun h=>?_
refine bl ?_
refine rg ?_
let ⟨r12,h6,h⟩:=bnd h
refine GO (pU _ _ _ _ h6) rfl rfl rfl rfl rfl (Zi ?_)
refine rg ?_
refine rg ?_
exact rn (mf2,x9,(w64 (x9+20)),r12) h (Zx [])
refine rg ?_
let ⟨r13,h7,h⟩:=bnd h
refine GO (pU _ _ _ _ h7) rfl rfl rfl rfl rfl (Zi ?_)
refine bl ?_
refine Zy h fun f9 mf9 hf9 h=>?_
refine Zu (α:=Nat×(Int×(Q3 Memb))) (fun a _=>mkS [(0,.row 0 (0,0)),(1,Q5 p1),(2,.fn 38 []),(6,Q5 a.2.1)] [(0,some ((0,0),.row 45 3 false (Q8 Memb.cs a.2.2)))] 2) (fun a=>A4 a.1 f9 a.2=some r) (fun a=>a.1) (mf9,20,r13) 2 h (Zx []) (fun a _ h=>?_)
obtain ⟨mf9,x29,x30⟩:=a
obtain ⟨mf9,rfl,h⟩:=Zz hf9 h
dsimp only at h ⊢
refine Zi ?_
refine rg ?_
refine cS h rfl (fun h=>?_) fun h=>?_
refine bl ?_
refine rg ?_
refine bl ?_
refine Zy h fun f11 mf11 hf11 h=>?_
refine Zu (α:=Nat×(Int×Int×(Q3 Memb))) (fun a _=>mkS [(0,.row 0 (0,0)),(1,Q5 p1),(2,.fn 38 []),(6,Q5 x29),(7,Q5 a.2.1),(8,Q5 a.2.2.1)] [(0,some ((0,0),.row 45 3 false (Q8 Memb.cs a.2.2.2)))] 2) (fun a=>A4 a.1 f11 a.2=some r) (fun a=>a.1) (mf11,0,(w64 (2 * x29)),x30) 2 h (Zx []) (fun a _ h=>?_)
obtain ⟨mf11,x53,x54,x55⟩:=a
obtain ⟨mf11,rfl,h⟩:=Zz hf11 h
dsimp only at h ⊢
refine Zi ?_
refine rg ?_
refine cS h rfl (fun h=>?_) fun h=>?_
refine bl ?_
refine rg ?_
let ⟨r57,h29,h⟩:=bnd h
refine GO (pV 64 _ _ _ _ _ h29) rfl rfl rfl rfl rfl (Zi ?_)
refine rg ?_
refine rg ?_
exact rn (mf11,x54,(w64 (x54+(w64 (2 * x29)))),r57) h (Zx [])
refine rg ?_
refine rg ?_
refine jL h (fun x59=>mkS [(0,.row 0 (0,0)),(1,Q5 p1),(2,.fn 38 []),(6,Q5 x29)] [(0,some ((0,0),.row 45 3 false (Q8 Memb.cs x59)))] 2) (fun k12 h=>?_) fun x59 h=>?_
refine cS h rfl (fun h=>?_) fun h=>?_
refine rg ?_
let ⟨r60,h31,h⟩:=bnd h
refine GO (pV 64 _ _ _ _ _ h31) rfl rfl rfl rfl rfl (Zi ?_)
exact jn r60 h (Zx [])
exact jn x55 h (Zx [])
refine rg ?_
exact rn (mf9,(w64 (x29 * 2)),x59) h (Zx [])
cases h
exact N9 rfl rfl rfl}
def ZY (p0:Q3 Memb):Q2 (Q3 Memb):=(U0 p0 (p0.length:Int)).bind fun r1=>some r1
theorem Zdl (p0:Q3 Memb) (r:Q3 Memb) (h:ZY p0=some r):ContractR Q7 37 [.fn 38 []] 45 3 (List.map Memb.cs p0) (.tup []) (List.map Memb.cs r):=by{
refine PF (R:=fun r=>.tup []) (O:=fun r=>(Q8 Memb.cs r)) h mix Tryz.func37 (by kernel_rfl) rfl (by kernel_rfl) fun r h=>?_
unfold ZY at h
refine Zi ?_
refine rg ?_
refine lM Memb.cs p0 ?_
let ⟨r1,h1,h⟩:=bnd h
refine GO (Zdr _ _ _ h1) rfl rfl rfl rfl rfl (Zi ?_)
cases h
exact N9 rfl rfl rfl}
def QQ (p0:Q3 Memb):Q2 (Q3 Memb):=if decide ((p0.length:Int)<2) then some p0 else A4 A9 (fun f82 (x674:Int)=>if decide (x674<(p0.length:Int)) then (atI p0 x674).bind fun e927=>(atI p0 (w64 (x674-1))).bind fun e928=>(TU e927 e928).bind fun r929=>if r929 then (H7 p0 x674).bind fun _=>A4 A9 (fun f97 ((x982,x983,x984):Int×Int×(Q3 Memb))=>if decide (x983<(PH x984 x674)) then letk (fun (x1002:Int) (x1003:Q3 Memb)=>f97 (x1002,(w64 (x983+1)),x1003)) fun k98=>(atQ x984 x674 x983).bind fun e1004=>(atQ x984 x674 (w64 (x983-1))).bind fun e1005=>(TU e1004 e1005).bind fun r1006=>if (!r1006) then (atQ x984 x674 x983).bind fun e1007=>(atI x984 x982).bind fun e1008=>k98 (w64 (x982+1)) (AQ x984 x982 e1007) else k98 x982 x984 else (H7 x984 x982).bind fun _=>(CJ (NA x984 x982 (⟨(⟨0,(⟨#[]⟩:Q1)⟩:Title),(⟨#[]⟩:Q1)⟩:Memb)) 0 x982).bind fun l1010=>some l1010) (x674,1,p0) else f82 (w64 (x674+1)) else some p0) 1
theorem ZdW (p0:Q3 Memb) (r:Q3 Memb) (h:QQ p0=some r):ContractS Q7 39 [.fn 40 []] 45 3 (List.map Memb.cs p0) (List.map Memb.cs r):=by{
refine lZ (O:=fun r=>(Q8 Memb.cs r)) h mix Tryz.func39 (by kernel_rfl) rfl (by kernel_rfl) fun r h=>?_
unfold QQ at h
refine Zi ?_
refine rg ?_
refine rg ?_
refine lM Memb.cs p0 ?_
refine cS h rfl (fun h=>?_) fun h=>?_
refine rg ?_
cases h
exact PG rfl rfl
refine rg ?_
refine bl ?_
refine Zy h fun f82 mf82 hf82 h=>?_
refine Zu (α:=Nat×Int) (fun a _=>mkS [(0,.row 0 (0,0)),(1,.fn 40 []),(5,Q5 a.2)] [(0,some ((0,0),.row 45 3 false (Q8 Memb.cs p0)))] 2) (fun a=>A4 a.1 f82 a.2=some r) (fun a=>a.1) (mf82,1) 2 h (Zx []) (fun a _ h=>?_)
obtain ⟨mf82,x674⟩:=a
obtain ⟨mf82,rfl,h⟩:=Zz hf82 h
dsimp only at h ⊢
refine Zi ?_
refine rg ?_
refine lM Memb.cs p0 ?_
refine cS h rfl (fun h=>?_) fun h=>?_
refine bl ?_
refine rg ?_
let ⟨e927,h727,h⟩:=bnd h
refine ZT rfl h727 rfl rfl rfl (Zi ?_)
refine B9 rfl h727 rfl rfl rfl (Zi ?_)
let ⟨e928,h728,h⟩:=bnd h
refine ZT rfl h728 rfl rfl rfl (Zi ?_)
refine B9 rfl h728 rfl rfl rfl (Zi ?_)
let ⟨r929,h729,h⟩:=bnd h
refine P3 (Lc:=[]) (args1:=[e927.pv,e928.pv]) (p9 _ _ _ h729) rfl rfl rfl rfl (Zi ?_)
refine cS h rfl (fun h=>?_) fun h=>?_
refine rg ?_
let ⟨_,h730,h⟩:=bnd h
refine WK rfl h730 rfl rfl rfl (Zi ?_)
refine rg ?_
refine bl ?_
refine Zy h fun f97 mf97 hf97 h=>?_
refine Zu (α:=Nat×(Int×Int×(Q3 Memb))) (fun a _=>mkS [(0,.row 0 (0,0)),(1,.fn 40 []),(5,Q5 a.2.1),(6,.suf 0 (0,0) (x674).toNat 3),(7,Q5 a.2.2.1)] [(0,some ((0,0),.row 45 3 false (Q8 Memb.cs a.2.2.2)))] 2) (fun a=>A4 a.1 f97 a.2=some r) (fun a=>a.1) (mf97,x674,1,p0) 2 h (Zx []) (fun a _ h=>?_)
obtain ⟨mf97,x982,x983,x984⟩:=a
obtain ⟨mf97,rfl,h⟩:=Zz hf97 h
dsimp only at h ⊢
refine Zi ?_
refine rg ?_
refine lS (M:=x984) (f:=Memb.cs) rfl rfl rfl (Zi ?_)
refine cS h rfl (fun h=>?_) fun h=>?_
refine ER h fun k98 hk98 h=>?_
refine DA (α:=Int×(Q3 Memb)) (fun a _=>mkS [(0,.row 0 (0,0)),(1,.fn 40 []),(5,Q5 a.1),(6,.suf 0 (0,0) (x674).toNat 3),(7,Q5 x983)] [(0,some ((0,0),.row 45 3 false (Q8 Memb.cs a.2)))] 2) (fun a=>k98 a.1 a.2=some r) (Zi ?_) (fun a _ h=>?_)
refine bl ?_
refine rg ?_
let ⟨e1004,h786,h⟩:=bnd h
refine PI rfl h786 rfl rfl rfl (Zi ?_)
refine B9 rfl (NB h786) rfl rfl rfl (Zi ?_)
let ⟨e1005,h787,h⟩:=bnd h
refine PI rfl h787 rfl rfl rfl (Zi ?_)
refine B9 rfl (NB h787) rfl rfl rfl (Zi ?_)
let ⟨r1006,h788,h⟩:=bnd h
refine P3 (Lc:=[]) (args1:=[e1004.pv,e1005.pv]) (p9 _ _ _ h788) rfl rfl rfl rfl (Zi ?_)
refine cS h rfl (fun h=>?_) fun h=>?_
refine rg ?_
let ⟨e1007,h789,h⟩:=bnd h
refine PI rfl h789 rfl rfl rfl (Zi ?_)
refine B9 rfl (NB h789) rfl rfl rfl (Zi ?_)
let ⟨e1008,h790,h⟩:=bnd h
refine ZT rfl h790 rfl rfl rfl (Zi ?_)
refine FM (e':=e1007) rfl h790 rfl rfl rfl rfl rfl rfl (Yk rfl) rfl rfl (Zi ?_)
refine rg ?_
exact jn ((w64 (x982+1)),(AQ x984 x982 e1007)) h (Zx [])
exact jn (x982,x984) h (Zx [])
obtain ⟨x1002,x1003⟩:=a
subst hk98
dsimp only at h ⊢
refine Zi ?_
refine rg ?_
exact rn (mf97,x1002,(w64 (x983+1)),x1003) h (Zx [])
refine rg ?_
let ⟨_,h791,h⟩:=bnd h
refine WK rfl h791 rfl rfl rfl (Zi ?_)
refine lT (M:=x984) (f:=Memb.cs) (zr:=(⟨(⟨0,(⟨#[]⟩:Q1)⟩:Title),(⟨#[]⟩:Q1)⟩:Memb)) rfl rfl rfl rfl rfl (Zi ?_)
refine rg ?_
let ⟨l1010,h792,h⟩:=bnd h
refine lW rfl h792 rfl rfl rfl (Zi ?_)
cases h
exact PG rfl rfl
refine rg ?_
exact rn (mf82,(w64 (x674+1))) h (Zx [])
refine rg ?_
cases h
exact PG rfl rfl}
end
namespace VL
section
variable {α:Type}
def QR (le:α->α->Bool) (r:Q3 α->Q3 α) (x:α) (s:Q3 α):Q3 α->Q3 α | []=>x::s | y::t=>if le x y=true then x::r (y::t) else y::QR le r x s t
def AH (le:α->α->Bool):Q3 α->Q3 α->Q3 α | [],t=>t | x::s,t=>QR le (AH le s) x s t
variable {le:α->α->Bool}
theorem HJ (s:Q3 α):AH le s []=s:=by cases s<;>rfl
theorem HM {x y:α} {s t:Q3 α} (h:le x y=true):AH le (x::s) (y::t)=x::AH le s (y::t):=by
 show QR le (AH le s) x s (y::t)=_
 unfold QR
 rw [if_pos h]
theorem IQ {x y:α} {s t:Q3 α} (h:le x y=false):AH le (x::s) (y::t)=y::AH le (x::s) t:=by
 show QR le (AH le s) x s (y::t)=_
 rw [QR,if_neg (by rw [h];decide)]
 rfl
theorem NP:∀ (A B C D:Q3 α),(∀ u ∈ A,∀ v ∈ D,le u v=true)->(∀ v ∈ C,∀ u ∈ B,le u v=false)->AH le (A++B) (C++D)=AH le A C++AH le B D
 | [],B,[],D,_,_=>rfl
 | [],[],v::C,D,_,_=>rfl
 | [],u::B,v::C,D,h1,h2=>by
   rw [GZ,FC,IQ (h2 v (by simp) u (by simp))]
   have:=NP [] (u::B) C D h1 fun v hv=>h2 v (Yg _ hv)
   rw [GZ] at this
   rw [this]
   rfl
 | u::A,B,[],[],_,_=>by rw [YB,HJ,HJ,HJ]
 | u::A,B,[],w::D,h1,h2=>by
   rw [GZ,FC,HM (h1 u (by simp) w (by simp))]
   have:=NP A B [] (w::D) (fun u hu=>h1 u (Yg _ hu)) h2
   rw [GZ] at this
   rw [this,HJ,HJ]
   rfl
 | u::A,B,v::C,D,h1,h2=>by
   rw [FC,FC]
   cases h:le u v with
   | true=>
     rw [HM h,HM h]
     have:=NP A B (v::C) D (fun u hu=>h1 u (Yg _ hu)) h2
     rw [FC] at this
     rw [this]
     rfl
   | false=>
     rw [IQ h,IQ h]
     have:=NP (u::A) B C D h1 fun v hv=>h2 v (Yg _ hv)
     rw [FC] at this
     rw [this]
     rfl
 termination_by A _ C _=>A.length+C.length
theorem U3 (ht:∀ a b c,le a b=true->le b c=true->le a c=true) (hl:∀ a b,(le a b||le b a)=true) (x:α):∀ (S T:Q3 α),BX le x (AH le S T)=AH le (BX le x S) T
 | [],[]=>rfl
 | [],b::T=>by
   show BX le x (b::T)=AH le [x] (b::T)
   cases h:le x b with
   | true=>
     rw [HM h,BX,if_pos h]
     rfl
   | false=>
     rw [IQ h,BX,if_neg (by rw [h];decide)]
     have:=U3 ht hl x [] T
     exact CC (b :: ·) this
 | a::S,[]=>by rw [HJ,HJ]
 | a::S,b::T=>by
   have tot:∀ a b,le a b=false->le b a=true:=fun a b h=>by have:=hl a b;rw [h] at this;exact this
   cases hxa:le x a with
   | true=>
     have e:BX le x (a::S)=x::a::S:=by rw [BX,if_pos hxa]
     rw [e]
     cases hab:le a b with
     | true=>
       rw [HM hab,HM (ht x a b hxa hab),HM hab,BX,if_pos hxa]
     | false=>
       rw [IQ hab]
       cases hxb:le x b with
       | true=>rw [HM hxb,IQ hab,BX,if_pos hxb]
       | false=>
         rw [IQ hxb,BX,if_neg (by rw [hxb];decide)]
         have:=U3 ht hl x (a::S) T
         rw [this,e]
   | false=>
     have e:BX le x (a::S)=a::BX le x S:=by rw [BX,if_neg (by rw [hxa];decide)]
     rw [e]
     cases hab:le a b with
     | true=>
       rw [HM hab,HM hab,BX,if_neg (by rw [hxa];decide),U3 ht hl x S (b::T)]
     | false=>
       have hxb:le x b=false:=by
        cases h:le x b with
        | false=>rfl
        | true=>
          have:=ht x b a h (tot a b hab)
          rw [hxa] at this
          cases this
       rw [IQ hab,IQ hab,BX,if_neg (by rw [hxb];decide)]
       have:=U3 ht hl x (a::S) T
       rw [this,e]
 termination_by S T=>S.length+T.length
theorem fE (ht:∀ a b c,le a b=true->le b c=true->le a c=true) (hl:∀ a b,(le a b||le b a)=true):∀ (A B:Q3 α),AL le (A++B)=AH le (AL le A) (AL le B)
 | [],B=>rfl
 | x::A,B=>by
   show BX le x (AL le (A++B))=AH le (BX le x (AL le A)) (AL le B)
   rw [fE ht hl A B,U3 ht hl]
theorem ZrN (ht:∀ a b c,le a b=true->le b c=true->le a c=true) (hl:∀ a b,(le a b||le b a)=true) (A:Q3 α) (y:α):AL le (A ++ [y])=AH le (AL le A) [y]:=fE ht hl A [y]
theorem pW {y:α} {A B:Q3 α} (h1:∀ u ∈ A,le u y=true) (h2:∀ u ∈ B,le u y=false):AH le (A++B) [y]=A++y::B:=by{
have e:AH le (A++B) [y]=AH le A []++AH le B [y]:=NP A B [] [y] (fun u hu v hv=>YG.1 hv ▸ h1 u hu) (fun v hv=>by cases hv)
rw [e,HJ]
congr 1
cases B with
| nil=>rfl
| cons b B=>rw [IQ (h2 b (by simp)),HJ]}
theorem ZpI {x:α} {C D:Q3 α} (h1:∀ v ∈ D,le x v=true) (h2:∀ v ∈ C,le x v=false):AH le [x] (C++D)=C++x::D:=by{
have e:AH le [x] (C++D)=C++AH le [x] D:=NP [] [x] C D (fun u hu=>by cases hu) (fun v hv u hu=>YG.1 hu ▸ h2 v hv)
rw [e]
congr 1
cases D with
| nil=>rfl
| cons d D=>rw [HM (h1 d (by simp))];rfl}
theorem BY (l:Q3 α):(AL le l).length=l.length:=(TZ le l).length_eq
theorem ZrO (S T:Q3 α):(AH le S T).Perm (S++T):=by{
induction S generalizing T with
| nil=>exact .refl _
| cons x S ih=>
  induction T with
  | nil=>rw [HJ,YB]
  | cons y T ih2=>
    cases h:le x y with
    | true=>
      rw [HM h]
      exact (ih (y::T)).cons x
    | false=>
      rw [IQ h]
      refine (ih2.cons y).trans ?_
      exact (List.perm_middle (a:=y) (l₁:=x::S) (l₂:=T)).symm}
theorem ZsZ (S T:Q3 α):(AH le S T).length=S.length+T.length:=by rw [(ZrO S T).length_eq,Yb]
end
end VL
section
open VL
theorem BZ {α:Type} {l A B:Q3 α} {x:α} {n:Int} (h:l=A++x::B) (hn:n=(A.length:Int)):atI l n=some x:=by{
subst h hn
unfold atI
rw [if_pos (by omega),DH,YP (Yn _),E4]
rfl}
theorem KO {α:Type} {l A B:Q3 α} {x y:α} {n:Int} (h:l=A++x::B) (hn:n=(A.length:Int)):AQ l n y=A++y::B:=by{
subst h hn
unfold AQ
rw [DH,MF _ _ (Yn _),E4]
rfl}
theorem DF {a b:Int} (h0:0<=a:=by omega) (h1:0<=b:=by omega) (ha:a<=10000000:=by omega) (hb:b<=10000000:=by omega):w64 (a+b)=a+b:=ZH
theorem D4 {a b:Int} (h0:0<=a:=by omega) (h1:0<=b:=by omega) (ha:a<=10000000:=by omega) (hb:b<=10000000:=by omega):w64 (a-b)=a-b:=ZH
theorem fF (P X Q Y S:Q3 Memb) (hXY:X.length=Y.length) (hL:(P++X++Q++Y++S).length<=1000000) (p1 p2 n:Int) (h1:p1=(P.length:Int)) (h2:p2=((P++X++Q).length:Int)) (hn:n=(X.length:Int)) :
  ZM (P++X++Q++Y++S) p1 p2 n=some (P++Y++Q++X++S):=by{
simp only [Yb] at hL h2
refine ZK ?_
unfold ZM
refine ZF (fun a=>∃ X1 X2 Y1 Y2:Q3 Memb,X=X1++X2/\Y=Y1++Y2/\X1.length=Y1.length/\a.1=(X1.length:Int)/\a.2=P++Y1++X2++Q++X1++Y2++S) (fun a=>X.length-a.1.toNat) ⟨[],X,[],Y,rfl,rfl,rfl,rfl,by simp⟩ (by dsimp only;omega) ?_
rintro ⟨i,l⟩ rec ⟨X1,X2,Y1,Y2,hX,hY,hxy,hi,hl⟩ ih
dsimp only at hi hl ih ⊢
have lX:X.length=X1.length+X2.length:=by rw [hX,Yb]
have lY:Y.length=Y1.length+Y2.length:=by rw [hY,Yb]
refine Zb (fun hlt=>?_) (fun hge=>?_)
obtain ⟨x,X2,rfl⟩:∃ x X',X2=x::X':=by
 cases X2 with
 | nil=>simp at lX;omega
 | cons x X'=>exact ⟨x,X',rfl⟩
obtain ⟨y,Y2,rfl⟩:∃ y Y',Y2=y::Y':=by
 cases Y2 with
 | nil=>simp at lY lX;omega
 | cons y Y'=>exact ⟨y,Y',rfl⟩
simp only [Yr] at lX lY
have e1:w64 (p1+i)=p1+i:=DF
have e2:w64 (p2+i)=p2+i:=DF
have d1:l=(P++Y1)++x::(X2++Q++X1++(y::Y2)++S):=by rw [hl];simp
have d2:l=(P++Y1++(x::X2)++Q++X1)++y::(Y2++S):=by rw [hl];simp
have n1:p1+i=((P++Y1).length:Int):=by simp only [Yb];omega
have n2:p2+i=((P++Y1++(x::X2)++Q++X1).length:Int):=by simp only [Yb,Yr];omega
have d3:AQ l (p1+i) y=(P++Y1++(y::X2)++Q++X1)++y::(Y2++S):=by rw [KO d1 n1];simp
have n3:p2+i=((P++Y1++(y::X2)++Q++X1).length:Int):=by rw [n2];simp
rw [e1,e2,DF]
refine Za (BZ d2 n2) (Za (BZ d1 n1) (Za (BZ d1 n1) (Za (BZ d3 n3) ?_)))
refine ih _ ⟨X1 ++ [x],X2,Y1 ++ [y],Y2,by simp [hX],by simp [hY],by simp [hxy],by simp;omega,?_⟩ (by dsimp only;omega)
dsimp only
rw [KO d3 n3]
simp
have z1:X2 = []:=Yl (by omega)
have z2:Y2 = []:=Yl (by omega)
subst z1 z2
refine Zd ?_
rw [hl,hX,hY]
simp}
theorem ZwN (P U V S:Q3 Memb) (hU:0<U.length) (hV:0<V.length) (hL:(P++U++V++S).length<=1000000) (a m b:Int) (ha:a=(P.length:Int)) (hm:m=((P++U).length:Int)) (hb:b=((P++U++V).length:Int)) :
  ZZ (P++U++V++S) a m b=some (P++V++U++S):=by{
simp only [Yb] at hL hm hb
refine ZK ?_
unfold ZZ
have e1:w64 (m-a)=(U.length:Int):=by rw [D4];omega
have e2:w64 (b-m)=(V.length:Int):=by rw [D4];omega
rw [e1,e2]
refine ZF (fun x=>∃ A U1 V1 B:Q3 Memb,0<U1.length/\0<V1.length/\x.1=(U1.length:Int)/\x.2.1=(V1.length:Int)/\x.2.2=P++A++U1++V1++B++S/\A++V1++U1++B=V++U/\P.length+A.length+U1.length=P.length+U.length) (fun x=>x.1.toNat+x.2.1.toNat)
 ⟨[],U,V,[],hU,hV,rfl,rfl,by simp,by simp,by simp⟩ (by dsimp only;omega) ?_
rintro ⟨i,j,l⟩ rec ⟨A,U1,V1,B,hU1,hV1,hi,hj,hl,hfin,hpos⟩ ih
dsimp only at hi hj hl ih ⊢
have htot:A.length+V1.length+U1.length+B.length=V.length+U.length:=by
 have:=CC List.length hfin
 simpa only [Yb] using this
have e3:w64 (m-i)=m-i:=D4
refine CK (fun hne=>?_) (fun heq=>?_)
refine Zb (fun hlt=>?_) (fun hge=>?_)

have s1:U1=U1.take V1.length++U1.drop V1.length:=(YQ _ _).symm
have l1:(U1.take V1.length).length=V1.length:=by rw [YE];omega
have l2:(U1.drop V1.length).length=U1.length-V1.length:=Yx
generalize hUa:U1.take V1.length=Ua at s1 l1
generalize hUb:U1.drop V1.length=Ub at s1 l2
have hd:l=(P++A)++Ua++Ub++V1++(B++S):=by rw [hl,s1];simp
have hsw:=fF (P++A) Ua Ub V1 (B++S) l1 (by simp only [Yb];omega) (m-i) m j (by simp only [Yb];omega) (by simp only [Yb];omega) (by omega)
rw [e3,D4,hd]
refine Za hsw ?_
refine ih _ ⟨A++V1,Ub,Ua,B,by omega,by omega,by dsimp only;omega,by dsimp only;omega,?_,?_,?_⟩ (by dsimp only;omega)
dsimp only
simp
rw [<- hfin,s1]
simp
rw [Yb]
omega
have s1:V1=V1.take (V1.length-U1.length)++V1.drop (V1.length-U1.length):=(YQ _ _).symm
have l1:(V1.take (V1.length-U1.length)).length=V1.length-U1.length:=by rw [YE];omega
have l2:(V1.drop (V1.length-U1.length)).length=U1.length:=by rw [Yx];omega
generalize hUa:V1.take (V1.length-U1.length)=Va at s1 l1
generalize hUb:V1.drop (V1.length-U1.length)=Vb at s1 l2
have hd:l=(P++A)++U1++Va++Vb++(B++S):=by rw [hl,s1];simp
have e4:w64 (w64 (m+j)-i)=m+j-i:=by rw [DF,D4]
have hsw:=fF (P++A) U1 Va Vb (B++S) (by omega) (by simp only [Yb];omega) (m-i) (m+j-i) i (by simp only [Yb];omega) (by simp only [Yb];omega) (by omega)
rw [e3,e4,D4,hd]
refine Za hsw ?_
refine ih _ ⟨A,Vb,Va,U1++B,by omega,by omega,by dsimp only;omega,by dsimp only;omega,?_,?_,?_⟩ (by dsimp only;omega)
dsimp only
simp
rw [<- hfin,s1]
simp
omega
have hd:l=(P++A)++U1 ++ []++V1++(B++S):=by rw [hl];simp
have hsw:=fF (P++A) U1 [] V1 (B++S) (by omega) (by simp only [Yb,DI];omega) (m-i) m i (by simp only [Yb];omega) (by simp only [Yb,DI];omega) (by omega)
rw [e3,hd]
refine Za hsw (Zd ?_)
have:(P++A)++V1 ++ []++U1++(B++S)=P++(A++V1++U1++B)++S:=by simp
rw [this,hfin]
simp}
end
section
open Go.RowKit
open Go.Sort (grow grow_grow alloc_eq_grow)
def Gw (w w':World):Prop:=∃ (q:Nat) (os:Array Obj),w'=grow (w.drewN q) os
theorem Gw.refl (w:World):Gw w w:=⟨0,#[],by simp [grow,World.drewN]⟩
theorem Gw.alloc {w w':World} (h:Gw w w') (o:Obj):Gw w (w'.alloc o):=by
 obtain ⟨q,os,rfl⟩:=h
 exact ⟨q,os ++ #[o],by rw [alloc_eq_grow,grow_grow]⟩
theorem Gw.drew {w w':World} (h:Gw w w'):Gw w w'.drew:=by
 obtain ⟨q,os,rfl⟩:=h
 exact ⟨q+1,os,rfl⟩
theorem Gw.trans {a b c:World} (h:Gw a b) (k:Gw b c):Gw a c:=by{
obtain ⟨q,os,rfl⟩:=h
obtain ⟨q2,os2,rfl⟩:=k
refine ⟨q+q2,os++os2,?_⟩
simp [grow,World.drewN,Array.append_assoc,H0]}
theorem Gw.below {w w':World} (h:Gw w w'):Below w.heap.size w w':=by{
obtain ⟨q,os,rfl⟩:=h
refine ⟨rfl,rfl,rfl,by simp [grow,World.drewN],fun k hk=>?_⟩
show (w.heap++os)[k]? = w.heap[k]?
rw [Array.getElem?_append_left hk]}
theorem Zlw (a b:Title) (w:World):Calls Q7 36 #[.agg #[.int .i64 a.space,.string a.name],.agg #[.int .i64 b.space,.string b.name]] w fun e w'=>e = .returned (.int .i64 (Title.cmp a b))/\Gw w w':=by{
go_enter Tryz.func36,Tryz.ntmps36
go_wp2
generalize hw1:(w.alloc _).alloc _=w1
have c0:w1.cell? ⟨w.heap.size,0,none⟩=some (.int .i64 a.space):=by subst hw1;go_simp
have c1:w1.cell? ⟨w.heap.size,1,none⟩=some (.string a.name):=by subst hw1;go_simp
have c2:w1.cell? ⟨w.heap.size+1,0,none⟩=some (.int .i64 b.space):=by subst hw1;go_simp
have c3:w1.cell? ⟨w.heap.size+1,1,none⟩=some (.string b.name):=by subst hw1;go_simp
have hb:Gw w w1:=by subst hw1;exact ((Gw.refl _).alloc _).alloc _
have HB:=Lib.hid hb
clear hw1 hb
go_region_held3 (fun W=>W.cell? ⟨w.heap.size,0,none⟩=some (.int .i64 a.space)/\W.cell? ⟨w.heap.size,1,none⟩=some (.string a.name)/\W.cell? ⟨w.heap.size+1,0,none⟩=some (.int .i64 b.space)/\W.cell? ⟨w.heap.size+1,1,none⟩=some (.string b.name)) (first | exact ⟨c0,c1,c2,c3⟩ | (refine ⟨?_,?_,?_,?_⟩<;>first | exact re1 (((Below.refl _ _).alloc (Yn _) _).drew) (DK (by assumption)) (by assumption))) (first | (go_at_call 35;refine (kN _ _ _).mono ?_;rintro e w' ⟨rfl,rfl⟩) | (go_at_call 71;refine (kO _ _ _).mono ?_;rintro e w' ⟨rfl,rfl⟩)  | (go_at_call 34;refine (kP _ _ _ [Lib.compareInt a.space b.space,Lib.compareBytes a.name.data.toList b.name.data.toList] _ (by exact SlR.built (fun x:Int=>[.int .i64 x]) (fun _ _ _=>rfl) _ _ rfl (by decide) rfl)).mono ?_;rintro e w' ⟨rfl,rfl⟩))
go_wp2
go_ret
exact ⟨rfl,(HB.out.alloc _).drew⟩}
def D5 (a b:Link):Int:=orI [Lib.compareInt a.kind b.kind,Title.cmp a.title b.title]
def NQ (x:Link):Q3 Value:=[.int .i64 x.kind,.int .i64 x.title.space,.string x.title.name]
theorem Zmj (a b:Link) (w:World):Calls Q7 33 #[.agg (NQ a).toArray,.agg (NQ b).toArray] w fun e w'=>e = .returned (.int .i64 (D5 a b))/\Gw w w':=by{
unfold NQ
go_enter Tryz.func33,Tryz.ntmps33
go_wp2
generalize hw1:(w.alloc _).alloc _=w1
have c0:w1.cell? ⟨w.heap.size,0,none⟩=some (.int .i64 a.kind):=by subst hw1;go_simp
have c1:w1.cell? ⟨w.heap.size,1,none⟩=some (.int .i64 a.title.space):=by subst hw1;go_simp
have c2:w1.cell? ⟨w.heap.size,2,none⟩=some (.string a.title.name):=by subst hw1;go_simp
have c3:w1.cell? ⟨w.heap.size+1,0,none⟩=some (.int .i64 b.kind):=by subst hw1;go_simp
have c4:w1.cell? ⟨w.heap.size+1,1,none⟩=some (.int .i64 b.title.space):=by subst hw1;go_simp
have c5:w1.cell? ⟨w.heap.size+1,2,none⟩=some (.string b.title.name):=by subst hw1;go_simp
have hb:Gw w w1:=by subst hw1;exact ((Gw.refl _).alloc _).alloc _
have HB:=Lib.hid hb
have HF:Hid (∀ W,Gw w1 W->W.cell? ⟨w.heap.size,0,none⟩=some (.int .i64 a.kind)/\W.cell? ⟨w.heap.size,1,none⟩=some (.int .i64 a.title.space)/\W.cell? ⟨w.heap.size,2,none⟩=some (.string a.title.name)/\W.cell? ⟨w.heap.size+1,0,none⟩=some (.int .i64 b.kind)/\W.cell? ⟨w.heap.size+1,1,none⟩=some (.int .i64 b.title.space)/\W.cell? ⟨w.heap.size+1,2,none⟩=some (.string b.title.name)):=Lib.hid fun W hW=>⟨re1 hW.below (DK c0) c0,re1 hW.below (DK c1) c1,re1 hW.below (DK c2) c2,re1 hW.below (DK c3) c3,re1 hW.below (DK c4) c4,re1 hW.below (DK c5) c5⟩
clear hw1 hb
go_region_held3 (fun W=>Gw w1 W/\W.cell? ⟨w.heap.size,0,none⟩=some (.int .i64 a.kind)/\W.cell? ⟨w.heap.size,1,none⟩=some (.int .i64 a.title.space)/\W.cell? ⟨w.heap.size,2,none⟩=some (.string a.title.name)/\W.cell? ⟨w.heap.size+1,0,none⟩=some (.int .i64 b.kind)/\W.cell? ⟨w.heap.size+1,1,none⟩=some (.int .i64 b.title.space)/\W.cell? ⟨w.heap.size+1,2,none⟩=some (.string b.title.name)) (refine ⟨?_,HF.out _ ?_⟩<;>(repeat' first | assumption | exact Gw.refl _ | apply Gw.drew | apply Gw.alloc)) (first | (go_at_call 35;refine (kN _ _ _).mono ?_;rintro e w' ⟨rfl,rfl⟩) | (go_at_call 36;refine (Zlw a.title b.title _).mono ?_;rintro e w2 ⟨rfl,hb2⟩;have hb3:Gw w1 w2:=Gw.trans (by (repeat' first | assumption | exact Gw.refl _ | apply Gw.drew | apply Gw.alloc)) hb2) | (go_at_call 34;refine (kP _ _ _ [Lib.compareInt a.kind b.kind,Title.cmp a.title b.title] _ (by exact SlR.built (fun x:Int=>[.int .i64 x]) (fun _ _ _=>rfl) _ _ rfl (by decide) rfl)).mono ?_;rintro e w' ⟨rfl,rfl⟩))
go_wp2
go_ret
exact ⟨rfl,HB.out.trans (by (repeat' first | assumption | exact Gw.refl _ | apply Gw.drew | apply Gw.alloc))⟩}
end
end Go.Proofs.YtmgfammllddkhaaGreatDoor
namespace Go.Proofs
open Go.Shelf
def Tryz.sortLink_ren:Go.Shelf.Ren:=⟨fun | 6=>32 | 15=>69 | 14=>68 | 28=>127 | 29=>128 | 20=>119 | 21=>120 | 22=>121 | 23=>122 | 24=>123 | 25=>124 | 26=>125 | 27=>126 | 46=>178 | 47=>179 | 48=>180 | 49=>181 | 50=>182 | 57=>212 | n=>n,fun | 22=>23 | 24=>42 | 25=>68 | 3=>3 | 39=>114 | 0=>0 | 53=>160 | 55=>162 | 4=>4 | 46=>153 | 45=>152 | 50=>157 | 5=>5 | 9=>9 | 66=>191 | 70=>195 | 76=>214 | 77=>139 | n=>n,fun | n=>n⟩
theorem Tryz.sortLink:Go.Proofs.SlLaysF0.n6 Tryz.prog Tryz.sortLink_ren:={
 mixed:=by kernel_rfl
 f6:=⟨Tryz.f32.name,by decide,Tryz.func32.trans (congrArg some (by kernel_rfl))⟩
 f14:=⟨Tryz.f68.name,by decide,Tryz.func68.trans (congrArg some (by kernel_rfl))⟩
 f15:=Tryz.func69.trans (congrArg some (by kernel_rfl))
 f20:=⟨Tryz.f119.name,by decide,Tryz.func119.trans (congrArg some (by kernel_rfl))⟩
 f21:=⟨Tryz.f120.name,by decide,Tryz.func120.trans (congrArg some (by kernel_rfl))⟩
 f22:=⟨Tryz.f121.name,by decide,Tryz.func121.trans (congrArg some (by kernel_rfl))⟩
 f23:=⟨Tryz.f122.name,by decide,Tryz.func122.trans (congrArg some (by kernel_rfl))⟩
 f24:=⟨Tryz.f123.name,by decide,Tryz.func123.trans (congrArg some (by kernel_rfl))⟩
 f25:=⟨Tryz.f124.name,by decide,Tryz.func124.trans (congrArg some (by kernel_rfl))⟩
 f26:=⟨Tryz.f125.name,by decide,Tryz.func125.trans (congrArg some (by kernel_rfl))⟩
 f27:=⟨Tryz.f126.name,by decide,Tryz.func126.trans (congrArg some (by kernel_rfl))⟩
 f28:=Tryz.func127.trans (congrArg some (by kernel_rfl))
 f29:=Tryz.func128.trans (congrArg some (by kernel_rfl))
 f46:=⟨Tryz.f178.name,by decide,Tryz.func178.trans (congrArg some (by kernel_rfl))⟩
 f47:=Tryz.func179.trans (congrArg some (by kernel_rfl))
 f48:=Tryz.func180.trans (congrArg some (by kernel_rfl))
 f49:=⟨Tryz.f181.name,by decide,Tryz.func181.trans (congrArg some (by kernel_rfl))⟩
 f50:=⟨Tryz.f182.name,by decide,Tryz.func182.trans (congrArg some (by kernel_rfl))⟩
 f57:=⟨Tryz.f212.name,by decide,Tryz.func212.trans (congrArg some (by kernel_rfl))⟩
 t0:=Tryz.underlying0
 a0:=Tryz.isAgg0
 z0:=Tryz.sizeOf0
 v0:=Tryz.zeroValue0
 t3:=Tryz.underlying3
 a3:=Tryz.isAgg3
 z3:=Tryz.sizeOf3
 v3:=Tryz.zeroValue3
 t4:=Tryz.underlying4
 a4:=Tryz.isAgg4
 z4:=Tryz.sizeOf4
 v4:=Tryz.zeroValue4
 t5:=Tryz.underlying5
 a5:=Tryz.isAgg5
 z5:=Tryz.sizeOf5
 v5:=Tryz.zeroValue5
 t9:=Tryz.underlying9
 a9:=Tryz.isAgg9
 z9:=Tryz.sizeOf9
 v9:=Tryz.zeroValue9
 t22:=Tryz.underlying23
 a22:=Tryz.isAgg23
 z22:=Tryz.sizeOf23
 v22:=Tryz.zeroValue23
 t25:=Tryz.underlying68
 a25:=Tryz.isAgg68
 z25:=Tryz.sizeOf68
 v25:=Tryz.zeroValue68
 t39:=Tryz.underlying114
 a39:=Tryz.isAgg114
 z39:=Tryz.sizeOf114
 v39:=Tryz.zeroValue114
 t45:=Tryz.underlying152
 a45:=Tryz.isAgg152
 z45:=Tryz.sizeOf152
 v45:=Tryz.zeroValue152
 t46:=Tryz.underlying153
 a46:=Tryz.isAgg153
 z46:=Tryz.sizeOf153
 v46:=Tryz.zeroValue153
 t50:=Tryz.underlying157
 a50:=Tryz.isAgg157
 z50:=Tryz.sizeOf157
 v50:=Tryz.zeroValue157
 t53:=Tryz.underlying160
 a53:=Tryz.isAgg160
 z53:=Tryz.sizeOf160
 v53:=Tryz.zeroValue160
 t55:=Tryz.underlying162
 a55:=Tryz.isAgg162
 z55:=Tryz.sizeOf162
 v55:=Tryz.zeroValue162
 t66:=Tryz.underlying191
 a66:=Tryz.isAgg191
 z66:=Tryz.sizeOf191
 v66:=Tryz.zeroValue191
 t70:=Tryz.underlying195
 a70:=Tryz.isAgg195
 z70:=Tryz.sizeOf195
 v70:=Tryz.zeroValue195
 t76:=Tryz.underlying214
 a76:=Tryz.isAgg214
 z76:=Tryz.sizeOf214
 v76:=Tryz.zeroValue214
 t77:=Tryz.underlying139
 a77:=Tryz.isAgg139
 z77:=Tryz.sizeOf139
 v77:=Tryz.zeroValue139 }
end Go.Proofs
namespace Go.Proofs.YtmgfammllddkhaaGreatDoor
section
open VL Go.RowKit
open Go.Sort
theorem XM (a b:Int):orI [a,b]=IP a b:=by{
unfold orI IP
split
unfold orI
split
rename_i h;rw [h];rfl
rfl
rfl}
theorem titleCmp_laws:CmpLaws Title.cmp:=by{
have h:=cmpInt_laws.lex Zp2 (f:=Title.space) (g:=Title.name) (fun x y h1 h2=>by cases x;cases y;simp_all)
have e:Title.cmp=fun x y=>IP (Lib.compareInt x.space y.space) (Lib.compareBytes x.name.data.toList y.name.data.toList):=by
 funext x y
 exact XM _ _
rw [e]
exact h}
theorem linkCmp_laws:CmpLaws D5:=by{
have h:=cmpInt_laws.lex titleCmp_laws (f:=Link.kind) (g:=Link.title) (fun x y h1 h2=>by cases x;cases y;simp_all)
have e:D5=fun x y=>IP (Lib.compareInt x.kind y.kind) (Title.cmp x.title y.title):=by
 funext x y
 exact XM _ _
rw [e]
exact h}
instance:Inhabited Link:=⟨⟨0,⟨0,⟨#[]⟩⟩⟩⟩
def U4 (p0:Q3 Link):Q2 (Q3 Link):=if p0.length<4611686018427387904 then some (AL (leC D5) p0) else none
theorem ZgS (p0:Q3 Link) (r:Q3 Link) (h:U4 p0=some r):ContractR Q7 32 [.fn 33 []] 42 3 (List.map Link.cs p0) (.tup []) (List.map Link.cs r):=by{
unfold U4 at h
split at h
rename_i hl
cases h
have hk:∀ x,(NQ x).length=3:=fun _=>rfl
have eg:∀ args w,(callFunc 33 args).run Q7 w = .ok (.enter 33 args) w:=enters_of Tryz.func33 (by kernel_rfl) rfl
refine Zsf (enc:=NQ) (cf:=D5) (by kernel_rfl) (fun _=>rfl) hk (fun _=>rfl) (fun x p hp=>?_) linkCmp_laws.swo linkCmp_laws.tot (fun cap W A=>AnyF.slices_SortFunc_none { Tryz.sortLink with } A cap _ W) (fun blk off cap d w hH hb hs=>?_) p0 hl
simp [Link.cs] at hp
rcases hp with rfl | rfl | rfl<;>rfl
exact AnyQ.slices_SortFunc_total Tryz.sortLink 3 Tryz.isAgg42 Tryz.sizeOf42 NQ hk (fun x v hv=>by simp [NQ] at hv;rcases hv with rfl | rfl | rfl<;>rfl) D5 linkCmp_laws.swo 33 #[] blk off cap d w eg (fun m os dk _ x y=>(Zmj x y _).mono fun e w' h=>⟨h.1,h.2⟩) hH hb hs linkCmp_laws.tot
cases h}
end
section
open VL
open Go.Sort
def HT (a b:Memb):Int:=Title.cmp a.category b.category
theorem pX:SWO (ltOf HT) where
 irrefl x:=titleCmp_laws.swo.irrefl x.category
 trans x y z:=titleCmp_laws.swo.trans x.category y.category z.category
 ntrans x y z:=titleCmp_laws.swo.ntrans x.category y.category z.category
def leM:Memb->Memb->Bool:=leC HT
theorem GB:∀ a b c,leM a b=true->leM b c=true->leM a c=true:=eZ pX
theorem QS:∀ a b,(leM a b||leM b a)=true:=fA pX
theorem ZwP (a b:Int):cmp_Compare_int a b=some (Lib.compareInt a b):=by{
refine ZK ?_
unfold cmp_Compare_int TS Lib.compareInt
refine Za rfl (Za rfl ?_)
rw [Yh (rfl:a=a),Yh (rfl:b=b)]
refine Zj nofun fun _=>Zj nofun fun _=>?_
refine Zb (fun h=>?_) fun h=>?_
rw [if_pos h];exact Zd rfl
rw [if_neg h]
refine Zb (fun h2=>?_) fun h2=>?_
rw [if_pos h2];exact Zd rfl
rw [if_neg h2];exact Zd rfl}
theorem ZAG (a b:Int):QK [a,b]=some (orI [a,b]):=by{
rw [XM]
unfold IP
refine ZK ?_
unfold QK
refine H9 (n:=4611686018427387903) rfl (Zb (fun _=>?_) fun h=>absurd (show (0:Int)<2 by decide) h)
refine Za (v:=a) rfl (CK (fun h=>?_) fun h=>?_)
rw [if_neg h];exact Zd rfl
rw [if_pos h]
refine H9 (n:=4611686018427387902) rfl (Zb (fun _=>?_) fun h=>absurd (show (1:Int)<2 by decide) h)
refine Za (v:=b) rfl (CK (fun h=>Zd rfl) fun h=>?_)
rw [h]
exact H9 (n:=4611686018427387901) rfl (Zb (fun h=>absurd h (show ¬ (2:Int)<2 by decide)) fun _=>Zd rfl)}
theorem Zmr (a b:Title):TT a b=some (Title.cmp a b):=by{
unfold TT strings_Compare
rw [ZwP]
show (QK [Lib.compareInt a.space b.space,Lib.compareBytes a.name.data.toList b.name.data.toList]).bind _=_
rw [ZAG]
rfl}
theorem XN (a b:Memb):M9 a b=some (HT a b):=by
 unfold M9
 rw [Zmr]
 rfl
theorem XO {x y:Memb} (h:¬ HT x y<0):leM y x=true:=by
 unfold leM leC ltOf
 rw [Yf h]
 rfl
theorem XP {x y:Memb} (h:HT x y<0):leM y x=false:=by
 unfold leM leC ltOf
 rw [Yh h]
 rfl
theorem ZyJ {l:Q3 Memb} {z y:Memb} (h:(l ++ [z]).Pairwise (fun a b=>leM a b=true)) (hz:leM z y=true):∀ u ∈ l ++ [z],leM u y=true:=fun u hu=>by
 rcases YD.1 hu with hu | hu
 exact GB _ _ _ ((I3.1 h).2.2 u hu z (by simp)) hz
 rw [YG.1 hu]
 exact hz
theorem pY (P U S:Q3 Memb) (hL:(P++U++S).length<=1000000) (a b:Int) (ha:a=(P.length:Int)) (hb:b=((P++U).length:Int)) :
  ZN (P++U++S) a b=some (P++AL leM U++S):=by{
simp only [Yb] at hL hb
refine ZK ?_
unfold ZN
have e0:w64 (a+1)=a+1:=DF
rw [e0]
cases U with
| nil=>
  simp only [DI] at hb
  refine H9 (n:=4611686018427387903) rfl (Zb (fun h=>by omega) fun _=>Zd rfl)
| cons u U=>
  simp only [Yr] at hL hb
  refine ZF (fun x=>∃ U1 U2:Q3 Memb,u::U=U1++U2/\0<U1.length/\x.1=(P.length:Int)+(U1.length:Int)/\x.2=P++AL leM U1++U2++S) (fun x=>(u::U).length+P.length-x.1.toNat) ⟨[u],U,rfl,by simp,by simp [ha],by simp [AL,BX]⟩ (by dsimp only;simp only [List.length_cons];omega) ?_
  rintro ⟨i,l⟩ rec ⟨U1,U2,hU,hU1,hi,hl⟩ ih
  dsimp only at hi hl ih ⊢
  have lU:U.length+1=U1.length+U2.length:=by have:=CC List.length hU;simpa only [Yr,Yb] using this
  have lI:(AL leM U1).length=U1.length:=BY U1
  refine Zb (fun hlt=>?_) (fun hge=>?_)
  obtain ⟨y,U2,rfl⟩:∃ y U',U2=y::U':=by
   cases U2 with
   | nil=>simp only [DI] at lU;omega
   | cons y U'=>exact ⟨y,U',rfl⟩
  simp only [Yr] at lU
  have hsorted:=QO GB QS U1
  refine ZF (fun x=>∃ A B:Q3 Memb,AL leM U1=A++B/\(∀ v ∈ B,leM v y=false)/\x.1=(P.length:Int)+(A.length:Int)/\x.2=P++A++y::B++U2++S) (fun x=>x.1.toNat) ⟨AL leM U1,[],by simp,by simp,by rw [lI];exact hi,by rw [hl];simp⟩ (by dsimp only;omega) ?_
  rintro ⟨j,l2⟩ rec2 ⟨A,B,hAB,hB,hj,hl2⟩ ih2
  dsimp only at hj hl2 ih2 ⊢
  have lAB:A.length+B.length=U1.length:=by have:=CC List.length hAB;rw [lI,Yb] at this;exact this.symm
  have fin:(∀ v ∈ A,leM v y=true)->Tot (rec (w64 (i+1),l2)) (fun r=>r=P++AL leM (u::U)++S):=fun hA=>by
   rw [DF]
   refine ih _ ⟨U1 ++ [y],U2,by rw [hU];simp,by simp,by simp;omega,?_⟩ (by dsimp only;simp only [List.length_cons];omega)
   dsimp only
   rw [ZrN GB QS,hAB,pW hA hB,hl2]
   simp
  refine Zt (fun q=>((∀ v ∈ A,leM v y=true)->Tot (q false) (fun r=>r=P++AL leM (u::U)++S))/\(∀ A' z,A=A' ++ [z]->leM z y=false->Tot (q true) (fun r=>r=P++AL leM (u::U)++S))) ⟨fun hA=>?_,fun A' z hAz hz=>?_⟩ fun q hq=>?_
  exact Zj nofun fun _=>fin hA
  refine Zj (fun _=>?_) nofun
  subst hAz
  simp only [Yb,YC] at hj lAB
  have e1:w64 (j-1)=j-1:=D4
  have d1:l2=(P++A')++z::(y::B++U2++S):=by rw [hl2];simp
  have d2:l2=(P++A' ++ [z])++y::(B++U2++S):=by rw [hl2];simp
  have n1:j-1=((P++A').length:Int):=by simp only [Yb];omega
  have n2:j=((P++A' ++ [z]).length:Int):=by simp only [Yb,YC];omega
  have d3:AQ l2 j z=(P++A')++z::(z::(B++U2++S)):=by rw [KO d2 n2];simp
  rw [e1]
  refine Za (BZ d1 n1) (Za (BZ d2 n2) (Za (BZ d2 n2) (Za (BZ d3 n1) ?_)))
  refine ih2 _ ⟨A',z::B,by rw [hAB];simp,fun v hv=>?_,by dsimp only;omega,?_⟩ (by dsimp only;omega)
  rcases Ys.1 hv with rfl | hv
  exact hz
  exact hB v hv
  dsimp only
  rw [KO d3 n1]
  simp
  refine Zb (fun hgt=>?_) (fun hle=>?_)
  have hA0:A≠[]:=fun h=>by rw [h] at hj;simp only [DI] at hj;omega
  obtain ⟨A',z,hAz⟩:∃ A' z,A=A' ++ [z]:=⟨A.dropLast,A.getLast hA0,(Z3 hA0).symm⟩
  have lA:A.length=A'.length+1:=by rw [hAz];simp
  have e1:w64 (j-1)=j-1:=D4
  have d1:l2=(P++A')++z::(y::B++U2++S):=by rw [hl2,hAz];simp
  have d2:l2=(P++A' ++ [z])++y::(B++U2++S):=by rw [hl2,hAz];simp
  have n1:j-1=((P++A').length:Int):=by simp only [Yb];omega
  have n2:j=((P++A' ++ [z]).length:Int):=by simp only [Yb,YC];omega
  rw [e1]
  refine Za (BZ d2 n2) (Za (BZ d1 n1) (Za (XN y z) ?_))
  by_cases hc:HT y z<0
  rw [Yh hc]
  exact hq.2 A' z hAz (XP hc)
  rw [Yf hc]
  refine hq.1 ?_
  rw [hAB,hAz] at hsorted
  rw [hAz]
  exact ZyJ (I3.1 hsorted).1 (XO hc)
  refine hq.1 fun v hv=>?_
  have:A = []:=Yl (by omega)
  rw [this] at hv
  cases hv
  have z:U2 = []:=Yl (by omega)
  subst z
  rw [YB] at hU
  refine Zd ?_
  rw [hl,hU,YB]}
end
section
open VL
def XQ {α:Type} (w:Nat) (bf:α->α->Q2 Bool) (eq:α->α->Bool) (p0:Q3 α) (p1:α):Q2 (Q3 α):=A4 A9 (fun f7 (x22:Int)=>letk (fun (x30:Bool)=>if x30 then f7 (w64 (x22+1)) else letk (fun (x32:Bool)=>if x32 then (some p0:Q2 (Q3 α)) else (CJ p0 0 x22).bind fun l33=>(AA w [] l33).bind fun l34=>(AA w l34 [p1]).bind fun l35=>(CJ p0 x22 (p0.length:Int)).bind fun l36=>(AA w l35 l36).bind fun l37=>(some l37:Q2 (Q3 α))) fun k9=>if (decide (x22<(p0.length:Int))) then (atI p0 x22).bind fun e38=>k9 (eq e38 p1) else k9 false) fun k8=>if (decide (x22<(p0.length:Int))) then (atI p0 x22).bind fun e39=>(bf e39 p1).bind fun r40=>k8 r40 else k8 false) 0
theorem Ztw:GT=XQ 32 QL (fun e x=>decide (e=x)):=rfl
theorem ZpU:TY=XQ 40 (fun e x=>some (decide (Title.cmp e.category x.category<0))) (fun e x=>decide (e.category=x.category)):=rfl
theorem fG {α:Type} {A B:Q3 α} {y:α} {n:Nat} (h:A.length=n):atI (A++y::B) (n:Int)=some y:=by
 unfold atI
 rw [if_pos (by omega),DH,YP (by omega),h,E4]
 rfl
theorem pZ {α κ:Type} [DecidableEq κ] {c:κ->κ->Int} {key:α->κ} (w:Nat) {bf:α->α->Q2 Bool} {eq:α->α->Bool} (hb:∀ a b,bf a b=some (decide (c (key a) (key b)<0))) (he:∀ a b,eq a b=decide (key a=key b)) (hw:w<=80) (l:Q3 α) (x:α) (h:l.length<=1000000):XQ w bf eq l x=some (DE c key l x):=by{
obtain ⟨A,B,rfl,hA,_,hcase⟩:=XL c key l x
rw [Yb] at h
refine ZK ?_
unfold XQ
refine ZF (fun i=>∃ n:Nat,i=(n:Int)/\n<=A.length) (fun i=>A.length-i.toNat) ⟨0,rfl,YJ _⟩ (by omega) ?_
rintro i rec ⟨n,rfl,hn⟩ ih
have hlen:((A++B).length:Int)=(A.length:Int)+(B.length:Int):=by rw [Yb];omega
refine Zt (fun q=>(n<A.length->Tot (q true) fun z=>z=DE c key (A++B) x)/\(n=A.length->Tot (q false) fun z=>z=DE c key (A++B) x)) ⟨fun hlt=>Zj (fun _=>?_) nofun,fun hl=>Zj nofun fun _=>?_⟩ fun k8 hk8=>?_
rw [ZH]
exact ih _ ⟨n+1,by omega,hlt⟩ (by omega)
subst hl
refine Zt (fun q=>((∃ y b,B=y::b/\key y=key x)->Tot (q true) fun z=>z=DE c key (A++B) x)/\((∀ y b,B=y::b->¬ key y=key x)->Tot (q false) fun z=>z=DE c key (A++B) x)) ⟨fun ⟨y,b,h1,h2⟩=>Zj (fun _=>Zd ?_) nofun,fun hno=>Zj nofun fun _=>?_⟩ fun k9 hk9=>?_
rcases hcase with ⟨rfl,_⟩ | ⟨y',b',rfl,_,⟨_,e⟩ | ⟨hk,_⟩⟩
cases h1
exact e.symm
injection h1 with h3 h4
subst h3
exact absurd h2 hk
have e:A++x::B=DE c key (A++B) x:=by
 rcases hcase with ⟨rfl,e⟩ | ⟨y',b',rfl,_,⟨hk,_⟩ | ⟨_,e⟩⟩
 rw [e,YB]
 exact absurd hk (hno y' b' rfl)
 exact e.symm
have s1:CJ (A++B) 0 (A.length:Int)=some A:=by
 unfold CJ
 rw [if_pos ⟨by omega,by omega,by omega⟩]
 simp
have s2:CJ (A++B) (A.length:Int) ((A++B).length:Int)=some B:=by
 unfold CJ
 rw [if_pos ⟨by omega,by omega,by omega⟩,DH,DH,List.drop_left,GW (by rw [Yb];omega)]
have cap:∀ u v:Q3 α,u.length+v.length<=1000001->AA w u v=some (u++v):=fun u v h=>J5 1000001 h (YX (a6 _ hw) (by decide)) (by decide)
refine Za s1 (Za (cap _ _ (by simp;omega)) (Za (cap _ _ (by simp;omega)) (Za s2 (Za (cap _ _ (by simp;omega)) (Zd ?_)))))
rw [<- e]
simp
cases B with
| nil=>exact Zb (fun h=>absurd h (by simp)) fun _=>hk9.2 fun y b h=>by cases h
| cons y b=>
  refine Zb (fun _=>Za (fG rfl) ?_) fun h=>absurd (by rw [hlen,Yr];omega) h
  rw [he]
  by_cases hk:key y=key x
  rw [Yh hk]
  exact hk9.1 ⟨y,b,rfl,hk⟩
  rw [Yf hk]
  refine hk9.2 fun y' b' h=>?_
  injection h with h1 h2
  rw [<- h1]
  exact hk
by_cases hlt:n<A.length
obtain ⟨A1,y,A2,e,h1⟩:∃ A1 y A2,A=A1++y::A2/\A1.length=n:=⟨A.take n,A[n],A.drop (n+1),by rw [<- Yt hlt,YQ],by rw [YE];omega⟩
refine Zb (fun _=>Za (v:=y) (by rw [e,YM];exact fG h1) (Za (hb y x) ?_)) fun h=>absurd (by rw [hlen];omega) h
rw [Yh (hA y (by rw [e];simp))]
exact hk8.1 hlt
have hn2:n=A.length:=by omega
cases B with
| nil=>exact Zb (fun h=>absurd h (by rw [hlen];simp;omega)) fun _=>hk8.2 hn2
| cons y b=>
  refine Zb (fun _=>Za (fG hn2.symm) (Za (hb y x) ?_)) fun h=>absurd (by rw [hlen,Yr];omega) h
  rcases hcase with ⟨h,_⟩ | ⟨y',b',h,hy,_⟩
  cases h
  injection h with h3 h4
  subst h3
  rw [Yf hy]
  exact hk8.2 hn2}
abbrev B8:Q3 Link->Link->Q3 Link:=DE D5 fun x=>x
abbrev JF:Q3 Memb->Memb->Q3 Memb:=DE Title.cmp Memb.category
theorem Zv2 (a b:Link):QL a b=some (decide (D5 a b<0)):=by{
refine ZK ?_
have e:D5 a b=IP (Lib.compareInt a.kind b.kind) (Title.cmp a.title b.title):=XM _ _
unfold QL
refine Zt (fun q=>∀ t,t=decide (D5 a b<0)->Tot (q t) fun z=>z=decide (D5 a b<0)) (fun t ht=>Zd ht) fun k hk=>?_
rw [e] at hk ⊢
unfold IP Lib.compareInt at hk ⊢
by_cases h1:a.kind<b.kind
rw [if_pos h1] at hk ⊢
exact Zb (fun _=>hk _ rfl) fun h=>absurd h1 h
rw [if_neg h1] at hk ⊢
refine Zb (fun h=>absurd h h1) fun _=>?_
by_cases h2:a.kind > b.kind
rw [if_pos h2] at hk ⊢
exact Zb (fun h=>by omega) fun _=>hk _ rfl
rw [if_neg h2] at hk ⊢
refine Zb (fun _=>Za rfl (hk _ rfl)) fun h=>by omega}
theorem fH (l:Q3 Link) (x:Link) (h:l.length<=1000000):GT l x=some (B8 l x):=by
 rw [Ztw]
 exact pZ (key:=fun x:Link=>x) 32 Zv2 (fun a b=>rfl) (by decide) l x h
theorem ZpV (l:Q3 Memb) (x:Memb) (h:l.length<=1000000):TY l x=some (JF l x):=by
 rw [ZpU]
 exact pZ (key:=Memb.category) 40 (fun a b=>rfl) (fun a b=>rfl) (by decide) l x h
def AU (t r:Q3 Q4):Q3 (Link ⊕ Memb):=if bad t=true then [] else if ¬ (BI (BB t)).2=0 then [] else if (BI (BB t)).1.space=4/\GA t=false then [.inr ⟨(BI (BB t)).1,MB r⟩] else [.inl ⟨1,(BI (BB t)).1⟩]
theorem q8 (t r:Q3 Q4):(AU t r).length<=1:=by{
unfold AU
split
simp
split
simp
split<;>simp}
theorem Zv3 (s:Q3 Q4):(gath AU s).length<=s.length:=by{
induction s with
| nil=>simp [gath]
| cons c l ih=>
  rw [V4]
  split
  split
  simp;omega
  rename_i k _
  have:=q8 (l.tail.take k) (l.tail.drop k)
  rw [Yb,Yr]
  omega
  simp;omega}
def lks (E:Q3 (Link ⊕ Memb)):Q3 Link:=E.filterMap Sum.getLeft?
def mbs (E:Q3 (Link ⊕ Memb)):Q3 Memb:=E.filterMap Sum.getRight?
theorem q9 (A B:Q3 (Link ⊕ Memb)):lks (A++B)=lks A++lks B:=List.filterMap_append ..
theorem qA (A B:Q3 (Link ⊕ Memb)):mbs (A++B)=mbs A++mbs B:=List.filterMap_append ..
theorem U5 (A:Q3 (Link ⊕ Memb)):(lks A).length<=A.length:=List.length_filterMap_le _ _
theorem U6 (A:Q3 (Link ⊕ Memb)):(mbs A).length<=A.length:=List.length_filterMap_le _ _
def D6 (q:Q3 Link×Q3 Memb):Link ⊕ Memb->Q3 Link×Q3 Memb | .inl x=>(B8 q.1 x,q.2) | .inr x=>(q.1,JF q.2 x)
theorem U7:∀ (E:Q3 (Link ⊕ Memb)) (q:Q3 Link×Q3 Memb),E.foldl D6 q=((lks E).foldl B8 q.1,(mbs E).foldl JF q.2)
 | [],q=>rfl
 | .inl x::E,q=>(U7 E _).trans rfl
 | .inr x::E,q=>(U7 E _).trans rfl
theorem XR (t p:Q3 Q4) (h:t.length<=1000000):strings_Contains (bs t) (bs p)=some (Lib.contains t p):=by
 unfold strings_Contains
 rw [if_pos (show (bs t).size<4294967281 from by have:(bs t).size=t.length:=rfl;omega)]
 rfl
theorem qB (s:Q3 Q4) (i:Nat):(s.drop (i+1)).tail=s.drop (i+2):=by
 rw [List.tail_drop]
theorem ZAl (f:Finder) (s:Q3 Q4) (h:s.length<=300000) (hl:f.links.length+s.length<=900000) (hm:f.members.length+s.length<=900000):Q9 f (bs s)=some ⟨f.links++lks (gath AU s),f.members++mbs (gath AU s)⟩:=by{
refine ZK ?_
unfold Q9
refine ZF (fun x=>∃ (s':Q3 Q4) (E:Q3 (Link ⊕ Memb)),x.1=bs s'/\s'.length<=s.length/\x.2.1=f.links++lks E/\x.2.2=f.members++mbs E/\E.length+s'.length<=s.length/\E++gath AU s'=gath AU s) (fun x=>x.1.size) ⟨s,[],rfl,Nat.le_refl _,by simp [lks],by simp [mbs],by simp,rfl⟩ (by dsimp only;have:(bs s).size=s.length:=rfl;omega) ?_
rintro ⟨x,L,M⟩ rec ⟨s',E,hx,h1,hL,hM,h2,h3⟩ ih
dsimp only at hx hL hM ih ⊢
subst hx hL hM
have z:(bs s').size=s'.length:=rfl
refine Za (dK s' [91,91] (by omega)) ?_
rcases gJ AU s' with ⟨g1,g2⟩ | ⟨i,g1,g3,g2⟩
rw [g1]
refine Zb (fun _=>Zd ?_) fun h=>absurd (by decide) h
rw [<- h3,g2,YB]
rw [g1]
refine Zb (fun h=>absurd h (by omega)) fun _=>?_
rw [ZH,ZH]
refine Za (EV s' (i+2) g3) (Za (EV s' (i+1) (by omega)) (Za (eV _ (by rw [Yx];omega)) ?_))
have hdl:(s'.drop (i+2)).length=s'.length-(i+2):=Yx
have zd:(bs (s'.drop (i+1))).size=s'.length-(i+1):=by show (s'.drop (i+1)).length=_;rw [Yx]
cases hE:BH (s'.drop (i+2)) with
| none=>
  refine Zb (fun _=>Zd ?_) fun h=>absurd (by decide) h
  rw [hE,gK AU (s'.drop (i+1)) (by rw [qB];exact hE)] at g2
  rw [<- h3,g2]
  simp
| some n=>
  have hn:=V3 hE
  rw [hE] at g2
  have g2:gath AU s'=AU ((s'.drop (i+2)).take n) ((s'.drop (i+2)).drop n)++gath AU (s'.drop (i+1)):=g2
  generalize hR:s'.drop (i+2)=R at g2 hn hdl hE ⊢
  have nxt:∀ E2,AU (R.take n) (R.drop n)=E2->Tot (rec (bs (s'.drop (i+1)),f.links++lks E++lks E2,f.members++mbs E++mbs E2)) fun z=>z=⟨f.links++lks (gath AU s),f.members++mbs (gath AU s)⟩:=fun E2 h=>by
   have hle:=q8 (R.take n) (R.drop n)
   rw [h] at hle g2
   refine ih _ ⟨s'.drop (i+1),E++E2,rfl,by rw [List.length_drop];omega,by rw [q9];simp,by rw [qA];simp,by rw [List.length_append,List.length_drop];omega,?_⟩ (by dsimp only;rw [zd];omega)
   rw [<- h3,g2,YM]
  have nxt0:AU (R.take n) (R.drop n) = []->Tot (rec (bs (s'.drop (i+1)),f.links++lks E,f.members++mbs E)) fun z=>z=⟨f.links++lks (gath AU s),f.members++mbs (gath AU s)⟩:=fun h=>by
   have:=nxt [] h
   simpa [lks,mbs] using this
  have lE:=U5 E
  have mE:=U6 E
  refine Zb (fun h=>absurd (show ((n:Nat):Int)<0 from h) (by omega)) fun _=>?_
  have hsub:AJ (bs R) 0 (QN (some n))=some (bs (R.take n)):=by
   have:=G8 R 0 n (YJ _) (by omega)
   rw [MM] at this
   exact this
  have tl:(R.take n).length<=300000:=by rw [YE];omega
  refine Za hsub ?_
  refine Zt (fun q=>(bad (R.take n)=true->Tot (q true) fun z=>z=⟨f.links++lks (gath AU s),f.members++mbs (gath AU s)⟩)/\(¬ bad (R.take n)=true->Tot (q false) fun z=>z=⟨f.links++lks (gath AU s),f.members++mbs (gath AU s)⟩)) ⟨fun hb=>Zj (fun _=>nxt0 (if_pos hb)) nofun,fun hb=>Zj nofun fun _=>?_⟩ fun k6 hk6=>?_
  have hitm:AU (R.take n) (R.drop n)=if ¬ (BI (BB (R.take n))).2=0 then [] else if (BI (BB (R.take n))).1.space=4/\GA (R.take n)=false then [.inr ⟨(BI (BB (R.take n))).1,MB (R.drop n)⟩] else [.inl ⟨1,(BI (BB (R.take n))).1⟩]:=if_neg hb
  refine Za (XJ _ tl) ?_
  refine CK (fun he=>nxt0 (hitm.trans (if_pos he))) fun he=>?_
  rw [if_neg (fun h=>h he)] at hitm
  refine Zt (fun q=>(((BI (BB (R.take n))).1.space=4/\GA (R.take n)=false)->Tot (q true) fun z=>z=⟨f.links++lks (gath AU s),f.members++mbs (gath AU s)⟩)/\(¬ ((BI (BB (R.take n))).1.space=4/\GA (R.take n)=false)->Tot (q false) fun z=>z=⟨f.links++lks (gath AU s),f.members++mbs (gath AU s)⟩)) ⟨fun hc=>Zj (fun _=>?_) nofun,fun hc=>Zj nofun fun _=>?_⟩ fun k7 hk7=>?_
  rw [if_pos hc] at hitm
  let ⟨c,hc1,hc2,_⟩:=KN hn
  have hkey:Q0 (bs (R.drop n))=some (MB (R.drop n)):=by
   rw [hc2]
   refine ZAr _ _ ?_
   rw [<- hc2,Yx]
   omega
  refine Za (EV R n (by omega)) (Za hkey (Za (J5 1000000 (by rw [Yb,YC];omega) (by decide) (by decide)) ?_))
  have t:=nxt _ hitm
  have e5:f.links++lks E++lks [.inr ⟨(BI (BB (R.take n))).1,MB (R.drop n)⟩]=f.links++lks E:=YB _
  rw [e5] at t
  exact t
  rw [if_neg hc] at hitm
  refine Za (J5 1000000 (by rw [Yb,YC];omega) (by decide) (by decide)) ?_
  have t:=nxt _ hitm
  have e5:f.members++mbs E++mbs [.inl ⟨1,(BI (BB (R.take n))).1⟩]=f.members++mbs E:=YB _
  rw [e5] at t
  exact t
  refine Zb (fun h4=>?_) fun h4=>hk7.2 fun h=>h4 h.1
  have hco:=Zwj (R.take n)
  let ⟨y,hy1,hy2⟩:=Ya.1 hco
  refine Za hy1 (Za hy2 ?_)
  cases hcl:GA (R.take n) with
  | true=>exact hk7.2 fun h=>by rw [hcl] at h;cases h.2
  | false=>exact hk7.1 ⟨h4,hcl⟩
  have hbad:bad (R.take n)=(Lib.contains (R.take n) [91,91]||Lib.contains (R.take n) [10]):=rfl
  refine Za (XR (R.take n) [91,91] (by omega)) (Zj (fun h=>hk6.1 (by rw [hbad,h];rfl)) fun h=>?_)
  rw [h,Bool.false_or] at hbad
  refine Za (XR (R.take n) [10] (by omega)) ?_
  cases hc:Lib.contains (R.take n) [10] with
  | true=>exact hk6.1 (hbad.trans hc)
  | false=>exact hk6.2 (by rw [hbad,hc];decide)}
theorem qC {s:Q3 Q4} {i:Nat} (h:BH (s.drop i)=none):F8 s i=(⟨#[]⟩,0,false):=by
 unfold F8
 rw [V2,h]
theorem qD {s:Q3 Q4} {i k:Nat} (h:BH (s.drop i)=some k) (hb:bad ((s.drop i).take k)=true):F8 s i=(⟨#[]⟩,0,false):=by{
unfold F8
rw [V2,h]
dsimp only
rw [if_pos hb]}
theorem qE {s:Q3 Q4} {i k:Nat} (h:BH (s.drop i)=some k) (hb:¬ bad ((s.drop i).take k)=true):F8 s i=(bs ((s.drop i).take k),((i+k:Nat):Int),true):=by{
unfold F8
rw [V2,h]
dsimp only
rw [if_neg hb]}
theorem ZAm (s:Q3 Q4) (l:Q3 Link) (m:Q3 Memb) (h:s.length<=300000) (hl:l.length+s.length<=900000) (hm:m.length+s.length<=900000):QM (bs s) l m=some ((gath AU s).foldl D6 (l,m)):=by{
refine ZK ?_
unfold QM
have z:(bs s).size=s.length:=rfl
refine ZF (fun x=>∃ n:Nat,x.2.2=(n:Int)/\n<=s.length/\x.1.length+(s.length-n)<=900000/\x.2.1.length+(s.length-n)<=900000/\(gath AU (s.drop n)).foldl D6 (x.1,x.2.1)=(gath AU s).foldl D6 (l,m)) (fun x=>s.length-x.2.2.toNat) ⟨0,rfl,Nat.zero_le _,by omega,by omega,rfl⟩ (by dsimp only;omega) ?_
rintro ⟨L,M,i⟩ rec ⟨n,hi,hn,h1,h2,h3⟩ ih
dsimp only at hi h1 h2 h3 ih ⊢
subst hi
by_cases hlt:n<s.length
rotate_left
refine Zb (fun h=>absurd h (by omega)) fun _=>Zd ?_
rw [<- h3,YI (by omega)]
rfl
refine Zb (fun _=>?_) fun h=>absurd (by omega) h
let ⟨c,hc,hd,hh⟩:=KN hlt
rw [hd,V4] at h3
refine Zt (fun q=>∀ E,E.length<=1->(if c=91/\(s.drop (n+1)).head? = some 91 then (match BH (s.drop (n+1)).tail with
  | none=>[]
  | some k=>AU ((s.drop (n+1)).tail.take k) ((s.drop (n+1)).tail.drop k)) else [])=E->Tot (q (E.foldl D6 (L,M)).1 (E.foldl D6 (L,M)).2) fun z=>z=(gath AU s).foldl D6 (l,m)) (fun E hE1 hE=>?_) fun k19 hk19=>?_
rw [ZH]
have e:(gath AU (s.drop (n+1))).foldl D6 (E.foldl D6 (L,M))=(gath AU s).foldl D6 (l,m):=by
 rw [<- h3,<- FZ,<- hE]
 congr 1
 split<;>rfl
have b1:(E.foldl D6 (L,M)).1.length<=L.length+1/\(E.foldl D6 (L,M)).2.length<=M.length+1:=by
 rw [U7]
 have p1:((lks E).foldl B8 L).length<=L.length+(lks E).length:=QP (c:=D5) (key:=fun x:Link=>x) (lks E) L
 have p2:((mbs E).foldl JF M).length<=M.length+(mbs E).length:=QP (c:=Title.cmp) (key:=Memb.category) (mbs E) M
 have:=U5 E
 have:=U6 E
 dsimp only
 omega
exact ih _ ⟨n+1,by dsimp only;omega,hlt,by dsimp only;omega,by dsimp only;omega,e⟩ (by dsimp only;omega)
have a91:=PT s [91,91] n (by omega) (by omega)
rw [hd,gI] at a91
refine Za a91 (CK (fun h2=>?_) fun h2=>?_)
exact hk19 [] (YJ _) (if_neg h2)
rw [if_pos h2] at hk19
have hrest:n+2<=s.length:=by
 rcases I7 (n+1) s.length with h | h
 omega
 rw [YI h] at h2
 cases h2.2
have hw:w64 ((n:Int)+2)=((n+2:Nat):Int):=by rw [ZH];omega
rw [hw]
rw [qB] at hk19
refine Za (pF s (n+2) hrest (by omega)) ?_
have hR:(s.drop (n+2)).length=s.length-(n+2):=Yx
cases hE:BH (s.drop (n+2)) with
| none=>
  rw [hE] at hk19
  rw [qC hE]
  exact Zj (fun _=>hk19 [] (YJ _) rfl) nofun
| some k=>
  rw [hE] at hk19
  have hk:=V3 hE
  have hk19:∀ E,E.length<=1->AU ((s.drop (n+2)).take k) ((s.drop (n+2)).drop k)=E->Tot (k19 (E.foldl D6 (L,M)).1 (E.foldl D6 (L,M)).2) fun z=>z=(gath AU s).foldl D6 (l,m):=hk19
  have tl:((s.drop (n+2)).take k).length<=300000:=by rw [YE];omega
  have hdk:(s.drop (n+2)).drop k=s.drop (n+2+k):=JN
  by_cases hb:bad ((s.drop (n+2)).take k)=true
  rw [qD hE hb]
  exact Zj (fun _=>hk19 [] (YJ _) (if_pos hb)) nofun
  rw [qE hE hb]
  dsimp only
  generalize hT:(s.drop (n+2)).take k=T at hk19 tl hb ⊢
  refine Zj nofun fun _=>Za (eW T (by omega)) (Za (dR _ (YX (XI T) tl)) ?_)
  have hitm:AU T ((s.drop (n+2)).drop k)=if ¬ (BI (BB T)).2=0 then [] else if (BI (BB T)).1.space=4/\GA T=false then [.inr ⟨(BI (BB T)).1,MB ((s.drop (n+2)).drop k)⟩] else [.inl ⟨1,(BI (BB T)).1⟩]:=if_neg hb
  refine CK (fun he=>hk19 [] (YJ _) (hitm.trans (if_pos he))) fun he=>?_
  rw [if_neg (fun h=>h he)] at hitm
  refine Zt (fun q=>(((BI (BB T)).1.space=4/\GA T=false)->Tot (q true) fun z=>z=(gath AU s).foldl D6 (l,m))/\(¬ ((BI (BB T)).1.space=4/\GA T=false)->Tot (q false) fun z=>z=(gath AU s).foldl D6 (l,m))) ⟨fun hc=>Zj (fun _=>?_) nofun,fun hc=>Zj nofun fun _=>?_⟩ fun k20 hk20=>?_
  rw [if_pos hc,hdk] at hitm
  refine Za (ZAs s (n+2+k) (by omega) (by omega)) (Za (ZpV M _ (by omega)) ?_)
  rw [hdk] at hk19
  exact hk19 _ (Yn _) hitm
  rw [if_neg hc] at hitm
  refine Za (fH L _ (by omega)) ?_
  exact hk19 _ (Yn _) hitm
  refine Zb (fun h4=>Za (Zyl T (by omega)) ?_) fun h4=>hk20.2 fun h=>h4 h.1
  cases hcl:GA T with
  | true=>exact hk20.2 fun h=>by rw [hcl] at h;cases h.2
  | false=>exact hk20.1 ⟨h4,hcl⟩}
def QT (m:Nat) (f:Finder) (n:Node):Q2 Finder:=if n.kind=1 then Q9 f n.text else if n.kind=6/\¬ n.tag=2 then (AV n.kids).bind fun l=>KL m f l else some f
def AR {α β:Type} (step:β->α->Q2 β):Q3 α->β->Q2 β | [],c=>some c | x::l,c=>(step c x).bind fun c'=>AR step l c'
theorem qF {α β:Type} (step:β->α->Q2 β):∀ (l:Q3 α) (c:β),goL (fun e c k=>(step c e).bind k) (fun c=>some c) l c=AR step l c
 | [],c=>rfl
 | x::l,c=>by
   show ((step c x).bind fun c'=>goL (fun e c k=>(step c e).bind k) (fun c=>some c) l c')=_
   unfold AR
   congr 1
   funext c'
   exact qF step l c'
theorem HU {α:Type} {l:Q3 α} {n:Nat} {e:α} (h:l[n]? = some e):atI l (n:Int)=some e:=by
 unfold atI
 rw [if_pos (by omega),DH,h]
theorem qG (m:Nat) (f:Finder) (l:Q3 Node) (hl:l.length<=4611686018427387900):KL (m+1) f l=AR (QT m) l f:=by{
rw [<- qF]
simp only [KL]
refine y6 l (fun n (c:Finder)=>((n:Int),c.links,c.members)) _ _ hl f (fun n e rec c he hn=>?_) (fun rec c=>?_)
have hlt:=(Yd.1 he).1
dsimp only
rw [if_pos (Yh (show (n:Int)<(l.length:Int) by omega)),HU he]
have hw:w64 ((n:Int)+1)=((n+1:Nat):Int):=by rw [ZH];rfl
simp only [letk,Option.bind_some,hw,QT]
by_cases h1:e.kind=1
rw [if_pos (Yh h1),if_pos h1]
rw [if_neg (by rw [Yf h1];decide),if_neg h1]
by_cases h6:e.kind=6
rw [if_pos (Yh h6)]
by_cases h2:e.tag=2
rw [Yh h2,if_neg (by decide),if_neg (fun h=>h.2 h2)]
rfl
rw [Yf h2,if_pos (by decide),if_pos ⟨h6,h2⟩]
cases AV e.kids with
| none=>rfl
| some k=>rfl
rw [if_neg (by rw [Yf h6];decide),if_neg (by decide),if_neg (fun h=>h6 h.1)]
rfl
dsimp only
rw [if_neg (by rw [Yf (by omega)];decide)]}
def KP (m:Nat) (f:Finder) (a:Arg):Q2 Finder:=(AV a.name).bind fun l=>(Zo m f l).bind fun f=>(AV a.value).bind fun l=>Zo m f l
def U8 (f:Finder) (n:Node):Q2 Finder:=if n.kind=4 then (AV n.kids).bind fun l=>(GS l).bind fun r=>if r.2=true then (AA 32 f.links [(⟨2,r.1⟩:Link)]).map fun l=>⟨l,f.members⟩ else some f else some f
def QU (m:Nat) (f:Finder) (n:Node):Q2 Finder:=if n.kind=6/\n.tag=2 then some f else (U8 f n).bind fun f=>(AV n.kids).bind fun l=>(Zo m f l).bind fun f=>(DM n.args).bind fun l=>if l.length<=4611686018427387900 then AR (KP m) l f else none
theorem KQ {α:Type} {l:Q3 α} {n:Nat} (h:n<l.length):∃ e,l[n]? = some e/\l.drop n=e::l.drop (n+1):=⟨_,Yc h,Yt h⟩
theorem Zyw {β:Type} {m:Nat} {l:Q3 Arg} {c2 c':Finder} {k:Q3 Link->Q3 Memb->Q2 β} {R:β->Prop} (hl:l.length<=4611686018427387900) (h:AR (KP m) l c2=some c') (hk:Tot (k c'.links c'.members) R) :
  Tot (A4 A9 (fun f22 ((x254,x255,x256):Int×(Q3 Link)×(Q3 Memb))=>
   if (decide (x254<(l.length:Int))) then
    (atI l x254).bind fun e272=>
    (AV e272.name).bind fun l273=>
    (Zo m (⟨x255,x256⟩:Finder) l273).bind fun r274=>
    (AV e272.value).bind fun l275=>
    (Zo m r274 l275).bind fun r276=>
    f22 ((w64 (x254+1)),r276.links,r276.members)
   else
   k x255 x256) (0,c2.links,c2.members)) R:=by{
refine ZF (fun a=>∃ (n:Nat) (c:Finder),a=((n:Int),c.links,c.members)/\n<=l.length/\AR (KP m) (l.drop n) c=some c') (fun a=>l.length-a.1.toNat) ⟨0,c2,rfl,Nat.zero_le _,h⟩ (by dsimp only;omega) ?_
rintro a rec ⟨n,c,rfl,hn,hc⟩ ih
dsimp only at ih ⊢
refine Zb (fun hlt=>?_) (fun hge=>?_)
obtain ⟨e,he,hd⟩:=KQ (show n<l.length by omega)
rw [hd] at hc
obtain ⟨c1,h1,h2⟩:=Ya.1 hc
obtain ⟨l1,h3,h1⟩:=Ya.1 h1
obtain ⟨c3,h4,h1⟩:=Ya.1 h1
obtain ⟨l2,h5,h6⟩:=Ya.1 h1
refine Za (HU he) (Za h3 (Za h4 (Za h5 (Za h6 ?_))))
rw [ZH]
exact ih _ ⟨n+1,c1,rfl,by omega,h2⟩ (by omega)
obtain rfl:n=l.length:=by omega
rw [GF] at hc
cases hc
exact hk}
theorem qH {m:Nat} {f r:Finder} {l:Q3 Node} (hl:l.length<=4611686018427387900) (h:AR (QU m) l f=some r):Zo (m+1) f l=some r:=by{
refine ZK ?_
simp only [Zo]
refine ZF (fun a=>∃ (n:Nat) (c:Finder),a=((n:Int),c.links,c.members)/\n<=l.length/\AR (QU m) (l.drop n) c=some r) (fun a=>l.length-a.1.toNat) ⟨0,f,rfl,Nat.zero_le _,h⟩ (by dsimp only;omega) ?_
rintro a rec ⟨n,c,rfl,hn,hc⟩ ih
dsimp only at ih ⊢
refine Zb (fun hlt=>?_) (fun hge=>?_)
·obtain ⟨e,he,hd⟩:=KQ (show n<l.length by omega)
 rw [hd] at hc
 obtain ⟨c',h1,h2⟩:=Ya.1 hc
 have next:Tot (rec (w64 ((n:Int)+1),c'.links,c'.members)) (fun x=>x=r):=by
  rw [ZH]
  exact ih _ ⟨n+1,c',rfl,by omega,h2⟩ (by omega)
 refine B7 (Za (HU he) (B7 ?_))
 unfold QU at h1
 by_cases h6:e.kind=6/\e.tag=2
 ·rw [if_pos h6] at h1
  cases h1
  rw [if_pos (Yh h6.1),Yh h6.2]
  exact Zj (fun _=>next) nofun
 rw [if_neg h6] at h1
 obtain ⟨c1,h3,h1⟩:=Ya.1 h1
 obtain ⟨ks,h4,h1⟩:=Ya.1 h1
 obtain ⟨c2,h5,h1⟩:=Ya.1 h1
 obtain ⟨al,h7,h1⟩:=Ya.1 h1
 split at h1
 rename_i hal
 have go:Tot (letk (fun (x240:Q3 Link)=>
   (AV e.kids).bind fun l241=>
   (Zo m (⟨x240,c.members⟩:Finder) l241).bind fun r242=>
   (DM e.args).bind fun l243=>
   A4 A9 (fun f22 ((x254,x255,x256):Int×(Q3 Link)×(Q3 Memb))=>
    if (decide (x254<(l243.length:Int))) then
     (atI l243 x254).bind fun e272=>
     (AV e272.name).bind fun l273=>
     (Zo m (⟨x255,x256⟩:Finder) l273).bind fun r274=>
     (AV e272.value).bind fun l275=>
     (Zo m r274 l275).bind fun r276=>
     f22 ((w64 (x254+1)),r276.links,r276.members)
    else
    rec (w64 ((n:Int)+1),x255,x256)) (0,r242.links,r242.members)) fun k21=>
  if (decide (e.kind=4)) then
   (AV e.kids).bind fun l277=>
   (GS l277).bind fun r278=>
   if r278.2 then
    (AA 32 c.links [(⟨2,r278.1⟩:Link)]).bind fun l279=>
    k21 l279
   else
   k21 c.links
  else
  k21 c.links) (fun x=>x=r):=by
  refine Zt (fun q=>∀ x,(⟨x,c.members⟩:Finder)=c1->Tot (q x) (fun x=>x=r)) (fun x hx=>?_) fun q hq=>?_
  ·rw [hx]
   exact Za h4 (Za h5 (Za h7 (Zyw (k:=fun x y=>rec (w64 ((n:Int)+1),x,y)) hal h1 next)))
  unfold U8 at h3
  refine Zb (fun hk=>?_) fun hk=>?_
  rw [if_pos hk] at h3
  obtain ⟨ks',h8,h3⟩:=Ya.1 h3
  obtain ⟨tr,h9,h3⟩:=Ya.1 h3
  refine Za h8 (Za h9 (Zj (fun h10=>?_) fun h10=>?_))
  rw [if_pos h10] at h3
  obtain ⟨l3,h11,h3⟩:=Ye.1 h3
  exact Za h11 (hq _ h3)
  rw [if_neg (by rw [h10];decide)] at h3
  injection h3 with h3
  exact hq _ h3
  rw [if_neg hk] at h3
  injection h3 with h3
  exact hq _ h3
 by_cases hk6:e.kind=6
 have ht:¬ e.tag=2:=fun h=>h6 ⟨hk6,h⟩
 rw [if_pos (Yh hk6),Yf ht]
 exact Zj nofun fun _=>go
 rw [if_neg (by rw [Yf hk6];decide)]
 exact Zj nofun fun _=>go
 cases h1
obtain rfl:n=l.length:=by omega
rw [GF] at hc
cases hc
exact Zd rfl}
def Node.pv (x:Node):PV:=.agg x.cs
end
end Go.Proofs.YtmgfammllddkhaaGreatDoor
