/- Functions of the program as Lean functions. Written by fxgen.py. | Functions of the program as Lean functions. Written by fxgen.py. -/
import Derived.Test.YtmgfammllddkhaaGreatDoorCS11
import Derived.Test.YtmgfammllddkhaaGreatDoorCS06
import Derived.Test.YtmgfammllddkhaaGreatDoorCS10
set_option linter.unusedVariables false
set_option maxHeartbeats 4000000
set_option maxRecDepth 100000
namespace Go.Proofs.YtmgfammllddkhaaGreatDoor
open VL
def ZD (p0:List Memb) (p1:Int) (p2:Int):Option (List Memb):=
 Zbq Zel (fun f17 ((x95,x96):Int×(List Memb))=>
  if (decide (x95<p2)) then
   Zbq Zel (fun f24 ((x253,x254):Int×(List Memb))=>
    letk (fun (x273:Bool)=>
     if x273 then
      (atI x254 (w64 (x253 - 1))).bind fun e278=>
      (atI x254 x253).bind fun e279=>
      (atI x254 x253).bind fun e280=>
      (atI (ZeX x254 x253 e278) (w64 (x253 - 1))).bind fun e281=>
      f24 ((w64 (x253 - 1)),(ZeX (ZeX x254 x253 e278) (w64 (x253 - 1)) e279))
     else
     f17 ((w64 (x95+1)),x254)) fun k25=>
    if (decide (p1<x253)) then
     (atI x254 x253).bind fun e282=>
     (atI x254 (w64 (x253 - 1))).bind fun e283=>
     (Zb0 e282 e283).bind fun r284=>
     k25 (decide (r284<0))
    else
    k25 false) (x95,x96)
  else
  (some x96:Option (List Memb))) ((w64 (p1+1)),p0)
theorem ZaS (p0:List Memb) (p1:Int) (p2:Int) (r:List Memb) (h:ZD p0 p1 p2=some r):ContractR Tryz.prog 130 [.int .i64 p1,.int .i64 p2,.fn 38 []] 45 3 (List.map Memb.cs p0) (.tup []) (List.map Memb.cs r):=by
 refine ZcM (R:=fun r=>.tup []) (O:=fun r=>(List.map Memb.cs r)) h mix Tryz.func130 (by kernel_rfl) rfl (by kernel_rfl) fun r h=>?_
 unfold ZD at h
 refine Zq ?_
 refine rg ?_
 refine bl ?_
 refine ZW h fun f17 mf17 hf17 h=>?_
 refine ZH (α:=Nat×(Int×(List Memb))) (fun a _=>mkS [(0,.row 0 (0,0)),(1,.int .i64 p1),(2,.int .i64 p2),(3,.fn 38 []),(8,.int .i64 a.2.1)] [(0,some ((0,0),.row 45 3 false (List.map Memb.cs a.2.2)))] 2) (fun a=>Zbq a.1 f17 a.2=some r) (fun a=>a.1) (mf17,(w64 (p1+1)),p0) 2 h (Zv [] ⟨rfl,rfl,rfl,rfl,rfl,trivial⟩ ⟨⟨rfl,rfl⟩,trivial⟩ rfl) (fun a _ h=>?_)
 obtain ⟨mf17,x95,x96⟩:=a
 obtain ⟨mf17,rfl,h⟩:=ZX hf17 h
 dsimp only at h ⊢
 refine Zq ?_
 refine rg ?_
 refine cS h rfl (fun h=>?_) fun h=>?_
 ·refine bl ?_
  refine rg ?_
  refine bl ?_
  refine ZW h fun f24 mf24 hf24 h=>?_
  refine ZH (α:=Nat×(Int×(List Memb))) (fun a _=>mkS [(0,.row 0 (0,0)),(1,.int .i64 p1),(2,.int .i64 p2),(3,.fn 38 []),(8,.int .i64 x95),(9,.int .i64 a.2.1)] [(0,some ((0,0),.row 45 3 false (List.map Memb.cs a.2.2)))] 2) (fun a=>Zbq a.1 f24 a.2=some r) (fun a=>a.1) (mf24,x95,x96) 2 h (Zv [] ⟨rfl,rfl,rfl,rfl,rfl,rfl,trivial⟩ ⟨⟨rfl,rfl⟩,trivial⟩ rfl) (fun a _ h=>?_)
  obtain ⟨mf24,x253,x254⟩:=a
  obtain ⟨mf24,rfl,h⟩:=ZX hf24 h
  dsimp only at h ⊢
  refine Zq ?_
  refine jL h (fun x273=>mkS [(0,.row 0 (0,0)),(1,.int .i64 p1),(2,.int .i64 p2),(3,.fn 38 []),(8,.int .i64 x95),(9,.int .i64 x253),(34,.bool x273)] [(0,some ((0,0),.row 45 3 false (List.map Memb.cs x254)))] 2) (fun k25 h=>?_) fun x273 h=>?_
  ·refine rg ?_
   refine kS 21 h rfl (fun h=>?_) fun h=>?_
   ·obtain ⟨e282,h250,h⟩:=bnd h
    refine ZY rfl h250 rfl rfl rfl (Zq ?_)
    refine ZaG rfl h250 rfl rfl rfl (Zq ?_)
    obtain ⟨e283,h251,h⟩:=bnd h
    refine ZY rfl h251 rfl rfl rfl (Zq ?_)
    refine ZaG rfl h251 rfl rfl rfl (Zq ?_)
    obtain ⟨r284,h252,h⟩:=bnd h
    refine ZfV (Lc:=[]) (args1:=[e282.pv,e283.pv]) (ZdB _ _ _ h252) rfl rfl rfl rfl (Zq ?_)
    exact jn (decide (r284<0)) h (Zv [] ⟨rfl,rfl,rfl,rfl,rfl,rfl,rfl,trivial⟩ ⟨⟨rfl,rfl⟩,trivial⟩ rfl)
   iterate 12 refine ZN rfl (Zq ?_)
   exact jn false h (Zv [] ⟨rfl,rfl,rfl,rfl,rfl,rfl,rfl,trivial⟩ ⟨⟨rfl,rfl⟩,trivial⟩ rfl)
  refine cS h rfl (fun h=>?_) fun h=>?_
  ·refine bl ?_
   refine rg ?_
   obtain ⟨e278,h246,h⟩:=bnd h
   refine ZY rfl h246 rfl rfl rfl (Zq ?_)
   refine ZaG rfl h246 rfl rfl rfl (Zq ?_)
   obtain ⟨e279,h247,h⟩:=bnd h
   refine ZY rfl h247 rfl rfl rfl (Zq ?_)
   refine ZaG rfl h247 rfl rfl rfl (Zq ?_)
   obtain ⟨e280,h248,h⟩:=bnd h
   refine ZY rfl h248 rfl rfl rfl (Zq ?_)
   refine Zcg (e':=e278) rfl h248 rfl rfl rfl rfl rfl rfl (Nat.le_of_ble_eq_true rfl) rfl rfl (Zq ?_)
   obtain ⟨e281,h249,h⟩:=bnd h
   refine ZY rfl h249 rfl rfl rfl (Zq ?_)
   refine Zcg (e':=e279) rfl h249 rfl rfl rfl rfl rfl rfl (Nat.le_of_ble_eq_true rfl) rfl rfl (Zq ?_)
   refine rg ?_
   exact rn (mf24,(w64 (x253 - 1)),(ZeX (ZeX x254 x253 e278) (w64 (x253 - 1)) e279)) h (Zv [] ⟨rfl,rfl,rfl,rfl,rfl,rfl,trivial⟩ ⟨⟨rfl,rfl⟩,trivial⟩ rfl)
  refine rg ?_
  exact rn (mf17,(w64 (x95+1)),x254) h (Zv [] ⟨rfl,rfl,rfl,rfl,rfl,trivial⟩ ⟨⟨rfl,rfl⟩,trivial⟩ rfl)
 cases h
 exact Zd5 rfl rfl rfl
def ZC (p0:List Memb) (p1:Int) (p2:Int) (p3:Int):Option (List Memb):=
 Zbq Zel (fun f1 ((x9,x10):Int×(List Memb))=>
  if (decide (x9<p3)) then
   (atI x10 (w64 (p2+x9))).bind fun e23=>
   (atI x10 (w64 (p1+x9))).bind fun e24=>
   (atI x10 (w64 (p1+x9))).bind fun e25=>
   (atI (ZeX x10 (w64 (p1+x9)) e23) (w64 (p2+x9))).bind fun e26=>
   f1 ((w64 (x9+1)),(ZeX (ZeX x10 (w64 (p1+x9)) e23) (w64 (p2+x9)) e24))
  else
  (some x10:Option (List Memb))) (0,p0)
theorem Zaz (p0:List Memb) (p1:Int) (p2:Int) (p3:Int) (r:List Memb) (h:ZC p0 p1 p2 p3=some r):ContractR Tryz.prog 213 [.int .i64 p1,.int .i64 p2,.int .i64 p3,.fn 38 []] 45 3 (List.map Memb.cs p0) (.tup []) (List.map Memb.cs r):=by
 refine ZcM (R:=fun r=>.tup []) (O:=fun r=>(List.map Memb.cs r)) h mix Tryz.func213 (by kernel_rfl) rfl (by kernel_rfl) fun r h=>?_
 unfold ZC at h
 refine Zq ?_
 refine rg ?_
 refine bl ?_
 refine ZW h fun f1 mf1 hf1 h=>?_
 refine ZH (α:=Nat×(Int×(List Memb))) (fun a _=>mkS [(0,.row 0 (0,0)),(1,.int .i64 p1),(2,.int .i64 p2),(3,.int .i64 p3),(10,.int .i64 a.2.1)] [(0,some ((0,0),.row 45 3 false (List.map Memb.cs a.2.2)))] 2) (fun a=>Zbq a.1 f1 a.2=some r) (fun a=>a.1) (mf1,0,p0) 2 h (sR []) (fun a _ h=>?_)
 obtain ⟨mf1,x9,x10⟩:=a
 obtain ⟨mf1,rfl,h⟩:=ZX hf1 h
 dsimp only at h ⊢
 refine Zq ?_
 refine rg ?_
 refine cS h rfl (fun h=>?_) fun h=>?_
 ·refine bl ?_
  refine rg ?_
  obtain ⟨e23,h21,h⟩:=bnd h
  refine ZY rfl h21 rfl rfl rfl (Zq ?_)
  refine ZaG rfl h21 rfl rfl rfl (Zq ?_)
  obtain ⟨e24,h22,h⟩:=bnd h
  refine ZY rfl h22 rfl rfl rfl (Zq ?_)
  refine ZaG rfl h22 rfl rfl rfl (Zq ?_)
  obtain ⟨e25,h23,h⟩:=bnd h
  refine ZY rfl h23 rfl rfl rfl (Zq ?_)
  refine Zcg (e':=e23) rfl h23 rfl rfl rfl rfl rfl rfl (Nat.le_of_ble_eq_true rfl) rfl rfl (Zq ?_)
  obtain ⟨e26,h24,h⟩:=bnd h
  refine ZY rfl h24 rfl rfl rfl (Zq ?_)
  refine Zcg (e':=e24) rfl h24 rfl rfl rfl rfl rfl rfl (Nat.le_of_ble_eq_true rfl) rfl rfl (Zq ?_)
  refine rg ?_
  exact rn (mf1,(w64 (x9+1)),(ZeX (ZeX x10 (w64 (p1+x9)) e23) (w64 (p2+x9)) e24)) h (sR [])
 cases h
 exact Zd5 rfl rfl rfl
def ZM (p0:List Memb) (p1:Int) (p2:Int) (p3:Int):Option (List Memb):=
 Zbq Zel (fun f2 ((x12,x13,x14):Int×Int×(List Memb))=>
  if (!decide (x12=x13)) then
   if (decide (x13<x12)) then
    (ZC x14 (w64 (p2 - x12)) p2 x13).bind fun r17=>
    f2 ((w64 (x12 - x13)),x13,r17)
   else
   (ZC x14 (w64 (p2 - x12)) (w64 ((w64 (p2+x13)) - x12)) x12).bind fun r18=>
   f2 (x12,(w64 (x13 - x12)),r18)
  else
  (ZC x14 (w64 (p2 - x12)) p2 x12).bind fun r19=>
  (some r19:Option (List Memb))) ((w64 (p2 - p1)),(w64 (p3 - p2)),p0)
theorem Zct (p0:List Memb) (p1:Int) (p2:Int) (p3:Int) (r:List Memb) (h:ZM p0 p1 p2 p3=some r):ContractR Tryz.prog 184 [.int .i64 p1,.int .i64 p2,.int .i64 p3,.fn 38 []] 45 3 (List.map Memb.cs p0) (.tup []) (List.map Memb.cs r):=by
 refine ZcM (R:=fun r=>.tup []) (O:=fun r=>(List.map Memb.cs r)) h mix Tryz.func184 (by kernel_rfl) rfl (by kernel_rfl) fun r h=>?_
 unfold ZM at h
 refine Zq ?_
 refine rg ?_
 refine rg ?_
 refine bl ?_
 refine ZW h fun f2 mf2 hf2 h=>?_
 refine ZH (α:=Nat×(Int×Int×(List Memb))) (fun a _=>mkS [(0,.row 0 (0,0)),(2,.int .i64 p2),(4,.fn 38 []),(10,.int .i64 a.2.1),(11,.int .i64 a.2.2.1)] [(0,some ((0,0),.row 45 3 false (List.map Memb.cs a.2.2.2)))] 2) (fun a=>Zbq a.1 f2 a.2=some r) (fun a=>a.1) (mf2,(w64 (p2 - p1)),(w64 (p3 - p2)),p0) 2 h (Zv [] ⟨rfl,rfl,rfl,rfl,rfl,trivial⟩ ⟨⟨rfl,rfl⟩,trivial⟩ rfl) (fun a _ h=>?_)
 obtain ⟨mf2,x12,x13,x14⟩:=a
 obtain ⟨mf2,rfl,h⟩:=ZX hf2 h
 dsimp only at h ⊢
 refine Zq ?_
 refine rg ?_
 refine cS h rfl (fun h=>?_) fun h=>?_
 ·refine bl ?_
  refine rg ?_
  refine cS h rfl (fun h=>?_) fun h=>?_
  ·refine rg ?_
   obtain ⟨r17,h11,h⟩:=bnd h
   refine ZcW (Zaz _ _ _ _ _ h11) rfl rfl rfl rfl rfl (Zq ?_)
   refine rg ?_
   exact rn (mf2,(w64 (x12 - x13)),x13,r17) h (Zv [] ⟨rfl,rfl,rfl,rfl,rfl,trivial⟩ ⟨⟨rfl,rfl⟩,trivial⟩ rfl)
  refine rg ?_
  obtain ⟨r18,h12,h⟩:=bnd h
  refine ZcW (Zaz _ _ _ _ _ h12) rfl rfl rfl rfl rfl (Zq ?_)
  refine rg ?_
  exact rn (mf2,x12,(w64 (x13 - x12)),r18) h (Zv [] ⟨rfl,rfl,rfl,rfl,rfl,trivial⟩ ⟨⟨rfl,rfl⟩,trivial⟩ rfl)
 refine rg ?_
 obtain ⟨r19,h13,h⟩:=bnd h
 refine ZcW (Zaz _ _ _ _ _ h13) rfl rfl rfl rfl rfl (Zq ?_)
 cases h
 exact Zd5 rfl rfl rfl
def Zl:Nat→(List Memb)→Int→Int→Int→Option (List Memb)
 | 0,_,_,_,_=>none
 | mF+1,p0,p1,p2,p3=>
 if (decide ((w64 (p2 - p1))=1)) then
  Zbq Zel (fun f6 ((x99,x100):Int×Int)=>
   if (decide (x99<x100)) then
    (Zsa .u64 (IntKind.wrap .u64 (w64 (x99+x100))) 1).bind fun q105=>
    (atI p0 (IntKind.wrap .i64 q105)).bind fun e106=>
    (atI p0 p1).bind fun e107=>
    (Zb0 e106 e107).bind fun r108=>
    if (decide (r108<0)) then
     f6 ((w64 ((IntKind.wrap .i64 q105)+1)),x100)
    else
    f6 (x99,(IntKind.wrap .i64 q105))
   else
   Zbq Zel (fun f8 ((x143,x144):Int×(List Memb))=>
    if (decide (x143<(w64 (x99 - 1)))) then
     (atI x144 (w64 (x143+1))).bind fun e157=>
     (atI x144 x143).bind fun e158=>
     (atI x144 x143).bind fun e159=>
     (atI (ZeX x144 x143 e157) (w64 (x143+1))).bind fun e160=>
     f8 ((w64 (x143+1)),(ZeX (ZeX x144 x143 e157) (w64 (x143+1)) e158))
    else
    (some x144:Option (List Memb))) (p1,p0)) (p2,p3)
 else
 if (decide ((w64 (p3 - p2))=1)) then
  Zbq Zel (fun f14 ((x259,x260):Int×Int)=>
   if (decide (x259<x260)) then
    (Zsa .u64 (IntKind.wrap .u64 (w64 (x259+x260))) 1).bind fun q265=>
    (atI p0 p2).bind fun e266=>
    (atI p0 (IntKind.wrap .i64 q265)).bind fun e267=>
    (Zb0 e266 e267).bind fun r268=>
    if (!(decide (r268<0))) then
     f14 ((w64 ((IntKind.wrap .i64 q265)+1)),x260)
    else
    f14 (x259,(IntKind.wrap .i64 q265))
   else
   Zbq Zel (fun f16 ((x303,x304):Int×(List Memb))=>
    if (decide (x259<x303)) then
     (atI x304 (w64 (x303 - 1))).bind fun e317=>
     (atI x304 x303).bind fun e318=>
     (atI x304 x303).bind fun e319=>
     (atI (ZeX x304 x303 e317) (w64 (x303 - 1))).bind fun e320=>
     f16 ((w64 (x303 - 1)),(ZeX (ZeX x304 x303 e317) (w64 (x303 - 1)) e318))
    else
    (some x304:Option (List Memb))) (p2,p0)) (p1,p2)
 else
 (Zsa .u64 (IntKind.wrap .u64 (w64 (p1+p3))) 1).bind fun q321=>
 letk (fun (x322:Int) (x323:Int)=>
  Zbq Zel (fun f19 ((x342,x343):Int×Int)=>
   if (decide (x342<x343)) then
    (Zsa .u64 (IntKind.wrap .u64 (w64 (x342+x343))) 1).bind fun q348=>
    (atI p0 (w64 ((w64 ((w64 ((IntKind.wrap .i64 q321)+p2)) - 1)) - (IntKind.wrap .i64 q348)))).bind fun e349=>
    (atI p0 (IntKind.wrap .i64 q348)).bind fun e350=>
    (Zb0 e349 e350).bind fun r351=>
    if (!(decide (r351<0))) then
     f19 ((w64 ((IntKind.wrap .i64 q348)+1)),x343)
    else
    f19 (x342,(IntKind.wrap .i64 q348))
   else
   letk (fun (x352:Bool)=>
    letk (fun (x354:List Memb)=>
     letk (fun (x355:Bool)=>
      letk (fun (x357:List Memb)=>
       letk (fun (x358:Bool)=>
        if x358 then
         (Zl mF x357 (IntKind.wrap .i64 q321) (w64 ((w64 ((IntKind.wrap .i64 q321)+p2)) - x342)) p3).bind fun r359=>
         (some r359:Option (List Memb))
        else
        (some x357:Option (List Memb))) fun k24=>
       if (decide ((IntKind.wrap .i64 q321)<(w64 ((w64 ((IntKind.wrap .i64 q321)+p2)) - x342)))) then
        k24 (decide ((w64 ((w64 ((IntKind.wrap .i64 q321)+p2)) - x342))<p3))
       else
       k24 false) fun k23=>
      if x355 then
       (Zl mF x354 p1 x342 (IntKind.wrap .i64 q321)).bind fun r360=>
       k23 r360
      else
      k23 x354) fun k22=>
     if (decide (p1<x342)) then
      k22 (decide (x342<(IntKind.wrap .i64 q321)))
     else
     k22 false) fun k21=>
    if x352 then
     (ZM p0 x342 p2 (w64 ((w64 ((IntKind.wrap .i64 q321)+p2)) - x342))).bind fun r361=>
     k21 r361
    else
    k21 p0) fun k20=>
   if (decide (x342<p2)) then
    k20 (decide (p2<(w64 ((w64 ((IntKind.wrap .i64 q321)+p2)) - x342))))
   else
   k20 false) (x322,x323)) fun k17=>
 if (decide ((IntKind.wrap .i64 q321)<p2)) then
  k17 (w64 ((w64 ((IntKind.wrap .i64 q321)+p2)) - p3)) (IntKind.wrap .i64 q321)
 else
 k17 p1 p2
theorem Zbf (mF:Nat):∀ (p0:List Memb) (p1:Int) (p2:Int) (p3:Int) (r:List Memb),Zl mF p0 p1 p2 p3=some r→ContractR Tryz.prog 131 [.int .i64 p1,.int .i64 p2,.int .i64 p3,.fn 38 []] 45 3 (List.map Memb.cs p0) (.tup []) (List.map Memb.cs r):=by
 induction mF with
 | zero=>intro p0 p1 p2 p3 r h;cases h
 | succ mF ihF=>
 intro p0 p1 p2 p3 r h
 refine ZcM (R:=fun r=>.tup []) (O:=fun r=>(List.map Memb.cs r)) h mix Tryz.func131 (by kernel_rfl) rfl (by kernel_rfl) fun r h=>?_
 simp only [Zl] at h
 refine Zq ?_
 refine rg ?_
 refine cS h rfl (fun h=>?_) fun h=>?_
 ·refine rg ?_
  refine rg ?_
  refine bl ?_
  refine ZW h fun f6 mf6 hf6 h=>?_
  refine ZH (α:=Nat×(Int×Int)) (fun a _=>mkS [(0,.row 0 (0,0)),(1,.int .i64 p1),(4,.fn 38 []),(10,.int .i64 a.2.1),(11,.int .i64 a.2.2)] [(0,some ((0,0),.row 45 3 false (List.map Memb.cs p0)))] 2) (fun a=>Zbq a.1 f6 a.2=some r) (fun a=>a.1) (mf6,p2,p3) 2 h (Zv [] ⟨rfl,rfl,rfl,rfl,rfl,trivial⟩ ⟨⟨rfl,rfl⟩,trivial⟩ rfl) (fun a _ h=>?_)
  obtain ⟨mf6,x99,x100⟩:=a
  obtain ⟨mf6,rfl,h⟩:=ZX hf6 h
  dsimp only at h ⊢
  refine Zq ?_
  refine rg ?_
  refine cS h rfl (fun h=>?_) fun h=>?_
  ·refine bl ?_
   refine rg ?_
   obtain ⟨q105,h93,h⟩:=bnd h
   refine ZnL rfl h93 rfl rfl (Zq ?_)
   refine rg ?_
   obtain ⟨e106,h94,h⟩:=bnd h
   refine ZY rfl h94 rfl rfl rfl (Zq ?_)
   refine ZaG rfl h94 rfl rfl rfl (Zq ?_)
   obtain ⟨e107,h95,h⟩:=bnd h
   refine ZY rfl h95 rfl rfl rfl (Zq ?_)
   refine ZaG rfl h95 rfl rfl rfl (Zq ?_)
   obtain ⟨r108,h96,h⟩:=bnd h
   refine ZfV (Lc:=[]) (args1:=[e106.pv,e107.pv]) (ZdB _ _ _ h96) rfl rfl rfl rfl (Zq ?_)
   refine cS h rfl (fun h=>?_) fun h=>?_
   ·refine rg ?_
    exact rn (mf6,(w64 ((IntKind.wrap .i64 q105)+1)),x100) h (Zv [] ⟨rfl,rfl,rfl,rfl,rfl,trivial⟩ ⟨⟨rfl,rfl⟩,trivial⟩ rfl)
   refine rg ?_
   exact rn (mf6,x99,(IntKind.wrap .i64 q105)) h (Zv [] ⟨rfl,rfl,rfl,rfl,rfl,trivial⟩ ⟨⟨rfl,rfl⟩,trivial⟩ rfl)
  refine rg ?_
  refine bl ?_
  refine ZW h fun f8 mf8 hf8 h=>?_
  refine ZH (α:=Nat×(Int×(List Memb))) (fun a _=>mkS [(0,.row 0 (0,0)),(10,.int .i64 x99),(13,.int .i64 a.2.1)] [(0,some ((0,0),.row 45 3 false (List.map Memb.cs a.2.2)))] 2) (fun a=>Zbq a.1 f8 a.2=some r) (fun a=>a.1) (mf8,p1,p0) 2 h (sR []) (fun a _ h=>?_)
  obtain ⟨mf8,x143,x144⟩:=a
  obtain ⟨mf8,rfl,h⟩:=ZX hf8 h
  dsimp only at h ⊢
  refine Zq ?_
  refine rg ?_
  refine cS h rfl (fun h=>?_) fun h=>?_
  ·refine bl ?_
   refine rg ?_
   obtain ⟨e157,h141,h⟩:=bnd h
   refine ZY rfl h141 rfl rfl rfl (Zq ?_)
   refine ZaG rfl h141 rfl rfl rfl (Zq ?_)
   obtain ⟨e158,h142,h⟩:=bnd h
   refine ZY rfl h142 rfl rfl rfl (Zq ?_)
   refine ZaG rfl h142 rfl rfl rfl (Zq ?_)
   obtain ⟨e159,h143,h⟩:=bnd h
   refine ZY rfl h143 rfl rfl rfl (Zq ?_)
   refine Zcg (e':=e157) rfl h143 rfl rfl rfl rfl rfl rfl (Nat.le_of_ble_eq_true rfl) rfl rfl (Zq ?_)
   obtain ⟨e160,h144,h⟩:=bnd h
   refine ZY rfl h144 rfl rfl rfl (Zq ?_)
   refine Zcg (e':=e158) rfl h144 rfl rfl rfl rfl rfl rfl (Nat.le_of_ble_eq_true rfl) rfl rfl (Zq ?_)
   refine rg ?_
   exact rn (mf8,(w64 (x143+1)),(ZeX (ZeX x144 x143 e157) (w64 (x143+1)) e158)) h (sR [])
  cases h
  exact ZsH rfl rfl rfl
 refine rg ?_
 refine cS h rfl (fun h=>?_) fun h=>?_
 ·refine rg ?_
  refine rg ?_
  refine bl ?_
  refine ZW h fun f14 mf14 hf14 h=>?_
  refine ZH (α:=Nat×(Int×Int)) (fun a _=>mkS [(0,.row 0 (0,0)),(2,.int .i64 p2),(4,.fn 38 []),(14,.int .i64 a.2.1),(15,.int .i64 a.2.2)] [(0,some ((0,0),.row 45 3 false (List.map Memb.cs p0)))] 2) (fun a=>Zbq a.1 f14 a.2=some r) (fun a=>a.1) (mf14,p1,p2) 2 h (Zv [] ⟨rfl,rfl,rfl,rfl,rfl,trivial⟩ ⟨⟨rfl,rfl⟩,trivial⟩ rfl) (fun a _ h=>?_)
  obtain ⟨mf14,x259,x260⟩:=a
  obtain ⟨mf14,rfl,h⟩:=ZX hf14 h
  dsimp only at h ⊢
  refine Zq ?_
  refine rg ?_
  refine cS h rfl (fun h=>?_) fun h=>?_
  ·refine bl ?_
   refine rg ?_
   obtain ⟨q265,h237,h⟩:=bnd h
   refine ZnL rfl h237 rfl rfl (Zq ?_)
   refine rg ?_
   obtain ⟨e266,h238,h⟩:=bnd h
   refine ZY rfl h238 rfl rfl rfl (Zq ?_)
   refine ZaG rfl h238 rfl rfl rfl (Zq ?_)
   obtain ⟨e267,h239,h⟩:=bnd h
   refine ZY rfl h239 rfl rfl rfl (Zq ?_)
   refine ZaG rfl h239 rfl rfl rfl (Zq ?_)
   obtain ⟨r268,h240,h⟩:=bnd h
   refine ZfV (Lc:=[]) (args1:=[e266.pv,e267.pv]) (ZdB _ _ _ h240) rfl rfl rfl rfl (Zq ?_)
   refine cS h rfl (fun h=>?_) fun h=>?_
   ·refine rg ?_
    exact rn (mf14,(w64 ((IntKind.wrap .i64 q265)+1)),x260) h (Zv [] ⟨rfl,rfl,rfl,rfl,rfl,trivial⟩ ⟨⟨rfl,rfl⟩,trivial⟩ rfl)
   refine rg ?_
   exact rn (mf14,x259,(IntKind.wrap .i64 q265)) h (Zv [] ⟨rfl,rfl,rfl,rfl,rfl,trivial⟩ ⟨⟨rfl,rfl⟩,trivial⟩ rfl)
  refine rg ?_
  refine bl ?_
  refine ZW h fun f16 mf16 hf16 h=>?_
  refine ZH (α:=Nat×(Int×(List Memb))) (fun a _=>mkS [(0,.row 0 (0,0)),(14,.int .i64 x259),(17,.int .i64 a.2.1)] [(0,some ((0,0),.row 45 3 false (List.map Memb.cs a.2.2)))] 2) (fun a=>Zbq a.1 f16 a.2=some r) (fun a=>a.1) (mf16,p2,p0) 2 h (sR []) (fun a _ h=>?_)
  obtain ⟨mf16,x303,x304⟩:=a
  obtain ⟨mf16,rfl,h⟩:=ZX hf16 h
  dsimp only at h ⊢
  refine Zq ?_
  refine rg ?_
  refine cS h rfl (fun h=>?_) fun h=>?_
  ·refine bl ?_
   refine rg ?_
   obtain ⟨e317,h285,h⟩:=bnd h
   refine ZY rfl h285 rfl rfl rfl (Zq ?_)
   refine ZaG rfl h285 rfl rfl rfl (Zq ?_)
   obtain ⟨e318,h286,h⟩:=bnd h
   refine ZY rfl h286 rfl rfl rfl (Zq ?_)
   refine ZaG rfl h286 rfl rfl rfl (Zq ?_)
   obtain ⟨e319,h287,h⟩:=bnd h
   refine ZY rfl h287 rfl rfl rfl (Zq ?_)
   refine Zcg (e':=e317) rfl h287 rfl rfl rfl rfl rfl rfl (Nat.le_of_ble_eq_true rfl) rfl rfl (Zq ?_)
   obtain ⟨e320,h288,h⟩:=bnd h
   refine ZY rfl h288 rfl rfl rfl (Zq ?_)
   refine Zcg (e':=e318) rfl h288 rfl rfl rfl rfl rfl rfl (Nat.le_of_ble_eq_true rfl) rfl rfl (Zq ?_)
   refine rg ?_
   exact rn (mf16,(w64 (x303 - 1)),(ZeX (ZeX x304 x303 e317) (w64 (x303 - 1)) e318)) h (sR [])
  cases h
  exact ZsH rfl rfl rfl
 refine rg ?_
 obtain ⟨q321,h289,h⟩:=bnd h
 refine ZnL rfl h289 rfl rfl (Zq ?_)
 refine rg ?_
 refine rg ?_
 refine rg ?_
 refine Zcr h fun k17 hk17 h=>?_
 refine Zb3 (α:=Int×Int) (fun a _=>mkS [(0,.row 0 (0,0)),(1,.int .i64 p1),(2,.int .i64 p2),(3,.int .i64 p3),(4,.fn 38 []),(18,.int .i64 (IntKind.wrap .i64 q321)),(19,.int .i64 (w64 ((IntKind.wrap .i64 q321)+p2))),(20,.int .i64 a.1),(21,.int .i64 a.2)] [(0,some ((0,0),.row 45 3 false (List.map Memb.cs p0)))] 2) (fun a=>k17 a.1 a.2=some r) (Zq ?_) (fun a _ h=>?_)
 ·refine cS h rfl (fun h=>?_) fun h=>?_
  ·refine rg ?_
   refine rg ?_
   exact jn ((w64 ((w64 ((IntKind.wrap .i64 q321)+p2)) - p3)),(IntKind.wrap .i64 q321)) h (Zv [] ⟨rfl,rfl,rfl,rfl,rfl,rfl,rfl,rfl,rfl,trivial⟩ ⟨⟨rfl,rfl⟩,trivial⟩ rfl)
  refine rg ?_
  refine rg ?_
  exact jn (p1,p2) h (Zv [] ⟨rfl,rfl,rfl,rfl,rfl,rfl,rfl,rfl,rfl,trivial⟩ ⟨⟨rfl,rfl⟩,trivial⟩ rfl)
 obtain ⟨x322,x323⟩:=a
 subst hk17
 dsimp only at h ⊢
 refine Zq ?_
 refine rg ?_
 refine bl ?_
 refine ZW h fun f19 mf19 hf19 h=>?_
 refine ZH (α:=Nat×(Int×Int)) (fun a _=>mkS [(0,.row 0 (0,0)),(1,.int .i64 p1),(2,.int .i64 p2),(3,.int .i64 p3),(4,.fn 38 []),(18,.int .i64 (IntKind.wrap .i64 q321)),(19,.int .i64 (w64 ((IntKind.wrap .i64 q321)+p2))),(20,.int .i64 a.2.1),(21,.int .i64 a.2.2),(22,.int .i64 (w64 ((w64 ((IntKind.wrap .i64 q321)+p2)) - 1)))] [(0,some ((0,0),.row 45 3 false (List.map Memb.cs p0)))] 2) (fun a=>Zbq a.1 f19 a.2=some r) (fun a=>a.1) (mf19,x322,x323) 2 h (Zv [] ⟨rfl,rfl,rfl,rfl,rfl,rfl,rfl,rfl,rfl,rfl,trivial⟩ ⟨⟨rfl,rfl⟩,trivial⟩ rfl) (fun a _ h=>?_)
 obtain ⟨mf19,x342,x343⟩:=a
 obtain ⟨mf19,rfl,h⟩:=ZX hf19 h
 dsimp only at h ⊢
 refine Zq ?_
 refine rg ?_
 refine cS h rfl (fun h=>?_) fun h=>?_
 ·refine bl ?_
  refine rg ?_
  obtain ⟨q348,h310,h⟩:=bnd h
  refine ZnL rfl h310 rfl rfl (Zq ?_)
  refine rg ?_
  obtain ⟨e349,h311,h⟩:=bnd h
  refine ZY rfl h311 rfl rfl rfl (Zq ?_)
  refine ZaG rfl h311 rfl rfl rfl (Zq ?_)
  obtain ⟨e350,h312,h⟩:=bnd h
  refine ZY rfl h312 rfl rfl rfl (Zq ?_)
  refine ZaG rfl h312 rfl rfl rfl (Zq ?_)
  obtain ⟨r351,h313,h⟩:=bnd h
  refine ZfV (Lc:=[]) (args1:=[e349.pv,e350.pv]) (ZdB _ _ _ h313) rfl rfl rfl rfl (Zq ?_)
  refine cS h rfl (fun h=>?_) fun h=>?_
  ·refine rg ?_
   exact rn (mf19,(w64 ((IntKind.wrap .i64 q348)+1)),x343) h (Zv [] ⟨rfl,rfl,rfl,rfl,rfl,rfl,rfl,rfl,rfl,rfl,trivial⟩ ⟨⟨rfl,rfl⟩,trivial⟩ rfl)
  refine rg ?_
  exact rn (mf19,x342,(IntKind.wrap .i64 q348)) h (Zv [] ⟨rfl,rfl,rfl,rfl,rfl,rfl,rfl,rfl,rfl,rfl,trivial⟩ ⟨⟨rfl,rfl⟩,trivial⟩ rfl)
 refine rg ?_
 refine jL h (fun x352=>mkS [(0,.row 0 (0,0)),(1,.int .i64 p1),(2,.int .i64 p2),(3,.int .i64 p3),(4,.fn 38 []),(18,.int .i64 (IntKind.wrap .i64 q321)),(20,.int .i64 x342),(24,.int .i64 (w64 ((w64 ((IntKind.wrap .i64 q321)+p2)) - x342))),(185,.bool x352)] [(0,some ((0,0),.row 45 3 false (List.map Memb.cs p0)))] 2) (fun k20 h=>?_) fun x352 h=>?_
 ·refine rg ?_
  refine kS 181 h rfl (fun h=>?_) fun h=>?_
  ·exact jn (decide (p2<(w64 ((w64 ((IntKind.wrap .i64 q321)+p2)) - x342)))) h (Zv [] ⟨rfl,rfl,rfl,rfl,rfl,rfl,rfl,rfl,rfl,trivial⟩ ⟨⟨rfl,rfl⟩,trivial⟩ rfl)
  iterate 3 refine ZN rfl (Zq ?_)
  exact jn false h (Zv [] ⟨rfl,rfl,rfl,rfl,rfl,rfl,rfl,rfl,rfl,trivial⟩ ⟨⟨rfl,rfl⟩,trivial⟩ rfl)
 refine jL h (fun x354=>mkS [(0,.row 0 (0,0)),(1,.int .i64 p1),(3,.int .i64 p3),(4,.fn 38 []),(18,.int .i64 (IntKind.wrap .i64 q321)),(20,.int .i64 x342),(24,.int .i64 (w64 ((w64 ((IntKind.wrap .i64 q321)+p2)) - x342)))] [(0,some ((0,0),.row 45 3 false (List.map Memb.cs x354)))] 2) (fun k21 h=>?_) fun x354 h=>?_
 ·refine cS h rfl (fun h=>?_) fun h=>?_
  ·refine rg ?_
   obtain ⟨r361,h318,h⟩:=bnd h
   refine ZcW (Zct _ _ _ _ _ h318) rfl rfl rfl rfl rfl (Zq ?_)
   exact jn r361 h (Zv [] ⟨rfl,rfl,rfl,rfl,rfl,rfl,rfl,trivial⟩ ⟨⟨rfl,rfl⟩,trivial⟩ rfl)
  exact jn p0 h (Zv [] ⟨rfl,rfl,rfl,rfl,rfl,rfl,rfl,trivial⟩ ⟨⟨rfl,rfl⟩,trivial⟩ rfl)
 refine jL h (fun x355=>mkS [(0,.row 0 (0,0)),(1,.int .i64 p1),(3,.int .i64 p3),(4,.fn 38 []),(18,.int .i64 (IntKind.wrap .i64 q321)),(20,.int .i64 x342),(24,.int .i64 (w64 ((w64 ((IntKind.wrap .i64 q321)+p2)) - x342))),(199,.bool x355)] [(0,some ((0,0),.row 45 3 false (List.map Memb.cs x354)))] 2) (fun k22 h=>?_) fun x355 h=>?_
 ·refine rg ?_
  refine kS 195 h rfl (fun h=>?_) fun h=>?_
  ·exact jn (decide (x342<(IntKind.wrap .i64 q321))) h (Zv [] ⟨rfl,rfl,rfl,rfl,rfl,rfl,rfl,rfl,trivial⟩ ⟨⟨rfl,rfl⟩,trivial⟩ rfl)
  iterate 3 refine ZN rfl (Zq ?_)
  exact jn false h (Zv [] ⟨rfl,rfl,rfl,rfl,rfl,rfl,rfl,rfl,trivial⟩ ⟨⟨rfl,rfl⟩,trivial⟩ rfl)
 refine jL h (fun x357=>mkS [(0,.row 0 (0,0)),(3,.int .i64 p3),(4,.fn 38 []),(18,.int .i64 (IntKind.wrap .i64 q321)),(24,.int .i64 (w64 ((w64 ((IntKind.wrap .i64 q321)+p2)) - x342)))] [(0,some ((0,0),.row 45 3 false (List.map Memb.cs x357)))] 2) (fun k23 h=>?_) fun x357 h=>?_
 ·refine cS h rfl (fun h=>?_) fun h=>?_
  ·refine rg ?_
   obtain ⟨r360,h317,h⟩:=bnd h
   refine ZcW (ihF _ _ _ _ _ h317) rfl rfl rfl rfl rfl (Zq ?_)
   exact jn r360 h (Zv [] ⟨rfl,rfl,rfl,rfl,rfl,trivial⟩ ⟨⟨rfl,rfl⟩,trivial⟩ rfl)
  exact jn x354 h (Zv [] ⟨rfl,rfl,rfl,rfl,rfl,trivial⟩ ⟨⟨rfl,rfl⟩,trivial⟩ rfl)
 refine jL h (fun x358=>mkS [(0,.row 0 (0,0)),(3,.int .i64 p3),(4,.fn 38 []),(18,.int .i64 (IntKind.wrap .i64 q321)),(24,.int .i64 (w64 ((w64 ((IntKind.wrap .i64 q321)+p2)) - x342))),(213,.bool x358)] [(0,some ((0,0),.row 45 3 false (List.map Memb.cs x357)))] 2) (fun k24 h=>?_) fun x358 h=>?_
 ·refine rg ?_
  refine kS 209 h rfl (fun h=>?_) fun h=>?_
  ·exact jn (decide ((w64 ((w64 ((IntKind.wrap .i64 q321)+p2)) - x342))<p3)) h (Zv [] ⟨rfl,rfl,rfl,rfl,rfl,rfl,trivial⟩ ⟨⟨rfl,rfl⟩,trivial⟩ rfl)
  iterate 3 refine ZN rfl (Zq ?_)
  exact jn false h (Zv [] ⟨rfl,rfl,rfl,rfl,rfl,rfl,trivial⟩ ⟨⟨rfl,rfl⟩,trivial⟩ rfl)
 refine cS h rfl (fun h=>?_) fun h=>?_
 ·refine rg ?_
  obtain ⟨r359,h316,h⟩:=bnd h
  refine ZcW (ihF _ _ _ _ _ h316) rfl rfl rfl rfl rfl (Zq ?_)
  cases h
  exact Zd5 rfl rfl rfl
 cases h
 exact Zd5 rfl rfl rfl
def Zab (p0:List Memb) (p1:Int):Option (List Memb):=
 Zbq Zel (fun f2 ((x8,x9,x10):Int×Int×(List Memb))=>
  if (decide (x9≤p1)) then
   (ZD x10 x8 x9).bind fun r12=>
   f2 (x9,(w64 (x9+20)),r12)
  else
  (ZD x10 x8 p1).bind fun r13=>
  Zbq Zel (fun f9 ((x29,x30):Int×(List Memb))=>
   if (decide (x29<p1)) then
    Zbq Zel (fun f11 ((x53,x54,x55):Int×Int×(List Memb))=>
     if (decide (x54≤p1)) then
      (Zl 64 x55 x53 (w64 (x53+x29)) x54).bind fun r57=>
      f11 (x54,(w64 (x54+(w64 (2 * x29)))),r57)
     else
     letk (fun (x59:List Memb)=>
      f9 ((w64 (x29 * 2)),x59)) fun k12=>
     if (decide ((w64 (x53+x29))<p1)) then
      (Zl 64 x55 x53 (w64 (x53+x29)) p1).bind fun r60=>
      k12 r60
     else
     k12 x55) (0,(w64 (2 * x29)),x30)
   else
   (some x30:Option (List Memb))) (20,r13)) (0,20,p0)
theorem Zcu (p0:List Memb) (p1:Int) (r:List Memb) (h:Zab p0 p1=some r):ContractR Tryz.prog 72 [.int .i64 p1,.fn 38 []] 45 3 (List.map Memb.cs p0) (.tup []) (List.map Memb.cs r):=by
 refine ZcM (R:=fun r=>.tup []) (O:=fun r=>(List.map Memb.cs r)) h mix Tryz.func72 (by kernel_rfl) rfl (by kernel_rfl) fun r h=>?_
 unfold Zab at h
 refine Zq ?_
 refine rg ?_
 refine rg ?_
 refine bl ?_
 refine ZW h fun f2 mf2 hf2 h=>?_
 refine ZH (α:=Nat×(Int×Int×(List Memb))) (fun a _=>mkS [(0,.row 0 (0,0)),(1,.int .i64 p1),(2,.fn 38 []),(6,.int .i64 20),(7,.int .i64 a.2.1),(8,.int .i64 a.2.2.1)] [(0,some ((0,0),.row 45 3 false (List.map Memb.cs a.2.2.2)))] 2) (fun a=>Zbq a.1 f2 a.2=some r) (fun a=>a.1) (mf2,0,20,p0) 2 h (Zv [] ⟨rfl,rfl,rfl,rfl,rfl,rfl,trivial⟩ ⟨⟨rfl,rfl⟩,trivial⟩ rfl) (fun a _ h=>?_)
 obtain ⟨mf2,x8,x9,x10⟩:=a
 obtain ⟨mf2,rfl,h⟩:=ZX hf2 h
 dsimp only at h ⊢
 refine Zq ?_
 refine rg ?_
 refine cS h rfl (fun h=>?_) fun h=>?_
 ·refine bl ?_
  refine rg ?_
  obtain ⟨r12,h6,h⟩:=bnd h
  refine ZcW (ZaS _ _ _ _ h6) rfl rfl rfl rfl rfl (Zq ?_)
  refine rg ?_
  refine rg ?_
  exact rn (mf2,x9,(w64 (x9+20)),r12) h (Zv [] ⟨rfl,rfl,rfl,rfl,rfl,rfl,trivial⟩ ⟨⟨rfl,rfl⟩,trivial⟩ rfl)
 refine rg ?_
 obtain ⟨r13,h7,h⟩:=bnd h
 refine ZcW (ZaS _ _ _ _ h7) rfl rfl rfl rfl rfl (Zq ?_)
 refine bl ?_
 refine ZW h fun f9 mf9 hf9 h=>?_
 refine ZH (α:=Nat×(Int×(List Memb))) (fun a _=>mkS [(0,.row 0 (0,0)),(1,.int .i64 p1),(2,.fn 38 []),(6,.int .i64 a.2.1)] [(0,some ((0,0),.row 45 3 false (List.map Memb.cs a.2.2)))] 2) (fun a=>Zbq a.1 f9 a.2=some r) (fun a=>a.1) (mf9,20,r13) 2 h (Zv [] ⟨rfl,rfl,rfl,rfl,trivial⟩ ⟨⟨rfl,rfl⟩,trivial⟩ rfl) (fun a _ h=>?_)
 obtain ⟨mf9,x29,x30⟩:=a
 obtain ⟨mf9,rfl,h⟩:=ZX hf9 h
 dsimp only at h ⊢
 refine Zq ?_
 refine rg ?_
 refine cS h rfl (fun h=>?_) fun h=>?_
 ·refine bl ?_
  refine rg ?_
  refine bl ?_
  refine ZW h fun f11 mf11 hf11 h=>?_
  refine ZH (α:=Nat×(Int×Int×(List Memb))) (fun a _=>mkS [(0,.row 0 (0,0)),(1,.int .i64 p1),(2,.fn 38 []),(6,.int .i64 x29),(7,.int .i64 a.2.1),(8,.int .i64 a.2.2.1)] [(0,some ((0,0),.row 45 3 false (List.map Memb.cs a.2.2.2)))] 2) (fun a=>Zbq a.1 f11 a.2=some r) (fun a=>a.1) (mf11,0,(w64 (2 * x29)),x30) 2 h (Zv [] ⟨rfl,rfl,rfl,rfl,rfl,rfl,trivial⟩ ⟨⟨rfl,rfl⟩,trivial⟩ rfl) (fun a _ h=>?_)
  obtain ⟨mf11,x53,x54,x55⟩:=a
  obtain ⟨mf11,rfl,h⟩:=ZX hf11 h
  dsimp only at h ⊢
  refine Zq ?_
  refine rg ?_
  refine cS h rfl (fun h=>?_) fun h=>?_
  ·refine bl ?_
   refine rg ?_
   obtain ⟨r57,h29,h⟩:=bnd h
   refine ZcW (Zbf 64 _ _ _ _ _ h29) rfl rfl rfl rfl rfl (Zq ?_)
   refine rg ?_
   refine rg ?_
   exact rn (mf11,x54,(w64 (x54+(w64 (2 * x29)))),r57) h (Zv [] ⟨rfl,rfl,rfl,rfl,rfl,rfl,trivial⟩ ⟨⟨rfl,rfl⟩,trivial⟩ rfl)
  refine rg ?_
  refine rg ?_
  refine jL h (fun x59=>mkS [(0,.row 0 (0,0)),(1,.int .i64 p1),(2,.fn 38 []),(6,.int .i64 x29)] [(0,some ((0,0),.row 45 3 false (List.map Memb.cs x59)))] 2) (fun k12 h=>?_) fun x59 h=>?_
  ·refine cS h rfl (fun h=>?_) fun h=>?_
   ·refine rg ?_
    obtain ⟨r60,h31,h⟩:=bnd h
    refine ZcW (Zbf 64 _ _ _ _ _ h31) rfl rfl rfl rfl rfl (Zq ?_)
    exact jn r60 h (Zv [] ⟨rfl,rfl,rfl,rfl,trivial⟩ ⟨⟨rfl,rfl⟩,trivial⟩ rfl)
   exact jn x55 h (Zv [] ⟨rfl,rfl,rfl,rfl,trivial⟩ ⟨⟨rfl,rfl⟩,trivial⟩ rfl)
  refine rg ?_
  exact rn (mf9,(w64 (x29 * 2)),x59) h (Zv [] ⟨rfl,rfl,rfl,rfl,trivial⟩ ⟨⟨rfl,rfl⟩,trivial⟩ rfl)
 cases h
 exact Zd5 rfl rfl rfl
def ZL (p0:List Memb):Option (List Memb):=
 (Zab p0 (p0.length:Int)).bind fun r1=>
 (some r1:Option (List Memb))
theorem Zcq (p0:List Memb) (r:List Memb) (h:ZL p0=some r):ContractR Tryz.prog 37 [.fn 38 []] 45 3 (List.map Memb.cs p0) (.tup []) (List.map Memb.cs r):=by
 refine ZcM (R:=fun r=>.tup []) (O:=fun r=>(List.map Memb.cs r)) h mix Tryz.func37 (by kernel_rfl) rfl (by kernel_rfl) fun r h=>?_
 unfold ZL at h
 refine Zq ?_
 refine rg ?_
 refine lM Memb.cs p0 ?_
 obtain ⟨r1,h1,h⟩:=bnd h
 refine ZcW (Zcu _ _ _ h1) rfl rfl rfl rfl rfl (Zq ?_)
 cases h
 exact Zd5 rfl rfl rfl
def ZU (p0:List Memb):Option (List Memb):=
 if (decide ((p0.length:Int)<2)) then
  (some p0:Option (List Memb))
 else
 Zbq Zel (fun f82 (x674:Int)=>
  if (decide (x674<(p0.length:Int))) then
   (atI p0 x674).bind fun e927=>
   (atI p0 (w64 (x674 - 1))).bind fun e928=>
   (Zec e927 e928).bind fun r929=>
   if r929 then
    (ZoO p0 x674).bind fun _=>
    Zbq Zel (fun f97 ((x982,x983,x984):Int×Int×(List Memb))=>
     if (decide (x983<(ZtX x984 x674))) then
      letk (fun (x1002:Int) (x1003:List Memb)=>
       f97 (x1002,(w64 (x983+1)),x1003)) fun k98=>
      (atQ x984 x674 x983).bind fun e1004=>
      (atQ x984 x674 (w64 (x983 - 1))).bind fun e1005=>
      (Zec e1004 e1005).bind fun r1006=>
      if (!r1006) then
       (atQ x984 x674 x983).bind fun e1007=>
       (atI x984 x982).bind fun e1008=>
       k98 (w64 (x982+1)) (ZeX x984 x982 e1007)
      else
      k98 x982 x984
     else
     (ZoO x984 x982).bind fun _=>
     (ZsR (Zs6 x984 x982 (⟨(⟨0,(⟨#[]⟩:ByteArray)⟩:Title),(⟨#[]⟩:ByteArray)⟩:Memb)) 0 x982).bind fun l1010=>
     (some l1010:Option (List Memb))) (x674,1,p0)
   else
   f82 (w64 (x674+1))
  else
  (some p0:Option (List Memb))) 1
theorem ZcS (p0:List Memb) (r:List Memb) (h:ZU p0=some r):ContractS Tryz.prog 39 [.fn 40 []] 45 3 (List.map Memb.cs p0) (List.map Memb.cs r):=by
 refine ZiM (O:=fun r=>(List.map Memb.cs r)) h mix Tryz.func39 (by kernel_rfl) rfl (by kernel_rfl) fun r h=>?_
 unfold ZU at h
 refine Zq ?_
 refine rg ?_
 refine rg ?_
 refine lM Memb.cs p0 ?_
 refine cS h rfl (fun h=>?_) fun h=>?_
 ·refine rg ?_
  cases h
  exact Zkg rfl rfl
 refine rg ?_
 refine bl ?_
 refine ZW h fun f82 mf82 hf82 h=>?_
 refine ZH (α:=Nat×Int) (fun a _=>mkS [(0,.row 0 (0,0)),(1,.fn 40 []),(5,.int .i64 a.2)] [(0,some ((0,0),.row 45 3 false (List.map Memb.cs p0)))] 2) (fun a=>Zbq a.1 f82 a.2=some r) (fun a=>a.1) (mf82,1) 2 h (Zv [] ⟨rfl,rfl,rfl,trivial⟩ ⟨⟨rfl,rfl⟩,trivial⟩ rfl) (fun a _ h=>?_)
 obtain ⟨mf82,x674⟩:=a
 obtain ⟨mf82,rfl,h⟩:=ZX hf82 h
 dsimp only at h ⊢
 refine Zq ?_
 refine rg ?_
 refine lM Memb.cs p0 ?_
 refine cS h rfl (fun h=>?_) fun h=>?_
 ·refine bl ?_
  refine rg ?_
  obtain ⟨e927,h727,h⟩:=bnd h
  refine ZY rfl h727 rfl rfl rfl (Zq ?_)
  refine ZaG rfl h727 rfl rfl rfl (Zq ?_)
  obtain ⟨e928,h728,h⟩:=bnd h
  refine ZY rfl h728 rfl rfl rfl (Zq ?_)
  refine ZaG rfl h728 rfl rfl rfl (Zq ?_)
  obtain ⟨r929,h729,h⟩:=bnd h
  refine ZfV (Lc:=[]) (args1:=[e927.pv,e928.pv]) (Zg4 _ _ _ h729) rfl rfl rfl rfl (Zq ?_)
  refine cS h rfl (fun h=>?_) fun h=>?_
  ·refine rg ?_
   obtain ⟨_,h730,h⟩:=bnd h
   refine Znk rfl h730 rfl rfl rfl (Zq ?_)
   refine rg ?_
   refine bl ?_
   refine ZW h fun f97 mf97 hf97 h=>?_
   refine ZH (α:=Nat×(Int×Int×(List Memb))) (fun a _=>mkS [(0,.row 0 (0,0)),(1,.fn 40 []),(5,.int .i64 a.2.1),(6,.suf 0 (0,0) (x674).toNat 3),(7,.int .i64 a.2.2.1)] [(0,some ((0,0),.row 45 3 false (List.map Memb.cs a.2.2.2)))] 2) (fun a=>Zbq a.1 f97 a.2=some r) (fun a=>a.1) (mf97,x674,1,p0) 2 h (Zv [] ⟨rfl,rfl,rfl,rfl,rfl,trivial⟩ ⟨⟨rfl,rfl⟩,trivial⟩ rfl) (fun a _ h=>?_)
   obtain ⟨mf97,x982,x983,x984⟩:=a
   obtain ⟨mf97,rfl,h⟩:=ZX hf97 h
   dsimp only at h ⊢
   refine Zq ?_
   refine rg ?_
   refine ZsC (M:=x984) (f:=Memb.cs) rfl rfl rfl (Zq ?_)
   refine cS h rfl (fun h=>?_) fun h=>?_
   ·refine Zcr h fun k98 hk98 h=>?_
    refine Zb3 (α:=Int×(List Memb)) (fun a _=>mkS [(0,.row 0 (0,0)),(1,.fn 40 []),(5,.int .i64 a.1),(6,.suf 0 (0,0) (x674).toNat 3),(7,.int .i64 x983)] [(0,some ((0,0),.row 45 3 false (List.map Memb.cs a.2)))] 2) (fun a=>k98 a.1 a.2=some r) (Zq ?_) (fun a _ h=>?_)
    ·refine bl ?_
     refine rg ?_
     obtain ⟨e1004,h786,h⟩:=bnd h
     refine ZeD rfl h786 rfl rfl rfl (Zq ?_)
     refine ZaG rfl (Zgo h786) rfl rfl rfl (Zq ?_)
     obtain ⟨e1005,h787,h⟩:=bnd h
     refine ZeD rfl h787 rfl rfl rfl (Zq ?_)
     refine ZaG rfl (Zgo h787) rfl rfl rfl (Zq ?_)
     obtain ⟨r1006,h788,h⟩:=bnd h
     refine ZfV (Lc:=[]) (args1:=[e1004.pv,e1005.pv]) (Zg4 _ _ _ h788) rfl rfl rfl rfl (Zq ?_)
     refine cS h rfl (fun h=>?_) fun h=>?_
     ·refine rg ?_
      obtain ⟨e1007,h789,h⟩:=bnd h
      refine ZeD rfl h789 rfl rfl rfl (Zq ?_)
      refine ZaG rfl (Zgo h789) rfl rfl rfl (Zq ?_)
      obtain ⟨e1008,h790,h⟩:=bnd h
      refine ZY rfl h790 rfl rfl rfl (Zq ?_)
      refine Zcg (e':=e1007) rfl h790 rfl rfl rfl rfl rfl rfl (Nat.le_of_ble_eq_true rfl) rfl rfl (Zq ?_)
      refine rg ?_
      exact jn ((w64 (x982+1)),(ZeX x984 x982 e1007)) h (Zv [] ⟨rfl,rfl,rfl,rfl,rfl,trivial⟩ ⟨⟨rfl,rfl⟩,trivial⟩ rfl)
     exact jn (x982,x984) h (Zv [] ⟨rfl,rfl,rfl,rfl,rfl,trivial⟩ ⟨⟨rfl,rfl⟩,trivial⟩ rfl)
    obtain ⟨x1002,x1003⟩:=a
    subst hk98
    dsimp only at h ⊢
    refine Zq ?_
    refine rg ?_
    exact rn (mf97,x1002,(w64 (x983+1)),x1003) h (Zv [] ⟨rfl,rfl,rfl,rfl,rfl,trivial⟩ ⟨⟨rfl,rfl⟩,trivial⟩ rfl)
   refine rg ?_
   obtain ⟨_,h791,h⟩:=bnd h
   refine Znk rfl h791 rfl rfl rfl (Zq ?_)
   refine Znl (M:=x984) (f:=Memb.cs) (zr:=(⟨(⟨0,(⟨#[]⟩:ByteArray)⟩:Title),(⟨#[]⟩:ByteArray)⟩:Memb)) rfl rfl rfl rfl rfl (Zq ?_)
   refine rg ?_
   obtain ⟨l1010,h792,h⟩:=bnd h
   refine Znm rfl h792 rfl rfl rfl (Zq ?_)
   cases h
   exact Zkg rfl rfl
  refine rg ?_
  exact rn (mf82,(w64 (x674+1))) h (Zv [] ⟨rfl,rfl,rfl,trivial⟩ ⟨⟨rfl,rfl⟩,trivial⟩ rfl)
 refine rg ?_
 cases h
 exact Zkg rfl rfl
def Zd2 (p0:ByteArray):Option ((List Link)×(List Memb)×Int):=
 (ZdW p0).bind fun r1=>
 if (!decide (r1.2=0)) then
  (some ([],[],r1.2):Option ((List Link)×(List Memb)×Int))
 else
 (ZaJ 300001 (⟨([]:List Link),([]:List Memb)⟩:Finder) r1.1).bind fun r2=>
 (Zt 300001 r2 r1.1).bind fun r3=>
 (Zcc p0).bind fun r4=>
 letk (fun (x6:List Link)=>
  (Za4 x6).bind fun r7=>
  (ZL r3.members).bind fun r8=>
  (ZU r8).bind fun r9=>
  (ZaQ r7).bind fun r10=>
  (some (r10,r9,0):Option ((List Link)×(List Memb)×Int))) fun k1=>
 if r4.2 then
  (Zjw 32 r3.links [(⟨4,r4.1⟩:Link)]).bind fun l11=>
  k1 l11
 else
 k1 r3.links
theorem ZiQ (p0:ByteArray) (r:(List Link)×(List Memb)×Int) (h:Zd2 p0=some r):Zo Tryz.prog 11 [.str p0] (.tup [.sl (List.map Link.cs r.1),.sl (List.map Memb.cs r.2.1),.int .i64 r.2.2]):=by
 refine cF (fun r=>.tup [.sl (List.map Link.cs r.1),.sl (List.map Memb.cs r.2.1),.int .i64 r.2.2]) h mix Tryz.func11 fun r h=>?_
 unfold Zd2 at h
 refine Zq ?_
 refine rg ?_
 refine rg ?_
 refine aC h (ZkH _) fun r1 h=>?_
 refine rg ?_
 refine cS h rfl (fun h=>?_) fun h=>?_
 ·refine rg ?_
  cases h
  exact rQ
 refine rg ?_
 refine Zas (Zch 20 3000 0 42 3 rfl rfl rfl) (Zq ?_) (List.cons_ne_nil _ _)
 refine Zas (Zch 20 3001 1 45 3 rfl rfl rfl) (Zq ?_) (List.cons_ne_nil _ _)
 refine rg ?_
 obtain ⟨r2,h2,h⟩:=bnd h
 refine Zgy (Zg7 300001 _ _ _ h2) rfl rfl rfl rfl rfl rfl rfl rfl (Zq ?_)
 refine rg ?_
 obtain ⟨r3,h3,h⟩:=bnd h
 refine Zgy (ZeR 300001 _ _ _ h3) rfl rfl rfl rfl rfl rfl rfl rfl (Zq ?_)
 refine rg ?_
 refine aC h (Zh4 _) fun r4 h=>?_
 refine rg ?_
 refine jL h (fun x6=>mkS [(7,.ptr 20 (1,20) 0)] [(20,some ((1,20),.box [.row 3000 (1,3000),.row 3001 (1,3001)])),(3000,some ((1,3000),.row 42 3 false (List.map Link.cs x6))),(3001,some ((1,3001),.row 45 3 false (List.map Memb.cs r3.members)))] 2) (fun k1 h=>?_) fun x6 h=>?_
 ·refine cS h rfl (fun h=>?_) fun h=>?_
  ·refine rg ?_
   refine Zc5 (M:=([(⟨4,r4.1⟩:Link)]:List Link)) (f:=Link.cs) rfl rfl rfl rfl (Nat.le_of_ble_eq_true rfl) rfl (Zq ?_)
   refine pR Link.cs h fun l11 h=>?_
   exact jn l11 h (sR [(20,4,1),(3000,11,8),(3001,8,2000002)])
  exact jn r3.links h (sR [(20,4,1),(3000,8,1000002),(3001,8,2000002)])
 refine rg ?_
 obtain ⟨r7,h6,h⟩:=bnd h
 refine ZcW (Zfo _ _ h6) rfl rfl rfl rfl rfl (Zq ?_)
 refine rg ?_
 obtain ⟨r8,h7,h⟩:=bnd h
 refine ZcW (Zcq _ _ h7) rfl rfl rfl rfl rfl (Zq ?_)
 refine rg ?_
 obtain ⟨r9,h8,h⟩:=bnd h
 refine ZqA (ZcS _ _ h8) rfl rfl rfl rfl (Zq ?_)
 refine rg ?_
 obtain ⟨r10,h9,h⟩:=bnd h
 refine ZqA (ZfA _ _ h9) rfl rfl rfl rfl (Zq ?_)
 cases h
 exact rQ
end Go.Proofs.YtmgfammllddkhaaGreatDoor
