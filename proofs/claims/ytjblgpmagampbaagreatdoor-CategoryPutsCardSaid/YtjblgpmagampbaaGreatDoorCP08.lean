/- Functions of the program as Lean functions. Written by fxgen.py. | Functions of the program as Lean functions. Written by fxgen.py. | Strings as lists of bytes. | Stable sorting by insertion, and merging. No program is named. | The library's stable sorting at memberships: exchanging and turning stretches. | The comparison of two links, in whatever world: blocks and draws are all that come. | DERIVED: THE SHELF's CONTRACTS AT THIS DUMP, IN PLAIN WORDS (tools/lay-plain.mjs out of 'TryzShelf2.lean', which tools/lay-shelf.mjs wrote): THE SAME DECLARATIONS UNDER THE SAME NAMES: 'import', 'namespace', 'open', 'def', 'theorem' AND NOTHING ELSE: no command of the shelf's: FOR A HAND-IN. .. | slices.SortFunc at links, of whatever length. | The scanner on lists of bytes. | The library's stable sorting at memberships: insertion. | The library's stable sorting at memberships: merging in place. -/
import Derived.Test.YtjblgpmagampbaaGreatDoorCP07
import Derived.Test.YtjblgpmagampbaaGreatDoorCP03
import Derived.Test.YtjblgpmagampbaaGreatDoorCP05
import Derived.Test.YtjblgpmagampbaaGreatDoorCP06
import Derived.Test.YtjblgpmagampbaaGreatDoorCP04
import Derived.Shelf.SlSortCmp.NoneTotal
import Derived.Shelf.SlGeneric
import Derived.Ground.SlsfProg
import Derived.Test.YtjblgpmagampbaaGreatDoorProg
import Derived.Lib.IndexMore
set_option linter.unusedVariables false
set_option maxHeartbeats 4000000
set_option maxRecDepth 100000
namespace Go.Proofs.YtjblgpmagampbaaGreatDoor
open VL
def Zdk (p0:Int):Option Bool:=
 (some (!decide (p0=p0)):Option Bool)
theorem Zfb (p0:Int) (r:Bool) (h:Zdk p0=some r):Zd Tryz.prog 158 [.int .i64 p0] (.bool r):=by
 refine cF (fun r=>.bool r) h mix Tryz.func158 fun r h=>?_
 unfold Zdk at h
 refine Zj ?_
 refine rg ?_
 refine rg ?_
 cases h
 exact rQ
def cmp_Compare_int (p0:Int) (p1:Int):Option Int:=
 (Zdk p0).bind fun r1=>
 (Zdk p1).bind fun r2=>
 if r1 then
  if r2 then
   (some 0:Option Int)
  else
  (some (-1):Option Int)
 else
 if r2 then
  (some 1:Option Int)
 else
 if (decide (p0<p1)) then
  (some (-1):Option Int)
 else
 if (decide (p1<p0)) then
  (some 1:Option Int)
 else
 (some 0:Option Int)
theorem Zhf (p0:Int) (p1:Int) (r:Int) (h:cmp_Compare_int p0 p1=some r):Zd Tryz.prog 102 [.int .i64 p0,.int .i64 p1] (.int .i64 r):=by
 refine cF (fun r=>.int .i64 r) h mix Tryz.func102 fun r h=>?_
 unfold cmp_Compare_int at h
 refine Zj ?_
 refine rg ?_
 refine rg ?_
 refine aC h (Zfb _) fun r1 h=>?_
 refine rg ?_
 refine aC h (Zfb _) fun r2 h=>?_
 refine rg ?_
 refine cS h rfl (fun h=>?_) fun h=>?_
 ·refine rg ?_
  refine cS h rfl (fun h=>?_) fun h=>?_
  ·refine rg ?_
   cases h
   exact rQ
  refine rg ?_
  cases h
  exact rQ
 refine rg ?_
 refine cS h rfl (fun h=>?_) fun h=>?_
 ·refine rg ?_
  cases h
  exact rQ
 refine rg ?_
 refine cS h rfl (fun h=>?_) fun h=>?_
 ·refine rg ?_
  cases h
  exact rQ
 refine rg ?_
 refine cS h rfl (fun h=>?_) fun h=>?_
 ·refine rg ?_
  cases h
  exact rQ
 refine rg ?_
 cases h
 exact rQ
def ZfB (p0:List Int):Option Int:=
 Zas Zck (fun f2 (x10:Int)=>
  if (decide (x10<(p0.length:Int))) then
   (atI p0 x10).bind fun e14=>
   if (!decide (e14=0)) then
    (some e14:Option Int)
   else
   f2 (w64 (x10+1))
  else
  (some 0:Option Int)) 0
theorem ZhE (p0:List Int) (r:Int) (h:ZfB p0=some r):Zd Tryz.prog 61 [.sl (List.map csI p0)] (.int .i64 r):=by
 refine cF (fun r=>.int .i64 r) h mix Tryz.func61 fun r h=>?_
 unfold ZfB at h
 refine Zj ?_
 refine rg ?_
 refine rg ?_
 refine rg ?_
 refine lM csI p0 ?_
 refine bl ?_
 refine Zu h fun f2 mf2 hf2 h=>?_
 refine Zq (α:=Nat×Int) (fun a _=>mkS [(3,.int .i64 0),(6,.sl (List.map csI p0)),(7,.int .i64 (p0.length:Int)),(8,.int .i64 a.2)] [] 2) (fun a=>Zas a.1 f2 a.2=some r) (fun a=>a.1) (mf2,0) 2 h (sR []) (fun a _ h=>?_)
 obtain ⟨mf2,x10⟩:=a
 obtain ⟨mf2,rfl,h⟩:=Zv hf2 h
 dsimp only at h ⊢
 refine Zj ?_
 refine rg ?_
 refine cS h rfl (fun h=>?_) fun h=>?_
 ·refine bl ?_
  refine rg ?_
  refine aI csI h fun e14 h=>?_
  refine rg ?_
  refine cS h rfl (fun h=>?_) fun h=>?_
  ·refine rg ?_
   cases h
   exact rQ
  refine rg ?_
  exact rn (mf2,(w64 (x10+1))) h (sR [])
 refine rg ?_
 cases h
 exact rQ
def Zcl (p0:Title) (p1:Title):Option Int:=
 (cmp_Compare_int p0.space p1.space).bind fun r1=>
 (strings_Compare p0.name p1.name).bind fun r2=>
 (ZfB [r1,r2]).bind fun r3=>
 (some r3:Option Int)
theorem ZdI (p0:Title) (p1:Title) (r:Int) (h:Zcl p0 p1=some r):Zd Tryz.prog 63 [p0.pv,p1.pv] (.int .i64 r):=by
 refine cF (fun r=>.int .i64 r) h mix Tryz.func63 fun r h=>?_
 unfold Zcl at h
 refine Zj ?_
 refine rg ?_
 refine rg ?_
 refine aC h (Zhf _ _) fun r1 h=>?_
 refine aC h (Zhe _ _) fun r2 h=>?_
 refine bM csI ([r1,r2]:List Int) ?_
 refine aL h (ZhE _) fun r3 h=>?_
 cases h
 exact rQ
def ZcE (p0:Memb) (p1:Memb):Option Int:=
 (Zcl p0.category p1.category).bind fun r1=>
 (some r1:Option Int)
theorem Zdl (p0:Memb) (p1:Memb) (r:Int) (h:ZcE p0 p1=some r):Zd Tryz.prog 112 [p0.pv,p1.pv] (.int .i64 r):=by
 refine cF (fun r=>.int .i64 r) h mix Tryz.func112 fun r h=>?_
 unfold ZcE at h
 refine Zj ?_
 refine rg ?_
 refine rg ?_
 refine aC h (ZdI _ _) fun r1 h=>?_
 cases h
 exact rQ
def ZeG (p0:Memb) (p1:Memb):Option Bool:=
 (some (decide (p0.category=p1.category)):Option Bool)
theorem ZgC (p0:Memb) (p1:Memb) (r:Bool) (h:ZeG p0 p1=some r):Zd Tryz.prog 114 [p0.pv,p1.pv] (.bool r):=by
 refine cF (fun r=>.bool r) h mix Tryz.func114 fun r h=>?_
 unfold ZeG at h
 refine Zj ?_
 refine rg ?_
 refine rg ?_
 refine Ziw (.inl rfl) rfl rfl rfl rfl rfl (fun W=>Zka p0.category p1.category W) (Zj ?_)
 cases h
 exact rQ
def ZN (p0:List Memb) (p1:Int) (p2:Int):Option (List Memb):=
 Zas Zck (fun f17 ((x95,x96):Int×(List Memb))=>
  if (decide (x95<p2)) then
   Zas Zck (fun f24 ((x253,x254):Int×(List Memb))=>
    letk (fun (x273:Bool)=>
     if x273 then
      (atI x254 (w64 (x253 - 1))).bind fun e278=>
      (atI x254 x253).bind fun e279=>
      (atI x254 x253).bind fun e280=>
      (atI (ZdH x254 x253 e278) (w64 (x253 - 1))).bind fun e281=>
      f24 ((w64 (x253 - 1)),(ZdH (ZdH x254 x253 e278) (w64 (x253 - 1)) e279))
     else
     f17 ((w64 (x95+1)),x254)) fun k25=>
    if (decide (p1<x253)) then
     (atI x254 x253).bind fun e282=>
     (atI x254 (w64 (x253 - 1))).bind fun e283=>
     (ZcE e282 e283).bind fun r284=>
     k25 (decide (r284<0))
    else
    k25 false) (x95,x96)
  else
  (some x96:Option (List Memb))) ((w64 (p1+1)),p0)
theorem ZaG (p0:List Memb) (p1:Int) (p2:Int) (r:List Memb) (h:ZN p0 p1 p2=some r):ContractR Tryz.prog 273 [.int .i64 p1,.int .i64 p2,.fn 112 []] 32 3 (List.map Memb.cs p0) (.tup []) (List.map Memb.cs r):=by
 refine ZaS (R:=fun r=>.tup []) (O:=fun r=>(List.map Memb.cs r)) h mix Tryz.func273 (by kernel_rfl) rfl (by kernel_rfl) fun r h=>?_
 unfold ZN at h
 refine Zj ?_
 refine rg ?_
 refine bl ?_
 refine Zu h fun f17 mf17 hf17 h=>?_
 refine Zq (α:=Nat×(Int×(List Memb))) (fun a _=>mkS [(0,.row 0 (0,0)),(1,.int .i64 p1),(2,.int .i64 p2),(3,.fn 112 []),(8,.int .i64 a.2.1)] [(0,some ((0,0),.row 32 3 false (List.map Memb.cs a.2.2)))] 2) (fun a=>Zas a.1 f17 a.2=some r) (fun a=>a.1) (mf17,(w64 (p1+1)),p0) 2 h (Zl [] ⟨rfl,rfl,rfl,rfl,rfl,trivial⟩ ⟨⟨rfl,rfl⟩,trivial⟩ rfl) (fun a _ h=>?_)
 obtain ⟨mf17,x95,x96⟩:=a
 obtain ⟨mf17,rfl,h⟩:=Zv hf17 h
 dsimp only at h ⊢
 refine Zj ?_
 refine rg ?_
 refine cS h rfl (fun h=>?_) fun h=>?_
 ·refine bl ?_
  refine rg ?_
  refine bl ?_
  refine Zu h fun f24 mf24 hf24 h=>?_
  refine Zq (α:=Nat×(Int×(List Memb))) (fun a _=>mkS [(0,.row 0 (0,0)),(1,.int .i64 p1),(2,.int .i64 p2),(3,.fn 112 []),(8,.int .i64 x95),(9,.int .i64 a.2.1)] [(0,some ((0,0),.row 32 3 false (List.map Memb.cs a.2.2)))] 2) (fun a=>Zas a.1 f24 a.2=some r) (fun a=>a.1) (mf24,x95,x96) 2 h (Zl [] ⟨rfl,rfl,rfl,rfl,rfl,rfl,trivial⟩ ⟨⟨rfl,rfl⟩,trivial⟩ rfl) (fun a _ h=>?_)
  obtain ⟨mf24,x253,x254⟩:=a
  obtain ⟨mf24,rfl,h⟩:=Zv hf24 h
  dsimp only at h ⊢
  refine Zj ?_
  refine jL h (fun x273=>mkS [(0,.row 0 (0,0)),(1,.int .i64 p1),(2,.int .i64 p2),(3,.fn 112 []),(8,.int .i64 x95),(9,.int .i64 x253),(34,.bool x273)] [(0,some ((0,0),.row 32 3 false (List.map Memb.cs x254)))] 2) (fun k25 h=>?_) fun x273 h=>?_
  ·refine rg ?_
   refine kS 21 h rfl (fun h=>?_) fun h=>?_
   ·obtain ⟨e282,h250,h⟩:=bnd h
    refine Zw rfl h250 rfl rfl rfl (Zj ?_)
    refine ZM rfl h250 rfl rfl rfl (Zj ?_)
    obtain ⟨e283,h251,h⟩:=bnd h
    refine Zw rfl h251 rfl rfl rfl (Zj ?_)
    refine ZM rfl h251 rfl rfl rfl (Zj ?_)
    obtain ⟨r284,h252,h⟩:=bnd h
    refine ZcW (Lc:=[]) (args1:=[e282.pv,e283.pv]) (Zdl _ _ _ h252) rfl rfl rfl rfl (Zj ?_)
    exact jn (decide (r284<0)) h (Zl [] ⟨rfl,rfl,rfl,rfl,rfl,rfl,rfl,trivial⟩ ⟨⟨rfl,rfl⟩,trivial⟩ rfl)
   iterate 12 refine ZI rfl (Zj ?_)
   exact jn false h (Zl [] ⟨rfl,rfl,rfl,rfl,rfl,rfl,rfl,trivial⟩ ⟨⟨rfl,rfl⟩,trivial⟩ rfl)
  refine cS h rfl (fun h=>?_) fun h=>?_
  ·refine bl ?_
   refine rg ?_
   obtain ⟨e278,h246,h⟩:=bnd h
   refine Zw rfl h246 rfl rfl rfl (Zj ?_)
   refine ZM rfl h246 rfl rfl rfl (Zj ?_)
   obtain ⟨e279,h247,h⟩:=bnd h
   refine Zw rfl h247 rfl rfl rfl (Zj ?_)
   refine ZM rfl h247 rfl rfl rfl (Zj ?_)
   obtain ⟨e280,h248,h⟩:=bnd h
   refine Zw rfl h248 rfl rfl rfl (Zj ?_)
   refine Zbb (e':=e278) rfl h248 rfl rfl rfl rfl rfl rfl (Nat.le_of_ble_eq_true rfl) rfl rfl (Zj ?_)
   obtain ⟨e281,h249,h⟩:=bnd h
   refine Zw rfl h249 rfl rfl rfl (Zj ?_)
   refine Zbb (e':=e279) rfl h249 rfl rfl rfl rfl rfl rfl (Nat.le_of_ble_eq_true rfl) rfl rfl (Zj ?_)
   refine rg ?_
   exact rn (mf24,(w64 (x253 - 1)),(ZdH (ZdH x254 x253 e278) (w64 (x253 - 1)) e279)) h (Zl [] ⟨rfl,rfl,rfl,rfl,rfl,rfl,trivial⟩ ⟨⟨rfl,rfl⟩,trivial⟩ rfl)
  refine rg ?_
  exact rn (mf17,(w64 (x95+1)),x254) h (Zl [] ⟨rfl,rfl,rfl,rfl,rfl,trivial⟩ ⟨⟨rfl,rfl⟩,trivial⟩ rfl)
 cases h
 exact ZbG rfl rfl rfl
def ZK (p0:List Memb) (p1:Int) (p2:Int) (p3:Int):Option (List Memb):=
 Zas Zck (fun f1 ((x9,x10):Int×(List Memb))=>
  if (decide (x9<p3)) then
   (atI x10 (w64 (p2+x9))).bind fun e23=>
   (atI x10 (w64 (p1+x9))).bind fun e24=>
   (atI x10 (w64 (p1+x9))).bind fun e25=>
   (atI (ZdH x10 (w64 (p1+x9)) e23) (w64 (p2+x9))).bind fun e26=>
   f1 ((w64 (x9+1)),(ZdH (ZdH x10 (w64 (p1+x9)) e23) (w64 (p2+x9)) e24))
  else
  (some x10:Option (List Memb))) (0,p0)
theorem Zai (p0:List Memb) (p1:Int) (p2:Int) (p3:Int) (r:List Memb) (h:ZK p0 p1 p2 p3=some r):ContractR Tryz.prog 360 [.int .i64 p1,.int .i64 p2,.int .i64 p3,.fn 112 []] 32 3 (List.map Memb.cs p0) (.tup []) (List.map Memb.cs r):=by
 refine ZaS (R:=fun r=>.tup []) (O:=fun r=>(List.map Memb.cs r)) h mix Tryz.func360 (by kernel_rfl) rfl (by kernel_rfl) fun r h=>?_
 unfold ZK at h
 refine Zj ?_
 refine rg ?_
 refine bl ?_
 refine Zu h fun f1 mf1 hf1 h=>?_
 refine Zq (α:=Nat×(Int×(List Memb))) (fun a _=>mkS [(0,.row 0 (0,0)),(1,.int .i64 p1),(2,.int .i64 p2),(3,.int .i64 p3),(10,.int .i64 a.2.1)] [(0,some ((0,0),.row 32 3 false (List.map Memb.cs a.2.2)))] 2) (fun a=>Zas a.1 f1 a.2=some r) (fun a=>a.1) (mf1,0,p0) 2 h (sR []) (fun a _ h=>?_)
 obtain ⟨mf1,x9,x10⟩:=a
 obtain ⟨mf1,rfl,h⟩:=Zv hf1 h
 dsimp only at h ⊢
 refine Zj ?_
 refine rg ?_
 refine cS h rfl (fun h=>?_) fun h=>?_
 ·refine bl ?_
  refine rg ?_
  obtain ⟨e23,h21,h⟩:=bnd h
  refine Zw rfl h21 rfl rfl rfl (Zj ?_)
  refine ZM rfl h21 rfl rfl rfl (Zj ?_)
  obtain ⟨e24,h22,h⟩:=bnd h
  refine Zw rfl h22 rfl rfl rfl (Zj ?_)
  refine ZM rfl h22 rfl rfl rfl (Zj ?_)
  obtain ⟨e25,h23,h⟩:=bnd h
  refine Zw rfl h23 rfl rfl rfl (Zj ?_)
  refine Zbb (e':=e23) rfl h23 rfl rfl rfl rfl rfl rfl (Nat.le_of_ble_eq_true rfl) rfl rfl (Zj ?_)
  obtain ⟨e26,h24,h⟩:=bnd h
  refine Zw rfl h24 rfl rfl rfl (Zj ?_)
  refine Zbb (e':=e24) rfl h24 rfl rfl rfl rfl rfl rfl (Nat.le_of_ble_eq_true rfl) rfl rfl (Zj ?_)
  refine rg ?_
  exact rn (mf1,(w64 (x9+1)),(ZdH (ZdH x10 (w64 (p1+x9)) e23) (w64 (p2+x9)) e24)) h (sR [])
 cases h
 exact ZbG rfl rfl rfl
def ZaE (p0:List Memb) (p1:Int) (p2:Int) (p3:Int):Option (List Memb):=
 Zas Zck (fun f2 ((x12,x13,x14):Int×Int×(List Memb))=>
  if (!decide (x12=x13)) then
   if (decide (x13<x12)) then
    (ZK x14 (w64 (p2 - x12)) p2 x13).bind fun r17=>
    f2 ((w64 (x12 - x13)),x13,r17)
   else
   (ZK x14 (w64 (p2 - x12)) (w64 ((w64 (p2+x13)) - x12)) x12).bind fun r18=>
   f2 (x12,(w64 (x13 - x12)),r18)
  else
  (ZK x14 (w64 (p2 - x12)) p2 x12).bind fun r19=>
  (some r19:Option (List Memb))) ((w64 (p2 - p1)),(w64 (p3 - p2)),p0)
theorem Zcu (p0:List Memb) (p1:Int) (p2:Int) (p3:Int) (r:List Memb) (h:ZaE p0 p1 p2 p3=some r):ContractR Tryz.prog 327 [.int .i64 p1,.int .i64 p2,.int .i64 p3,.fn 112 []] 32 3 (List.map Memb.cs p0) (.tup []) (List.map Memb.cs r):=by
 refine ZaS (R:=fun r=>.tup []) (O:=fun r=>(List.map Memb.cs r)) h mix Tryz.func327 (by kernel_rfl) rfl (by kernel_rfl) fun r h=>?_
 unfold ZaE at h
 refine Zj ?_
 refine rg ?_
 refine rg ?_
 refine bl ?_
 refine Zu h fun f2 mf2 hf2 h=>?_
 refine Zq (α:=Nat×(Int×Int×(List Memb))) (fun a _=>mkS [(0,.row 0 (0,0)),(2,.int .i64 p2),(4,.fn 112 []),(10,.int .i64 a.2.1),(11,.int .i64 a.2.2.1)] [(0,some ((0,0),.row 32 3 false (List.map Memb.cs a.2.2.2)))] 2) (fun a=>Zas a.1 f2 a.2=some r) (fun a=>a.1) (mf2,(w64 (p2 - p1)),(w64 (p3 - p2)),p0) 2 h (Zl [] ⟨rfl,rfl,rfl,rfl,rfl,trivial⟩ ⟨⟨rfl,rfl⟩,trivial⟩ rfl) (fun a _ h=>?_)
 obtain ⟨mf2,x12,x13,x14⟩:=a
 obtain ⟨mf2,rfl,h⟩:=Zv hf2 h
 dsimp only at h ⊢
 refine Zj ?_
 refine rg ?_
 refine cS h rfl (fun h=>?_) fun h=>?_
 ·refine bl ?_
  refine rg ?_
  refine cS h rfl (fun h=>?_) fun h=>?_
  ·refine rg ?_
   obtain ⟨r17,h11,h⟩:=bnd h
   refine Zbn (Zai _ _ _ _ _ h11) rfl rfl rfl rfl rfl (Zj ?_)
   refine rg ?_
   exact rn (mf2,(w64 (x12 - x13)),x13,r17) h (Zl [] ⟨rfl,rfl,rfl,rfl,rfl,trivial⟩ ⟨⟨rfl,rfl⟩,trivial⟩ rfl)
  refine rg ?_
  obtain ⟨r18,h12,h⟩:=bnd h
  refine Zbn (Zai _ _ _ _ _ h12) rfl rfl rfl rfl rfl (Zj ?_)
  refine rg ?_
  exact rn (mf2,x12,(w64 (x13 - x12)),r18) h (Zl [] ⟨rfl,rfl,rfl,rfl,rfl,trivial⟩ ⟨⟨rfl,rfl⟩,trivial⟩ rfl)
 refine rg ?_
 obtain ⟨r19,h13,h⟩:=bnd h
 refine Zbn (Zai _ _ _ _ _ h13) rfl rfl rfl rfl rfl (Zj ?_)
 cases h
 exact ZbG rfl rfl rfl
def ZF:Nat→(List Memb)→Int→Int→Int→Option (List Memb)
 | 0,_,_,_,_=>none
 | mF+1,p0,p1,p2,p3=>
 if (decide ((w64 (p2 - p1))=1)) then
  Zas Zck (fun f6 ((x99,x100):Int×Int)=>
   if (decide (x99<x100)) then
    (ZnZ .u64 (IntKind.wrap .u64 (w64 (x99+x100))) 1).bind fun q105=>
    (atI p0 (IntKind.wrap .i64 q105)).bind fun e106=>
    (atI p0 p1).bind fun e107=>
    (ZcE e106 e107).bind fun r108=>
    if (decide (r108<0)) then
     f6 ((w64 ((IntKind.wrap .i64 q105)+1)),x100)
    else
    f6 (x99,(IntKind.wrap .i64 q105))
   else
   Zas Zck (fun f8 ((x143,x144):Int×(List Memb))=>
    if (decide (x143<(w64 (x99 - 1)))) then
     (atI x144 (w64 (x143+1))).bind fun e157=>
     (atI x144 x143).bind fun e158=>
     (atI x144 x143).bind fun e159=>
     (atI (ZdH x144 x143 e157) (w64 (x143+1))).bind fun e160=>
     f8 ((w64 (x143+1)),(ZdH (ZdH x144 x143 e157) (w64 (x143+1)) e158))
    else
    (some x144:Option (List Memb))) (p1,p0)) (p2,p3)
 else
 if (decide ((w64 (p3 - p2))=1)) then
  Zas Zck (fun f14 ((x259,x260):Int×Int)=>
   if (decide (x259<x260)) then
    (ZnZ .u64 (IntKind.wrap .u64 (w64 (x259+x260))) 1).bind fun q265=>
    (atI p0 p2).bind fun e266=>
    (atI p0 (IntKind.wrap .i64 q265)).bind fun e267=>
    (ZcE e266 e267).bind fun r268=>
    if (!(decide (r268<0))) then
     f14 ((w64 ((IntKind.wrap .i64 q265)+1)),x260)
    else
    f14 (x259,(IntKind.wrap .i64 q265))
   else
   Zas Zck (fun f16 ((x303,x304):Int×(List Memb))=>
    if (decide (x259<x303)) then
     (atI x304 (w64 (x303 - 1))).bind fun e317=>
     (atI x304 x303).bind fun e318=>
     (atI x304 x303).bind fun e319=>
     (atI (ZdH x304 x303 e317) (w64 (x303 - 1))).bind fun e320=>
     f16 ((w64 (x303 - 1)),(ZdH (ZdH x304 x303 e317) (w64 (x303 - 1)) e318))
    else
    (some x304:Option (List Memb))) (p2,p0)) (p1,p2)
 else
 (ZnZ .u64 (IntKind.wrap .u64 (w64 (p1+p3))) 1).bind fun q321=>
 letk (fun (x322:Int) (x323:Int)=>
  Zas Zck (fun f19 ((x342,x343):Int×Int)=>
   if (decide (x342<x343)) then
    (ZnZ .u64 (IntKind.wrap .u64 (w64 (x342+x343))) 1).bind fun q348=>
    (atI p0 (w64 ((w64 ((w64 ((IntKind.wrap .i64 q321)+p2)) - 1)) - (IntKind.wrap .i64 q348)))).bind fun e349=>
    (atI p0 (IntKind.wrap .i64 q348)).bind fun e350=>
    (ZcE e349 e350).bind fun r351=>
    if (!(decide (r351<0))) then
     f19 ((w64 ((IntKind.wrap .i64 q348)+1)),x343)
    else
    f19 (x342,(IntKind.wrap .i64 q348))
   else
   letk (fun (x352:Bool)=>
    letk (fun (x354:List Memb)=>
     letk (fun (x355:Bool)=>
      letk (fun (x357:List Memb)=>
       letk (fun (x358:Bool)=>
        if x358 then
         (ZF mF x357 (IntKind.wrap .i64 q321) (w64 ((w64 ((IntKind.wrap .i64 q321)+p2)) - x342)) p3).bind fun r359=>
         (some r359:Option (List Memb))
        else
        (some x357:Option (List Memb))) fun k24=>
       if (decide ((IntKind.wrap .i64 q321)<(w64 ((w64 ((IntKind.wrap .i64 q321)+p2)) - x342)))) then
        k24 (decide ((w64 ((w64 ((IntKind.wrap .i64 q321)+p2)) - x342))<p3))
       else
       k24 false) fun k23=>
      if x355 then
       (ZF mF x354 p1 x342 (IntKind.wrap .i64 q321)).bind fun r360=>
       k23 r360
      else
      k23 x354) fun k22=>
     if (decide (p1<x342)) then
      k22 (decide (x342<(IntKind.wrap .i64 q321)))
     else
     k22 false) fun k21=>
    if x352 then
     (ZaE p0 x342 p2 (w64 ((w64 ((IntKind.wrap .i64 q321)+p2)) - x342))).bind fun r361=>
     k21 r361
    else
    k21 p0) fun k20=>
   if (decide (x342<p2)) then
    k20 (decide (p2<(w64 ((w64 ((IntKind.wrap .i64 q321)+p2)) - x342))))
   else
   k20 false) (x322,x323)) fun k17=>
 if (decide ((IntKind.wrap .i64 q321)<p2)) then
  k17 (w64 ((w64 ((IntKind.wrap .i64 q321)+p2)) - p3)) (IntKind.wrap .i64 q321)
 else
 k17 p1 p2
theorem Za8 (mF:Nat):∀ (p0:List Memb) (p1:Int) (p2:Int) (p3:Int) (r:List Memb),ZF mF p0 p1 p2 p3=some r→ContractR Tryz.prog 274 [.int .i64 p1,.int .i64 p2,.int .i64 p3,.fn 112 []] 32 3 (List.map Memb.cs p0) (.tup []) (List.map Memb.cs r):=by
 induction mF with
 | zero=>intro p0 p1 p2 p3 r h;cases h
 | succ mF ihF=>
 intro p0 p1 p2 p3 r h
 refine ZaS (R:=fun r=>.tup []) (O:=fun r=>(List.map Memb.cs r)) h mix Tryz.func274 (by kernel_rfl) rfl (by kernel_rfl) fun r h=>?_
 simp only [ZF] at h
 refine Zj ?_
 refine rg ?_
 refine cS h rfl (fun h=>?_) fun h=>?_
 ·refine rg ?_
  refine rg ?_
  refine bl ?_
  refine Zu h fun f6 mf6 hf6 h=>?_
  refine Zq (α:=Nat×(Int×Int)) (fun a _=>mkS [(0,.row 0 (0,0)),(1,.int .i64 p1),(4,.fn 112 []),(10,.int .i64 a.2.1),(11,.int .i64 a.2.2)] [(0,some ((0,0),.row 32 3 false (List.map Memb.cs p0)))] 2) (fun a=>Zas a.1 f6 a.2=some r) (fun a=>a.1) (mf6,p2,p3) 2 h (Zl [] ⟨rfl,rfl,rfl,rfl,rfl,trivial⟩ ⟨⟨rfl,rfl⟩,trivial⟩ rfl) (fun a _ h=>?_)
  obtain ⟨mf6,x99,x100⟩:=a
  obtain ⟨mf6,rfl,h⟩:=Zv hf6 h
  dsimp only at h ⊢
  refine Zj ?_
  refine rg ?_
  refine cS h rfl (fun h=>?_) fun h=>?_
  ·refine bl ?_
   refine rg ?_
   obtain ⟨q105,h93,h⟩:=bnd h
   refine ZgV rfl h93 rfl rfl (Zj ?_)
   refine rg ?_
   obtain ⟨e106,h94,h⟩:=bnd h
   refine Zw rfl h94 rfl rfl rfl (Zj ?_)
   refine ZM rfl h94 rfl rfl rfl (Zj ?_)
   obtain ⟨e107,h95,h⟩:=bnd h
   refine Zw rfl h95 rfl rfl rfl (Zj ?_)
   refine ZM rfl h95 rfl rfl rfl (Zj ?_)
   obtain ⟨r108,h96,h⟩:=bnd h
   refine ZcW (Lc:=[]) (args1:=[e106.pv,e107.pv]) (Zdl _ _ _ h96) rfl rfl rfl rfl (Zj ?_)
   refine cS h rfl (fun h=>?_) fun h=>?_
   ·refine rg ?_
    exact rn (mf6,(w64 ((IntKind.wrap .i64 q105)+1)),x100) h (Zl [] ⟨rfl,rfl,rfl,rfl,rfl,trivial⟩ ⟨⟨rfl,rfl⟩,trivial⟩ rfl)
   refine rg ?_
   exact rn (mf6,x99,(IntKind.wrap .i64 q105)) h (Zl [] ⟨rfl,rfl,rfl,rfl,rfl,trivial⟩ ⟨⟨rfl,rfl⟩,trivial⟩ rfl)
  refine rg ?_
  refine bl ?_
  refine Zu h fun f8 mf8 hf8 h=>?_
  refine Zq (α:=Nat×(Int×(List Memb))) (fun a _=>mkS [(0,.row 0 (0,0)),(10,.int .i64 x99),(13,.int .i64 a.2.1)] [(0,some ((0,0),.row 32 3 false (List.map Memb.cs a.2.2)))] 2) (fun a=>Zas a.1 f8 a.2=some r) (fun a=>a.1) (mf8,p1,p0) 2 h (sR []) (fun a _ h=>?_)
  obtain ⟨mf8,x143,x144⟩:=a
  obtain ⟨mf8,rfl,h⟩:=Zv hf8 h
  dsimp only at h ⊢
  refine Zj ?_
  refine rg ?_
  refine cS h rfl (fun h=>?_) fun h=>?_
  ·refine bl ?_
   refine rg ?_
   obtain ⟨e157,h141,h⟩:=bnd h
   refine Zw rfl h141 rfl rfl rfl (Zj ?_)
   refine ZM rfl h141 rfl rfl rfl (Zj ?_)
   obtain ⟨e158,h142,h⟩:=bnd h
   refine Zw rfl h142 rfl rfl rfl (Zj ?_)
   refine ZM rfl h142 rfl rfl rfl (Zj ?_)
   obtain ⟨e159,h143,h⟩:=bnd h
   refine Zw rfl h143 rfl rfl rfl (Zj ?_)
   refine Zbb (e':=e157) rfl h143 rfl rfl rfl rfl rfl rfl (Nat.le_of_ble_eq_true rfl) rfl rfl (Zj ?_)
   obtain ⟨e160,h144,h⟩:=bnd h
   refine Zw rfl h144 rfl rfl rfl (Zj ?_)
   refine Zbb (e':=e158) rfl h144 rfl rfl rfl rfl rfl rfl (Nat.le_of_ble_eq_true rfl) rfl rfl (Zj ?_)
   refine rg ?_
   exact rn (mf8,(w64 (x143+1)),(ZdH (ZdH x144 x143 e157) (w64 (x143+1)) e158)) h (sR [])
  cases h
  exact Zm2 rfl rfl rfl
 refine rg ?_
 refine cS h rfl (fun h=>?_) fun h=>?_
 ·refine rg ?_
  refine rg ?_
  refine bl ?_
  refine Zu h fun f14 mf14 hf14 h=>?_
  refine Zq (α:=Nat×(Int×Int)) (fun a _=>mkS [(0,.row 0 (0,0)),(2,.int .i64 p2),(4,.fn 112 []),(14,.int .i64 a.2.1),(15,.int .i64 a.2.2)] [(0,some ((0,0),.row 32 3 false (List.map Memb.cs p0)))] 2) (fun a=>Zas a.1 f14 a.2=some r) (fun a=>a.1) (mf14,p1,p2) 2 h (Zl [] ⟨rfl,rfl,rfl,rfl,rfl,trivial⟩ ⟨⟨rfl,rfl⟩,trivial⟩ rfl) (fun a _ h=>?_)
  obtain ⟨mf14,x259,x260⟩:=a
  obtain ⟨mf14,rfl,h⟩:=Zv hf14 h
  dsimp only at h ⊢
  refine Zj ?_
  refine rg ?_
  refine cS h rfl (fun h=>?_) fun h=>?_
  ·refine bl ?_
   refine rg ?_
   obtain ⟨q265,h237,h⟩:=bnd h
   refine ZgV rfl h237 rfl rfl (Zj ?_)
   refine rg ?_
   obtain ⟨e266,h238,h⟩:=bnd h
   refine Zw rfl h238 rfl rfl rfl (Zj ?_)
   refine ZM rfl h238 rfl rfl rfl (Zj ?_)
   obtain ⟨e267,h239,h⟩:=bnd h
   refine Zw rfl h239 rfl rfl rfl (Zj ?_)
   refine ZM rfl h239 rfl rfl rfl (Zj ?_)
   obtain ⟨r268,h240,h⟩:=bnd h
   refine ZcW (Lc:=[]) (args1:=[e266.pv,e267.pv]) (Zdl _ _ _ h240) rfl rfl rfl rfl (Zj ?_)
   refine cS h rfl (fun h=>?_) fun h=>?_
   ·refine rg ?_
    exact rn (mf14,(w64 ((IntKind.wrap .i64 q265)+1)),x260) h (Zl [] ⟨rfl,rfl,rfl,rfl,rfl,trivial⟩ ⟨⟨rfl,rfl⟩,trivial⟩ rfl)
   refine rg ?_
   exact rn (mf14,x259,(IntKind.wrap .i64 q265)) h (Zl [] ⟨rfl,rfl,rfl,rfl,rfl,trivial⟩ ⟨⟨rfl,rfl⟩,trivial⟩ rfl)
  refine rg ?_
  refine bl ?_
  refine Zu h fun f16 mf16 hf16 h=>?_
  refine Zq (α:=Nat×(Int×(List Memb))) (fun a _=>mkS [(0,.row 0 (0,0)),(14,.int .i64 x259),(17,.int .i64 a.2.1)] [(0,some ((0,0),.row 32 3 false (List.map Memb.cs a.2.2)))] 2) (fun a=>Zas a.1 f16 a.2=some r) (fun a=>a.1) (mf16,p2,p0) 2 h (sR []) (fun a _ h=>?_)
  obtain ⟨mf16,x303,x304⟩:=a
  obtain ⟨mf16,rfl,h⟩:=Zv hf16 h
  dsimp only at h ⊢
  refine Zj ?_
  refine rg ?_
  refine cS h rfl (fun h=>?_) fun h=>?_
  ·refine bl ?_
   refine rg ?_
   obtain ⟨e317,h285,h⟩:=bnd h
   refine Zw rfl h285 rfl rfl rfl (Zj ?_)
   refine ZM rfl h285 rfl rfl rfl (Zj ?_)
   obtain ⟨e318,h286,h⟩:=bnd h
   refine Zw rfl h286 rfl rfl rfl (Zj ?_)
   refine ZM rfl h286 rfl rfl rfl (Zj ?_)
   obtain ⟨e319,h287,h⟩:=bnd h
   refine Zw rfl h287 rfl rfl rfl (Zj ?_)
   refine Zbb (e':=e317) rfl h287 rfl rfl rfl rfl rfl rfl (Nat.le_of_ble_eq_true rfl) rfl rfl (Zj ?_)
   obtain ⟨e320,h288,h⟩:=bnd h
   refine Zw rfl h288 rfl rfl rfl (Zj ?_)
   refine Zbb (e':=e318) rfl h288 rfl rfl rfl rfl rfl rfl (Nat.le_of_ble_eq_true rfl) rfl rfl (Zj ?_)
   refine rg ?_
   exact rn (mf16,(w64 (x303 - 1)),(ZdH (ZdH x304 x303 e317) (w64 (x303 - 1)) e318)) h (sR [])
  cases h
  exact Zm2 rfl rfl rfl
 refine rg ?_
 obtain ⟨q321,h289,h⟩:=bnd h
 refine ZgV rfl h289 rfl rfl (Zj ?_)
 refine rg ?_
 refine rg ?_
 refine rg ?_
 refine Za6 h fun k17 hk17 h=>?_
 refine ZaV (α:=Int×Int) (fun a _=>mkS [(0,.row 0 (0,0)),(1,.int .i64 p1),(2,.int .i64 p2),(3,.int .i64 p3),(4,.fn 112 []),(18,.int .i64 (IntKind.wrap .i64 q321)),(19,.int .i64 (w64 ((IntKind.wrap .i64 q321)+p2))),(20,.int .i64 a.1),(21,.int .i64 a.2)] [(0,some ((0,0),.row 32 3 false (List.map Memb.cs p0)))] 2) (fun a=>k17 a.1 a.2=some r) (Zj ?_) (fun a _ h=>?_)
 ·refine cS h rfl (fun h=>?_) fun h=>?_
  ·refine rg ?_
   refine rg ?_
   exact jn ((w64 ((w64 ((IntKind.wrap .i64 q321)+p2)) - p3)),(IntKind.wrap .i64 q321)) h (Zl [] ⟨rfl,rfl,rfl,rfl,rfl,rfl,rfl,rfl,rfl,trivial⟩ ⟨⟨rfl,rfl⟩,trivial⟩ rfl)
  refine rg ?_
  refine rg ?_
  exact jn (p1,p2) h (Zl [] ⟨rfl,rfl,rfl,rfl,rfl,rfl,rfl,rfl,rfl,trivial⟩ ⟨⟨rfl,rfl⟩,trivial⟩ rfl)
 obtain ⟨x322,x323⟩:=a
 subst hk17
 dsimp only at h ⊢
 refine Zj ?_
 refine rg ?_
 refine bl ?_
 refine Zu h fun f19 mf19 hf19 h=>?_
 refine Zq (α:=Nat×(Int×Int)) (fun a _=>mkS [(0,.row 0 (0,0)),(1,.int .i64 p1),(2,.int .i64 p2),(3,.int .i64 p3),(4,.fn 112 []),(18,.int .i64 (IntKind.wrap .i64 q321)),(19,.int .i64 (w64 ((IntKind.wrap .i64 q321)+p2))),(20,.int .i64 a.2.1),(21,.int .i64 a.2.2),(22,.int .i64 (w64 ((w64 ((IntKind.wrap .i64 q321)+p2)) - 1)))] [(0,some ((0,0),.row 32 3 false (List.map Memb.cs p0)))] 2) (fun a=>Zas a.1 f19 a.2=some r) (fun a=>a.1) (mf19,x322,x323) 2 h (Zl [] ⟨rfl,rfl,rfl,rfl,rfl,rfl,rfl,rfl,rfl,rfl,trivial⟩ ⟨⟨rfl,rfl⟩,trivial⟩ rfl) (fun a _ h=>?_)
 obtain ⟨mf19,x342,x343⟩:=a
 obtain ⟨mf19,rfl,h⟩:=Zv hf19 h
 dsimp only at h ⊢
 refine Zj ?_
 refine rg ?_
 refine cS h rfl (fun h=>?_) fun h=>?_
 ·refine bl ?_
  refine rg ?_
  obtain ⟨q348,h310,h⟩:=bnd h
  refine ZgV rfl h310 rfl rfl (Zj ?_)
  refine rg ?_
  obtain ⟨e349,h311,h⟩:=bnd h
  refine Zw rfl h311 rfl rfl rfl (Zj ?_)
  refine ZM rfl h311 rfl rfl rfl (Zj ?_)
  obtain ⟨e350,h312,h⟩:=bnd h
  refine Zw rfl h312 rfl rfl rfl (Zj ?_)
  refine ZM rfl h312 rfl rfl rfl (Zj ?_)
  obtain ⟨r351,h313,h⟩:=bnd h
  refine ZcW (Lc:=[]) (args1:=[e349.pv,e350.pv]) (Zdl _ _ _ h313) rfl rfl rfl rfl (Zj ?_)
  refine cS h rfl (fun h=>?_) fun h=>?_
  ·refine rg ?_
   exact rn (mf19,(w64 ((IntKind.wrap .i64 q348)+1)),x343) h (Zl [] ⟨rfl,rfl,rfl,rfl,rfl,rfl,rfl,rfl,rfl,rfl,trivial⟩ ⟨⟨rfl,rfl⟩,trivial⟩ rfl)
  refine rg ?_
  exact rn (mf19,x342,(IntKind.wrap .i64 q348)) h (Zl [] ⟨rfl,rfl,rfl,rfl,rfl,rfl,rfl,rfl,rfl,rfl,trivial⟩ ⟨⟨rfl,rfl⟩,trivial⟩ rfl)
 refine rg ?_
 refine jL h (fun x352=>mkS [(0,.row 0 (0,0)),(1,.int .i64 p1),(2,.int .i64 p2),(3,.int .i64 p3),(4,.fn 112 []),(18,.int .i64 (IntKind.wrap .i64 q321)),(20,.int .i64 x342),(24,.int .i64 (w64 ((w64 ((IntKind.wrap .i64 q321)+p2)) - x342))),(185,.bool x352)] [(0,some ((0,0),.row 32 3 false (List.map Memb.cs p0)))] 2) (fun k20 h=>?_) fun x352 h=>?_
 ·refine rg ?_
  refine kS 181 h rfl (fun h=>?_) fun h=>?_
  ·exact jn (decide (p2<(w64 ((w64 ((IntKind.wrap .i64 q321)+p2)) - x342)))) h (Zl [] ⟨rfl,rfl,rfl,rfl,rfl,rfl,rfl,rfl,rfl,trivial⟩ ⟨⟨rfl,rfl⟩,trivial⟩ rfl)
  iterate 3 refine ZI rfl (Zj ?_)
  exact jn false h (Zl [] ⟨rfl,rfl,rfl,rfl,rfl,rfl,rfl,rfl,rfl,trivial⟩ ⟨⟨rfl,rfl⟩,trivial⟩ rfl)
 refine jL h (fun x354=>mkS [(0,.row 0 (0,0)),(1,.int .i64 p1),(3,.int .i64 p3),(4,.fn 112 []),(18,.int .i64 (IntKind.wrap .i64 q321)),(20,.int .i64 x342),(24,.int .i64 (w64 ((w64 ((IntKind.wrap .i64 q321)+p2)) - x342)))] [(0,some ((0,0),.row 32 3 false (List.map Memb.cs x354)))] 2) (fun k21 h=>?_) fun x354 h=>?_
 ·refine cS h rfl (fun h=>?_) fun h=>?_
  ·refine rg ?_
   obtain ⟨r361,h318,h⟩:=bnd h
   refine Zbn (Zcu _ _ _ _ _ h318) rfl rfl rfl rfl rfl (Zj ?_)
   exact jn r361 h (Zl [] ⟨rfl,rfl,rfl,rfl,rfl,rfl,rfl,trivial⟩ ⟨⟨rfl,rfl⟩,trivial⟩ rfl)
  exact jn p0 h (Zl [] ⟨rfl,rfl,rfl,rfl,rfl,rfl,rfl,trivial⟩ ⟨⟨rfl,rfl⟩,trivial⟩ rfl)
 refine jL h (fun x355=>mkS [(0,.row 0 (0,0)),(1,.int .i64 p1),(3,.int .i64 p3),(4,.fn 112 []),(18,.int .i64 (IntKind.wrap .i64 q321)),(20,.int .i64 x342),(24,.int .i64 (w64 ((w64 ((IntKind.wrap .i64 q321)+p2)) - x342))),(199,.bool x355)] [(0,some ((0,0),.row 32 3 false (List.map Memb.cs x354)))] 2) (fun k22 h=>?_) fun x355 h=>?_
 ·refine rg ?_
  refine kS 195 h rfl (fun h=>?_) fun h=>?_
  ·exact jn (decide (x342<(IntKind.wrap .i64 q321))) h (Zl [] ⟨rfl,rfl,rfl,rfl,rfl,rfl,rfl,rfl,trivial⟩ ⟨⟨rfl,rfl⟩,trivial⟩ rfl)
  iterate 3 refine ZI rfl (Zj ?_)
  exact jn false h (Zl [] ⟨rfl,rfl,rfl,rfl,rfl,rfl,rfl,rfl,trivial⟩ ⟨⟨rfl,rfl⟩,trivial⟩ rfl)
 refine jL h (fun x357=>mkS [(0,.row 0 (0,0)),(3,.int .i64 p3),(4,.fn 112 []),(18,.int .i64 (IntKind.wrap .i64 q321)),(24,.int .i64 (w64 ((w64 ((IntKind.wrap .i64 q321)+p2)) - x342)))] [(0,some ((0,0),.row 32 3 false (List.map Memb.cs x357)))] 2) (fun k23 h=>?_) fun x357 h=>?_
 ·refine cS h rfl (fun h=>?_) fun h=>?_
  ·refine rg ?_
   obtain ⟨r360,h317,h⟩:=bnd h
   refine Zbn (ihF _ _ _ _ _ h317) rfl rfl rfl rfl rfl (Zj ?_)
   exact jn r360 h (Zl [] ⟨rfl,rfl,rfl,rfl,rfl,trivial⟩ ⟨⟨rfl,rfl⟩,trivial⟩ rfl)
  exact jn x354 h (Zl [] ⟨rfl,rfl,rfl,rfl,rfl,trivial⟩ ⟨⟨rfl,rfl⟩,trivial⟩ rfl)
 refine jL h (fun x358=>mkS [(0,.row 0 (0,0)),(3,.int .i64 p3),(4,.fn 112 []),(18,.int .i64 (IntKind.wrap .i64 q321)),(24,.int .i64 (w64 ((w64 ((IntKind.wrap .i64 q321)+p2)) - x342))),(213,.bool x358)] [(0,some ((0,0),.row 32 3 false (List.map Memb.cs x357)))] 2) (fun k24 h=>?_) fun x358 h=>?_
 ·refine rg ?_
  refine kS 209 h rfl (fun h=>?_) fun h=>?_
  ·exact jn (decide ((w64 ((w64 ((IntKind.wrap .i64 q321)+p2)) - x342))<p3)) h (Zl [] ⟨rfl,rfl,rfl,rfl,rfl,rfl,trivial⟩ ⟨⟨rfl,rfl⟩,trivial⟩ rfl)
  iterate 3 refine ZI rfl (Zj ?_)
  exact jn false h (Zl [] ⟨rfl,rfl,rfl,rfl,rfl,rfl,trivial⟩ ⟨⟨rfl,rfl⟩,trivial⟩ rfl)
 refine cS h rfl (fun h=>?_) fun h=>?_
 ·refine rg ?_
  obtain ⟨r359,h316,h⟩:=bnd h
  refine Zbn (ihF _ _ _ _ _ h316) rfl rfl rfl rfl rfl (Zj ?_)
  cases h
  exact ZbG rfl rfl rfl
 cases h
 exact ZbG rfl rfl rfl
def ZaF (p0:List Memb) (p1:Int):Option (List Memb):=
 Zas Zck (fun f2 ((x8,x9,x10):Int×Int×(List Memb))=>
  if (decide (x9≤p1)) then
   (ZN x10 x8 x9).bind fun r12=>
   f2 (x9,(w64 (x9+20)),r12)
  else
  (ZN x10 x8 p1).bind fun r13=>
  Zas Zck (fun f9 ((x29,x30):Int×(List Memb))=>
   if (decide (x29<p1)) then
    Zas Zck (fun f11 ((x53,x54,x55):Int×Int×(List Memb))=>
     if (decide (x54≤p1)) then
      (ZF 64 x55 x53 (w64 (x53+x29)) x54).bind fun r57=>
      f11 (x54,(w64 (x54+(w64 (2 * x29)))),r57)
     else
     letk (fun (x59:List Memb)=>
      f9 ((w64 (x29 * 2)),x59)) fun k12=>
     if (decide ((w64 (x53+x29))<p1)) then
      (ZF 64 x55 x53 (w64 (x53+x29)) p1).bind fun r60=>
      k12 r60
     else
     k12 x55) (0,(w64 (2 * x29)),x30)
   else
   (some x30:Option (List Memb))) (20,r13)) (0,20,p0)
theorem Zcv (p0:List Memb) (p1:Int) (r:List Memb) (h:ZaF p0 p1=some r):ContractR Tryz.prog 180 [.int .i64 p1,.fn 112 []] 32 3 (List.map Memb.cs p0) (.tup []) (List.map Memb.cs r):=by
 refine ZaS (R:=fun r=>.tup []) (O:=fun r=>(List.map Memb.cs r)) h mix Tryz.func180 (by kernel_rfl) rfl (by kernel_rfl) fun r h=>?_
 unfold ZaF at h
 refine Zj ?_
 refine rg ?_
 refine rg ?_
 refine bl ?_
 refine Zu h fun f2 mf2 hf2 h=>?_
 refine Zq (α:=Nat×(Int×Int×(List Memb))) (fun a _=>mkS [(0,.row 0 (0,0)),(1,.int .i64 p1),(2,.fn 112 []),(6,.int .i64 20),(7,.int .i64 a.2.1),(8,.int .i64 a.2.2.1)] [(0,some ((0,0),.row 32 3 false (List.map Memb.cs a.2.2.2)))] 2) (fun a=>Zas a.1 f2 a.2=some r) (fun a=>a.1) (mf2,0,20,p0) 2 h (Zl [] ⟨rfl,rfl,rfl,rfl,rfl,rfl,trivial⟩ ⟨⟨rfl,rfl⟩,trivial⟩ rfl) (fun a _ h=>?_)
 obtain ⟨mf2,x8,x9,x10⟩:=a
 obtain ⟨mf2,rfl,h⟩:=Zv hf2 h
 dsimp only at h ⊢
 refine Zj ?_
 refine rg ?_
 refine cS h rfl (fun h=>?_) fun h=>?_
 ·refine bl ?_
  refine rg ?_
  obtain ⟨r12,h6,h⟩:=bnd h
  refine Zbn (ZaG _ _ _ _ h6) rfl rfl rfl rfl rfl (Zj ?_)
  refine rg ?_
  refine rg ?_
  exact rn (mf2,x9,(w64 (x9+20)),r12) h (Zl [] ⟨rfl,rfl,rfl,rfl,rfl,rfl,trivial⟩ ⟨⟨rfl,rfl⟩,trivial⟩ rfl)
 refine rg ?_
 obtain ⟨r13,h7,h⟩:=bnd h
 refine Zbn (ZaG _ _ _ _ h7) rfl rfl rfl rfl rfl (Zj ?_)
 refine bl ?_
 refine Zu h fun f9 mf9 hf9 h=>?_
 refine Zq (α:=Nat×(Int×(List Memb))) (fun a _=>mkS [(0,.row 0 (0,0)),(1,.int .i64 p1),(2,.fn 112 []),(6,.int .i64 a.2.1)] [(0,some ((0,0),.row 32 3 false (List.map Memb.cs a.2.2)))] 2) (fun a=>Zas a.1 f9 a.2=some r) (fun a=>a.1) (mf9,20,r13) 2 h (Zl [] ⟨rfl,rfl,rfl,rfl,trivial⟩ ⟨⟨rfl,rfl⟩,trivial⟩ rfl) (fun a _ h=>?_)
 obtain ⟨mf9,x29,x30⟩:=a
 obtain ⟨mf9,rfl,h⟩:=Zv hf9 h
 dsimp only at h ⊢
 refine Zj ?_
 refine rg ?_
 refine cS h rfl (fun h=>?_) fun h=>?_
 ·refine bl ?_
  refine rg ?_
  refine bl ?_
  refine Zu h fun f11 mf11 hf11 h=>?_
  refine Zq (α:=Nat×(Int×Int×(List Memb))) (fun a _=>mkS [(0,.row 0 (0,0)),(1,.int .i64 p1),(2,.fn 112 []),(6,.int .i64 x29),(7,.int .i64 a.2.1),(8,.int .i64 a.2.2.1)] [(0,some ((0,0),.row 32 3 false (List.map Memb.cs a.2.2.2)))] 2) (fun a=>Zas a.1 f11 a.2=some r) (fun a=>a.1) (mf11,0,(w64 (2 * x29)),x30) 2 h (Zl [] ⟨rfl,rfl,rfl,rfl,rfl,rfl,trivial⟩ ⟨⟨rfl,rfl⟩,trivial⟩ rfl) (fun a _ h=>?_)
  obtain ⟨mf11,x53,x54,x55⟩:=a
  obtain ⟨mf11,rfl,h⟩:=Zv hf11 h
  dsimp only at h ⊢
  refine Zj ?_
  refine rg ?_
  refine cS h rfl (fun h=>?_) fun h=>?_
  ·refine bl ?_
   refine rg ?_
   obtain ⟨r57,h29,h⟩:=bnd h
   refine Zbn (Za8 64 _ _ _ _ _ h29) rfl rfl rfl rfl rfl (Zj ?_)
   refine rg ?_
   refine rg ?_
   exact rn (mf11,x54,(w64 (x54+(w64 (2 * x29)))),r57) h (Zl [] ⟨rfl,rfl,rfl,rfl,rfl,rfl,trivial⟩ ⟨⟨rfl,rfl⟩,trivial⟩ rfl)
  refine rg ?_
  refine rg ?_
  refine jL h (fun x59=>mkS [(0,.row 0 (0,0)),(1,.int .i64 p1),(2,.fn 112 []),(6,.int .i64 x29)] [(0,some ((0,0),.row 32 3 false (List.map Memb.cs x59)))] 2) (fun k12 h=>?_) fun x59 h=>?_
  ·refine cS h rfl (fun h=>?_) fun h=>?_
   ·refine rg ?_
    obtain ⟨r60,h31,h⟩:=bnd h
    refine Zbn (Za8 64 _ _ _ _ _ h31) rfl rfl rfl rfl rfl (Zj ?_)
    exact jn r60 h (Zl [] ⟨rfl,rfl,rfl,rfl,trivial⟩ ⟨⟨rfl,rfl⟩,trivial⟩ rfl)
   exact jn x55 h (Zl [] ⟨rfl,rfl,rfl,rfl,trivial⟩ ⟨⟨rfl,rfl⟩,trivial⟩ rfl)
  refine rg ?_
  exact rn (mf9,(w64 (x29 * 2)),x59) h (Zl [] ⟨rfl,rfl,rfl,rfl,trivial⟩ ⟨⟨rfl,rfl⟩,trivial⟩ rfl)
 cases h
 exact ZbG rfl rfl rfl
def Zav (p0:List Memb):Option (List Memb):=
 (ZaF p0 (p0.length:Int)).bind fun r1=>
 (some r1:Option (List Memb))
theorem Zch (p0:List Memb) (r:List Memb) (h:Zav p0=some r):ContractR Tryz.prog 111 [.fn 112 []] 32 3 (List.map Memb.cs p0) (.tup []) (List.map Memb.cs r):=by
 refine ZaS (R:=fun r=>.tup []) (O:=fun r=>(List.map Memb.cs r)) h mix Tryz.func111 (by kernel_rfl) rfl (by kernel_rfl) fun r h=>?_
 unfold Zav at h
 refine Zj ?_
 refine rg ?_
 refine lM Memb.cs p0 ?_
 obtain ⟨r1,h1,h⟩:=bnd h
 refine Zbn (Zcv _ _ _ h1) rfl rfl rfl rfl rfl (Zj ?_)
 cases h
 exact ZbG rfl rfl rfl
def ZaT (p0:List Memb):Option (List Memb):=
 if (decide ((p0.length:Int)<2)) then
  (some p0:Option (List Memb))
 else
 Zas Zck (fun f82 (x674:Int)=>
  if (decide (x674<(p0.length:Int))) then
   (atI p0 x674).bind fun e927=>
   (atI p0 (w64 (x674 - 1))).bind fun e928=>
   (ZeG e927 e928).bind fun r929=>
   if r929 then
    (Zlo p0 x674).bind fun _=>
    Zas Zck (fun f97 ((x982,x983,x984):Int×Int×(List Memb))=>
     if (decide (x983<(Zr0 x984 x674))) then
      letk (fun (x1002:Int) (x1003:List Memb)=>
       f97 (x1002,(w64 (x983+1)),x1003)) fun k98=>
      (atQ x984 x674 x983).bind fun e1004=>
      (atQ x984 x674 (w64 (x983 - 1))).bind fun e1005=>
      (ZeG e1004 e1005).bind fun r1006=>
      if (!r1006) then
       (atQ x984 x674 x983).bind fun e1007=>
       (atI x984 x982).bind fun e1008=>
       k98 (w64 (x982+1)) (ZdH x984 x982 e1007)
      else
      k98 x982 x984
     else
     (Zlo x984 x982).bind fun _=>
     (Zjm (ZoX x984 x982 (⟨(⟨0,(⟨#[]⟩:ByteArray)⟩:Title),(⟨#[]⟩:ByteArray)⟩:Memb)) 0 x982).bind fun l1010=>
     (some l1010:Option (List Memb))) (x674,1,p0)
   else
   f82 (w64 (x674+1))
  else
  (some p0:Option (List Memb))) 1
theorem ZcQ (p0:List Memb) (r:List Memb) (h:ZaT p0=some r):ContractS Tryz.prog 113 [.fn 114 []] 32 3 (List.map Memb.cs p0) (List.map Memb.cs r):=by
 refine ZdL (O:=fun r=>(List.map Memb.cs r)) h mix Tryz.func113 (by kernel_rfl) rfl (by kernel_rfl) fun r h=>?_
 unfold ZaT at h
 refine Zj ?_
 refine rg ?_
 refine rg ?_
 refine lM Memb.cs p0 ?_
 refine cS h rfl (fun h=>?_) fun h=>?_
 ·refine rg ?_
  cases h
  exact ZeX rfl rfl
 refine rg ?_
 refine bl ?_
 refine Zu h fun f82 mf82 hf82 h=>?_
 refine Zq (α:=Nat×Int) (fun a _=>mkS [(0,.row 0 (0,0)),(1,.fn 114 []),(5,.int .i64 a.2)] [(0,some ((0,0),.row 32 3 false (List.map Memb.cs p0)))] 2) (fun a=>Zas a.1 f82 a.2=some r) (fun a=>a.1) (mf82,1) 2 h (Zl [] ⟨rfl,rfl,rfl,trivial⟩ ⟨⟨rfl,rfl⟩,trivial⟩ rfl) (fun a _ h=>?_)
 obtain ⟨mf82,x674⟩:=a
 obtain ⟨mf82,rfl,h⟩:=Zv hf82 h
 dsimp only at h ⊢
 refine Zj ?_
 refine rg ?_
 refine lM Memb.cs p0 ?_
 refine cS h rfl (fun h=>?_) fun h=>?_
 ·refine bl ?_
  refine rg ?_
  obtain ⟨e927,h727,h⟩:=bnd h
  refine Zw rfl h727 rfl rfl rfl (Zj ?_)
  refine ZM rfl h727 rfl rfl rfl (Zj ?_)
  obtain ⟨e928,h728,h⟩:=bnd h
  refine Zw rfl h728 rfl rfl rfl (Zj ?_)
  refine ZM rfl h728 rfl rfl rfl (Zj ?_)
  obtain ⟨r929,h729,h⟩:=bnd h
  refine ZcW (Lc:=[]) (args1:=[e927.pv,e928.pv]) (ZgC _ _ _ h729) rfl rfl rfl rfl (Zj ?_)
  refine cS h rfl (fun h=>?_) fun h=>?_
  ·refine rg ?_
   obtain ⟨_,h730,h⟩:=bnd h
   refine ZiH rfl h730 rfl rfl rfl (Zj ?_)
   refine rg ?_
   refine bl ?_
   refine Zu h fun f97 mf97 hf97 h=>?_
   refine Zq (α:=Nat×(Int×Int×(List Memb))) (fun a _=>mkS [(0,.row 0 (0,0)),(1,.fn 114 []),(5,.int .i64 a.2.1),(6,.suf 0 (0,0) (x674).toNat 3),(7,.int .i64 a.2.2.1)] [(0,some ((0,0),.row 32 3 false (List.map Memb.cs a.2.2.2)))] 2) (fun a=>Zas a.1 f97 a.2=some r) (fun a=>a.1) (mf97,x674,1,p0) 2 h (Zl [] ⟨rfl,rfl,rfl,rfl,rfl,trivial⟩ ⟨⟨rfl,rfl⟩,trivial⟩ rfl) (fun a _ h=>?_)
   obtain ⟨mf97,x982,x983,x984⟩:=a
   obtain ⟨mf97,rfl,h⟩:=Zv hf97 h
   dsimp only at h ⊢
   refine Zj ?_
   refine rg ?_
   refine ZoY (M:=x984) (f:=Memb.cs) rfl rfl rfl (Zj ?_)
   refine cS h rfl (fun h=>?_) fun h=>?_
   ·refine Za6 h fun k98 hk98 h=>?_
    refine ZaV (α:=Int×(List Memb)) (fun a _=>mkS [(0,.row 0 (0,0)),(1,.fn 114 []),(5,.int .i64 a.1),(6,.suf 0 (0,0) (x674).toNat 3),(7,.int .i64 x983)] [(0,some ((0,0),.row 32 3 false (List.map Memb.cs a.2)))] 2) (fun a=>k98 a.1 a.2=some r) (Zj ?_) (fun a _ h=>?_)
    ·refine bl ?_
     refine rg ?_
     obtain ⟨e1004,h786,h⟩:=bnd h
     refine Zcm rfl h786 rfl rfl rfl (Zj ?_)
     refine ZM rfl (Zei h786) rfl rfl rfl (Zj ?_)
     obtain ⟨e1005,h787,h⟩:=bnd h
     refine Zcm rfl h787 rfl rfl rfl (Zj ?_)
     refine ZM rfl (Zei h787) rfl rfl rfl (Zj ?_)
     obtain ⟨r1006,h788,h⟩:=bnd h
     refine ZcW (Lc:=[]) (args1:=[e1004.pv,e1005.pv]) (ZgC _ _ _ h788) rfl rfl rfl rfl (Zj ?_)
     refine cS h rfl (fun h=>?_) fun h=>?_
     ·refine rg ?_
      obtain ⟨e1007,h789,h⟩:=bnd h
      refine Zcm rfl h789 rfl rfl rfl (Zj ?_)
      refine ZM rfl (Zei h789) rfl rfl rfl (Zj ?_)
      obtain ⟨e1008,h790,h⟩:=bnd h
      refine Zw rfl h790 rfl rfl rfl (Zj ?_)
      refine Zbb (e':=e1007) rfl h790 rfl rfl rfl rfl rfl rfl (Nat.le_of_ble_eq_true rfl) rfl rfl (Zj ?_)
      refine rg ?_
      exact jn ((w64 (x982+1)),(ZdH x984 x982 e1007)) h (Zl [] ⟨rfl,rfl,rfl,rfl,rfl,trivial⟩ ⟨⟨rfl,rfl⟩,trivial⟩ rfl)
     exact jn (x982,x984) h (Zl [] ⟨rfl,rfl,rfl,rfl,rfl,trivial⟩ ⟨⟨rfl,rfl⟩,trivial⟩ rfl)
    obtain ⟨x1002,x1003⟩:=a
    subst hk98
    dsimp only at h ⊢
    refine Zj ?_
    refine rg ?_
    exact rn (mf97,x1002,(w64 (x983+1)),x1003) h (Zl [] ⟨rfl,rfl,rfl,rfl,rfl,trivial⟩ ⟨⟨rfl,rfl⟩,trivial⟩ rfl)
   refine rg ?_
   obtain ⟨_,h791,h⟩:=bnd h
   refine ZiH rfl h791 rfl rfl rfl (Zj ?_)
   refine Zib (M:=x984) (f:=Memb.cs) (zr:=(⟨(⟨0,(⟨#[]⟩:ByteArray)⟩:Title),(⟨#[]⟩:ByteArray)⟩:Memb)) rfl rfl rfl rfl rfl (Zj ?_)
   refine rg ?_
   obtain ⟨l1010,h792,h⟩:=bnd h
   refine Zic rfl h792 rfl rfl rfl (Zj ?_)
   cases h
   exact ZeX rfl rfl
  refine rg ?_
  exact rn (mf82,(w64 (x674+1))) h (Zl [] ⟨rfl,rfl,rfl,trivial⟩ ⟨⟨rfl,rfl⟩,trivial⟩ rfl)
 refine rg ?_
 cases h
 exact ZeX rfl rfl
end Go.Proofs.YtjblgpmagampbaaGreatDoor
namespace Go.Proofs.YtjblgpmagampbaaGreatDoor
open VL Go.RowKit
theorem Zfg {α:Type} {x:Option α} {v:α} (h:Tot x (fun r=>r=v)):x=some v:=by
 obtain ⟨w,h1,h2⟩:=h
 rw [h1,h2]
end Go.Proofs.YtjblgpmagampbaaGreatDoor
namespace Go.Proofs.YtjblgpmagampbaaGreatDoor
namespace VL
section
variable {α:Type}
variable {le:α→α→Bool}
theorem Zlp (l:List α):(Zd0 le l).length=l.length:=(Zd1 le l).length_eq
end
end VL
end Go.Proofs.YtjblgpmagampbaaGreatDoor
namespace Go.Proofs.YtjblgpmagampbaaGreatDoor
open VL
theorem ZfX {α:Type} {l A B:List α} {x:α} {n:Int} (h:l=A++x::B) (hn:n=(A.length:Int)):atI l n=some x:=by
 subst h hn
 unfold atI
 rw [if_pos (by omega),Int.toNat_natCast,List.getElem?_append_right (Nat.le_refl _),Nat.sub_self]
 rfl
theorem Zoo {α:Type} {l A B:List α} {x y:α} {n:Int} (h:l=A++x::B) (hn:n=(A.length:Int)):ZdH l n y=A++y::B:=by
 subst h hn
 unfold ZdH
 rw [Int.toNat_natCast,List.set_append_right _ _ (Nat.le_refl _),Nat.sub_self]
 rfl
theorem Zjp {a b:Int} (h0:0≤a) (h1:0≤b) (ha:a≤10000000) (hb:b≤10000000):w64 (a+b)=a+b:=Zg2 (by omega) (by omega)
theorem ZsL {a b:Int} (h0:0≤a) (h1:0≤b) (ha:a≤10000000) (hb:b≤10000000):w64 (a - b)=a - b:=Zg2 (by omega) (by omega)
end Go.Proofs.YtjblgpmagampbaaGreatDoor
namespace Go.Proofs.YtjblgpmagampbaaGreatDoor
open Go.RowKit
open Go.Sort (grow grow_grow alloc_eq_grow)
def Gw (w w':World):Prop:=∃ (q:Nat) (os:Array Obj),w'=grow (w.drewN q) os
theorem Gw.refl (w:World):Gw w w:=⟨0,#[],by simp [grow,World.drewN]⟩
theorem Gw.alloc {w w':World} (h:Gw w w') (o:Obj):Gw w (w'.alloc o):=by
 obtain ⟨q,os,rfl⟩:=h
 exact ⟨q,os ++ #[o],by rw [alloc_eq_grow,grow_grow]⟩
theorem Gw.drew {w w':World} (h:Gw w w'):Gw w w'.drew:=by
 obtain ⟨q,os,rfl⟩:=h
 exact ⟨q+1,os,rfl⟩
theorem Gw.trans {a b c:World} (h:Gw a b) (k:Gw b c):Gw a c:=by
 obtain ⟨q,os,rfl⟩:=h
 obtain ⟨q2,os2,rfl⟩:=k
 refine ⟨q+q2,os++os2,?_⟩
 simp [grow,World.drewN,Array.append_assoc,Nat.add_assoc]
theorem Gw.below {w w':World} (h:Gw w w'):Below w.heap.size w w':=by
 obtain ⟨q,os,rfl⟩:=h
 refine ⟨rfl,rfl,rfl,by simp [grow,World.drewN],fun k hk=>?_⟩
 show (w.heap++os)[k]? = w.heap[k]?
 rw [Array.getElem?_append_left hk]
set_option maxHeartbeats 400000 in
theorem Zfr (a b:Title) (w:World):Calls Tryz.prog 63 #[.agg #[.int .i64 a.space,.string a.name],.agg #[.int .i64 b.space,.string b.name]] w fun e w'=>e = .returned (.int .i64 (Title.cmp a b))∧Gw w w':=by
 go_enter Tryz.func63,Tryz.ntmps63
 go_wp2
 generalize hw1:(w.alloc _).alloc _=w1
 have c0:w1.cell? ⟨w.heap.size,0,none⟩=some (.int .i64 a.space):=by subst hw1;go_simp
 have c1:w1.cell? ⟨w.heap.size,1,none⟩=some (.string a.name):=by subst hw1;go_simp
 have c2:w1.cell? ⟨w.heap.size+1,0,none⟩=some (.int .i64 b.space):=by subst hw1;go_simp
 have c3:w1.cell? ⟨w.heap.size+1,1,none⟩=some (.string b.name):=by subst hw1;go_simp
 have hb:Gw w w1:=by subst hw1;exact ((Gw.refl _).alloc _).alloc _
 have HB:=Lib.hid hb
 clear hw1 hb
 go_region_held3 (fun W=>W.cell? ⟨w.heap.size,0,none⟩=some (.int .i64 a.space)∧W.cell? ⟨w.heap.size,1,none⟩=some (.string a.name)∧W.cell? ⟨w.heap.size+1,0,none⟩=some (.int .i64 b.space)∧W.cell? ⟨w.heap.size+1,1,none⟩=some (.string b.name)) (first | exact ⟨c0,c1,c2,c3⟩ | (refine ⟨?_,?_,?_,?_⟩<;>first | exact re1 (((Below.refl _ _).alloc (Nat.le_refl _) _).drew) (Za0 (by assumption)) (by assumption))) (first | (go_at_call 102;refine (ZjT _ _ _).mono ?_;rintro e w' ⟨rfl,rfl⟩) | (go_at_call 103;refine (ZjU _ _ _).mono ?_;rintro e w' ⟨rfl,rfl⟩)  | (go_at_call 61;refine (Zo5 _ _ _ [Lib.compareInt a.space b.space,Lib.compareBytes a.name.data.toList b.name.data.toList] _ (by exact SlR.built (fun x:Int=>[.int .i64 x]) (fun _ _ _=>rfl) _ _ rfl (by decide) rfl)).mono ?_;rintro e w' ⟨rfl,rfl⟩))
 go_wp2
 go_ret
 exact ⟨rfl,(HB.out.alloc _).drew⟩
def Zhs (a b:Link):Int:=orI [Lib.compareInt a.kind b.kind,Title.cmp a.title b.title]
def Zgq (x:Link):List Value:=[.int .i64 x.kind,.int .i64 x.title.space,.string x.title.name]
set_option maxHeartbeats 1000000 in
theorem ZjA (a b:Link) (w:World):Calls Tryz.prog 110 #[.agg (Zgq a).toArray,.agg (Zgq b).toArray] w fun e w'=>e = .returned (.int .i64 (Zhs a b))∧Gw w w':=by
 unfold Zgq
 go_enter Tryz.func110,Tryz.ntmps110
 go_wp2
 generalize hw1:(w.alloc _).alloc _=w1
 have c0:w1.cell? ⟨w.heap.size,0,none⟩=some (.int .i64 a.kind):=by subst hw1;go_simp
 have c1:w1.cell? ⟨w.heap.size,1,none⟩=some (.int .i64 a.title.space):=by subst hw1;go_simp
 have c2:w1.cell? ⟨w.heap.size,2,none⟩=some (.string a.title.name):=by subst hw1;go_simp
 have c3:w1.cell? ⟨w.heap.size+1,0,none⟩=some (.int .i64 b.kind):=by subst hw1;go_simp
 have c4:w1.cell? ⟨w.heap.size+1,1,none⟩=some (.int .i64 b.title.space):=by subst hw1;go_simp
 have c5:w1.cell? ⟨w.heap.size+1,2,none⟩=some (.string b.title.name):=by subst hw1;go_simp
 have hb:Gw w w1:=by subst hw1;exact ((Gw.refl _).alloc _).alloc _
 have HB:=Lib.hid hb
 have HF:Hid (∀ W,Gw w1 W→W.cell? ⟨w.heap.size,0,none⟩=some (.int .i64 a.kind)∧W.cell? ⟨w.heap.size,1,none⟩=some (.int .i64 a.title.space)∧W.cell? ⟨w.heap.size,2,none⟩=some (.string a.title.name)∧W.cell? ⟨w.heap.size+1,0,none⟩=some (.int .i64 b.kind)∧W.cell? ⟨w.heap.size+1,1,none⟩=some (.int .i64 b.title.space)∧W.cell? ⟨w.heap.size+1,2,none⟩=some (.string b.title.name)):=Lib.hid fun W hW=>⟨re1 hW.below (Za0 c0) c0,re1 hW.below (Za0 c1) c1,re1 hW.below (Za0 c2) c2,re1 hW.below (Za0 c3) c3,re1 hW.below (Za0 c4) c4,re1 hW.below (Za0 c5) c5⟩
 clear hw1 hb
 go_region_held3 (fun W=>Gw w1 W∧W.cell? ⟨w.heap.size,0,none⟩=some (.int .i64 a.kind)∧W.cell? ⟨w.heap.size,1,none⟩=some (.int .i64 a.title.space)∧W.cell? ⟨w.heap.size,2,none⟩=some (.string a.title.name)∧W.cell? ⟨w.heap.size+1,0,none⟩=some (.int .i64 b.kind)∧W.cell? ⟨w.heap.size+1,1,none⟩=some (.int .i64 b.title.space)∧W.cell? ⟨w.heap.size+1,2,none⟩=some (.string b.title.name)) (refine ⟨?_,HF.out _ ?_⟩<;>(repeat' first | assumption | exact Gw.refl _ | apply Gw.drew | apply Gw.alloc)) (first | (go_at_call 102;refine (ZjT _ _ _).mono ?_;rintro e w' ⟨rfl,rfl⟩) | (go_at_call 63;refine (Zfr a.title b.title _).mono ?_;rintro e w2 ⟨rfl,hb2⟩;have hb3:Gw w1 w2:=Gw.trans (by (repeat' first | assumption | exact Gw.refl _ | apply Gw.drew | apply Gw.alloc)) hb2) | (go_at_call 61;refine (Zo5 _ _ _ [Lib.compareInt a.kind b.kind,Title.cmp a.title b.title] _ (by exact SlR.built (fun x:Int=>[.int .i64 x]) (fun _ _ _=>rfl) _ _ rfl (by decide) rfl)).mono ?_;rintro e w' ⟨rfl,rfl⟩))
 go_wp2
 go_ret
 exact ⟨rfl,HB.out.trans (by (repeat' first | assumption | exact Gw.refl _ | apply Gw.drew | apply Gw.alloc))⟩
end Go.Proofs.YtjblgpmagampbaaGreatDoor
namespace Go.Proofs
open Go.Shelf
def Tryz.sortCat_ren:Go.Shelf.Ren:=⟨fun | 6=>80 | 15=>100 | 14=>129 | 28=>156 | 29=>157 | 20=>202 | 21=>203 | 22=>204 | 23=>205 | 24=>206 | 25=>207 | 26=>208 | 27=>209 | 46=>293 | 47=>230 | 48=>231 | 49=>294 | 50=>295 | 57=>334 | n=>n,fun | 22=>22 | 24=>34 | 25=>148 | 3=>3 | 39=>127 | 0=>0 | 53=>231 | 55=>124 | 4=>4 | 46=>224 | 45=>223 | 50=>228 | 5=>5 | 9=>9 | 66=>308 | 70=>312 | 76=>346 | 77=>205 | n=>n,fun | n=>n⟩
theorem Tryz.sortCat:Go.Proofs.SlLaysF0.n6 Tryz.prog Tryz.sortCat_ren:={
 mixed:=by kernel_rfl
 f6:=⟨Tryz.f80.name,by decide,Tryz.func80.trans (congrArg some (by kernel_rfl))⟩
 f14:=⟨Tryz.f129.name,by decide,Tryz.func129.trans (congrArg some (by kernel_rfl))⟩
 f15:=Tryz.func100.trans (congrArg some (by kernel_rfl))
 f20:=⟨Tryz.f202.name,by decide,Tryz.func202.trans (congrArg some (by kernel_rfl))⟩
 f21:=⟨Tryz.f203.name,by decide,Tryz.func203.trans (congrArg some (by kernel_rfl))⟩
 f22:=⟨Tryz.f204.name,by decide,Tryz.func204.trans (congrArg some (by kernel_rfl))⟩
 f23:=⟨Tryz.f205.name,by decide,Tryz.func205.trans (congrArg some (by kernel_rfl))⟩
 f24:=⟨Tryz.f206.name,by decide,Tryz.func206.trans (congrArg some (by kernel_rfl))⟩
 f25:=⟨Tryz.f207.name,by decide,Tryz.func207.trans (congrArg some (by kernel_rfl))⟩
 f26:=⟨Tryz.f208.name,by decide,Tryz.func208.trans (congrArg some (by kernel_rfl))⟩
 f27:=⟨Tryz.f209.name,by decide,Tryz.func209.trans (congrArg some (by kernel_rfl))⟩
 f28:=Tryz.func156.trans (congrArg some (by kernel_rfl))
 f29:=Tryz.func157.trans (congrArg some (by kernel_rfl))
 f46:=⟨Tryz.f293.name,by decide,Tryz.func293.trans (congrArg some (by kernel_rfl))⟩
 f47:=Tryz.func230.trans (congrArg some (by kernel_rfl))
 f48:=Tryz.func231.trans (congrArg some (by kernel_rfl))
 f49:=⟨Tryz.f294.name,by decide,Tryz.func294.trans (congrArg some (by kernel_rfl))⟩
 f50:=⟨Tryz.f295.name,by decide,Tryz.func295.trans (congrArg some (by kernel_rfl))⟩
 f57:=⟨Tryz.f334.name,by decide,Tryz.func334.trans (congrArg some (by kernel_rfl))⟩
 t0:=Tryz.underlying0
 a0:=Tryz.isAgg0
 z0:=Tryz.sizeOf0
 v0:=Tryz.zeroValue0
 t3:=Tryz.underlying3
 a3:=Tryz.isAgg3
 z3:=Tryz.sizeOf3
 v3:=Tryz.zeroValue3
 t4:=Tryz.underlying4
 a4:=Tryz.isAgg4
 z4:=Tryz.sizeOf4
 v4:=Tryz.zeroValue4
 t5:=Tryz.underlying5
 a5:=Tryz.isAgg5
 z5:=Tryz.sizeOf5
 v5:=Tryz.zeroValue5
 t9:=Tryz.underlying9
 a9:=Tryz.isAgg9
 z9:=Tryz.sizeOf9
 v9:=Tryz.zeroValue9
 t22:=Tryz.underlying22
 a22:=Tryz.isAgg22
 z22:=Tryz.sizeOf22
 v22:=Tryz.zeroValue22
 t25:=Tryz.underlying148
 a25:=Tryz.isAgg148
 z25:=Tryz.sizeOf148
 v25:=Tryz.zeroValue148
 t39:=Tryz.underlying127
 a39:=Tryz.isAgg127
 z39:=Tryz.sizeOf127
 v39:=Tryz.zeroValue127
 t45:=Tryz.underlying223
 a45:=Tryz.isAgg223
 z45:=Tryz.sizeOf223
 v45:=Tryz.zeroValue223
 t46:=Tryz.underlying224
 a46:=Tryz.isAgg224
 z46:=Tryz.sizeOf224
 v46:=Tryz.zeroValue224
 t50:=Tryz.underlying228
 a50:=Tryz.isAgg228
 z50:=Tryz.sizeOf228
 v50:=Tryz.zeroValue228
 t53:=Tryz.underlying231
 a53:=Tryz.isAgg231
 z53:=Tryz.sizeOf231
 v53:=Tryz.zeroValue231
 t55:=Tryz.underlying124
 a55:=Tryz.isAgg124
 z55:=Tryz.sizeOf124
 v55:=Tryz.zeroValue124
 t66:=Tryz.underlying308
 a66:=Tryz.isAgg308
 z66:=Tryz.sizeOf308
 v66:=Tryz.zeroValue308
 t70:=Tryz.underlying312
 a70:=Tryz.isAgg312
 z70:=Tryz.sizeOf312
 v70:=Tryz.zeroValue312
 t76:=Tryz.underlying346
 a76:=Tryz.isAgg346
 z76:=Tryz.sizeOf346
 v76:=Tryz.zeroValue346
 t77:=Tryz.underlying205
 a77:=Tryz.isAgg205
 z77:=Tryz.sizeOf205
 v77:=Tryz.zeroValue205 }
def Tryz.sortLink_ren:Go.Shelf.Ren:=⟨fun | 6=>109 | 15=>100 | 14=>179 | 28=>156 | 29=>157 | 20=>265 | 21=>266 | 22=>267 | 23=>268 | 24=>269 | 25=>270 | 26=>271 | 27=>272 | 46=>324 | 47=>230 | 48=>231 | 49=>325 | 50=>326 | 57=>359 | n=>n,fun | 22=>128 | 24=>185 | 25=>187 | 3=>3 | 39=>127 | 0=>0 | 53=>231 | 55=>124 | 4=>4 | 46=>224 | 45=>223 | 50=>228 | 5=>5 | 9=>9 | 66=>308 | 70=>312 | 76=>346 | 77=>205 | n=>n,fun | n=>n⟩
theorem Tryz.sortLink:Go.Proofs.SlLaysF0.n6 Tryz.prog Tryz.sortLink_ren:={
 mixed:=by kernel_rfl
 f6:=⟨Tryz.f109.name,by decide,Tryz.func109.trans (congrArg some (by kernel_rfl))⟩
 f14:=⟨Tryz.f179.name,by decide,Tryz.func179.trans (congrArg some (by kernel_rfl))⟩
 f15:=Tryz.func100.trans (congrArg some (by kernel_rfl))
 f20:=⟨Tryz.f265.name,by decide,Tryz.func265.trans (congrArg some (by kernel_rfl))⟩
 f21:=⟨Tryz.f266.name,by decide,Tryz.func266.trans (congrArg some (by kernel_rfl))⟩
 f22:=⟨Tryz.f267.name,by decide,Tryz.func267.trans (congrArg some (by kernel_rfl))⟩
 f23:=⟨Tryz.f268.name,by decide,Tryz.func268.trans (congrArg some (by kernel_rfl))⟩
 f24:=⟨Tryz.f269.name,by decide,Tryz.func269.trans (congrArg some (by kernel_rfl))⟩
 f25:=⟨Tryz.f270.name,by decide,Tryz.func270.trans (congrArg some (by kernel_rfl))⟩
 f26:=⟨Tryz.f271.name,by decide,Tryz.func271.trans (congrArg some (by kernel_rfl))⟩
 f27:=⟨Tryz.f272.name,by decide,Tryz.func272.trans (congrArg some (by kernel_rfl))⟩
 f28:=Tryz.func156.trans (congrArg some (by kernel_rfl))
 f29:=Tryz.func157.trans (congrArg some (by kernel_rfl))
 f46:=⟨Tryz.f324.name,by decide,Tryz.func324.trans (congrArg some (by kernel_rfl))⟩
 f47:=Tryz.func230.trans (congrArg some (by kernel_rfl))
 f48:=Tryz.func231.trans (congrArg some (by kernel_rfl))
 f49:=⟨Tryz.f325.name,by decide,Tryz.func325.trans (congrArg some (by kernel_rfl))⟩
 f50:=⟨Tryz.f326.name,by decide,Tryz.func326.trans (congrArg some (by kernel_rfl))⟩
 f57:=⟨Tryz.f359.name,by decide,Tryz.func359.trans (congrArg some (by kernel_rfl))⟩
 t0:=Tryz.underlying0
 a0:=Tryz.isAgg0
 z0:=Tryz.sizeOf0
 v0:=Tryz.zeroValue0
 t3:=Tryz.underlying3
 a3:=Tryz.isAgg3
 z3:=Tryz.sizeOf3
 v3:=Tryz.zeroValue3
 t4:=Tryz.underlying4
 a4:=Tryz.isAgg4
 z4:=Tryz.sizeOf4
 v4:=Tryz.zeroValue4
 t5:=Tryz.underlying5
 a5:=Tryz.isAgg5
 z5:=Tryz.sizeOf5
 v5:=Tryz.zeroValue5
 t9:=Tryz.underlying9
 a9:=Tryz.isAgg9
 z9:=Tryz.sizeOf9
 v9:=Tryz.zeroValue9
 t22:=Tryz.underlying128
 a22:=Tryz.isAgg128
 z22:=Tryz.sizeOf128
 v22:=Tryz.zeroValue128
 t25:=Tryz.underlying187
 a25:=Tryz.isAgg187
 z25:=Tryz.sizeOf187
 v25:=Tryz.zeroValue187
 t39:=Tryz.underlying127
 a39:=Tryz.isAgg127
 z39:=Tryz.sizeOf127
 v39:=Tryz.zeroValue127
 t45:=Tryz.underlying223
 a45:=Tryz.isAgg223
 z45:=Tryz.sizeOf223
 v45:=Tryz.zeroValue223
 t46:=Tryz.underlying224
 a46:=Tryz.isAgg224
 z46:=Tryz.sizeOf224
 v46:=Tryz.zeroValue224
 t50:=Tryz.underlying228
 a50:=Tryz.isAgg228
 z50:=Tryz.sizeOf228
 v50:=Tryz.zeroValue228
 t53:=Tryz.underlying231
 a53:=Tryz.isAgg231
 z53:=Tryz.sizeOf231
 v53:=Tryz.zeroValue231
 t55:=Tryz.underlying124
 a55:=Tryz.isAgg124
 z55:=Tryz.sizeOf124
 v55:=Tryz.zeroValue124
 t66:=Tryz.underlying308
 a66:=Tryz.isAgg308
 z66:=Tryz.sizeOf308
 v66:=Tryz.zeroValue308
 t70:=Tryz.underlying312
 a70:=Tryz.isAgg312
 z70:=Tryz.sizeOf312
 v70:=Tryz.zeroValue312
 t76:=Tryz.underlying346
 a76:=Tryz.isAgg346
 z76:=Tryz.sizeOf346
 v76:=Tryz.zeroValue346
 t77:=Tryz.underlying205
 a77:=Tryz.isAgg205
 z77:=Tryz.sizeOf205
 v77:=Tryz.zeroValue205 }
end Go.Proofs
namespace Go.Proofs.YtjblgpmagampbaaGreatDoor
open VL Go.RowKit
open Go.Sort
theorem Zmi (a b:Int):orI [a,b]=ZmK a b:=by
 unfold orI ZmK
 split
 ·unfold orI
  split
  ·rename_i h;rw [h];rfl
  ·rfl
 ·rfl
theorem titleCmp_laws:CmpLaws Title.cmp:=by
 have h:=cmpInt_laws.lex cmpStr_laws (f:=Title.space) (g:=Title.name) (fun x y h1 h2=>by cases x;cases y;simp_all)
 have e:Title.cmp=fun x y=>ZmK (Lib.compareInt x.space y.space) (Lib.compareBytes x.name.data.toList y.name.data.toList):=by
  funext x y
  exact Zmi _ _
 rw [e]
 exact h
theorem linkCmp_laws:CmpLaws Zhs:=by
 have h:=cmpInt_laws.lex titleCmp_laws (f:=Link.kind) (g:=Link.title) (fun x y h1 h2=>by cases x;cases y;simp_all)
 have e:Zhs=fun x y=>ZmK (Lib.compareInt x.kind y.kind) (Title.cmp x.title y.title):=by
  funext x y
  exact Zmi _ _
 rw [e]
 exact h
instance:Inhabited Link:=⟨⟨0,⟨0,⟨#[]⟩⟩⟩⟩
def ZbT (p0:List Link):Option (List Link):=if p0.length<4611686018427387904 then some (Zd0 (leC Zhs) p0) else none
theorem Ze3 (p0:List Link) (r:List Link) (h:ZbT p0=some r):ContractR Tryz.prog 109 [.fn 110 []] 185 3 (List.map Link.cs p0) (.tup []) (List.map Link.cs r):=by
 unfold ZbT at h
 split at h
 ·rename_i hl
  injection h with h
  subst h
  have hk:∀ x,(Zgq x).length=3:=fun _=>rfl
  have eg:∀ args w,(callFunc 110 args).run Tryz.prog w = .ok (.enter 110 args) w:=enters_of Tryz.func110 (by kernel_rfl) rfl
  refine Zj9 (enc:=Zgq) (cf:=Zhs) (by kernel_rfl) (fun _=>rfl) hk (fun _=>rfl) (fun x p hp=>?_) linkCmp_laws.swo linkCmp_laws.tot (fun cap W A=>AnyF.slices_SortFunc_none { Tryz.sortLink with } A cap _ W) (fun blk off cap d w hH hb hs=>?_) p0 hl
  ·simp [Link.cs] at hp
   rcases hp with rfl | rfl | rfl<;>rfl
  ·exact AnyQ.slices_SortFunc_total Tryz.sortLink 3 Tryz.isAgg185 Tryz.sizeOf185 Zgq hk (fun x v hv=>by simp [Zgq] at hv;rcases hv with rfl | rfl | rfl<;>rfl) Zhs linkCmp_laws.swo 110 #[] blk off cap d w eg (fun m os dk _ x y=>(ZjA x y _).mono fun e w' h=>⟨h.1,h.2⟩) hH hb hs linkCmp_laws.tot
 ·cases h
end Go.Proofs.YtjblgpmagampbaaGreatDoor

