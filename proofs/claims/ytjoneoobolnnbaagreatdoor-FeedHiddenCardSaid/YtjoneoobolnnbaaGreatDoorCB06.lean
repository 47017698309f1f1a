/- Functions of the program as Lean functions. Written by fxgen.py. -/
import Derived.Test.YtjoneoobolnnbaaGreatDoorCB04
import Derived.Test.YtjoneoobolnnbaaGreatDoorCB03
import Derived.Laws.IdiomStrings
set_option maxHeartbeats 4000000
set_option maxRecDepth 100000
set_option linter.unusedVariables false
namespace Go.Proofs.YtjoneoobolnnbaaGreatDoor
open VL
def ZfD (p0:Int):Option Int:=
 letk (fun (x2:Int) (x3:Int)=>
  letk (fun (x5:Int) (x6:Int)=>
   letk (fun (x8:Int) (x9:Int)=>
    (atS (⟨#[0,1,2,2,3,3,3,3,4,4,4,4,4,4,4,4,5,5,5,5,5,5,5,5,5,5,5,5,5,5,5,5,6,6,6,6,6,6,6,6,6,6,6,6,6,6,6,6,6,6,6,6,6,6,6,6,6,6,6,6,6,6,6,6,7,7,7,7,7,7,7,7,7,7,7,7,7,7,7,7,7,7,7,7,7,7,7,7,7,7,7,7,7,7,7,7,7,7,7,7,7,7,7,7,7,7,7,7,7,7,7,7,7,7,7,7,7,7,7,7,7,7,7,7,7,7,7,7,8,8,8,8,8,8,8,8,8,8,8,8,8,8,8,8,8,8,8,8,8,8,8,8,8,8,8,8,8,8,8,8,8,8,8,8,8,8,8,8,8,8,8,8,8,8,8,8,8,8,8,8,8,8,8,8,8,8,8,8,8,8,8,8,8,8,8,8,8,8,8,8,8,8,8,8,8,8,8,8,8,8,8,8,8,8,8,8,8,8,8,8,8,8,8,8,8,8,8,8,8,8,8,8,8,8,8,8,8,8,8,8,8,8,8,8,8,8,8,8,8,8,8,8,8,8,8,8]⟩:ByteArray) (IntKind.wrap .u8 x8)).bind fun c10=>
    (some (w64 (x9+(IntKind.wrap .i64 c10))):Option Int)) fun k3=>
   if (decide (256≤x5)) then
    (Zjf .u64 x5 8).bind fun q11=>
    k3 q11 (w64 (x6+8))
   else
   k3 x5 x6) fun k2=>
  if (decide (65536≤x2)) then
   (Zjf .u64 x2 16).bind fun q12=>
   k2 q12 (w64 (x3+16))
  else
  k2 x2 x3) fun k1=>
 if (decide (4294967296≤p0)) then
  (Zjf .u64 p0 32).bind fun q13=>
  k1 q13 32
 else
 k1 p0 0
theorem ZkK (p0:Int) (r:Int) (h:ZfD p0=some r):Zd Tryz.prog 183 [.int .u64 p0] (.int .i64 r):=by
 refine cF (fun r=>.int .i64 r) h mix Tryz.func183 fun r h=>?_
 unfold ZfD at h
 refine Zh ?_
 refine rg ?_
 refine rg ?_
 refine Zax h fun k1 hk1 h=>?_
 refine ZaO (α:=Int×Int) (fun a _=>mkS [(0,.int .u64 a.1),(2,.int .i64 a.2)] [] 2) (fun a=>k1 a.1 a.2=some r) (Zh ?_) (fun a _ h=>?_)
 ·refine cS h rfl (fun h=>?_) fun h=>?_
  ·refine rg ?_
   obtain ⟨q13,h7,h⟩:=bnd h
   refine Zj5 rfl h7 rfl rfl (Zh ?_)
   refine rg ?_
   exact jn (q13,32) h (sR [])
  exact jn (p0,0) h (sR [])
 obtain ⟨x2,x3⟩:=a
 subst hk1
 dsimp only at h ⊢
 refine Zh ?_
 refine rg ?_
 refine Zax h fun k2 hk2 h=>?_
 refine ZaO (α:=Int×Int) (fun a _=>mkS [(0,.int .u64 a.1),(2,.int .i64 a.2)] [] 2) (fun a=>k2 a.1 a.2=some r) (Zh ?_) (fun a _ h=>?_)
 ·refine cS h rfl (fun h=>?_) fun h=>?_
  ·refine rg ?_
   obtain ⟨q12,h6,h⟩:=bnd h
   refine Zj5 rfl h6 rfl rfl (Zh ?_)
   refine rg ?_
   exact jn (q12,(w64 (x3+16))) h (sR [])
  exact jn (x2,x3) h (sR [])
 obtain ⟨x5,x6⟩:=a
 subst hk2
 dsimp only at h ⊢
 refine Zh ?_
 refine rg ?_
 refine Zax h fun k3 hk3 h=>?_
 refine ZaO (α:=Int×Int) (fun a _=>mkS [(0,.int .u64 a.1),(2,.int .i64 a.2)] [] 2) (fun a=>k3 a.1 a.2=some r) (Zh ?_) (fun a _ h=>?_)
 ·refine cS h rfl (fun h=>?_) fun h=>?_
  ·refine rg ?_
   obtain ⟨q11,h5,h⟩:=bnd h
   refine Zj5 rfl h5 rfl rfl (Zh ?_)
   refine rg ?_
   exact jn (q11,(w64 (x6+8))) h (sR [])
  exact jn (x5,x6) h (sR [])
 obtain ⟨x8,x9⟩:=a
 subst hk3
 dsimp only at h ⊢
 refine Zh ?_
 refine rg ?_
 refine aS h fun c10 h=>?_
 cases h
 exact rQ
def Zbo (p0:Int):Option Int:=
 (ZfD p0).bind fun r1=>
 (some r1:Option Int)
theorem ZmM (p0:Int) (r:Int) (h:Zbo p0=some r):Zd Tryz.prog 130 [.int .u64 p0] (.int .i64 r):=by
 refine cF (fun r=>.int .i64 r) h mix Tryz.func130 fun r h=>?_
 unfold Zbo at h
 refine Zh ?_
 refine rg ?_
 refine Zal rfl rfl (Zh ?_)
 refine rg ?_
 refine aC h (ZkK _) fun r1 h=>?_
 cases h
 exact rQ
def ZP (p0:List Title) (p1:Int) (p2:Int):Option (List Title):=
 ZE Zaj (fun f17 ((x95,x96):Int×(List Title))=>
  if (decide (x95<p2)) then
   ZE Zaj (fun f24 ((x253,x254):Int×(List Title))=>
    letk (fun (x273:Bool)=>
     if x273 then
      (atI x254 (w64 (x253 - 1))).bind fun e278=>
      (atI x254 x253).bind fun e279=>
      (atI x254 x253).bind fun e280=>
      (atI (ZaS x254 x253 e278) (w64 (x253 - 1))).bind fun e281=>
      f24 ((w64 (x253 - 1)),(ZaS (ZaS x254 x253 e278) (w64 (x253 - 1)) e279))
     else
     f17 ((w64 (x95+1)),x254)) fun k25=>
    if (decide (p1<x253)) then
     (atI x254 x253).bind fun e282=>
     (atI x254 (w64 (x253 - 1))).bind fun e283=>
     (Zac e282 e283).bind fun r284=>
     k25 (decide (r284<0))
    else
    k25 false) (x95,x96)
  else
  (some x96:Option (List Title))) ((w64 (p1+1)),p0)
theorem Zdl (p0:List Title) (p1:Int) (p2:Int) (r:List Title) (h:ZP p0 p1 p2=some r):ContractR Tryz.prog 174 [.int .i64 p1,.int .i64 p2,.fn 78 []] 29 2 (List.map Title.cs p0) (.tup []) (List.map Title.cs r):=by
 refine Zbe (R:=fun r=>.tup []) (O:=fun r=>(List.map Title.cs r)) h mix Tryz.func174 (by kernel_rfl) rfl (by kernel_rfl) fun r h=>?_
 unfold ZP at h
 refine Zh ?_
 refine rg ?_
 refine bl ?_
 refine Zn h fun f17 mf17 hf17 h=>?_
 refine Zk (α:=Nat×(Int×(List Title))) (fun a _=>mkS [(0,.row 0 (0,0)),(1,.int .i64 p1),(2,.int .i64 p2),(3,.fn 78 []),(8,.int .i64 a.2.1)] [(0,some ((0,0),.row 29 2 false (List.map Title.cs a.2.2)))] 2) (fun a=>ZE a.1 f17 a.2=some r) (fun a=>a.1) (mf17,(w64 (p1+1)),p0) 2 h (Zw [] ⟨rfl,rfl,rfl,rfl,rfl,trivial⟩ ⟨⟨rfl,rfl⟩,trivial⟩ rfl) (fun a _ h=>?_)
 obtain ⟨mf17,x95,x96⟩:=a
 obtain ⟨mf17,rfl,h⟩:=Zo hf17 h
 dsimp only at h ⊢
 refine Zh ?_
 refine rg ?_
 refine cS h rfl (fun h=>?_) fun h=>?_
 ·refine bl ?_
  refine rg ?_
  refine bl ?_
  refine Zn h fun f24 mf24 hf24 h=>?_
  refine Zk (α:=Nat×(Int×(List Title))) (fun a _=>mkS [(0,.row 0 (0,0)),(1,.int .i64 p1),(2,.int .i64 p2),(3,.fn 78 []),(8,.int .i64 x95),(9,.int .i64 a.2.1)] [(0,some ((0,0),.row 29 2 false (List.map Title.cs a.2.2)))] 2) (fun a=>ZE a.1 f24 a.2=some r) (fun a=>a.1) (mf24,x95,x96) 2 h (Zw [] ⟨rfl,rfl,rfl,rfl,rfl,rfl,trivial⟩ ⟨⟨rfl,rfl⟩,trivial⟩ rfl) (fun a _ h=>?_)
  obtain ⟨mf24,x253,x254⟩:=a
  obtain ⟨mf24,rfl,h⟩:=Zo hf24 h
  dsimp only at h ⊢
  refine Zh ?_
  refine jL h (fun x273=>mkS [(0,.row 0 (0,0)),(1,.int .i64 p1),(2,.int .i64 p2),(3,.fn 78 []),(8,.int .i64 x95),(9,.int .i64 x253),(34,.bool x273)] [(0,some ((0,0),.row 29 2 false (List.map Title.cs x254)))] 2) (fun k25 h=>?_) fun x273 h=>?_
  ·refine rg ?_
   refine kS 21 h rfl (fun h=>?_) fun h=>?_
   ·obtain ⟨e282,h250,h⟩:=bnd h
    refine ZD rfl h250 rfl rfl rfl (Zh ?_)
    refine ZaB rfl h250 rfl rfl rfl (Zh ?_)
    obtain ⟨e283,h251,h⟩:=bnd h
    refine ZD rfl h251 rfl rfl rfl (Zh ?_)
    refine ZaB rfl h251 rfl rfl rfl (Zh ?_)
    obtain ⟨r284,h252,h⟩:=bnd h
    refine ZgX (Lc:=[]) (args1:=[e282.pv,e283.pv]) (ZhV _ _ _ h252) rfl rfl rfl rfl (Zh ?_)
    exact jn (decide (r284<0)) h (Zw [] ⟨rfl,rfl,rfl,rfl,rfl,rfl,rfl,trivial⟩ ⟨⟨rfl,rfl⟩,trivial⟩ rfl)
   iterate 12 refine Zi rfl (Zh ?_)
   exact jn false h (Zw [] ⟨rfl,rfl,rfl,rfl,rfl,rfl,rfl,trivial⟩ ⟨⟨rfl,rfl⟩,trivial⟩ rfl)
  refine cS h rfl (fun h=>?_) fun h=>?_
  ·refine bl ?_
   refine rg ?_
   obtain ⟨e278,h246,h⟩:=bnd h
   refine ZD rfl h246 rfl rfl rfl (Zh ?_)
   refine ZaB rfl h246 rfl rfl rfl (Zh ?_)
   obtain ⟨e279,h247,h⟩:=bnd h
   refine ZD rfl h247 rfl rfl rfl (Zh ?_)
   refine ZaB rfl h247 rfl rfl rfl (Zh ?_)
   obtain ⟨e280,h248,h⟩:=bnd h
   refine ZD rfl h248 rfl rfl rfl (Zh ?_)
   refine Zbc (e':=e278) rfl h248 rfl rfl rfl rfl rfl rfl (Nat.le_of_ble_eq_true rfl) rfl rfl (Zh ?_)
   obtain ⟨e281,h249,h⟩:=bnd h
   refine ZD rfl h249 rfl rfl rfl (Zh ?_)
   refine Zbc (e':=e279) rfl h249 rfl rfl rfl rfl rfl rfl (Nat.le_of_ble_eq_true rfl) rfl rfl (Zh ?_)
   refine rg ?_
   exact rn (mf24,(w64 (x253 - 1)),(ZaS (ZaS x254 x253 e278) (w64 (x253 - 1)) e279)) h (Zw [] ⟨rfl,rfl,rfl,rfl,rfl,rfl,trivial⟩ ⟨⟨rfl,rfl⟩,trivial⟩ rfl)
  refine rg ?_
  exact rn (mf17,(w64 (x95+1)),x254) h (Zw [] ⟨rfl,rfl,rfl,rfl,rfl,trivial⟩ ⟨⟨rfl,rfl⟩,trivial⟩ rfl)
 cases h
 exact Zc4 rfl rfl rfl
def Zae (p0:List Title) (p1:Int) (p2:Int) (p3:Int):Option (List Title):=
 ZE Zaj (fun f1 (_:Unit)=>
  if (decide ((w64 (p2 - p1))≤12)) then
   (ZP p0 p1 p2).bind fun r4=>
   (some r4:Option (List Title))
  else
  if (decide (p3=0)) then
   (none:Option (List Title))
  else
  (none:Option (List Title))) ()
theorem ZeW (p0:List Title) (p1:Int) (p2:Int) (p3:Int) (r:List Title) (h:Zae p0 p1 p2 p3=some r):ContractR Tryz.prog 129 [.int .i64 p1,.int .i64 p2,.int .i64 p3,.fn 78 []] 29 2 (List.map Title.cs p0) (.tup []) (List.map Title.cs r):=by
 refine Zbe (R:=fun r=>.tup []) (O:=fun r=>(List.map Title.cs r)) h mix Tryz.func129 (by kernel_rfl) rfl (by kernel_rfl) fun r h=>?_
 unfold Zae at h
 refine Zh ?_
 refine rg ?_
 refine rg ?_
 refine bl ?_
 refine Zn h fun f1 mf1 hf1 h=>?_
 refine Zk (α:=Nat×Unit) (fun a _=>mkS [(0,.row 0 (0,0)),(1,.int .i64 p1),(2,.int .i64 p2),(3,.int .i64 p3),(4,.fn 78 []),(10,.bool true),(11,.bool true)] [(0,some ((0,0),.row 29 2 false (List.map Title.cs p0)))] 2) (fun a=>ZE a.1 f1 a.2=some r) (fun a=>a.1) (mf1,()) 2 h (Zw [] ⟨rfl,rfl,rfl,rfl,rfl,rfl,rfl,trivial⟩ ⟨⟨rfl,rfl⟩,trivial⟩ rfl) (fun a _ h=>?_)
 obtain ⟨mf1,_⟩:=a
 obtain ⟨mf1,rfl,hG⟩:=Zo hf1 h
 replace h:=hG
 refine Zh ?_
 refine bl ?_
 refine rg ?_
 refine rg ?_
 refine cS h rfl (fun h=>?_) fun h=>?_
 ·refine rg ?_
  obtain ⟨r4,h4,h⟩:=bnd h
  refine ZcY (Zdl _ _ _ _ h4) rfl rfl rfl rfl rfl (Zh ?_)
  cases h
  exact ZnB rfl rfl rfl
 refine rg ?_
 refine cS h rfl (fun h=>?_) fun h=>?_
 ·cases h
 cases h
def ZY (p0:List Title):Option (List Title):=
 (Zbo (IntKind.wrap .u64 (p0.length:Int))).bind fun r1=>
 (Zae p0 0 (p0.length:Int) r1).bind fun r2=>
 (some r2:Option (List Title))
theorem Zg3 (p0:List Title) (r:List Title) (h:ZY p0=some r):ContractR Tryz.prog 79 [.fn 78 []] 29 2 (List.map Title.cs p0) (.tup []) (List.map Title.cs r):=by
 refine Zbe (R:=fun r=>.tup []) (O:=fun r=>(List.map Title.cs r)) h mix Tryz.func79 (by kernel_rfl) rfl (by kernel_rfl) fun r h=>?_
 unfold ZY at h
 refine Zh ?_
 refine rg ?_
 refine lM Title.cs p0 ?_
 refine rg ?_
 refine aC h (ZmM _) fun r1 h=>?_
 obtain ⟨r2,h2,h⟩:=bnd h
 refine ZcY (ZeW _ _ _ _ _ h2) rfl rfl rfl rfl rfl (Zh ?_)
 cases h
 exact Zc4 rfl rfl rfl
def Zad (p0:List Title):Option (List Title):=
 if (decide ((p0.length:Int)<2)) then
  (some p0:Option (List Title))
 else
 ZE Zaj (fun f22 (x434:Int)=>
  if (decide (x434<(p0.length:Int))) then
   (atI p0 x434).bind fun e597=>
   (atI p0 (w64 (x434 - 1))).bind fun e598=>
   if (decide (e597=e598)) then
    (ZjA p0 x434 (p0.length:Int)).bind fun l599=>
    ZE Zaj (fun f26 (x633:Int)=>
     if (decide (x633<(l599.length:Int))) then
      (atI l599 x633).bind fun e646=>
      (atI l599 (w64 (x633 - 1))).bind fun e647=>
      if (!decide (e646=e647)) then
       (atI l599 x633).bind fun e648=>
       (atI p0 x434).bind fun e649=>
       (none:Option (List Title))
      else
      f26 (w64 (x633+1))
     else
     (ZjA p0 x434 (p0.length:Int)).bind fun l650=>
     (none:Option (List Title))) 1
   else
   f22 (w64 (x434+1))
  else
  (some p0:Option (List Title))) 1
theorem Zhq (p0:List Title) (r:List Title) (h:Zad p0=some r):ContractR Tryz.prog 80 [] 29 2 (List.map Title.cs p0) (.row 0 (0,0)) (List.map Title.cs r):=by
 refine Zbe (R:=fun r=>.row 0 (0,0)) (O:=fun r=>(List.map Title.cs r)) h mix Tryz.func80 (by kernel_rfl) rfl (by kernel_rfl) fun r h=>?_
 unfold Zad at h
 refine Zh ?_
 refine rg ?_
 refine rg ?_
 refine lM Title.cs p0 ?_
 refine cS h rfl (fun h=>?_) fun h=>?_
 ·refine rg ?_
  cases h
  exact ZnB rfl rfl rfl
 refine rg ?_
 refine bl ?_
 refine Zn h fun f22 mf22 hf22 h=>?_
 refine Zk (α:=Nat×Int) (fun a _=>mkS [(0,.row 0 (0,0)),(3,.int .i64 a.2)] [(0,some ((0,0),.row 29 2 false (List.map Title.cs p0)))] 2) (fun a=>ZE a.1 f22 a.2=some r) (fun a=>a.1) (mf22,1) 2 h (sR []) (fun a _ h=>?_)
 obtain ⟨mf22,x434⟩:=a
 obtain ⟨mf22,rfl,h⟩:=Zo hf22 h
 dsimp only at h ⊢
 refine Zh ?_
 refine rg ?_
 refine lM Title.cs p0 ?_
 refine cS h rfl (fun h=>?_) fun h=>?_
 ·refine bl ?_
  refine rg ?_
  obtain ⟨e597,h573,h⟩:=bnd h
  refine ZD rfl h573 rfl rfl rfl (Zh ?_)
  refine ZaB rfl h573 rfl rfl rfl (Zh ?_)
  obtain ⟨e598,h574,h⟩:=bnd h
  refine ZD rfl h574 rfl rfl rfl (Zh ?_)
  refine ZaB rfl h574 rfl rfl rfl (Zh ?_)
  refine Ze3 (.inl rfl) rfl rfl rfl rfl rfl (fun W=>ZdP e597 e598 W) (Zh ?_)
  refine cS h rfl (fun h=>?_) fun h=>?_
  ·refine rg ?_
   refine sM Title.cs h fun l599 h=>?_
   refine rg ?_
   refine bl ?_
   refine Zn h fun f26 mf26 hf26 h=>?_
   refine Zk (α:=Nat×Int) (fun a _=>mkS [(0,.row 0 (0,0)),(3,.int .i64 x434),(4,.sl (List.map Title.cs l599)),(5,.int .i64 a.2)] [(0,some ((0,0),.row 29 2 true (List.map Title.cs p0)))] 2) (fun a=>ZE a.1 f26 a.2=some r) (fun a=>a.1) (mf26,1) 2 h (sR []) (fun a _ h=>?_)
   obtain ⟨mf26,x633⟩:=a
   obtain ⟨mf26,rfl,h⟩:=Zo hf26 h
   dsimp only at h ⊢
   refine Zh ?_
   refine rg ?_
   refine lM Title.cs l599 ?_
   refine cS h rfl (fun h=>?_) fun h=>?_
   ·refine bl ?_
    refine rg ?_
    refine aI Title.cs h fun e646 h=>?_
    refine aI Title.cs h fun e647 h=>?_
    refine Ze3 (.inr rfl) rfl rfl rfl rfl rfl (fun W=>ZfU e646 e647 W) (Zh ?_)
    refine cS h rfl (fun h=>?_) fun h=>?_
    ·refine rg ?_
     refine aI Title.cs h fun e648 h=>?_
     obtain ⟨e649,h623,h⟩:=bnd h
     refine ZD rfl h623 rfl rfl rfl (Zh ?_)
     cases h
    refine rg ?_
    exact rn (mf26,(w64 (x633+1))) h (sR [])
   refine rg ?_
   refine sM Title.cs h fun l650 h=>?_
   cases h
  refine rg ?_
  exact rn (mf22,(w64 (x434+1))) h (sR [])
 refine rg ?_
 cases h
 exact ZnB rfl rfl rfl
def Zc7 (p0:List Title):Option (List Title):=
 (ZY p0).bind fun r1=>
 (Zad r1).bind fun r2=>
 (some r2:Option (List Title))
theorem ZmN (p0:List Title) (r:List Title) (h:Zc7 p0=some r):ContractR Tryz.prog 43 [] 29 2 (List.map Title.cs p0) (.row 0 (0,0)) (List.map Title.cs r):=by
 refine Zbe (R:=fun r=>.row 0 (0,0)) (O:=fun r=>(List.map Title.cs r)) h mix Tryz.func43 (by kernel_rfl) rfl (by kernel_rfl) fun r h=>?_
 unfold Zc7 at h
 refine Zh ?_
 refine rg ?_
 refine rg ?_
 obtain ⟨r1,h1,h⟩:=bnd h
 refine ZcY (Zg3 _ _ h1) rfl rfl rfl rfl rfl (Zh ?_)
 refine rg ?_
 obtain ⟨r2,h2,h⟩:=bnd h
 refine Zon (Zhq _ _ h2) rfl rfl rfl rfl (Zh ?_)
 cases h
 exact ZnB rfl rfl rfl
def Zg6 (p0:ByteArray):Option Bool:=
 letk (fun (x3:Bool)=>
  if x3 then
   (some false:Option Bool)
  else
  ZE Zaj (fun f13 (x21:Int)=>
   if (decide (x21<(p0.size:Int))) then
    (atS p0 x21).bind fun c28=>
    letk (fun (x29:Bool)=>
     if x29 then
      (some false:Option Bool)
     else
     f13 (w64 (x21+1))) fun k15=>
    if (decide (c28<97)) then
     if (decide (c28<48)) then
      if (!decide (c28=45)) then
       k15 (!decide (c28=95))
      else
      k15 false
     else
     if (decide (57<c28)) then
      if (!decide (c28=45)) then
       k15 (!decide (c28=95))
      else
      k15 false
     else
     k15 false
    else
    if (decide (122<c28)) then
     if (decide (c28<48)) then
      if (!decide (c28=45)) then
       k15 (!decide (c28=95))
      else
      k15 false
     else
     if (decide (57<c28)) then
      if (!decide (c28=45)) then
       k15 (!decide (c28=95))
      else
      k15 false
     else
     k15 false
    else
    k15 false
   else
   (some true:Option Bool)) 0) fun k1=>
 if (decide ((p0.size:Int)<1)) then
  k1 true
 else
 if (decide (30<(p0.size:Int))) then
  k1 true
 else
 (atS p0 0).bind fun c30=>
 if (decide (c30<97)) then
  k1 true
 else
 (atS p0 0).bind fun c31=>
 k1 (decide (122<c31))
theorem ZoS (p0:ByteArray) (r:Bool) (h:Zg6 p0=some r):Zd Tryz.prog 121 [.str p0] (.bool r):=by
 refine cF (fun r=>.bool r) h mix Tryz.func121 fun r h=>?_
 unfold Zg6 at h
 refine Zh ?_
 refine rg ?_
 refine jL h (fun x3=>mkS [(0,.str p0),(22,.bool x3)] [] 2) (fun k1 h=>?_) fun x3 h=>?_
 ·refine rg ?_
  refine kS 8 h rfl (fun h=>?_) fun h=>?_
  ·iterate 9 refine Zi rfl (Zh ?_)
   exact jn true h (sR [])
  refine kS 13 h rfl (fun h=>?_) fun h=>?_
  ·iterate 6 refine Zi rfl (Zh ?_)
   exact jn true h (sR [])
  refine aS h fun c30 h=>?_
  refine kS 18 h rfl (fun h=>?_) fun h=>?_
  ·iterate 3 refine Zi rfl (Zh ?_)
   exact jn true h (sR [])
  refine aS h fun c31 h=>?_
  exact jn (decide (122<c31)) h (sR [])
 refine cS h rfl (fun h=>?_) fun h=>?_
 ·refine rg ?_
  cases h
  exact rQ
 refine rg ?_
 refine bl ?_
 refine Zn h fun f13 mf13 hf13 h=>?_
 refine Zk (α:=Nat×Int) (fun a _=>mkS [(0,.str p0),(3,.int .i64 a.2)] [] 2) (fun a=>ZE a.1 f13 a.2=some r) (fun a=>a.1) (mf13,0) 2 h (sR []) (fun a _ h=>?_)
 obtain ⟨mf13,x21⟩:=a
 obtain ⟨mf13,rfl,h⟩:=Zo hf13 h
 dsimp only at h ⊢
 refine Zh ?_
 refine rg ?_
 refine cS h rfl (fun h=>?_) fun h=>?_
 ·refine bl ?_
  refine rg ?_
  refine aS h fun c28 h=>?_
  refine jL h (fun x29=>mkS [(0,.str p0),(3,.int .i64 x21),(53,.bool x29)] [] 2) (fun k15 h=>?_) fun x29 h=>?_
  ·refine rg ?_
   refine kS 34 h rfl (fun h=>?_) fun h=>?_
   ·iterate 2 refine Zi rfl (Zh ?_)
    refine kS 41 h rfl (fun h=>?_) fun h=>?_
    ·iterate 2 refine Zi rfl (Zh ?_)
     refine kS 50 h rfl (fun h=>?_) fun h=>?_
     ·exact jn (!decide (c28=95)) h (sR [])
     iterate 2 refine Zi rfl (Zh ?_)
     exact jn false h (sR [])
    refine kS 46 h rfl (fun h=>?_) fun h=>?_
    ·refine kS 50 h rfl (fun h=>?_) fun h=>?_
     ·exact jn (!decide (c28=95)) h (sR [])
     iterate 2 refine Zi rfl (Zh ?_)
     exact jn false h (sR [])
    iterate 4 refine Zi rfl (Zh ?_)
    exact jn false h (sR [])
   refine kS 38 h rfl (fun h=>?_) fun h=>?_
   ·refine kS 41 h rfl (fun h=>?_) fun h=>?_
    ·iterate 2 refine Zi rfl (Zh ?_)
     refine kS 50 h rfl (fun h=>?_) fun h=>?_
     ·exact jn (!decide (c28=95)) h (sR [])
     iterate 2 refine Zi rfl (Zh ?_)
     exact jn false h (sR [])
    refine kS 46 h rfl (fun h=>?_) fun h=>?_
    ·refine kS 50 h rfl (fun h=>?_) fun h=>?_
     ·exact jn (!decide (c28=95)) h (sR [])
     iterate 2 refine Zi rfl (Zh ?_)
     exact jn false h (sR [])
    iterate 4 refine Zi rfl (Zh ?_)
    exact jn false h (sR [])
   iterate 10 refine Zi rfl (Zh ?_)
   exact jn false h (sR [])
  refine cS h rfl (fun h=>?_) fun h=>?_
  ·refine rg ?_
   cases h
   exact rQ
  refine rg ?_
  exact rn (mf13,(w64 (x21+1))) h (sR [])
 refine rg ?_
 cases h
 exact rQ
def Zga (p0:ByteArray):Option Bool:=
 letk (fun (x3:Bool)=>
  if x3 then
   (some false:Option Bool)
  else
  ZE Zaj (fun f13 (x21:Int)=>
   if (decide (x21<(p0.size:Int))) then
    (atS p0 x21).bind fun c28=>
    letk (fun (x29:Bool)=>
     if x29 then
      (some false:Option Bool)
     else
     f13 (w64 (x21+1))) fun k15=>
    if (decide (c28<97)) then
     if (decide (c28<48)) then
      if (!decide (c28=45)) then
       k15 (!decide (c28=95))
      else
      k15 false
     else
     if (decide (57<c28)) then
      if (!decide (c28=45)) then
       k15 (!decide (c28=95))
      else
      k15 false
     else
     k15 false
    else
    if (decide (122<c28)) then
     if (decide (c28<48)) then
      if (!decide (c28=45)) then
       k15 (!decide (c28=95))
      else
      k15 false
     else
     if (decide (57<c28)) then
      if (!decide (c28=45)) then
       k15 (!decide (c28=95))
      else
      k15 false
     else
     k15 false
    else
    k15 false
   else
   (some true:Option Bool)) 0) fun k1=>
 if (decide ((p0.size:Int)<1)) then
  k1 true
 else
 if (decide (30<(p0.size:Int))) then
  k1 true
 else
 (atS p0 0).bind fun c30=>
 if (decide (c30<97)) then
  k1 true
 else
 (atS p0 0).bind fun c31=>
 k1 (decide (122<c31))
theorem Zlm (p0:ByteArray) (r:Bool) (h:Zga p0=some r):Zd Tryz.prog 55 [.str p0] (.bool r):=by
 refine cF (fun r=>.bool r) h mix Tryz.func55 fun r h=>?_
 unfold Zga at h
 refine Zh ?_
 refine rg ?_
 refine jL h (fun x3=>mkS [(0,.str p0),(22,.bool x3)] [] 2) (fun k1 h=>?_) fun x3 h=>?_
 ·refine rg ?_
  refine kS 8 h rfl (fun h=>?_) fun h=>?_
  ·iterate 9 refine Zi rfl (Zh ?_)
   exact jn true h (sR [])
  refine kS 13 h rfl (fun h=>?_) fun h=>?_
  ·iterate 6 refine Zi rfl (Zh ?_)
   exact jn true h (sR [])
  refine aS h fun c30 h=>?_
  refine kS 18 h rfl (fun h=>?_) fun h=>?_
  ·iterate 3 refine Zi rfl (Zh ?_)
   exact jn true h (sR [])
  refine aS h fun c31 h=>?_
  exact jn (decide (122<c31)) h (sR [])
 refine cS h rfl (fun h=>?_) fun h=>?_
 ·refine rg ?_
  cases h
  exact rQ
 refine rg ?_
 refine bl ?_
 refine Zn h fun f13 mf13 hf13 h=>?_
 refine Zk (α:=Nat×Int) (fun a _=>mkS [(0,.str p0),(24,.int .i64 (p0.size:Int)),(25,.int .i64 a.2)] [] 2) (fun a=>ZE a.1 f13 a.2=some r) (fun a=>a.1) (mf13,0) 2 h (sR []) (fun a _ h=>?_)
 obtain ⟨mf13,x21⟩:=a
 obtain ⟨mf13,rfl,h⟩:=Zo hf13 h
 dsimp only at h ⊢
 refine Zh ?_
 refine rg ?_
 refine cS h rfl (fun h=>?_) fun h=>?_
 ·refine bl ?_
  refine rg ?_
  refine rg ?_
  refine aS h fun c28 h=>?_
  refine jL h (fun x29=>mkS [(0,.str p0),(24,.int .i64 (p0.size:Int)),(25,.int .i64 x21),(52,.bool x29)] [] 2) (fun k15 h=>?_) fun x29 h=>?_
  ·refine rg ?_
   refine kS 33 h rfl (fun h=>?_) fun h=>?_
   ·iterate 2 refine Zi rfl (Zh ?_)
    refine kS 40 h rfl (fun h=>?_) fun h=>?_
    ·iterate 2 refine Zi rfl (Zh ?_)
     refine kS 49 h rfl (fun h=>?_) fun h=>?_
     ·exact jn (!decide (c28=95)) h (sR [])
     iterate 2 refine Zi rfl (Zh ?_)
     exact jn false h (sR [])
    refine kS 45 h rfl (fun h=>?_) fun h=>?_
    ·refine kS 49 h rfl (fun h=>?_) fun h=>?_
     ·exact jn (!decide (c28=95)) h (sR [])
     iterate 2 refine Zi rfl (Zh ?_)
     exact jn false h (sR [])
    iterate 4 refine Zi rfl (Zh ?_)
    exact jn false h (sR [])
   refine kS 37 h rfl (fun h=>?_) fun h=>?_
   ·refine kS 40 h rfl (fun h=>?_) fun h=>?_
    ·iterate 2 refine Zi rfl (Zh ?_)
     refine kS 49 h rfl (fun h=>?_) fun h=>?_
     ·exact jn (!decide (c28=95)) h (sR [])
     iterate 2 refine Zi rfl (Zh ?_)
     exact jn false h (sR [])
    refine kS 45 h rfl (fun h=>?_) fun h=>?_
    ·refine kS 49 h rfl (fun h=>?_) fun h=>?_
     ·exact jn (!decide (c28=95)) h (sR [])
     iterate 2 refine Zi rfl (Zh ?_)
     exact jn false h (sR [])
    iterate 4 refine Zi rfl (Zh ?_)
    exact jn false h (sR [])
   iterate 10 refine Zi rfl (Zh ?_)
   exact jn false h (sR [])
  refine cS h rfl (fun h=>?_) fun h=>?_
  ·refine rg ?_
   cases h
   exact rQ
  refine rg ?_
  exact rn (mf13,(w64 (x21+1))) h (sR [])
 refine rg ?_
 cases h
 exact rQ
end Go.Proofs.YtjoneoobolnnbaaGreatDoor
namespace Go.Proofs.YtjoneoobolnnbaaGreatDoor
open Go.RowKit
theorem Ztw:∀ a b:List UInt8,Lib.compareBytes a b=if Op.bytesLess a b=true then -1 else if a=b then 0 else 1
 | [],[]=>by simp [Lib.compareBytes,Op.bytesLess]
 | [],_::_=>by simp [Lib.compareBytes,Op.bytesLess]
 | _::_,[]=>by simp [Lib.compareBytes,Op.bytesLess]
 | x::a,y::b=>by
   have h:=Ztw a b
   have e:x<y∨x=y∨y<x:=by
    rcases Nat.lt_trichotomy x.toNat y.toNat with h | h | h
    ·exact .inl h
    ·exact .inr (.inl (UInt8.toNat_inj.1 h))
    ·exact .inr (.inr h)
   rcases e with e | e | e
   ·simp [Lib.compareBytes,Op.bytesLess,e]
   ·subst e
    have hx:¬ x<x:=fun h=>by simp at h
    simp [Lib.compareBytes,Op.bytesLess,h]
   ·have hx:¬ x<y:=fun h=>by simp [UInt8.lt_iff_toNat_lt] at h e;omega
    have hne:¬ x=y:=fun h=>by subst h;simp at e
    simp [Lib.compareBytes,Op.bytesLess,hx,hne,e]
theorem ZhF (a b:Title):Title.cmp a b=if a.space<b.space then -1 else if b.space<a.space then 1 else if Op.bytesLess a.name.toList b.name.toList=true then -1 else if a.name.toList=b.name.toList then 0 else 1:=by
 unfold Title.cmp orI Lib.compareInt
 rw [Ztw,ByteArray.toList_eq,ByteArray.toList_eq]
 by_cases h1:a.space<b.space
 ·simp [h1]
 ·by_cases h2:b.space<a.space
  ·simp [h1,h2]
  ·simp only [h1,h2,if_false,if_true,orI]
   by_cases h:Op.bytesLess a.name.data.toList b.name.data.toList=true
   ·simp [h]
   ·by_cases h':a.name.data.toList=b.name.data.toList<;>simp [h,h']
theorem Zi9 (a b:Title) (w:World):Calls Tryz.prog 139 #[.agg #[.int .i64 a.space,.string a.name],.agg #[.int .i64 b.space,.string b.name]] w fun e w'=>e = .returned (.int .i64 (Title.cmp a b))∧Below w.heap.size w w':=by
 go_enter Tryz.func139,Tryz.ntmps139
 go_wp2
 all_goals
  go_ret
  refine ⟨Zo7 ?_,((Below.refl _ _).alloc (Nat.le_refl _) _).alloc (by simp) _⟩
  rw [ZhF]
  first
   | (rw [if_pos (by omega)];done)
   | (rw [if_neg (by omega),if_neg (by omega),if_pos (by assumption)];done)
   | (rw [if_neg (by omega),if_pos (by omega)];done)
   | (rw [if_neg (by omega),if_neg (by omega),if_neg (by simp_all),if_pos (by assumption)];done)
   | (rw [if_neg (by omega),if_neg (by omega),if_neg (by simp_all),if_neg (by assumption)];done)
def ZiP (c:UInt8):UInt8:=if 65≤c.toNat∧c.toNat≤90 then UInt8.ofNat (c.toNat+32) else c
def ZaP (l:List UInt8):List UInt8:=l.map ZiP
def BytesAt (w:World) (g:Nat) (l:List UInt8):Prop:=
 g<w.heap.size∧∀ j c,l[j]? = some c→w.cell? ⟨g,j,none⟩=some (.int .u8 (c.toNat:Int))∧w.frozen? ⟨g,j,none⟩=false
theorem BytesAt.set {w:World} {g:Nat} {l:List UInt8} (h:BytesAt w g l) (k:Nat) (c:UInt8) (hk:k<l.length):BytesAt (w.setCell ⟨g,k,none⟩ (.int .u8 (c.toNat:Int))) g (l.set k c):=by
 refine ⟨by simpa [World.setCell] using h.1,fun j d hj=>?_⟩
 by_cases e:j=k
 ·subst e
  rw [List.getElem?_set_self hk] at hj
  obtain rfl:c=d:=by simpa using hj
  obtain ⟨h1,h2⟩:=h.2 j _ (List.getElem?_eq_getElem hk)
  exact ⟨World.cell?_setCell_same w ⟨g,j,none⟩ _ h1,by simpa using h2⟩
 ·rw [List.getElem?_set_ne (fun e'=>e e'.symm)] at hj
  obtain ⟨h1,h2⟩:=h.2 j d hj
  refine ⟨(World.cell?_setCell_other w ⟨g,k,none⟩ ⟨g,j,none⟩ _ (fun e'=>e (by injection e' with _ e2;exact e2.symm))).trans h1,by simpa using h2⟩
theorem BytesAt.back {P:Program} {w:World} {g cap:Nat} {l:List UInt8} (h:BytesAt w g l) (src dst e:TypeId) (hs:P.underlying src=some (.slice e)) (he:P.underlying e=some (.int .u8)) (hd:P.underlying dst=some .string) :
  (convert src dst (.slice (some ⟨g,0,none⟩) l.length cap)).run P w = .ok (.string ⟨l.toArray⟩) w:=
 run_convert_bytes_back w src dst e ⟨g,0,none⟩ cap l hs he hd fun j hj=>by
  have:=(h.2 j _ (List.getElem?_eq_getElem hj)).1
  unfold Addr.add
  split
  ·rename_i h0;subst h0;exact this
  ·simpa using this
theorem ZsA {P:Program} (w:World) (src dst e:TypeId) (s:ByteArray) (hs:P.underlying src=some .string) (hd:P.underlying dst=some (.slice e)) (he:P.underlying e=some (.int .u8)) :
  ∃ cap w1,(convert src dst (.string s)).run P w = .ok (.slice (some ⟨w.heap.size,0,none⟩) s.size cap) w1∧Below w.heap.size w w1∧BytesAt w1 w.heap.size s.data.toList:=by
 refine ⟨_,_,run_bytes_of_string w src dst e s hs hd he,(Below.refl _ _).drew.alloc (Nat.le_refl _) _,by simp,fun j c hj=>?_⟩
 have hjl:j<s.data.size:=by have:=(List.getElem?_eq_some_iff.1 hj).1;simpa using this
 have hc:c=s.data[j]:=by
  rw [List.getElem?_eq_getElem (by simpa using hjl)] at hj
  simpa using hj.symm
 constructor
 ·exact (World.cell?_alloc_mark w.drew _ _ _ j).trans (by rw [bytesRow_at _ _ _ hjl,hc])
 ·refine (World.frozen?_alloc_mark w.drew _ _ _ _ j).trans ?_
  have:j<(bytesRow s (grownCap w s.size 0 e)).size:=by simp only [bytesRow,Array.size_append,Array.size_map];omega
  simp;omega
theorem Zpz (l:List UInt8) (q:Nat) (c:UInt8) (hc:l[q]? = some c):(ZaP (l.take q)++l.drop q).set q (ZiP c)=ZaP (l.take (q+1))++l.drop (q+1):=by
 have hq:q<l.length:=(List.getElem?_eq_some_iff.1 hc).1
 have hl:(ZaP (l.take q)).length=q:=by simp [ZaP];omega
 have hg:l[q]=c:=by rw [List.getElem?_eq_getElem hq] at hc;simpa using hc
 rw [List.set_append_right _ _ (by omega),hl,Nat.sub_self,List.drop_eq_getElem_cons hq,List.set_cons_zero,List.take_succ_eq_append_getElem hq,hg]
 simp [ZaP]
theorem ZtY (l:List UInt8) (q:Nat) (c:UInt8) (hc:l[q]? = some c) (he:ZiP c=c):ZaP (l.take q)++l.drop q=ZaP (l.take (q+1))++l.drop (q+1):=by
 rw [← Zpz l q c hc,he]
 have hq:q<l.length:=(List.getElem?_eq_some_iff.1 hc).1
 have hl:(ZaP (l.take q)).length=q:=by simp [ZaP];omega
 have hg:l[q]=c:=by rw [List.getElem?_eq_getElem hq] at hc;simpa using hc
 rw [List.set_append_right _ _ (by omega),hl,Nat.sub_self,List.drop_eq_getElem_cons hq,List.set_cons_zero,hg]
theorem Zw2 (l:List UInt8) (q:Nat) (c:UInt8) (hc:l[q]? = some c):(ZaP (l.take q)++l.drop q)[q]? = some c:=by
 have hq:q<l.length:=(List.getElem?_eq_some_iff.1 hc).1
 have hl:(ZaP (l.take q)).length=q:=by simp [ZaP];omega
 rw [List.getElem?_append_right (by omega),hl,Nat.sub_self,List.getElem?_drop]
 simpa using hc
theorem Ziz (s:ByteArray) (w:World) (hs:s.size≤9223372036854775807):Calls Tryz.prog 156 #[.string s] w fun e w'=>e = .returned (.string ⟨(ZaP s.data.toList).toArray⟩)∧Below w.heap.size w w':=by
 obtain ⟨cap,w1,hconv,hb,hB⟩:=ZsA (P:=Tryz.prog) w 9 238 5 s Tryz.underlying9 Tryz.underlying238 Tryz.underlying5
 have HB:=Lib.hid hb
 have HBB:=Lib.hid hB
 clear hb hB
 have HL:Hid (s.data.toList.length=s.size):=Lib.hid (Array.length_toList)
 go_enter Tryz.func156,Tryz.ntmps156
 go_wp2
 go_loopw [4,5,10] (fun _ _ i wr=>∃ q:Nat,q≤s.size∧i = .int .i64 q∧Below w.heap.size w wr∧BytesAt wr w.heap.size (ZaP (s.data.toList.take q)++s.data.toList.drop q)) (fun _ _ i _=>s.size - (intOf i).toNat)
 case atStart=>exact ⟨0,Nat.zero_le _,rfl,HB.out,by simpa [ZaP] using HBB.out⟩
 case round=>
  obtain ⟨q,hq,rfl,hbw,hBw⟩:=hrel
  by_cases hlt:q<s.size
  ·obtain ⟨x,hx⟩:∃ x,s.data.toList[q]? = some x:=⟨_,List.getElem?_eq_getElem (by rw [HL.out];exact hlt)⟩
   obtain ⟨c0,f0⟩:=hBw.2 q x (Zw2 _ _ _ hx)
   have HX:=Lib.hid hx
   have HW:=Lib.hid hBw
   have HQ:=Lib.hid hbw
   clear hx hBw hbw hconv
   have hx1:(x.toNat:Int)<256:=by have:=x.toNat_lt;omega
   by_cases h1:(65:Int)≤x.toNat∧(x.toNat:Int)≤90
   ·obtain ⟨h1,h2⟩:=h1
    go_wp2
    go_roundw
    case rel=>
     refine ⟨q+1,by omega,by go_num,HQ.out.setCell (Nat.le_refl _) _,?_⟩
     have hl:ZiP x=UInt8.ofNat (x.toNat+32):=by unfold ZiP;rw [if_pos (by omega)]
     have hl2:((ZiP x).toNat:Int)=(x.toNat:Int)+32:=by rw [hl];simp;omega
     rw [← Zpz _ _ _ HX.out,← hl2]
     exact HW.out.set q _ (by rw [List.length_append];simp [ZaP];omega)
    case measure=>simp [intOf];omega
   ·have hk:ZiP x=x:=by unfold ZiP;rw [if_neg (by omega)]
    have HK:=Lib.hid hk
    clear hk
    have h3:(x.toNat:Int)<65∨((65:Int)≤x.toNat∧(90:Int)<x.toNat):=by omega
    clear h1
    rcases h3 with h2 | ⟨h2,h3⟩
    all_goals
     go_wp2
     go_roundw
     case rel=>exact ⟨q+1,by omega,by go_num,HQ.out,by rw [← ZtY _ _ _ HX.out HK.out];exact HW.out⟩
     case measure=>simp [intOf];omega
  ·obtain rfl:q=s.size:=by omega
   have hz:ZaP (s.data.toList.take s.size)++s.data.toList.drop s.size=ZaP s.data.toList:=by
    rw [List.take_of_length_le (by rw [HL.out];omega),List.drop_eq_nil_of_le (by rw [HL.out];omega),List.append_nil]
   rw [hz] at hBw
   have hback:=hBw.back (P:=Tryz.prog) (cap:=cap) 238 9 5 Tryz.underlying238 Tryz.underlying5 Tryz.underlying9
   rw [show (ZaP s.data.toList).length=s.size by rw [ZaP,List.length_map];exact HL.out] at hback
   have HQ:=Lib.hid hbw
   clear hz hBw hbw hconv
   go_wp2
   go_ret
   exact ⟨rfl,HQ.out⟩
def Glob (w:World):Prop:=∃ m,w.cell? ⟨1,0,none⟩=some (.int .i64 m)
theorem Glob.below {a w:World} (h:Glob a) (hb:Below a.heap.size a w):Glob w:=h.imp fun _ hm=>re1 hb (ZbA hm) hm
theorem ZyG (s sep:List UInt8):(Lib.cut s sep).1.length≤s.length:=by
 unfold Lib.cut
 split
 ·simp;omega
 ·exact Nat.le_refl _
theorem Zoz (s p:List UInt8):(Lib.trimSuffix s p).length≤s.length:=by
 unfold Lib.trimSuffix
 split
 ·rw [List.length_take];omega
 ·exact Nat.le_refl _
def Zbw (n:List UInt8):Int:=
 if n = [116,97,108,107] then 1 else if n = [117,115,101,114] then 2 else if n = [116,101,109,112,108,97,116,101] then 3 else if n = [99,97,116,101,103,111,114,121] then 4 else if n = [112,114,111,106,101,99,116] then 5 else 0
def Zc0 (s:List UInt8):Option (Int×List UInt8):=
 if (Lib.cut s [58]).2.2=true∧Zbw (ZaP (Lib.trimSuffix (Lib.cut s [58]).1 [32]))≠0 then some (Zbw (ZaP (Lib.trimSuffix (Lib.cut s [58]).1 [32])),(Lib.cut s [58]).2.1) else none
def ZkB (s:List UInt8):Value:=match Zc0 s with
 | some (n,r)=>.tuple #[.int .i64 n,.string ⟨r.toArray⟩,.bool true]
 | none=>.tuple #[.int .i64 0,.string ⟨#[]⟩,.bool false]
theorem ZsC (w:World):Calls Tryz.prog 158 #[] w fun e w'=>e = .returned (.agg #[.string ⟨#[]⟩,.string ⟨#[84,97,108,107]⟩,.string ⟨#[85,115,101,114]⟩,.string ⟨#[84,101,109,112,108,97,116,101]⟩,.string ⟨#[67,97,116,101,103,111,114,121]⟩,.string ⟨#[80,114,111,106,101,99,116]⟩])∧Below w.heap.size w w':=by
 go_enter Tryz.func158,Tryz.ntmps158
 go_wp2
 exact bodyPost_ret (v:=.agg #[.string ⟨#[]⟩,.string ⟨#[84,97,108,107]⟩,.string ⟨#[85,115,101,114]⟩,.string ⟨#[84,101,109,112,108,97,116,101]⟩,.string ⟨#[67,97,116,101,103,111,114,121]⟩,.string ⟨#[80,114,111,106,101,99,116]⟩]) (by simp [results,Tryz.results158,go_sem]) rfl ⟨rfl,Below.al (Below.refl _ _) _⟩
def Zas (q:Nat):List UInt8:=match q with | 1=>[116,97,108,107] | 2=>[117,115,101,114] | 3=>[116,101,109,112,108,97,116,101] | 4=>[99,97,116,101,103,111,114,121] | 5=>[112,114,111,106,101,99,116] | _=>[]
theorem ZfT (n:List UInt8) (h:∀ j,1≤j→j<6→n≠Zas j):Zbw n=0:=by
 have h1:=h 1 (by decide) (by decide)
 have h2:=h 2 (by decide) (by decide)
 have h3:=h 3 (by decide) (by decide)
 have h4:=h 4 (by decide) (by decide)
 have h5:=h 5 (by decide) (by decide)
 simp only [Zas] at h1 h2 h3 h4 h5
 simp only [Zbw,h1,h2,h3,h4,h5,if_false]
theorem ZhQ (j:Nat) (h1:1≤j) (h6:j<6):Zbw (Zas j)=j:=by
 obtain rfl | rfl | rfl | rfl | rfl:j=1∨j=2∨j=3∨j=4∨j=5:=by omega
 all_goals decide
theorem ZkC (s:ByteArray) (w:World) (hs:s.size<4294967281) (hG:Glob w):Calls Tryz.prog 101 #[.string s] w fun e w'=>e = .returned (ZkB s.data.toList)∧Below w.heap.size w w':=by
 obtain ⟨m,hm⟩:=hG
 have HF:Hid (ZkB s.data.toList=match Zc0 s.data.toList with
  | some (n,r)=>.tuple #[.int .i64 n,.string ⟨r.toArray⟩,.bool true]
  | none=>.tuple #[.int .i64 0,.string ⟨#[]⟩,.bool false]):=Lib.hid rfl
 unfold Zc0 at HF
 have hl1:(Lib.cut s.data.toList [58]).1.length≤s.data.toList.length:=ZyG _ _
 go_enter Tryz.func101,Tryz.ntmps101
 go_wp2_with fail
 refine (Tryz.strings_Cut s _ m _ hs hm).mono ?_
 rintro e w1 ⟨rfl,n1,rfl⟩
 rw [show (⟨#[58]⟩:ByteArray).data.toList = [58] from rfl]
 generalize Lib.cut s.data.toList [58]=C at *
 obtain ⟨b,a,ok⟩:=C
 cases ok
 ·go_wp2
  go_ret3
  exact ⟨by rw [HF.out];simp,Below.dn (Below.refl _ _) _⟩
 ·go_wp2_with fail
  refine (Tryz.strings_TrimSuffix _ _ _ (by have:=s.data.toList.length;simp only [ByteArray.size,Array.length_toList,List.size_toArray] at hl1 hs ⊢;omega)).mono ?_
  rintro e w1 ⟨rfl,rfl⟩
  go_wp2_with fail
  refine (Ziz _ _ (by have h2:=Zoz b [32];simp only [ByteArray.size,Array.length_toList,List.size_toArray] at hl1 hs h2 ⊢;omega)).mono ?_
  rintro e w1 ⟨rfl,hb1⟩
  go_wp2_with fail
  refine (ZsC _).mono ?_
  rintro e w2 ⟨rfl,hb2⟩
  have HB:=Lib.hid (Below.tr (Below.tr (Below.dn (Below.refl _ _) _) hb1) hb2)
  clear hb1 hb2 hm hs hl1
  generalize ZaP (Lib.trimSuffix b [32])=N at *
  simp only [true_and] at HF
  go_wp2_with fail
  go_loopw [23] (fun i wr=>∃ z:Int,0≤z∧z≤6∧i = .int .i64 z∧Below w2.heap.size w2 wr∧Hid (∀ j:Nat,1≤j→(j:Int)<z→N≠Zas j)) (fun i _=>6 - (intOf i).toNat)
  case atStart=>exact ⟨0,by omega,by omega,rfl,Below.refl _ _,fun j _ h=>absurd h (by omega)⟩
  case round=>
   obtain ⟨z,hz0,hz6,rfl,hbw,hno⟩:=hrel
   have HQ:=Lib.hid hbw
   clear hbw
   by_cases h6:z=6
   ·subst h6
    have hz:Zbw N=0:=ZfT N fun j h1 h2=>hno.out j h1 (by omega)
    rw [hz] at HF
    clear hz
    go_wp2
    go_ret3
    exact ⟨by rw [HF.out];simp,Below.tr HB.out HQ.out⟩
   ·have hq6:z=0∨z=1∨z=2∨z=3∨z=4∨z=5:=by omega
    clear h6 hz0 hz6
    have ix:∀ w (z:Int) (x:Value),(#[Value.string { data:=#[] },Value.string { data:=#[84,97,108,107] },Value.string { data:=#[85,115,101,114] },Value.string { data:=#[84,101,109,112,108,97,116,101] },Value.string { data:=#[67,97,116,101,103,111,114,121] },Value.string { data:=#[80,114,111,106,101,99,116] }]:Array Value)[z.toNat]? = some x→0≤z→z<6→
     (Instr.index 200 (.agg #[Value.string { data:=#[] },Value.string { data:=#[84,97,108,107] },Value.string { data:=#[85,115,101,114] },Value.string { data:=#[84,101,109,112,108,97,116,101] },Value.string { data:=#[67,97,116,101,103,111,114,121] },Value.string { data:=#[80,114,111,106,101,99,116] }]) (.int .i64 z)).run Tryz.prog w = .ok x w:=by
     intro w z x h h0 h6
     obtain rfl | rfl | rfl | rfl | rfl | rfl:z=0∨z=1∨z=2∨z=3∨z=4∨z=5:=by omega
     all_goals
      (simp at h;subst h;kernel_rfl)
    rcases hq6 with rfl | rfl | rfl | rfl | rfl | rfl
    ·have i0:=fun w=>ix w 0 _ rfl (by decide) (by decide)
     clear ix
     go_wp2
     go_roundw
     case rel=>exact ⟨1,by omega,by omega,rfl,HQ.out,fun j h1 h2=>absurd h2 (by omega)⟩
     case measure=>simp [intOf]
    ·have i0:=fun w=>ix w 1 _ rfl (by decide) (by decide)
     clear ix
     go_wp2_with (go_at_call 156;refine (Ziz _ _ (by decide)).mono ?_;rintro e w5 ⟨rfl,hb5⟩)
     ·have h:(N == ZaP [84,97,108,107])=true:=by assumption
      have hN:N=Zas 1:=(beq_iff_eq.1 h).trans (by decide)
      have hz:Zbw N=1:=by rw [hN];decide
      go_ret3
      exact ⟨by rw [HF.out,hz];simp,Below.tr HB.out (Below.tr HQ.out hb5)⟩
     ·go_roundw
      case rel=>
       have h:(N == ZaP [84,97,108,107])=false:=by assumption
       have hN:N≠Zas 1:=fun e=>beq_eq_false_iff_ne.1 h (e.trans (by decide))
       refine ⟨1+1,by omega,by omega,rfl,Below.tr HQ.out hb5,fun j h1 h2=>?_⟩
       rcases Nat.lt_or_ge j 1 with hj | hj
       ·exact hno.out j h1 (by omega)
       ·obtain rfl:j=1:=by omega
        exact hN
      case measure=>simp [intOf]
    ·have i0:=fun w=>ix w 2 _ rfl (by decide) (by decide)
     clear ix
     go_wp2_with (go_at_call 156;refine (Ziz _ _ (by decide)).mono ?_;rintro e w5 ⟨rfl,hb5⟩)
     ·have h:(N == ZaP [85,115,101,114])=true:=by assumption
      have hN:N=Zas 2:=(beq_iff_eq.1 h).trans (by decide)
      have hz:Zbw N=2:=by rw [hN];decide
      go_ret3
      exact ⟨by rw [HF.out,hz];simp,Below.tr HB.out (Below.tr HQ.out hb5)⟩
     ·go_roundw
      case rel=>
       have h:(N == ZaP [85,115,101,114])=false:=by assumption
       have hN:N≠Zas 2:=fun e=>beq_eq_false_iff_ne.1 h (e.trans (by decide))
       refine ⟨2+1,by omega,by omega,rfl,Below.tr HQ.out hb5,fun j h1 h2=>?_⟩
       rcases Nat.lt_or_ge j 2 with hj | hj
       ·exact hno.out j h1 (by omega)
       ·obtain rfl:j=2:=by omega
        exact hN
      case measure=>simp [intOf]
    ·have i0:=fun w=>ix w 3 _ rfl (by decide) (by decide)
     clear ix
     go_wp2_with (go_at_call 156;refine (Ziz _ _ (by decide)).mono ?_;rintro e w5 ⟨rfl,hb5⟩)
     ·have h:(N == ZaP [84,101,109,112,108,97,116,101])=true:=by assumption
      have hN:N=Zas 3:=(beq_iff_eq.1 h).trans (by decide)
      have hz:Zbw N=3:=by rw [hN];decide
      go_ret3
      exact ⟨by rw [HF.out,hz];simp,Below.tr HB.out (Below.tr HQ.out hb5)⟩
     ·go_roundw
      case rel=>
       have h:(N == ZaP [84,101,109,112,108,97,116,101])=false:=by assumption
       have hN:N≠Zas 3:=fun e=>beq_eq_false_iff_ne.1 h (e.trans (by decide))
       refine ⟨3+1,by omega,by omega,rfl,Below.tr HQ.out hb5,fun j h1 h2=>?_⟩
       rcases Nat.lt_or_ge j 3 with hj | hj
       ·exact hno.out j h1 (by omega)
       ·obtain rfl:j=3:=by omega
        exact hN
      case measure=>simp [intOf]
    ·have i0:=fun w=>ix w 4 _ rfl (by decide) (by decide)
     clear ix
     go_wp2_with (go_at_call 156;refine (Ziz _ _ (by decide)).mono ?_;rintro e w5 ⟨rfl,hb5⟩)
     ·have h:(N == ZaP [67,97,116,101,103,111,114,121])=true:=by assumption
      have hN:N=Zas 4:=(beq_iff_eq.1 h).trans (by decide)
      have hz:Zbw N=4:=by rw [hN];decide
      go_ret3
      exact ⟨by rw [HF.out,hz];simp,Below.tr HB.out (Below.tr HQ.out hb5)⟩
     ·go_roundw
      case rel=>
       have h:(N == ZaP [67,97,116,101,103,111,114,121])=false:=by assumption
       have hN:N≠Zas 4:=fun e=>beq_eq_false_iff_ne.1 h (e.trans (by decide))
       refine ⟨4+1,by omega,by omega,rfl,Below.tr HQ.out hb5,fun j h1 h2=>?_⟩
       rcases Nat.lt_or_ge j 4 with hj | hj
       ·exact hno.out j h1 (by omega)
       ·obtain rfl:j=4:=by omega
        exact hN
      case measure=>simp [intOf]
    ·have i0:=fun w=>ix w 5 _ rfl (by decide) (by decide)
     clear ix
     go_wp2_with (go_at_call 156;refine (Ziz _ _ (by decide)).mono ?_;rintro e w5 ⟨rfl,hb5⟩)
     ·have h:(N == ZaP [80,114,111,106,101,99,116])=true:=by assumption
      have hN:N=Zas 5:=(beq_iff_eq.1 h).trans (by decide)
      have hz:Zbw N=5:=by rw [hN];decide
      go_ret3
      exact ⟨by rw [HF.out,hz];simp,Below.tr HB.out (Below.tr HQ.out hb5)⟩
     ·go_roundw
      case rel=>
       have h:(N == ZaP [80,114,111,106,101,99,116])=false:=by assumption
       have hN:N≠Zas 5:=fun e=>beq_eq_false_iff_ne.1 h (e.trans (by decide))
       refine ⟨5+1,by omega,by omega,rfl,Below.tr HQ.out hb5,fun j h1 h2=>?_⟩
       rcases Nat.lt_or_ge j 5 with hj | hj
       ·exact hno.out j h1 (by omega)
       ·obtain rfl:j=5:=by omega
        exact hN
      case measure=>simp [intOf]
end Go.Proofs.YtjoneoobolnnbaaGreatDoor
