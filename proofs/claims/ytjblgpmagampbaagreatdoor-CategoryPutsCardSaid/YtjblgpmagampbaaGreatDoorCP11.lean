/- Functions of the program as Lean functions. Written by fxgen.py. | Calls of the parser's methods: the rule, and how such a method ends. No program is named. | States of the parser under new names; how a method of it ends; rows of arguments. No program is named. | Cells of rows that lead to rows: made pure, nil as a row of the call's own; such a row taken as a plain one. No program is named. | Lengths of rows whose lengths are known; the parser's stack: lengths and places. No program is named. | The parser's state put in order again: the top turned, the top taken away, a new top. No program is named. | A method of the top element: the rule of its call. No program is named. | More ends of the parser's methods; the order of a state's objects. No program is named. | The parser's top, and the list of an element that grows. | The parser's text and node: a node is appended where the top element collects. -/
import Derived.Test.YtjblgpmagampbaaGreatDoorCP09
import Derived.Test.YtjblgpmagampbaaGreatDoorCP03
import Derived.Test.YtjblgpmagampbaaGreatDoorCP05
import Derived.Test.YtjblgpmagampbaaGreatDoorCP06
import Derived.Test.YtjblgpmagampbaaGreatDoorCP04
import Derived.Test.YtjblgpmagampbaaGreatDoorCP02
set_option linter.unusedVariables false
set_option maxHeartbeats 4000000
set_option maxRecDepth 100000
namespace Go.Proofs.YtjblgpmagampbaaGreatDoor
open VL
def ZdX (p0:Int):Option Int:=
 letk (fun (x2:Int) (x3:Int)=>
  letk (fun (x5:Int) (x6:Int)=>
   letk (fun (x8:Int) (x9:Int)=>
    (atS (⟨#[0,1,2,2,3,3,3,3,4,4,4,4,4,4,4,4,5,5,5,5,5,5,5,5,5,5,5,5,5,5,5,5,6,6,6,6,6,6,6,6,6,6,6,6,6,6,6,6,6,6,6,6,6,6,6,6,6,6,6,6,6,6,6,6,7,7,7,7,7,7,7,7,7,7,7,7,7,7,7,7,7,7,7,7,7,7,7,7,7,7,7,7,7,7,7,7,7,7,7,7,7,7,7,7,7,7,7,7,7,7,7,7,7,7,7,7,7,7,7,7,7,7,7,7,7,7,7,7,8,8,8,8,8,8,8,8,8,8,8,8,8,8,8,8,8,8,8,8,8,8,8,8,8,8,8,8,8,8,8,8,8,8,8,8,8,8,8,8,8,8,8,8,8,8,8,8,8,8,8,8,8,8,8,8,8,8,8,8,8,8,8,8,8,8,8,8,8,8,8,8,8,8,8,8,8,8,8,8,8,8,8,8,8,8,8,8,8,8,8,8,8,8,8,8,8,8,8,8,8,8,8,8,8,8,8,8,8,8,8,8,8,8,8,8,8,8,8,8,8,8,8,8,8,8,8,8]⟩:ByteArray) (IntKind.wrap .u8 x8)).bind fun c10=>
    (some (w64 (x9+(IntKind.wrap .i64 c10))):Option Int)) fun k3=>
   if (decide (256≤x5)) then
    (ZnZ .u64 x5 8).bind fun q11=>
    k3 q11 (w64 (x6+8))
   else
   k3 x5 x6) fun k2=>
  if (decide (65536≤x2)) then
   (ZnZ .u64 x2 16).bind fun q12=>
   k2 q12 (w64 (x3+16))
  else
  k2 x2 x3) fun k1=>
 if (decide (4294967296≤p0)) then
  (ZnZ .u64 p0 32).bind fun q13=>
  k1 q13 32
 else
 k1 p0 0
theorem Zhq (p0:Int) (r:Int) (h:ZdX p0=some r):Zd Tryz.prog 157 [.int .u64 p0] (.int .i64 r):=by
 refine cF (fun r=>.int .i64 r) h mix Tryz.func157 fun r h=>?_
 unfold ZdX at h
 refine Zj ?_
 refine rg ?_
 refine rg ?_
 refine Za6 h fun k1 hk1 h=>?_
 refine ZaV (α:=Int×Int) (fun a _=>mkS [(0,.int .u64 a.1),(2,.int .i64 a.2)] [] 2) (fun a=>k1 a.1 a.2=some r) (Zj ?_) (fun a _ h=>?_)
 ·refine cS h rfl (fun h=>?_) fun h=>?_
  ·refine rg ?_
   obtain ⟨q13,h7,h⟩:=bnd h
   refine ZgV rfl h7 rfl rfl (Zj ?_)
   refine rg ?_
   exact jn (q13,32) h (sR [])
  exact jn (p0,0) h (sR [])
 obtain ⟨x2,x3⟩:=a
 subst hk1
 dsimp only at h ⊢
 refine Zj ?_
 refine rg ?_
 refine Za6 h fun k2 hk2 h=>?_
 refine ZaV (α:=Int×Int) (fun a _=>mkS [(0,.int .u64 a.1),(2,.int .i64 a.2)] [] 2) (fun a=>k2 a.1 a.2=some r) (Zj ?_) (fun a _ h=>?_)
 ·refine cS h rfl (fun h=>?_) fun h=>?_
  ·refine rg ?_
   obtain ⟨q12,h6,h⟩:=bnd h
   refine ZgV rfl h6 rfl rfl (Zj ?_)
   refine rg ?_
   exact jn (q12,(w64 (x3+16))) h (sR [])
  exact jn (x2,x3) h (sR [])
 obtain ⟨x5,x6⟩:=a
 subst hk2
 dsimp only at h ⊢
 refine Zj ?_
 refine rg ?_
 refine Za6 h fun k3 hk3 h=>?_
 refine ZaV (α:=Int×Int) (fun a _=>mkS [(0,.int .u64 a.1),(2,.int .i64 a.2)] [] 2) (fun a=>k3 a.1 a.2=some r) (Zj ?_) (fun a _ h=>?_)
 ·refine cS h rfl (fun h=>?_) fun h=>?_
  ·refine rg ?_
   obtain ⟨q11,h5,h⟩:=bnd h
   refine ZgV rfl h5 rfl rfl (Zj ?_)
   refine rg ?_
   exact jn (q11,(w64 (x6+8))) h (sR [])
  exact jn (x5,x6) h (sR [])
 obtain ⟨x8,x9⟩:=a
 subst hk3
 dsimp only at h ⊢
 refine Zj ?_
 refine rg ?_
 refine aS h fun c10 h=>?_
 cases h
 exact rQ
def Zdq (p0:Int):Option Int:=
 (ZdX p0).bind fun r1=>
 (some r1:Option Int)
theorem Zfq (p0:Int) (r:Int) (h:Zdq p0=some r):Zd Tryz.prog 100 [.int .u64 p0] (.int .i64 r):=by
 refine cF (fun r=>.int .i64 r) h mix Tryz.func100 fun r h=>?_
 unfold Zdq at h
 refine Zj ?_
 refine rg ?_
 refine Zf rfl rfl (Zj ?_)
 refine rg ?_
 refine aC h (Zhq _) fun r1 h=>?_
 cases h
 exact rQ
def Zaq (p0:List Title) (p1:Int) (p2:Int):Option (List Title):=
 Zas Zck (fun f17 ((x95,x96):Int×(List Title))=>
  if (decide (x95<p2)) then
   Zas Zck (fun f24 ((x253,x254):Int×(List Title))=>
    letk (fun (x273:Bool)=>
     if x273 then
      (atI x254 (w64 (x253 - 1))).bind fun e278=>
      (atI x254 x253).bind fun e279=>
      (atI x254 x253).bind fun e280=>
      (atI (ZdH x254 x253 e278) (w64 (x253 - 1))).bind fun e281=>
      f24 ((w64 (x253 - 1)),(ZdH (ZdH x254 x253 e278) (w64 (x253 - 1)) e279))
     else
     f17 ((w64 (x95+1)),x254)) fun k25=>
    if (decide (p1<x253)) then
     (atI x254 x253).bind fun e282=>
     (atI x254 (w64 (x253 - 1))).bind fun e283=>
     (Zcl e282 e283).bind fun r284=>
     k25 (decide (r284<0))
    else
    k25 false) (x95,x96)
  else
  (some x96:Option (List Title))) ((w64 (p1+1)),p0)
theorem Zca (p0:List Title) (p1:Int) (p2:Int) (r:List Title) (h:Zaq p0 p1 p2=some r):ContractR Tryz.prog 160 [.int .i64 p1,.int .i64 p2,.fn 63 []] 24 2 (List.map Title.cs p0) (.tup []) (List.map Title.cs r):=by
 refine ZaS (R:=fun r=>.tup []) (O:=fun r=>(List.map Title.cs r)) h mix Tryz.func160 (by kernel_rfl) rfl (by kernel_rfl) fun r h=>?_
 unfold Zaq at h
 refine Zj ?_
 refine rg ?_
 refine bl ?_
 refine Zu h fun f17 mf17 hf17 h=>?_
 refine Zq (α:=Nat×(Int×(List Title))) (fun a _=>mkS [(0,.row 0 (0,0)),(1,.int .i64 p1),(2,.int .i64 p2),(3,.fn 63 []),(8,.int .i64 a.2.1)] [(0,some ((0,0),.row 24 2 false (List.map Title.cs a.2.2)))] 2) (fun a=>Zas a.1 f17 a.2=some r) (fun a=>a.1) (mf17,(w64 (p1+1)),p0) 2 h (Zl [] ⟨rfl,rfl,rfl,rfl,rfl,trivial⟩ ⟨⟨rfl,rfl⟩,trivial⟩ rfl) (fun a _ h=>?_)
 obtain ⟨mf17,x95,x96⟩:=a
 obtain ⟨mf17,rfl,h⟩:=Zv hf17 h
 dsimp only at h ⊢
 refine Zj ?_
 refine rg ?_
 refine cS h rfl (fun h=>?_) fun h=>?_
 ·refine bl ?_
  refine rg ?_
  refine bl ?_
  refine Zu h fun f24 mf24 hf24 h=>?_
  refine Zq (α:=Nat×(Int×(List Title))) (fun a _=>mkS [(0,.row 0 (0,0)),(1,.int .i64 p1),(2,.int .i64 p2),(3,.fn 63 []),(8,.int .i64 x95),(9,.int .i64 a.2.1)] [(0,some ((0,0),.row 24 2 false (List.map Title.cs a.2.2)))] 2) (fun a=>Zas a.1 f24 a.2=some r) (fun a=>a.1) (mf24,x95,x96) 2 h (Zl [] ⟨rfl,rfl,rfl,rfl,rfl,rfl,trivial⟩ ⟨⟨rfl,rfl⟩,trivial⟩ rfl) (fun a _ h=>?_)
  obtain ⟨mf24,x253,x254⟩:=a
  obtain ⟨mf24,rfl,h⟩:=Zv hf24 h
  dsimp only at h ⊢
  refine Zj ?_
  refine jL h (fun x273=>mkS [(0,.row 0 (0,0)),(1,.int .i64 p1),(2,.int .i64 p2),(3,.fn 63 []),(8,.int .i64 x95),(9,.int .i64 x253),(34,.bool x273)] [(0,some ((0,0),.row 24 2 false (List.map Title.cs x254)))] 2) (fun k25 h=>?_) fun x273 h=>?_
  ·refine rg ?_
   refine kS 21 h rfl (fun h=>?_) fun h=>?_
   ·obtain ⟨e282,h250,h⟩:=bnd h
    refine Zw rfl h250 rfl rfl rfl (Zj ?_)
    refine ZM rfl h250 rfl rfl rfl (Zj ?_)
    obtain ⟨e283,h251,h⟩:=bnd h
    refine Zw rfl h251 rfl rfl rfl (Zj ?_)
    refine ZM rfl h251 rfl rfl rfl (Zj ?_)
    obtain ⟨r284,h252,h⟩:=bnd h
    refine ZcW (Lc:=[]) (args1:=[e282.pv,e283.pv]) (ZdI _ _ _ h252) rfl rfl rfl rfl (Zj ?_)
    exact jn (decide (r284<0)) h (Zl [] ⟨rfl,rfl,rfl,rfl,rfl,rfl,rfl,trivial⟩ ⟨⟨rfl,rfl⟩,trivial⟩ rfl)
   iterate 12 refine ZI rfl (Zj ?_)
   exact jn false h (Zl [] ⟨rfl,rfl,rfl,rfl,rfl,rfl,rfl,trivial⟩ ⟨⟨rfl,rfl⟩,trivial⟩ rfl)
  refine cS h rfl (fun h=>?_) fun h=>?_
  ·refine bl ?_
   refine rg ?_
   obtain ⟨e278,h246,h⟩:=bnd h
   refine Zw rfl h246 rfl rfl rfl (Zj ?_)
   refine ZM rfl h246 rfl rfl rfl (Zj ?_)
   obtain ⟨e279,h247,h⟩:=bnd h
   refine Zw rfl h247 rfl rfl rfl (Zj ?_)
   refine ZM rfl h247 rfl rfl rfl (Zj ?_)
   obtain ⟨e280,h248,h⟩:=bnd h
   refine Zw rfl h248 rfl rfl rfl (Zj ?_)
   refine Zbb (e':=e278) rfl h248 rfl rfl rfl rfl rfl rfl (Nat.le_of_ble_eq_true rfl) rfl rfl (Zj ?_)
   obtain ⟨e281,h249,h⟩:=bnd h
   refine Zw rfl h249 rfl rfl rfl (Zj ?_)
   refine Zbb (e':=e279) rfl h249 rfl rfl rfl rfl rfl rfl (Nat.le_of_ble_eq_true rfl) rfl rfl (Zj ?_)
   refine rg ?_
   exact rn (mf24,(w64 (x253 - 1)),(ZdH (ZdH x254 x253 e278) (w64 (x253 - 1)) e279)) h (Zl [] ⟨rfl,rfl,rfl,rfl,rfl,rfl,trivial⟩ ⟨⟨rfl,rfl⟩,trivial⟩ rfl)
  refine rg ?_
  exact rn (mf17,(w64 (x95+1)),x254) h (Zl [] ⟨rfl,rfl,rfl,rfl,rfl,trivial⟩ ⟨⟨rfl,rfl⟩,trivial⟩ rfl)
 cases h
 exact ZbG rfl rfl rfl
def Za9 (p0:List Title) (p1:Int) (p2:Int) (p3:Int):Option (List Title):=
 Zas Zck (fun f1 (_:Unit)=>
  if (decide ((w64 (p2 - p1))≤12)) then
   (Zaq p0 p1 p2).bind fun r4=>
   (some r4:Option (List Title))
  else
  if (decide (p3=0)) then
   (none:Option (List Title))
  else
  (none:Option (List Title))) ()
theorem Zdc (p0:List Title) (p1:Int) (p2:Int) (p3:Int) (r:List Title) (h:Za9 p0 p1 p2 p3=some r):ContractR Tryz.prog 104 [.int .i64 p1,.int .i64 p2,.int .i64 p3,.fn 63 []] 24 2 (List.map Title.cs p0) (.tup []) (List.map Title.cs r):=by
 refine ZaS (R:=fun r=>.tup []) (O:=fun r=>(List.map Title.cs r)) h mix Tryz.func104 (by kernel_rfl) rfl (by kernel_rfl) fun r h=>?_
 unfold Za9 at h
 refine Zj ?_
 refine rg ?_
 refine rg ?_
 refine bl ?_
 refine Zu h fun f1 mf1 hf1 h=>?_
 refine Zq (α:=Nat×Unit) (fun a _=>mkS [(0,.row 0 (0,0)),(1,.int .i64 p1),(2,.int .i64 p2),(3,.int .i64 p3),(4,.fn 63 []),(10,.bool true),(11,.bool true)] [(0,some ((0,0),.row 24 2 false (List.map Title.cs p0)))] 2) (fun a=>Zas a.1 f1 a.2=some r) (fun a=>a.1) (mf1,()) 2 h (Zl [] ⟨rfl,rfl,rfl,rfl,rfl,rfl,rfl,trivial⟩ ⟨⟨rfl,rfl⟩,trivial⟩ rfl) (fun a _ h=>?_)
 obtain ⟨mf1,_⟩:=a
 obtain ⟨mf1,rfl,hG⟩:=Zv hf1 h
 replace h:=hG
 refine Zj ?_
 refine bl ?_
 refine rg ?_
 refine rg ?_
 refine cS h rfl (fun h=>?_) fun h=>?_
 ·refine rg ?_
  obtain ⟨r4,h4,h⟩:=bnd h
  refine Zbn (Zca _ _ _ _ h4) rfl rfl rfl rfl rfl (Zj ?_)
  cases h
  exact Zm2 rfl rfl rfl
 refine rg ?_
 refine cS h rfl (fun h=>?_) fun h=>?_
 ·cases h
 cases h
def ZbJ (p0:List Title):Option (List Title):=
 (Zdq (IntKind.wrap .u64 (p0.length:Int))).bind fun r1=>
 (Za9 p0 0 (p0.length:Int) r1).bind fun r2=>
 (some r2:Option (List Title))
theorem ZeS (p0:List Title) (r:List Title) (h:ZbJ p0=some r):ContractR Tryz.prog 64 [.fn 63 []] 24 2 (List.map Title.cs p0) (.tup []) (List.map Title.cs r):=by
 refine ZaS (R:=fun r=>.tup []) (O:=fun r=>(List.map Title.cs r)) h mix Tryz.func64 (by kernel_rfl) rfl (by kernel_rfl) fun r h=>?_
 unfold ZbJ at h
 refine Zj ?_
 refine rg ?_
 refine lM Title.cs p0 ?_
 refine rg ?_
 refine aC h (Zfq _) fun r1 h=>?_
 obtain ⟨r2,h2,h⟩:=bnd h
 refine Zbn (Zdc _ _ _ _ _ h2) rfl rfl rfl rfl rfl (Zj ?_)
 cases h
 exact ZbG rfl rfl rfl
def Zcw (p0:Mbr) (p1:Mbr):Option Int:=
 (Zcp p0.key p1.key).bind fun r1=>
 (Zcl p0.page p1.page).bind fun r2=>
 (ZfB [r1,r2]).bind fun r3=>
 (some r3:Option Int)
theorem ZfW (p0:Mbr) (p1:Mbr) (r:Int) (h:Zcw p0 p1=some r):Zd Tryz.prog 60 [p0.pv,p1.pv] (.int .i64 r):=by
 refine cF (fun r=>.int .i64 r) h mix Tryz.func60 fun r h=>?_
 unfold Zcw at h
 refine Zj ?_
 refine rg ?_
 refine rg ?_
 refine aC h (ZfT _ _) fun r1 h=>?_
 refine aC h (ZdI _ _) fun r2 h=>?_
 refine bM csI ([r1,r2]:List Int) ?_
 refine aL h (ZhE _) fun r3 h=>?_
 cases h
 exact rQ
def Zam (p0:List Mbr) (p1:Int) (p2:Int):Option (List Mbr):=
 Zas Zck (fun f17 ((x95,x96):Int×(List Mbr))=>
  if (decide (x95<p2)) then
   Zas Zck (fun f24 ((x253,x254):Int×(List Mbr))=>
    letk (fun (x273:Bool)=>
     if x273 then
      (atI x254 (w64 (x253 - 1))).bind fun e278=>
      (atI x254 x253).bind fun e279=>
      (atI x254 x253).bind fun e280=>
      (atI (ZdH x254 x253 e278) (w64 (x253 - 1))).bind fun e281=>
      f24 ((w64 (x253 - 1)),(ZdH (ZdH x254 x253 e278) (w64 (x253 - 1)) e279))
     else
     f17 ((w64 (x95+1)),x254)) fun k25=>
    if (decide (p1<x253)) then
     (atI x254 x253).bind fun e282=>
     (atI x254 (w64 (x253 - 1))).bind fun e283=>
     (Zcw e282 e283).bind fun r284=>
     k25 (decide (r284<0))
    else
    k25 false) (x95,x96)
  else
  (some x96:Option (List Mbr))) ((w64 (p1+1)),p0)
theorem ZbZ (p0:List Mbr) (p1:Int) (p2:Int) (r:List Mbr) (h:Zam p0 p1 p2=some r):ContractR Tryz.prog 148 [.int .i64 p1,.int .i64 p2,.fn 60 []] 116 3 (List.map Mbr.cs p0) (.tup []) (List.map Mbr.cs r):=by
 refine ZaS (R:=fun r=>.tup []) (O:=fun r=>(List.map Mbr.cs r)) h mix Tryz.func148 (by kernel_rfl) rfl (by kernel_rfl) fun r h=>?_
 unfold Zam at h
 refine Zj ?_
 refine rg ?_
 refine bl ?_
 refine Zu h fun f17 mf17 hf17 h=>?_
 refine Zq (α:=Nat×(Int×(List Mbr))) (fun a _=>mkS [(0,.row 0 (0,0)),(1,.int .i64 p1),(2,.int .i64 p2),(3,.fn 60 []),(8,.int .i64 a.2.1)] [(0,some ((0,0),.row 116 3 false (List.map Mbr.cs a.2.2)))] 2) (fun a=>Zas a.1 f17 a.2=some r) (fun a=>a.1) (mf17,(w64 (p1+1)),p0) 2 h (Zl [] ⟨rfl,rfl,rfl,rfl,rfl,trivial⟩ ⟨⟨rfl,rfl⟩,trivial⟩ rfl) (fun a _ h=>?_)
 obtain ⟨mf17,x95,x96⟩:=a
 obtain ⟨mf17,rfl,h⟩:=Zv hf17 h
 dsimp only at h ⊢
 refine Zj ?_
 refine rg ?_
 refine cS h rfl (fun h=>?_) fun h=>?_
 ·refine bl ?_
  refine rg ?_
  refine bl ?_
  refine Zu h fun f24 mf24 hf24 h=>?_
  refine Zq (α:=Nat×(Int×(List Mbr))) (fun a _=>mkS [(0,.row 0 (0,0)),(1,.int .i64 p1),(2,.int .i64 p2),(3,.fn 60 []),(8,.int .i64 x95),(9,.int .i64 a.2.1)] [(0,some ((0,0),.row 116 3 false (List.map Mbr.cs a.2.2)))] 2) (fun a=>Zas a.1 f24 a.2=some r) (fun a=>a.1) (mf24,x95,x96) 2 h (Zl [] ⟨rfl,rfl,rfl,rfl,rfl,rfl,trivial⟩ ⟨⟨rfl,rfl⟩,trivial⟩ rfl) (fun a _ h=>?_)
  obtain ⟨mf24,x253,x254⟩:=a
  obtain ⟨mf24,rfl,h⟩:=Zv hf24 h
  dsimp only at h ⊢
  refine Zj ?_
  refine jL h (fun x273=>mkS [(0,.row 0 (0,0)),(1,.int .i64 p1),(2,.int .i64 p2),(3,.fn 60 []),(8,.int .i64 x95),(9,.int .i64 x253),(34,.bool x273)] [(0,some ((0,0),.row 116 3 false (List.map Mbr.cs x254)))] 2) (fun k25 h=>?_) fun x273 h=>?_
  ·refine rg ?_
   refine kS 21 h rfl (fun h=>?_) fun h=>?_
   ·obtain ⟨e282,h250,h⟩:=bnd h
    refine Zw rfl h250 rfl rfl rfl (Zj ?_)
    refine ZM rfl h250 rfl rfl rfl (Zj ?_)
    obtain ⟨e283,h251,h⟩:=bnd h
    refine Zw rfl h251 rfl rfl rfl (Zj ?_)
    refine ZM rfl h251 rfl rfl rfl (Zj ?_)
    obtain ⟨r284,h252,h⟩:=bnd h
    refine ZcW (Lc:=[]) (args1:=[e282.pv,e283.pv]) (ZfW _ _ _ h252) rfl rfl rfl rfl (Zj ?_)
    exact jn (decide (r284<0)) h (Zl [] ⟨rfl,rfl,rfl,rfl,rfl,rfl,rfl,trivial⟩ ⟨⟨rfl,rfl⟩,trivial⟩ rfl)
   iterate 12 refine ZI rfl (Zj ?_)
   exact jn false h (Zl [] ⟨rfl,rfl,rfl,rfl,rfl,rfl,rfl,trivial⟩ ⟨⟨rfl,rfl⟩,trivial⟩ rfl)
  refine cS h rfl (fun h=>?_) fun h=>?_
  ·refine bl ?_
   refine rg ?_
   obtain ⟨e278,h246,h⟩:=bnd h
   refine Zw rfl h246 rfl rfl rfl (Zj ?_)
   refine ZM rfl h246 rfl rfl rfl (Zj ?_)
   obtain ⟨e279,h247,h⟩:=bnd h
   refine Zw rfl h247 rfl rfl rfl (Zj ?_)
   refine ZM rfl h247 rfl rfl rfl (Zj ?_)
   obtain ⟨e280,h248,h⟩:=bnd h
   refine Zw rfl h248 rfl rfl rfl (Zj ?_)
   refine Zbb (e':=e278) rfl h248 rfl rfl rfl rfl rfl rfl (Nat.le_of_ble_eq_true rfl) rfl rfl (Zj ?_)
   obtain ⟨e281,h249,h⟩:=bnd h
   refine Zw rfl h249 rfl rfl rfl (Zj ?_)
   refine Zbb (e':=e279) rfl h249 rfl rfl rfl rfl rfl rfl (Nat.le_of_ble_eq_true rfl) rfl rfl (Zj ?_)
   refine rg ?_
   exact rn (mf24,(w64 (x253 - 1)),(ZdH (ZdH x254 x253 e278) (w64 (x253 - 1)) e279)) h (Zl [] ⟨rfl,rfl,rfl,rfl,rfl,rfl,trivial⟩ ⟨⟨rfl,rfl⟩,trivial⟩ rfl)
  refine rg ?_
  exact rn (mf17,(w64 (x95+1)),x254) h (Zl [] ⟨rfl,rfl,rfl,rfl,rfl,trivial⟩ ⟨⟨rfl,rfl⟩,trivial⟩ rfl)
 cases h
 exact ZbG rfl rfl rfl
def ZaZ (p0:List Mbr) (p1:Int) (p2:Int) (p3:Int):Option (List Mbr):=
 Zas Zck (fun f1 (_:Unit)=>
  if (decide ((w64 (p2 - p1))≤12)) then
   (Zam p0 p1 p2).bind fun r4=>
   (some r4:Option (List Mbr))
  else
  if (decide (p3=0)) then
   (none:Option (List Mbr))
  else
  (none:Option (List Mbr))) ()
theorem Zc6 (p0:List Mbr) (p1:Int) (p2:Int) (p3:Int) (r:List Mbr) (h:ZaZ p0 p1 p2 p3=some r):ContractR Tryz.prog 99 [.int .i64 p1,.int .i64 p2,.int .i64 p3,.fn 60 []] 116 3 (List.map Mbr.cs p0) (.tup []) (List.map Mbr.cs r):=by
 refine ZaS (R:=fun r=>.tup []) (O:=fun r=>(List.map Mbr.cs r)) h mix Tryz.func99 (by kernel_rfl) rfl (by kernel_rfl) fun r h=>?_
 unfold ZaZ at h
 refine Zj ?_
 refine rg ?_
 refine rg ?_
 refine bl ?_
 refine Zu h fun f1 mf1 hf1 h=>?_
 refine Zq (α:=Nat×Unit) (fun a _=>mkS [(0,.row 0 (0,0)),(1,.int .i64 p1),(2,.int .i64 p2),(3,.int .i64 p3),(4,.fn 60 []),(10,.bool true),(11,.bool true)] [(0,some ((0,0),.row 116 3 false (List.map Mbr.cs p0)))] 2) (fun a=>Zas a.1 f1 a.2=some r) (fun a=>a.1) (mf1,()) 2 h (Zl [] ⟨rfl,rfl,rfl,rfl,rfl,rfl,rfl,trivial⟩ ⟨⟨rfl,rfl⟩,trivial⟩ rfl) (fun a _ h=>?_)
 obtain ⟨mf1,_⟩:=a
 obtain ⟨mf1,rfl,hG⟩:=Zv hf1 h
 replace h:=hG
 refine Zj ?_
 refine bl ?_
 refine rg ?_
 refine rg ?_
 refine cS h rfl (fun h=>?_) fun h=>?_
 ·refine rg ?_
  obtain ⟨r4,h4,h⟩:=bnd h
  refine Zbn (ZbZ _ _ _ _ h4) rfl rfl rfl rfl rfl (Zj ?_)
  cases h
  exact Zm2 rfl rfl rfl
 refine rg ?_
 refine cS h rfl (fun h=>?_) fun h=>?_
 ·cases h
 cases h
def Zbw (p0:List Mbr):Option (List Mbr):=
 (Zdq (IntKind.wrap .u64 (p0.length:Int))).bind fun r1=>
 (ZaZ p0 0 (p0.length:Int) r1).bind fun r2=>
 (some r2:Option (List Mbr))
theorem ZeB (p0:List Mbr) (r:List Mbr) (h:Zbw p0=some r):ContractR Tryz.prog 59 [.fn 60 []] 116 3 (List.map Mbr.cs p0) (.tup []) (List.map Mbr.cs r):=by
 refine ZaS (R:=fun r=>.tup []) (O:=fun r=>(List.map Mbr.cs r)) h mix Tryz.func59 (by kernel_rfl) rfl (by kernel_rfl) fun r h=>?_
 unfold Zbw at h
 refine Zj ?_
 refine rg ?_
 refine lM Mbr.cs p0 ?_
 refine rg ?_
 refine aC h (Zfq _) fun r1 h=>?_
 obtain ⟨r2,h2,h⟩:=bnd h
 refine Zbn (Zc6 _ _ _ _ _ h2) rfl rfl rfl rfl rfl (Zj ?_)
 cases h
 exact ZbG rfl rfl rfl
def Zb6 (p0:List CatRow) (p1:View) (p2:Title):Option (List Title):=
 Zas Zck (fun f2 ((x11,x12):Int×(List (Title×Bool)))=>
  if (decide (x11<(p1.pages.length:Int))) then
   (atI p1.pages x11).bind fun e16=>
   f2 ((w64 (x11+1)),(Zci x12 e16.title true))
  else
  Zas Zck (fun f19 ((x60,x61,x62):Int×(List Mbr)×(List (Title×Bool)))=>
   if (decide (x60<(p0.length:Int))) then
    letk (fun (x77:List Mbr) (x78:List (Title×Bool))=>
     f19 ((w64 (x60+1)),x77,x78)) fun k21=>
    (atI p0 x60).bind fun e79=>
    letk (fun (x80:Bool)=>
     if x80 then
      k21 x61 x62
     else
     (ZeJ [e79.memb.sort,e79.page.name]).bind fun r81=>
     (ZfA 40 x61 [(⟨e79.page,r81⟩:Mbr)]).bind fun l82=>
     k21 l82 (Zci x62 e79.page false)) fun k22=>
    if (!decide (e79.memb.category=p2)) then
     k22 true
    else
    k22 (!((ZdB x62 e79.page).getD false))
   else
   (Zbw x61).bind fun r83=>
   Zas Zck (fun f24 ((x102,x103):Int×(List Title))=>
    if (decide (x102<(r83.length:Int))) then
     (atI r83 x102).bind fun e110=>
     (ZfA 24 x103 [e110.page]).bind fun l111=>
     f24 ((w64 (x102+1)),l111)
    else
    (some x103:Option (List Title))) (0,([]:List Title))) (0,([]:List Mbr),x12)) (0,([]:List (Title×Bool)))
theorem Zed (p0:List CatRow) (p1:View) (p2:Title) (r:List Title) (h:Zb6 p0 p1 p2=some r):Zd Tryz.prog 25 [.sl (List.map CatRow.cs p0),p1.pv,p2.pv] (.sl (List.map Title.cs r)):=by
 refine cF (fun r=>.sl (List.map Title.cs r)) h mix Tryz.func25 fun r h=>?_
 unfold Zb6 at h
 refine Zj ?_
 refine rg ?_
 refine rg ?_
 refine ZkX Title.pv PV.bool rfl (Zj ?_)
 refine rg ?_
 refine lM Page.cs p1.pages ?_
 refine bl ?_
 refine Zu h fun f2 mf2 hf2 h=>?_
 refine Zq (α:=Nat×(Int×(List (Title×Bool)))) (fun a _=>mkS [(0,.sl (List.map CatRow.cs p0)),(5,.ptr 5 (1,5) 0),(7,.mp 16 (1,16)),(18,.sl (List.map Page.cs p1.pages)),(19,.int .i64 (p1.pages.length:Int)),(20,.int .i64 a.2.1)] [(5,some ((1,5),.box (Title.cs p2))),(16,some ((1,16),.mp (ZeU Title.pv PV.bool a.2.2)))] 2) (fun a=>Zas a.1 f2 a.2=some r) (fun a=>a.1) (mf2,0,([]:List (Title×Bool))) 2 h (sR [(5,1,1),(16,2,0)]) (fun a _ h=>?_)
 obtain ⟨mf2,x11,x12⟩:=a
 obtain ⟨mf2,rfl,h⟩:=Zv hf2 h
 dsimp only at h ⊢
 refine Zj ?_
 refine rg ?_
 refine cS h rfl (fun h=>?_) fun h=>?_
 ·refine bl ?_
  refine rg ?_
  refine aI Page.cs h fun e16 h=>?_
  refine rg ?_
  refine Zkc Title.pv PV.bool e16.title true rfl rfl rfl rfl rfl (Zj ?_)
  refine rg ?_
  exact rn (mf2,(w64 (x11+1)),(Zci x12 e16.title true)) h (sR [(5,1,5),(16,1,16)])
 refine rg ?_
 refine rg ?_
 refine lM CatRow.cs p0 ?_
 refine bl ?_
 refine Zu h fun f19 mf19 hf19 h=>?_
 refine Zq (α:=Nat×(Int×(List Mbr)×(List (Title×Bool)))) (fun a _=>mkS [(5,.ptr 5 (1,5) 0),(7,.mp 16 (1,16)),(10,.row 10 (1,10)),(28,.sl (List.map CatRow.cs p0)),(29,.int .i64 (p0.length:Int)),(30,.int .i64 a.2.1)] [(5,some ((1,5),.box (Title.cs p2))),(10,some ((1,10),.row 116 3 false (List.map Mbr.cs a.2.2.1))),(16,some ((1,16),.mp (ZeU Title.pv PV.bool a.2.2.2)))] 2) (fun a=>Zas a.1 f19 a.2=some r) (fun a=>a.1) (mf19,0,([]:List Mbr),x12) 2 h (Zdv [((1,5),(1,5)),((1,16),(1,16))] 10 116 3 rfl ⟨rfl,rfl,rfl,rfl,rfl,rfl,trivial⟩ ⟨⟨rfl,rfl⟩,⟨rfl,rfl⟩,⟨rfl,rfl⟩,trivial⟩ rfl) (fun a _ h=>?_)
 obtain ⟨mf19,x60,x61,x62⟩:=a
 obtain ⟨mf19,rfl,h⟩:=Zv hf19 h
 dsimp only at h ⊢
 refine Zj ?_
 refine rg ?_
 refine cS h rfl (fun h=>?_) fun h=>?_
 ·refine Za6 h fun k21 hk21 h=>?_
  refine ZaV (α:=(List Mbr)×(List (Title×Bool))) (fun a _=>mkS [(5,.ptr 5 (1,5) 0),(7,.mp 16 (1,16)),(10,.row 10 (1,10)),(28,.sl (List.map CatRow.cs p0)),(29,.int .i64 (p0.length:Int)),(30,.int .i64 x60)] [(5,some ((1,5),.box (Title.cs p2))),(10,some ((1,10),.row 116 3 false (List.map Mbr.cs a.1))),(16,some ((1,16),.mp (ZeU Title.pv PV.bool a.2)))] 2) (fun a=>k21 a.1 a.2=some r) (Zj ?_) (fun a _ h=>?_)
  ·refine bl ?_
   refine rg ?_
   refine aI CatRow.cs h fun e79 h=>?_
   refine jL h (fun x80=>mkS [(5,.ptr 5 (1,5) 0),(7,.mp 16 (1,16)),(10,.row 10 (1,10)),(12,.ptr 12 (1,12) 0),(28,.sl (List.map CatRow.cs p0)),(29,.int .i64 (p0.length:Int)),(30,.int .i64 x60),(45,.bool x80)] [(5,some ((1,5),.box (Title.cs p2))),(10,some ((1,10),.row 116 3 false (List.map Mbr.cs x61))),(12,some ((1,12),.box (CatRow.cs e79))),(16,some ((1,16),.mp (ZeU Title.pv PV.bool x62)))] 2) (fun k22 h=>?_) fun x80 h=>?_
   ·refine rg ?_
    refine Ziw (.inr rfl) rfl rfl rfl rfl rfl (fun W=>Zkb e79.memb.category p2 W) (Zj ?_)
    refine kS 39 h rfl (fun h=>?_) fun h=>?_
    ·iterate 5 refine ZI rfl (Zj ?_)
     exact jn true h (sR [(5,1,5),(10,1,10),(12,3,2),(16,1,16)])
    refine ZmG Title.pv PV.bool e79.page false rfl rfl rfl rfl rfl (Zj ?_)
    exact jn (!((ZdB x62 e79.page).getD false)) h (sR [(5,1,5),(10,1,10),(12,3,2),(16,1,16)])
   refine cS h rfl (fun h=>?_) fun h=>?_
   ·exact jn (x61,x62) h (sR [(5,1,5),(10,1,10),(16,1,16)])
   refine rg ?_
   refine Zkc Title.pv PV.bool e79.page false rfl rfl rfl rfl rfl (Zj ?_)
   refine rg ?_
   refine bM csS ([e79.memb.sort,e79.page.name]:List ByteArray) ?_
   refine aL h (ZiR _) fun r81 h=>?_
   refine Zaw (M:=([(⟨e79.page,r81⟩:Mbr)]:List Mbr)) (f:=Mbr.cs) rfl rfl rfl rfl (Nat.le_of_ble_eq_true rfl) rfl (Zj ?_)
   refine pR Mbr.cs h fun l82 h=>?_
   exact jn (l82,(Zci x62 e79.page false)) h (sR [(5,1,5),(10,3,13),(16,1,16)])
  obtain ⟨x77,x78⟩:=a
  subst hk21
  dsimp only at h ⊢
  refine Zj ?_
  refine rg ?_
  exact rn (mf19,(w64 (x60+1)),x77,x78) h (sR [(5,1,5),(10,1,10),(16,1,16)])
 refine rg ?_
 obtain ⟨r83,h49,h⟩:=bnd h
 refine Zbn (ZeB _ _ h49) rfl rfl rfl rfl rfl (Zj ?_)
 refine rg ?_
 refine rg ?_
 refine lM Mbr.cs r83 ?_
 refine bl ?_
 refine Zu h fun f24 mf24 hf24 h=>?_
 refine Zq (α:=Nat×(Int×(List Title))) (fun a _=>mkS [(13,.row 13 (1,13)),(66,.row 10 (1,10)),(67,.int .i64 (r83.length:Int)),(68,.int .i64 a.2.1)] [(10,some ((1,10),.row 116 3 false (List.map Mbr.cs r83))),(13,some ((1,13),.row 24 2 false (List.map Title.cs a.2.2)))] 2) (fun a=>Zas a.1 f24 a.2=some r) (fun a=>a.1) (mf24,0,([]:List Title)) 2 h (Zdv [((1,10),(1,10))] 13 24 2 rfl ⟨rfl,rfl,rfl,rfl,trivial⟩ ⟨⟨rfl,rfl⟩,⟨rfl,rfl⟩,trivial⟩ rfl) (fun a _ h=>?_)
 obtain ⟨mf24,x102,x103⟩:=a
 obtain ⟨mf24,rfl,h⟩:=Zv hf24 h
 dsimp only at h ⊢
 refine Zj ?_
 refine rg ?_
 refine cS h rfl (fun h=>?_) fun h=>?_
 ·refine bl ?_
  refine rg ?_
  obtain ⟨e110,h72,h⟩:=bnd h
  refine Zw rfl h72 rfl rfl rfl (Zj ?_)
  refine ZM rfl h72 rfl rfl rfl (Zj ?_)
  refine rg ?_
  refine Zaw (M:=([e110.page]:List Title)) (f:=Title.cs) rfl rfl rfl rfl (Nat.le_of_ble_eq_true rfl) rfl (Zj ?_)
  refine pR Title.cs h fun l111 h=>?_
  refine rg ?_
  exact rn (mf24,(w64 (x102+1)),l111) h (sR [(10,1,10),(13,4,4)])
 refine rg ?_
 cases h
 exact rQ
def ZcX (p0:List CatRow) (p1:View) (p2:Title):Option (List Title):=
 Zas Zck (fun f22 ((x140,x141,x142):(List Title)×(List (Title×Bool))×(List Title))=>
  if (decide (0<(x142.length:Int))) then
   (atI x142 0).bind fun e177=>
   (Zjm x142 1 (x142.length:Int)).bind fun l178=>
   (Zb6 p0 p1 e177).bind fun r179=>
   Zas Zck (fun f25 ((x189,x190,x191,x192):Int×(List Title)×(List (Title×Bool))×(List Title))=>
    if (decide (x189<(r179.length:Int))) then
     letk (fun (x205:List Title) (x206:List (Title×Bool)) (x207:List Title)=>
      f25 ((w64 (x189+1)),x205,x206,x207)) fun k26=>
     (atI r179 x189).bind fun e208=>
     if ((ZdB x191 e208).getD false) then
      k26 x190 x191 x192
     else
     (ZfA 24 x190 [e208]).bind fun l209=>
     if (decide (e208.space=4)) then
      (ZfA 24 x192 [e208]).bind fun l210=>
      k26 l209 (Zci x191 e208 true) l210
     else
     k26 l209 (Zci x191 e208 true) x192
    else
    f22 (x190,x191,x192)) (0,x140,x141,l178)
  else
  (ZbJ x140).bind fun r211=>
  (some r211:Option (List Title))) (([]:List Title),([]:List (Title×Bool)),[p2])
theorem Ze1 (p0:List CatRow) (p1:View) (p2:Title) (r:List Title) (h:ZcX p0 p1 p2=some r):Zd Tryz.prog 26 [.sl (List.map CatRow.cs p0),p1.pv,p2.pv] (.sl (List.map Title.cs r)):=by
 refine cF (fun r=>.sl (List.map Title.cs r)) h mix Tryz.func26 fun r h=>?_
 unfold ZcX at h
 refine Zj ?_
 refine rg ?_
 refine rg ?_
 refine rg ?_
 refine ZkX Title.pv PV.bool rfl (Zj ?_)
 refine rg ?_
 refine Zaw (M:=([p2]:List Title)) (f:=Title.cs) rfl rfl rfl rfl (Nat.le_of_ble_eq_true rfl) rfl (Zj ?_)
 refine bl ?_
 refine Zu h fun f22 mf22 hf22 h=>?_
 refine Zq (α:=Nat×((List Title)×(List (Title×Bool))×(List Title))) (fun a _=>mkS [(0,.sl (List.map CatRow.cs p0)),(4,.ptr 4 (1,4) 0),(7,.row 7 (1,7)),(8,.mp 13 (1,13)),(9,.row 15 (1,15))] [(4,some ((1,4),.box (View.cs p1))),(7,some ((1,7),.row 24 2 false (List.map Title.cs a.2.1))),(13,some ((1,13),.mp (ZeU Title.pv PV.bool a.2.2.1))),(15,some ((1,15),.qrow 24 2 (List.map Title.cs a.2.2.2)))] 2) (fun a=>Zas a.1 f22 a.2=some r) (fun a=>a.1) (mf22,([]:List Title),([]:List (Title×Bool)),[p2]) 2 h (Shift.trans (ZiK 15 rfl rfl) (Zdv [((1,4),(1,0)),((1,13),(3,0)),((1,15),(4,1))] 7 24 2 rfl ⟨rfl,rfl,rfl,rfl,rfl,trivial⟩ ⟨⟨rfl,rfl⟩,⟨rfl,rfl⟩,⟨rfl,rfl⟩,⟨rfl,rfl⟩,trivial⟩ rfl)) (fun a _ h=>?_)
 obtain ⟨mf22,x140,x141,x142⟩:=a
 obtain ⟨mf22,rfl,h⟩:=Zv hf22 h
 dsimp only at h ⊢
 refine Zj ?_
 refine rg ?_
 refine Zth (M:=x142) (f:=Title.cs) rfl rfl rfl (Zj ?_)
 refine cS h rfl (fun h=>?_) fun h=>?_
 ·refine bl ?_
  refine rg ?_
  obtain ⟨e177,h106,h⟩:=bnd h
  refine ZqR (f:=Title.cs) rfl h106 rfl rfl rfl (Zj ?_)
  refine rg ?_
  obtain ⟨l178,h107,h⟩:=bnd h
  refine Zsh (f:=Title.cs) rfl h107 rfl rfl rfl (Zj ?_)
  refine rg ?_
  refine aC h (Zed _ _ _) fun r179 h=>?_
  refine lM Title.cs r179 ?_
  refine bl ?_
  refine Zu h fun f25 mf25 hf25 h=>?_
  refine Zq (α:=Nat×(Int×(List Title)×(List (Title×Bool))×(List Title))) (fun a _=>mkS [(0,.sl (List.map CatRow.cs p0)),(4,.ptr 4 (1,4) 0),(7,.row 7 (1,7)),(8,.mp 13 (1,13)),(9,.row 15 (1,15)),(27,.sl (List.map Title.cs r179)),(28,.int .i64 (r179.length:Int)),(29,.int .i64 a.2.1)] [(4,some ((1,4),.box (View.cs p1))),(7,some ((1,7),.row 24 2 false (List.map Title.cs a.2.2.1))),(13,some ((1,13),.mp (ZeU Title.pv PV.bool a.2.2.2.1))),(15,some ((1,15),.qrow 24 2 (List.map Title.cs a.2.2.2.2)))] 2) (fun a=>Zas a.1 f25 a.2=some r) (fun a=>a.1) (mf25,0,x140,x141,l178) 2 h (sR [(4,1,4),(7,1,7),(13,1,13),(15,4,1)]) (fun a _ h=>?_)
  obtain ⟨mf25,x189,x190,x191,x192⟩:=a
  obtain ⟨mf25,rfl,h⟩:=Zv hf25 h
  dsimp only at h ⊢
  refine Zj ?_
  refine rg ?_
  refine cS h rfl (fun h=>?_) fun h=>?_
  ·refine Za6 h fun k26 hk26 h=>?_
   refine ZaV (α:=(List Title)×(List (Title×Bool))×(List Title)) (fun a _=>mkS [(0,.sl (List.map CatRow.cs p0)),(4,.ptr 4 (1,4) 0),(7,.row 7 (1,7)),(8,.mp 13 (1,13)),(9,.row 15 (1,15)),(27,.sl (List.map Title.cs r179)),(28,.int .i64 (r179.length:Int)),(29,.int .i64 x189)] [(4,some ((1,4),.box (View.cs p1))),(7,some ((1,7),.row 24 2 false (List.map Title.cs a.1))),(13,some ((1,13),.mp (ZeU Title.pv PV.bool a.2.1))),(15,some ((1,15),.qrow 24 2 (List.map Title.cs a.2.2)))] 2) (fun a=>k26 a.1 a.2.1 a.2.2=some r) (Zj ?_) (fun a _ h=>?_)
   ·refine bl ?_
    refine rg ?_
    refine aI Title.cs h fun e208 h=>?_
    refine rg ?_
    refine ZmG Title.pv PV.bool e208 false rfl rfl rfl rfl rfl (Zj ?_)
    refine cS h rfl (fun h=>?_) fun h=>?_
    ·exact jn (x190,x191,x192) h (sR [(4,1,4),(7,1,7),(13,1,13),(15,1,15)])
    refine rg ?_
    refine Zkc Title.pv PV.bool e208 true rfl rfl rfl rfl rfl (Zj ?_)
    refine rg ?_
    refine Zaw (M:=([e208]:List Title)) (f:=Title.cs) rfl rfl rfl rfl (Nat.le_of_ble_eq_true rfl) rfl (Zj ?_)
    refine pR Title.cs h fun l209 h=>?_
    refine rg ?_
    refine cS h rfl (fun h=>?_) fun h=>?_
    ·refine rg ?_
     refine Zaw (M:=([e208]:List Title)) (f:=Title.cs) rfl rfl rfl rfl (Nat.le_of_ble_eq_true rfl) rfl (Zj ?_)
     obtain ⟨l210,h126,h⟩:=bnd h
     refine Zti (f:=Title.cs) rfl h126 (fun _=>rfl) rfl rfl rfl rfl (Zj ?_)
     exact jn (l209,(Zci x191 e208 true),l210) h (sR [(4,1,4),(7,6,3),(13,1,13),(15,8,3)])
    exact jn (l209,(Zci x191 e208 true),x192) h (sR [(4,1,4),(7,6,3),(13,1,13),(15,1,15)])
   obtain ⟨x205,x206,x207⟩:=a
   subst hk26
   dsimp only at h ⊢
   refine Zj ?_
   refine rg ?_
   exact rn (mf25,(w64 (x189+1)),x205,x206,x207) h (sR [(4,1,4),(7,1,7),(13,1,13),(15,1,15)])
  exact rn (mf22,x190,x191,x192) h (sR [(4,1,4),(7,1,7),(13,1,13),(15,1,15)])
 refine rg ?_
 obtain ⟨r211,h127,h⟩:=bnd h
 refine Zbn (ZeS _ _ h127) rfl rfl rfl rfl rfl (Zj ?_)
 refine rg ?_
 cases h
 exact rQ
end Go.Proofs.YtjblgpmagampbaaGreatDoor
namespace Go.Proofs.YtjblgpmagampbaaGreatDoor
namespace VL
open Go.RowKit
def νa (k:Nat):Gen:=(0,k)
def νb (k:Nat):Gen:=if k=0 then (0,0) else (1,k)
def νn (g0:Gen) (ng i k:Nat):Gen:=if k=0 then g0 else (ng,i+1000000 * (k+1))
abbrev νc (ng i:Nat):Nat→Gen:=νn (0,0) ng i
def objs (l:List (Nat×Gen×VObj)):List (Nat×VObj):=l.map fun q=>(q.1,q.2.2)
theorem ZfD {l:List (Nat×Gen×VObj)} {t:Nat} {o:VObj} (h:(t,o) ∈ objs l):∃ g,(t,g,o) ∈ l:=by
 obtain ⟨⟨t',g,o'⟩,h1,e⟩:=List.mem_map.1 h
 injection e with e1 e2
 subst e1 e2
 exact ⟨g,h1⟩
section
variable {NT AT ET:Nat}
theorem ZdJ {f:Nat→Option (Gen×VObj)} {y:Nat} {l:List Nat} (h:y ∈ l):∀ n,y ∈ Zc5 f n l
 | 0=>h
 | _+1=>List.mem_append_left _ h
theorem ZdK {f:Nat→Option (Gen×VObj)} {x y:Nat} {l:List Nat} {n:Nat} (hx:x ∈ l) (h:∀ l':List Nat,(∀ z ∈ ZeR f x,z ∈ l')→y ∈ Zc5 f n l'):y ∈ Zc5 f (n+1) l:=
 List.mem_append_right _ (h _ fun _ hz=>List.mem_flatMap.2 ⟨x,hx,hz⟩)
theorem ZgF {f:Nat→Option (Gen×VObj)} {t:Nat} {g:Gen} {cs:List PV} (h:f t=some (g,.box cs)) {p:PV} (hp:p ∈ cs) {k:Nat} (hk:k ∈ Zab p):k ∈ ZeR f t:=by
 unfold ZeR
 rw [h]
 exact List.mem_flatMap.2 ⟨p,hp,hk⟩
theorem ZjO {f:Nat→Option (Gen×VObj)} {t:Nat} {g:Gen} {E n:Nat} {els:List (List PV)} (h:f t=some (g,.prow E n els)) {el:List PV} (he:el ∈ els) {p:PV} (hp:p ∈ el) {k:Nat} (hk:k ∈ Zab p):k ∈ ZeR f t:=by
 unfold ZeR
 rw [h]
 exact List.mem_flatMap.2 ⟨p,List.mem_flatten.2 ⟨el,he,hp⟩,hk⟩
theorem ZoV {ob:List (Nat×Option (Gen×VObj))} {b:Nat} {ν:Nat→Gen} {e:El} (h:Has ob (elO NT AT b ν e)) {l:List Nat} (hb:b ∈ l) {t:Nat} {g:Gen} {o:VObj} (hm:(t,g,o) ∈ elO NT AT b ν e) (n:Nat):t ∈ Zc5 (Zg ob) (n+2) l:=by
 unfold elO at h hm
 rcases List.mem_cons.1 hm with q | hm'
 ·injection q with q1 q2;subst q1;exact ZdJ hb _
 ·have hbox:=h _ _ _ (List.mem_cons_self ..)
  rcases List.mem_cons.1 hm' with q | hm'
  ·injection q with q1 q2
   subst q1
   exact ZdK hb fun l' h'=>ZdJ (h' _ (ZgF hbox (p:=.row (b+1) (ν (b+1))) (by simp) (by simp [Zab]))) _
  ·rcases List.mem_cons.1 hm' with q | hm'
   ·injection q with q1 q2
    subst q1
    exact ZdK hb fun l' h'=>ZdJ (h' _ (ZgF hbox (p:=.row (b+2) (ν (b+2))) (by simp) (by simp [Zab]))) _
   ·have hrow:=h _ _ _ (List.mem_cons_of_mem _ (List.mem_cons_of_mem _ (List.mem_cons_self ..)))
    unfold Zla at hm'
    split at hm'
    ·cases hm'
    ·rename_i pre a hl
     obtain q:=List.mem_singleton.1 hm'
     injection q with q1 q2
     subst q1
     refine ZdK hb fun l' h'=>ZdK (h' _ (ZgF hbox (p:=.row (b+2) (ν (b+2))) (by simp) (by simp [Zab]))) fun l2 h2=>ZdJ (h2 _ (ZjO hrow (el:=[.bool a.named,.sl a.name,.row (b+3) (ν (b+3))]) (by rw [hl];simp [ZfS]) (p:=.row (b+3) (ν (b+3))) (by simp) (by simp [Zab]))) _
theorem ZoW {ν:Nat→Gen}:∀ {r:List El} {t:Nat} {g:Gen} {o:VObj},(t,g,o) ∈ ZeV NT AT ν r→∃ b e,[PV.ptr b (ν b) 0] ∈ Zdh ν r∧(t,g,o) ∈ elO NT AT b ν e∧∀ q ∈ elO NT AT b ν e,q ∈ ZeV NT AT ν r
 | [],_,_,_,h=>by cases h
 | e::r,t,g,o,h=>by
   rcases List.mem_append.1 h with h | h
   ·exact ⟨Za4 r,e,List.mem_append_right _ (List.mem_singleton.2 rfl),h,fun q hq=>List.mem_append_left _ hq⟩
   ·obtain ⟨b,e',h1,h2,h3⟩:=ZoW h
    exact ⟨b,e',List.mem_append_left _ h1,h2,fun q hq=>List.mem_append_right _ (h3 q hq)⟩
theorem ZmV {ob:List (Nat×Option (Gen×VObj))} {ν:Nat→Gen} {e:El} {r:List El} (h:Has ob (stO NT AT ET ν e r)) {t:Nat} {g:Gen} {o:VObj} (hm:(t,g,o) ∈ stO NT AT ET ν e r):t ∈ Zh0 (Zg ob) (.ptr 0 (ν 0) 0):=by
 show t ∈ Zc5 (Zg ob) 4 [0]
 have h0:=h _ _ _ (List.mem_cons_self ..)
 have h1:=h _ _ _ (List.mem_cons_of_mem _ (List.mem_cons_self ..))
 rcases List.mem_cons.1 hm with q | hm'
 ·injection q with q1 q2;subst q1;exact ZdJ (List.mem_singleton.2 rfl) _
 ·have k1:∀ l':List Nat,(∀ z ∈ ZeR (Zg ob) 0,z ∈ l')→1000 ∈ l':=fun l' h'=>h' _ (ZgF h0 (p:=.row 1000 (ν 1000)) (by simp) (by simp [Zab]))
  rcases List.mem_cons.1 hm' with q | hm'
  ·injection q with q1 q2
   subst q1
   exact ZdK (List.mem_singleton.2 rfl) fun l' h'=>ZdJ (k1 l' h') _
  ·have main:∃ b e',[PV.ptr b (ν b) 0] ∈ Zdh ν r ++ [[.ptr 1001 (ν 1001) 0]]∧(t,g,o) ∈ elO NT AT b ν e'∧∀ q ∈ elO NT AT b ν e',q ∈ stO NT AT ET ν e r:=by
    rcases List.mem_append.1 hm' with h | h
    ·exact ⟨1001,e,List.mem_append_right _ (List.mem_singleton.2 rfl),h,fun q hq=>List.mem_cons_of_mem _ (List.mem_cons_of_mem _ (List.mem_append_left _ hq))⟩
    ·obtain ⟨b,e',w1,w2,w3⟩:=ZoW h
     exact ⟨b,e',List.mem_append_left _ w1,w2,fun q hq=>List.mem_cons_of_mem _ (List.mem_cons_of_mem _ (List.mem_append_right _ (w3 q hq)))⟩
   obtain ⟨b,e',w1,w2,w3⟩:=main
   refine ZdK (List.mem_singleton.2 rfl) fun l' h'=>ZdK (k1 l' h') fun l2 h2=>ZoV (fun t g o hq=>h t g o (w3 _ hq)) (h2 _ (ZjO h1 w1 (List.mem_singleton.2 rfl) (by simp [Zab]))) w2 0
theorem Zku {σ:Gen→Option (Nat×Gen)} {κ:Nat→Nat} {γ:Nat→Gen} {f:Nat→Option (Gen×VObj)}:∀ {l l2:List (Nat×Gen×VObj)},ZaN σ l=some l2→(∀ t g o,(t,g,o) ∈ l2→f t=some (g,o))→(∀ q ∈ l,σ q.2.1=some (κ q.1,γ q.1))→Zn9 σ κ γ f (objs l)
 | [],_,_,_,_=>trivial
 | (t,g,o)::r,l2,h,hf,hk=>by
  simp only [ZaN] at h
  split at h
  ·rename_i t3 g3 o3 r3 h1 h2 h3
   injection h with h
   subst h
   have e:=hk _ (List.mem_cons_self ..)
   rw [h1] at e
   injection e with e
   injection e with e1 e2
   subst e1 e2
   exact ⟨⟨o3,h2,hf _ _ _ (List.mem_cons_self ..)⟩,Zku h3 (fun t g o hm=>hf t g o (List.mem_cons_of_mem _ hm)) fun q hq=>hk q (List.mem_cons_of_mem _ hq)⟩
  ·cases h
theorem Zia {κ:Nat→Nat} {obs:List (Nat×VObj)} {obs2:List (Nat×Gen×VObj)} {ob:List (Nat×Option (Gen×VObj))} (hn:(obs2.map (·.1)).Nodup) (t:Nat) :
  Zg ((usG κ obs obs2).reverse++ob) t=if ∃ q ∈ obs2,q.1=t then Zg (somes obs2) t else if ∃ q ∈ obs,κ q.1=t then none else Zg ob t:=by
 unfold usG
 rw [List.reverse_append,List.append_assoc]
 have hrev:((obs2.reverse).map (·.1)).Nodup:=by rw [List.map_reverse];exact (List.reverse_perm _).nodup_iff.2 hn
 have e:(obs2.map fun q=>(q.1,some q.2)).reverse=somes obs2.reverse:=by unfold somes;rw [List.map_reverse]
 rw [e]
 by_cases h1:∃ q ∈ obs2,q.1=t
 ·rw [if_pos h1]
  obtain ⟨⟨t',g,o⟩,hq,rfl⟩:=h1
  have w:=Zbr [] hn hq
  rw [List.append_nil] at w
  rw [w]
  exact Zbr _ hrev (List.mem_reverse.2 hq)
 ·rw [if_neg h1,ZbB _ _ _ fun q hq hqt=>h1 (by
   obtain ⟨g,o,h2,_⟩:=Zfz hq
   exact ⟨_,List.mem_reverse.1 h2,hqt⟩)]
  by_cases h2:∃ q ∈ obs,κ q.1=t
  ·rw [if_pos h2]
   have:∀ (l:List (Nat×VObj)) (b:List (Nat×Option (Gen×VObj))),(∃ q ∈ l,κ q.1=t)→Zg ((l.map fun q=>(κ q.1,(none:Option (Gen×VObj))))++b) t=none:=fun l b=>by
    induction l with
    | nil=>rintro ⟨q,hq,_⟩;cases hq
    | cons q l ih=>
      rintro ⟨q',hq',e⟩
      show (if t=κ q.1 then none else Zg (_++b) t)=none
      split
      ·rfl
      ·rename_i hne
       rcases List.mem_cons.1 hq' with rfl | hq'
       ·exact absurd e.symm hne
       ·exact ih ⟨q',hq',e⟩
   rw [← List.map_reverse]
   obtain ⟨q,hq,e2⟩:=h2
   exact this _ _ ⟨q,List.mem_reverse.2 hq,e2⟩
  ·rw [if_neg h2,ZbB _ _ _ fun q hq hqt=>h2 (by
    obtain ⟨q',hq',rfl⟩:=List.mem_map.1 (List.mem_reverse.1 hq)
    exact ⟨q',hq',hqt⟩)]
theorem ZjP (b:Nat) (ν ν':Nat→Gen) (e:El):(elO NT AT b ν e).map (·.1)=(elO NT AT b ν' e).map (·.1):=by
 obtain ⟨k,t,c,l,args⟩:=e
 cases args<;>rfl
theorem Zgc (ν ν':Nat→Gen):∀ (r:List El),(ZeV NT AT ν r).map (·.1)=(ZeV NT AT ν' r).map (·.1)
 | []=>rfl
 | e::r=>by unfold ZeV;rw [List.map_append,List.map_append,ZjP,Zgc ν ν' r]
theorem Zer (ν ν':Nat→Gen) (e:El) (r:List El):(stO NT AT ET ν e r).map (·.1)=(stO NT AT ET ν' e r).map (·.1):=by
 unfold stO
 rw [List.map_cons,List.map_cons,List.map_cons,List.map_cons,List.map_append,List.map_append,ZjP 1001 ν ν',Zgc ν ν']
def κp (κx:Nat→Nat) (k:Nat):Nat:=if Za5 k=true then k else κx k
def γp (ν γx:Nat→Gen) (k:Nat):Gen:=if Za5 k=true then ν k else γx k
def no1 (k:Nat):Bool:=k == 0
def nones (κx:Nat→Nat) (xin:List (Nat×VObj)):List (Nat×Option (Gen×VObj)):=xin.map fun q=>(κx q.1,none)
end
section
variable {NT AT ET:Nat} {P:Program} [WInv P] {ops:Array Oper} {draw:Bool} {i:Nat} {L:List Oper} {acc:List (List Nat×List Nat)} {K:FS→Prop} {tm:List (Nat×PV)} {ob:List (Nat×Option (Gen×VObj))} {ng:Nat}
 {d:Option Tmp} {ty:TypeId} {pos:String} {after:Array Edge} {gd:Option (Nat×Bool)}
theorem Zc2 {k:Nat} (h:k=0∨1000≤k):Za5 k=true:=by
 unfold Za5
 rcases h with rfl | h
 ·rfl
 ·rw [decide_eq_true h,Bool.or_true]
def ZrZ (l:List (Nat×Gen×VObj)):Bool:=decide ((l.map (·.1)).Nodup)&&l.all fun q=>decide (1100≤q.1)&&decide (q.1<2000)
def Zs6 (κx:Nat→Nat) (l:List (Nat×VObj)):Bool:=decide ((l.map fun q=>κx q.1).Nodup)&&l.all fun q=>!Za5 q.1 && !Za5 (κx q.1)
theorem Zfd {ob ob':List (Nat×Option (Gen×VObj))} (h:∀ t,Zg ob t=Zg ob' t):mkS tm ob ng=mkS tm ob' ng:=by
 unfold mkS
 rw [show Zg ob=Zg ob' from funext h]
theorem Zkv {f:FuncId} {es:Array Operand} {ts:Array TypeId} {args:List PV} {e e':El} {r r':List El} {xin:List (Nat×VObj)} {res res2:PV} {ext ext2:List (Nat×Gen×VObj)} (lits:List (Nat×Option (Gen×VObj))) (ν:Nat→Gen) (κx:Nat→Nat) (γx:Nat→Gen)
  (hc:ContractG P f args (objs (stO NT AT ET νa e r)++xin) res (stO NT AT ET νb e' r'++ext)) (hob:ob=lits++somes (stO NT AT ET ν e r)) (hl:(lits.all fun q=>!Za5 q.1)=true)
  (hw:Zb ops (mkS tm ob ng) ⟨d,.call ⟨.value (.func f),es,ts⟩,ty,pos,after,gd⟩=some true) (he:rnA (σ0 (κp κx) (γp ν γx)) args=some (es.toList.map (evL tm))) (h0:PV.ptr 0 (ν 0) 0 ∈ es.toList.map (evL tm))
  (hx:Zn9 (σ0 (κp κx) (γp ν γx)) (κp κx) (γp ν γx) (Zg ob) xin) (hxk:∀ q ∈ xin,∃ g,PV.ptr (κx q.1) g 0 ∈ es.toList.map (evL tm)) (hxn:Zs6 κx xin=true)
  (hres:rnP (σ1 no1 (κp κx) (γp ν γx) id ng i) res=some res2) (hext:ZaN (σ1 no1 (κp κx) (γp ν γx) id ng i) ext=some ext2) (hek:(ZrZ ext&&ZrZ ext2)=true)
  (k:GoL P ops draw (i+1) L (acc ++ [(Zr (mkS tm ob ng) ⟨d,.call ⟨.value (.func f),es,ts⟩,ty,pos,after,gd⟩,(usG (κp κx) (objs (stO NT AT ET νa e r)++xin) (stO NT AT ET (νn (ν 0) ng i) e' r'++ext2)).map (·.1))]) (mkS (Zau d res2 tm) (nones κx xin++(somes ext2++(lits++somes (stO NT AT ET (νn (ν 0) ng i) e' r')))) ng) K) :
  GoL P ops draw i (⟨d,.call ⟨.value (.func f),es,ts⟩,ty,pos,after,gd⟩::L) acc (mkS tm ob ng) K:=by
 have hHas:Has ob (stO NT AT ET ν e r):=by rw [hob];exact ZaU hl
 have par1:∀ {q:Nat×Gen×VObj} {ν:Nat→Gen} {e:El} {r:List El},q ∈ stO NT AT ET ν e r→Za5 q.1=true:=fun h=>Zc2 (by have:=(Zdi h).1;omega)
 have hσ0:∀ k,k=0∨1000≤k→σ0 (κp κx) (γp ν γx) (νa k)=some (k,ν k):=fun k hk=>by simp [σ0,νa,κp,γp,Zc2 hk]
 have hσ1:∀ k,k=0∨1000≤k→σ1 no1 (κp κx) (γp ν γx) id ng i (νb k)=some (k,νn (ν 0) ng i k):=fun k hk=>by
  by_cases h0:k=0
  ·subst h0
   simp [σ1,νb,νn,no1,κp,γp,Za5]
  ·simp [σ1,νb,νn,h0]
 simp only [ZrZ,Bool.and_eq_true,decide_eq_true_eq,List.all_eq_true] at hek
 obtain ⟨⟨x1,x2⟩,x3,x4⟩:=hek
 simp only [Zs6,Bool.and_eq_true,decide_eq_true_eq,List.all_eq_true,Bool.not_eq_true'] at hxn
 obtain ⟨n1,n2⟩:=hxn
 have disj:∀ {ν:Nat→Gen} {e:El} {r:List El} {l:List (Nat×Gen×VObj)},(l.map (·.1)).Nodup→(∀ q ∈ l,1100≤q.1∧q.1<2000)→((stO NT AT ET ν e r++l).map (·.1)).Nodup:=fun h1 h2=>by
  rw [List.map_append]
  refine Zeo (Zay _ _ _) h1 fun k hk hk'=>?_
  obtain ⟨q,hq,rfl⟩:=List.mem_map.1 hk
  obtain ⟨q',hq',e'⟩:=List.mem_map.1 hk'
  have:=(Zdi hq).1
  have:=h2 _ hq'
  omega
 have hpre:Zn9 (σ0 (κp κx) (γp ν γx)) (κp κx) (γp ν γx) (Zg ob) (objs (stO NT AT ET νa e r)++xin):=Zje (Zku (ZjM hσ0 e r) hHas fun q hq=>by
  rw [(Zdi hq).2]
  simp only [σ0,νa,if_true]) hx
 have hinj:((objs (stO NT AT ET νa e r)++xin).map fun q=>κp κx q.1).Nodup:=by
  rw [List.map_append]
  have e1:(objs (stO NT AT ET νa e r)).map (fun q=>κp κx q.1)=(stO NT AT ET νa e r).map (·.1):=by
   unfold objs
   rw [List.map_map]
   refine List.map_congr_left fun q hq=>?_
   simp [κp,par1 hq]
  have e2:xin.map (fun q=>κp κx q.1)=xin.map fun q=>κx q.1:=List.map_congr_left fun q hq=>by simp [κp,(n2 q hq).1]
  rw [e1,e2]
  refine Zeo (Zay _ _ _) n1 fun k hk hk'=>?_
  obtain ⟨q,hq,rfl⟩:=List.mem_map.1 hk
  obtain ⟨q',hq',e'⟩:=List.mem_map.1 hk'
  have w1:=par1 hq
  have w2:=(n2 q' hq').2
  rw [e',w1] at w2
  cases w2
 have hes:∀ p,p ∈ es.toList.map (evL tm)→∀ t,t ∈ Zh0 (Zg ob) p→t ∈ Zr (mkS tm ob ng) ⟨d,.call ⟨.value (.func f),es,ts⟩,ty,pos,after,gd⟩:=fun p hp t ht=>by
  obtain ⟨o,ho,rfl⟩:=List.mem_map.1 hp
  unfold Zr
  rw [if_neg (by simp [quiet])]
  refine List.mem_flatMap.2 ⟨o,?_,?_⟩
  ·rw [Zfw rfl]
   simp [Op.operands,Call.operands]
   exact .inr (by simpa using ho)
  ·rw [ZB]
   exact ht
 have h2:=Zag (ZjM (NT:=NT) (AT:=AT) (ET:=ET) hσ1 e' r') hext
 refine ZmB no1 (κp κx) (γp ν γx) id hc hw he hpre hinj (fun k hk=>?_) (fun t o' hm=>?_) hres h2 (disj x1 fun q hq=>by simpa using x2 q hq) rfl ?_
 ·obtain rfl:k=0:=by simpa [no1] using hk
  exact ⟨_,List.mem_append_left _ (List.mem_map.2 ⟨_,List.mem_cons_self ..,rfl⟩)⟩
 ·rcases List.mem_append.1 hm with hm | hm
  ·obtain ⟨g,hg⟩:=ZfD hm
   have hg':∃ g2 o2,(t,g2,o2) ∈ stO NT AT ET ν e r:=by
    obtain ⟨o2,_,q2⟩:=ZkL hpre t o' (List.mem_append_left _ hm)
    have hm2:t ∈ (stO NT AT ET νa e r).map (·.1):=List.mem_map.2 ⟨_,hg,rfl⟩
    have:(stO NT AT ET νa e r).map (·.1)=(stO NT AT ET ν e r).map (·.1):=by
     exact Zer _ _ e r
    rw [this] at hm2
    obtain ⟨⟨t2,g2,o3⟩,hq,rfl⟩:=List.mem_map.1 hm2
    exact ⟨g2,o3,hq⟩
   obtain ⟨g2,o2,hm2⟩:=hg'
   have:κp κx t=t:=by simp [κp,par1 hm2]
   rw [this]
   exact hes _ h0 _ (ZmV hHas hm2)
  ·have:κp κx t=κx t:=by simp [κp,(n2 _ hm).1]
   rw [this]
   obtain ⟨g,hg⟩:=hxk _ hm
   exact hes _ hg _ (ZdJ (by simp [Zcz,Zab]) 4)
 ·have e:mkS (Zau d res2 tm) ((usG (κp κx) (objs (stO NT AT ET νa e r)++xin) (stO NT AT ET (νn (ν 0) ng i) e' r'++ext2)).reverse++ob) ng=mkS (Zau d res2 tm) (nones κx xin++(somes ext2++(lits++somes (stO NT AT ET (νn (ν 0) ng i) e' r')))) ng:=Zfd fun t=>?_
  ·rw [e];exact k
  ·have hn:=disj (ν:=νn (ν 0) ng i) (e:=e') (r:=r') x3 fun q hq=>by simpa using x4 q hq
   rw [Zia hn]
   have skip:∀ t,Za5 t=true→∀ b,Zg (nones κx xin++b) t=Zg b t:=fun t ht b=>ZbB _ _ _ fun q hq hqt=>by
    obtain ⟨q',hq',rfl⟩:=List.mem_map.1 hq
    have:=(n2 q' hq').2
    change κx q'.1=t at hqt
    rw [hqt,ht] at this
    cases this
   have skipL:∀ t,Za5 t=true→∀ b,Zg (lits++b) t=Zg b t:=fun t ht b=>ZbB _ _ _ fun q hq hqt=>by
    have:=List.all_eq_true.1 hl q hq
    rw [hqt,ht] at this
    cases this
   have skipE:∀ t,(¬ ∃ q ∈ ext2,q.1=t)→∀ b,Zg (somes ext2++b) t=Zg b t:=fun t ht b=>ZbB _ _ _ fun q hq hqt=>by
    obtain ⟨g,o,h,_⟩:=Zfz hq
    exact ht ⟨_,h,hqt⟩
   have skipS:∀ {ν:Nat→Gen} {e:El} {r:List El} (t:Nat),(¬ ∃ q ∈ stO NT AT ET ν e r,q.1=t)→Zg (somes (stO NT AT ET ν e r)) t=none:=fun {ν e r} t ht=>by
    have:=ZbB (somes (stO NT AT ET ν e r)) [] t fun q hq hqt=>by
     obtain ⟨g,o,h,_⟩:=Zfz hq
     exact ht ⟨_,h,hqt⟩
    rwa [List.append_nil] at this
   have ext_par:∀ q ∈ ext2,Za5 q.1=true:=fun q hq=>by
    have:=x4 q hq
    exact Zc2 (by omega)
   by_cases h1:∃ q ∈ stO NT AT ET (νn (ν 0) ng i) e' r'++ext2,q.1=t
   ·rw [if_pos h1]
    obtain ⟨⟨t',g,o⟩,hq,rfl⟩:=h1
    have w:=Zbr [] hn hq
    rw [List.append_nil] at w
    rw [w]
    have hpk:Za5 t'=true:=by
     rcases List.mem_append.1 hq with hq | hq
     ·exact par1 hq
     ·exact ext_par _ hq
    rw [skip _ hpk]
    rcases List.mem_append.1 hq with hq | hq
    ·rw [skipE _ fun ⟨q',h',e'⟩=>by
      have a1:=x4 q' h'
      have a2:=(Zdi hq).1
      change q'.1=t' at e'
      rw [e'] at a1
      change t'=0∨_ at a2
      omega,skipL _ hpk]
     have:=Zbr [] (Zay (NT:=NT) (AT:=AT) (ET:=ET) (νn (ν 0) ng i) e' r') hq
     rw [List.append_nil] at this
     exact this.symm
    ·exact (Zbr _ x3 hq).symm
   ·rw [if_neg h1]
    have hs:¬ ∃ q ∈ stO NT AT ET (νn (ν 0) ng i) e' r',q.1=t:=fun ⟨q,hq,e⟩=>h1 ⟨q,List.mem_append_left _ hq,e⟩
    have hx2:¬ ∃ q ∈ ext2,q.1=t:=fun ⟨q,hq,e⟩=>h1 ⟨q,List.mem_append_right _ hq,e⟩
    by_cases h3:∃ q ∈ objs (stO NT AT ET νa e r)++xin,κp κx q.1=t
    ·rw [if_pos h3]
     obtain ⟨q,hq,rfl⟩:=h3
     rcases List.mem_append.1 hq with hq | hq
     ·obtain ⟨g,hg⟩:=ZfD (l:=stO NT AT ET νa e r) (t:=q.1) (o:=q.2) hq
      have hpk:=par1 hg
      have hk:κp κx q.1=q.1:=if_pos hpk
      rw [hk] at hs hx2 ⊢
      rw [skip _ hpk,skipE _ hx2,skipL _ hpk,skipS _ hs]
     ·have hk:κp κx q.1=κx q.1:=if_neg (by rw [(n2 q hq).1];exact Bool.false_ne_true)
      rw [hk]
      symm
      have:∀ (l:List (Nat×VObj)) (b:List (Nat×Option (Gen×VObj))),q ∈ l→Zg (nones κx l++b) (κx q.1)=none:=fun l b=>by
       induction l with
       | nil=>intro h;cases h
       | cons q' l ih=>
         intro h
         show (if κx q.1=κx q'.1 then none else Zg (nones κx l++b) (κx q.1))=none
         split
         ·rfl
         ·rename_i hne
          rcases List.mem_cons.1 h with rfl | h
          ·exact absurd rfl hne
          ·exact ih h
      exact this _ _ hq
    ·rw [if_neg h3]
     have hxs:∀ b,Zg (nones κx xin++b) t=Zg b t:=fun b=>ZbB _ _ _ fun q hq hqt=>by
      obtain ⟨q',hq',rfl⟩:=List.mem_map.1 hq
      refine h3 ⟨q',List.mem_append_right _ hq',?_⟩
      have hk:κp κx q'.1=κx q'.1:=if_neg (by rw [(n2 q' hq').1];exact Bool.false_ne_true)
      rw [hk]
      exact hqt
     have hs0:¬ ∃ q ∈ stO NT AT ET ν e r,q.1=t:=fun ⟨q,hq,e0⟩=>by
      have hm2:t ∈ (stO NT AT ET νa e r).map (·.1):=by
       rw [Zer νa ν]
       exact List.mem_map.2 ⟨q,hq,e0⟩
      obtain ⟨q',hq',e1⟩:=List.mem_map.1 hm2
      refine h3 ⟨(q'.1,q'.2.2),List.mem_append_left _ (List.mem_map.2 ⟨q',hq',rfl⟩),?_⟩
      have hk:κp κx q'.1=q'.1:=if_pos (par1 hq')
      rw [← e1]
      exact hk
     rw [hxs,skipE _ hx2,hob]
     have two:∀ (a b c:List (Nat×Option (Gen×VObj))),Zg b t=Zg c t→Zg (a++b) t=Zg (a++c) t:=fun a b c h=>by
      induction a with
      | nil=>exact h
      | cons q a ih=>
        show (if t=q.1 then q.2 else Zg (a++b) t)=if t=q.1 then q.2 else Zg (a++c) t
        rw [ih]
     exact two _ _ _ ((skipS _ hs0).trans (skipS _ hs).symm)
end
end VL
end Go.Proofs.YtjblgpmagampbaaGreatDoor
namespace Go.Proofs.YtjblgpmagampbaaGreatDoor
namespace VL
open Go.RowKit
def σf (f:Nat→Nat×Gen) (g:Gen):Option (Nat×Gen):=if g.1=0 then some (g.2,g) else if g.1=1 then some (f g.2) else none
theorem Zlv {σ:Gen→Option (Nat×Gen)}:∀ {l l2:List (Nat×Gen×VObj)},ZaN σ l=some l2→l.map (fun q=>(σ q.2.1).map (·.1))=l2.map fun q=>some q.1
 | [],l2,h=>by injection h with h;subst h;rfl
 | (t,g,o)::r,l2,h=>by
  simp only [ZaN] at h
  split at h
  ·rename_i t3 g3 o3 r3 h1 h2 h3
   injection h with h
   subst h
   rw [List.map_cons,List.map_cons,Zlv h3]
   simp only [h1,Option.map_some]
  ·cases h
theorem ZmZ {σ:Gen→Option (Nat×Gen)} {ob:List (Nat×Option (Gen×VObj))}:∀ {l' l:List (Nat×Gen×VObj)},ZaN σ l'=some l→Has ob l→Zq6 σ ob l'
 | [],_,_,_=>trivial
 | (t,g,o)::r,l,h,hH=>by
  simp only [ZaN] at h
  split at h
  ·rename_i t3 g3 o3 r3 h1 h2 h3
   injection h with h
   subst h
   exact ⟨⟨t3,g3,o3,h1,h2,hH _ _ _ (List.mem_cons_self ..)⟩,ZmZ h3 fun t g o hm=>hH t g o (List.mem_cons_of_mem _ hm)⟩
  ·cases h
theorem ZeK (f:Nat→Nat×Gen) {tm tm':List (Nat×PV)} {ob:List (Nat×Option (Gen×VObj))} {ng:Nat} {l l':List (Nat×Gen×VObj)} (h1:Zfs (σf f) tm tm') (h2:ZaN (σf f) l'=some l) (h3:Has ob l) (h4:(l.map (·.1)).Nodup) :
  Shift (mkS tm ob ng) (mkS tm' (somes l') 2):=by
 refine Zq7 (σf f) (fun g hg=>⟨g.2,by simp [σf,hg]⟩) h1 (ZmZ h2 h3) (fun g k g0 h=>?_) ?_
 ·unfold σf at h
  split at h
  ·omega
  ·split at h
   ·omega
   ·cases h
 ·rw [Zlv h2]
  have:l.map (fun q=>some q.1)=(l.map (·.1)).map some:=by rw [List.map_map];rfl
  rw [this]
  exact List.Pairwise.map _ (fun a b hab e=>hab (by injection e)) h4
section
variable {NT AT ET:Nat} {P:Program} [WInv P]
theorem ZiU {ob:List (Nat×Option (Gen×VObj))} {a b:List (Nat×Gen×VObj)} (h1:Has ob a) (h2:Has ob b):Has ob (a++b):=fun t g o h=>(List.mem_append.1 h).elim (h1 t g o) (h2 t g o)
theorem ZH (ob:List (Nat×Option (Gen×VObj))):Has ob []:=fun t g o h=>by cases h
theorem Zk {ob:List (Nat×Option (Gen×VObj))} {t:Nat} {g:Gen} {o:VObj} {l:List (Nat×Gen×VObj)} (h:Zg ob t=some (g,o)) (h2:Has ob l):Has ob ((t,g,o)::l):=fun t' g' o' hm=>by
 rcases List.mem_cons.1 hm with e | hm
 ·injection e with e1 e2
  injection e2 with e2 e3
  subst e1 e2 e3
  exact h
 ·exact h2 t' g' o' hm
theorem ZaJ (ν:Nat→Gen) {e:El} {r:List El} (lits:List (Nat×Option (Gen×VObj))) (f:Nat→Nat×Gen) {tm tm':List (Nat×PV)} {ob:List (Nat×Option (Gen×VObj))} {ng:Nat} {x x':List (Nat×Gen×VObj)} (hf:∀ k,k=0∨1000≤k→f k=(k,ν k)) (h00:ν 0=(0,0))
  (h1:Zfs (σf f) tm tm') (hx:ZaN (σf f) x'=some x) (hob:ob=lits++somes (stO NT AT ET ν e r)) (hl:(lits.all fun q=>!Za5 q.1)=true) (hh:Has ob x) (hn:(decide ((x.map (·.1)).Nodup)&&x.all fun q=>!Za5 q.1)=true) :
  Shift (mkS tm ob ng) (mkS tm' (somes (x'++stO NT AT ET νb e r)) 2):=by
 have h2:ZaN (σf f) (stO NT AT ET νb e r)=some (stO NT AT ET ν e r):=ZjM (fun k hk=>by
  by_cases h0:k=0
  ·subst h0
   simp [σf,νb,h00]
  ·simp [σf,νb,h0,hf k hk]) e r
 simp only [Bool.and_eq_true,decide_eq_true_eq,List.all_eq_true,Bool.not_eq_true'] at hn
 refine ZeK f h1 (Zag hx h2) (ZiU hh (by rw [hob];exact ZaU hl)) ?_
 rw [List.map_append]
 refine Zeo hn.1 (Zay _ _ _) fun k hk hk'=>?_
 obtain ⟨q,hq,rfl⟩:=List.mem_map.1 hk
 obtain ⟨q',hq',e'⟩:=List.mem_map.1 hk'
 have w1:Za5 q'.1=true:=Zc2 (by have:=(Zdi hq').1;omega)
 have w2:=hn.2 q hq
 rw [← e',w1] at w2
 cases w2
def ZtN (NT AT ET:Nat) (P:Program) [WInv P] (f:FuncId) (args:List PV) (e:El) (r:List El) (res:PV) (e':El) (r':List El):Prop:=ContractG P f (.ptr 0 (0,0) 0::args) (objs (stO NT AT ET νa e r)) res (stO NT AT ET νb e' r')
def Zp4 (P:Program) (rs:List ResultVar) (res:PV) (obs':List (Nat×Gen×VObj)):Ex→FS→Prop
 | .exit _,_=>False
 | _,s=>∃ s2,Shift s s2∧∃ ps,ZbX P s2 rs=some ps∧ZbY ps=res∧Has' s2 obs'
where Has' (s2:FS) (obs':List (Nat×Gen×VObj)):Prop:=∀ t g o,(t,g,o) ∈ obs'→s2.ob t=some (g,o)
end
section
variable {P:Program} [WInv P]
theorem Zy (hmix:P.follows .mixedOrders=true) {f:FuncId} {fn:Func} {c:Code} {args:List PV} {obs:List (Nat×VObj)} {res:PV} {obs':List (Nat×Gen×VObj)} (hf:P.funcs[f]? = some fn) (hg:isGo P f=true) (hb:fn.body=some c) (hok:(decide (args.length≤fn.ntmps)&&Zaz fn.ntmps c)=true)
  (h:PWs P [c] (Zp4 P fn.results.toList res obs') (mkS (ZcP 0 args) (obG obs) 1)):ContractG P f args obs res obs':=by
 simp only [Bool.and_eq_true,decide_eq_true_eq] at hok
 obtain ⟨e,s',h1,h2⟩:=ZbI h
 have hsh:Shift (ZrL args obs) (mkS (ZcP 0 args) (obG obs) 1):=ZcO (fun t=>by
  rcases Zce args 0 t with h | ⟨_,h⟩
  ·exact .inl h
  ·exact .inr h) (fun t=>.inr rfl) (Nat.le_refl _)
 cases e with
 | exit id=>exact h2.elim
 | normal=>
   obtain ⟨s2,q0,ps,q1,q2,q3⟩:=h2
   exact Zhy hmix hg hf hb hok.1 hok.2 (.shift hsh h1) q0 (.inl rfl) q1 q2 q3
 | ret=>
   obtain ⟨s2,q0,ps,q1,q2,q3⟩:=h2
   exact Zhy hmix hg hf hb hok.1 hok.2 (.shift hsh h1) q0 (.inr rfl) q1 q2 q3
omit [WInv P] in
theorem ZgJ {rs:List ResultVar} {res:PV} {obs':List (Nat×Gen×VObj)} {s:FS} {tm:List (Nat×PV)} {ob:List (Nat×Option (Gen×VObj))} {ng:Nat} {ps:List PV} (h:Shift s (mkS tm ob ng)) (h1:ZbX P (mkS tm ob ng) rs=some ps) (h2:ZbY ps=res) (h3:Has ob obs'):Zp4 P rs res obs' .ret s:=⟨_,h,ps,h1,h2,h3⟩
omit [WInv P] in
theorem ZiV {rs:List ResultVar} {res:PV} {obs':List (Nat×Gen×VObj)} {s:FS} {tm:List (Nat×PV)} {ob:List (Nat×Option (Gen×VObj))} {ng:Nat} {ps:List PV} (h:Shift s (mkS tm ob ng)) (h1:ZbX P (mkS tm ob ng) rs=some ps) (h2:ZbY ps=res) (h3:Has ob obs'):Zp4 P rs res obs' .normal s:=⟨_,h,ps,h1,h2,h3⟩
end
section
variable {NT AT ET:Nat}
theorem ZbF (e:El) (r:List El):obG (objs (stO NT AT ET νa e r))=somes (stO NT AT ET νa e r):=by
 unfold obG objs somes
 rw [List.map_map]
 refine List.map_congr_left fun q hq=>?_
 have:=(Zdi hq).2
 simp only [Function.comp]
 rw [show ((0,q.1):Gen)=q.2.1 from this.symm]
theorem Zo9 (a b:List (Nat×VObj)):obG (a++b)=obG a++obG b:=by unfold obG;rw [List.map_append]
end
section
variable {NT AT ET:Nat} {P:Program} [WInv P] {ops:Array Oper} {draw:Bool} {i:Nat} {L:List Oper} {acc:List (List Nat×List Nat)} {K:FS→Prop} {tm:List (Nat×PV)} {ob:List (Nat×Option (Gen×VObj))} {ng:Nat}
 {d:Option Tmp} {ty:TypeId} {pos:String} {after:Array Edge} {gd:Option (Nat×Bool)}
theorem Zs {f:FuncId} {es:Array Operand} {ts:Array TypeId} {args:List PV} {e e':El} {r r':List El} {res res2:PV} (lits:List (Nat×Option (Gen×VObj))) (ν:Nat→Gen) (hc:ZtN NT AT ET P f args e r res e' r') (hob:ob=lits++somes (stO NT AT ET ν e r)) (hl:(lits.all fun q=>!Za5 q.1)=true)
  (hw:Zb ops (mkS tm ob ng) ⟨d,.call ⟨.value (.func f),es,ts⟩,ty,pos,after,gd⟩=some true) (he:es.toList.map (evL tm) = .ptr 0 (ν 0) 0::args) (ha:rnA (σ0 (κp id) (γp ν ν)) args=some args)
  (hres:rnP (σ1 no1 (κp id) (γp ν ν) id ng i) res=some res2)
  (k:GoL P ops draw (i+1) L (acc ++ [(Zr (mkS tm ob ng) ⟨d,.call ⟨.value (.func f),es,ts⟩,ty,pos,after,gd⟩,(usG (κp id) (objs (stO NT AT ET νa e r) ++ []) (stO NT AT ET (νn (ν 0) ng i) e' r' ++ [])).map (·.1))]) (mkS (Zau d res2 tm) (lits++somes (stO NT AT ET (νn (ν 0) ng i) e' r')) ng) K) :
  GoL P ops draw i (⟨d,.call ⟨.value (.func f),es,ts⟩,ty,pos,after,gd⟩::L) acc (mkS tm ob ng) K:=by
 have hc':ContractG P f (.ptr 0 (0,0) 0::args) (objs (stO NT AT ET νa e r) ++ []) res (stO NT AT ET νb e' r' ++ []):=by
  rw [List.append_nil,List.append_nil]
  exact hc
 refine Zkv (xin:=[]) (ext:=[]) (ext2:=[]) lits ν id ν hc' hob hl hw ?_ (by rw [he];exact List.mem_cons_self ..) trivial (fun q hq=>by cases hq) rfl hres rfl rfl k
 rw [he]
 show (match rnP _ (.ptr 0 (0,0) 0),rnA _ args with | some q,some qs=>some (q::qs) | _,_=>none)=_
 rw [ha]
 rfl
end
end VL
end Go.Proofs.YtjblgpmagampbaaGreatDoor
namespace Go.Proofs.YtjblgpmagampbaaGreatDoor
namespace VL
open Go.RowKit
theorem ZmQ {els:List (List PV)} {k i j:Nat} {el:List PV} {q:PV} (h1:∀ e ∈ els,e.length=k) (hi:els[i]? = some el) (hj:j<k):(els.set i (Zaa el j [q])).flatten=els.flatten.set (i * k+j) q:=by
 have hf:=Zh6 els h1 i el j [q] hi hj
 refine hf.trans ?_
 have hil:i<els.length:=(List.getElem?_eq_some_iff.1 hi).1
 have hlen:i * k+j<els.flatten.length:=by
  rw [ZW els h1]
  calc i * k+j<i * k+k:=by omega
   _=(i+1) * k:=by rw [Nat.succ_mul]
   _≤els.length * k:=Nat.mul_le_mul_right _ hil
 rw [List.set_eq_take_append_cons_drop,if_pos hlen]
 simp
theorem Zny {s:FS} {u i j E k:Nat} {g:Gen} {els:List (List PV)} {el:List PV} {p q:PV} {us:List (Nat×Option (Gen×VObj))} (h0:s.ob u=some (g,.prow E k els)) (hi:els[i]? = some el) (hj:el[j]? = some p) (h:Zjn s.ob p=some (q,us)) :
  Shift s ⟨s.tm,Zba (flips s.ob us) u (some (g,.prow E k (els.set i (Zaa el j [q])))),s.ng⟩:=fun r a x hX=>by
 obtain ⟨hg,e1,e2,vs,e3,e4,e5⟩:=hX.ob u g _ h0
 have hjk:j<k:=by rw [← e1 el (List.mem_of_getElem? hi)];exact (List.getElem?_eq_some_iff.1 hj).1
 have hfl:=ZdT els e1 i el j p hi hj
 have hvl:vs.length=els.length * k:=e3.1
 have hlt:i * k+j<vs.length:=by
  rw [hvl,← ZW els e1]
  exact (List.getElem?_eq_some_iff.1 hfl).1
 have hv:vs[i * k+j]? = some vs[i * k+j]:=List.getElem?_eq_getElem hlt
 obtain ⟨F',st,hX',hR,hpure,hf⟩:=Zdw (Flip.refl _) hX h (e4 _ p _ hfl hv)
 have hu:(flips s.ob us) u=some (g,.prow E k els):=by
  rcases hf u with e | ⟨g2,E2,k2,sh2,els2,e,_⟩
  ·rw [e,h0]
  ·rw [h0] at e;cases e
 refine ⟨{ x with F:=F' },rfl,hX'.defers,hX'.size,hX'.gr,hX'.gens,hX'.tm,fun t' g' o' ho=>?_,fun t1 t2 g1 g2 o1 o2 bb hne k1 k2 hb=>?_,hX'.flt,hX'.f0,hX'.fnew,hX'.rho,hX'.inv,hX'.keep⟩
 ·change (if t'=u then some (g,VObj.prow E k (els.set i (Zaa el j [q]))) else flips s.ob us t')=some (g',o') at ho
  split at ho
  ·injection ho with ho
   injection ho with j1 j2
   subst j1 j2
   obtain ⟨_,j1,j2,vs2,j3,j4,j5⟩:=hX'.ob u g _ hu
   have hlen2:(Zaa el j [q]).length=k:=by
    rw [ZcG _ _ _ (by rw [e1 el (List.mem_of_getElem? hi)];exact hjk)]
    exact e1 el (List.mem_of_getElem? hi)
   refine ⟨hg,fun e he=>?_,fun e he p' hp=>?_,vs,by rw [List.length_set];exact e3,fun m p' v hp hv'=>?_,j5⟩
   ·rcases List.mem_or_eq_of_mem_set he with h | h
    ·exact e1 e h
    ·rw [h];exact hlen2
   ·rcases List.mem_or_eq_of_mem_set he with h | h
    ·exact e2 e h p' hp
    ·subst h
     unfold Zaa at hp
     rcases List.mem_append.1 hp with hp | hp
     ·rcases List.mem_append.1 hp with hp | hp
      ·exact e2 el (List.mem_of_getElem? hi) p' (List.mem_of_mem_take hp)
      ·rw [List.mem_singleton.1 hp];exact PV.cell_of_pure hpure
     ·exact e2 el (List.mem_of_getElem? hi) p' (List.mem_of_mem_drop hp)
   ·rw [ZmQ e1 hi hjk] at hp
    by_cases hm:i * k+j=m
    ·subst hm
     rw [List.getElem?_set_self (by rw [ZW els e1,← hvl];exact hlt)] at hp
     injection hp with hp
     subst hp
     rw [hv] at hv'
     injection hv' with hv'
     rw [← hv']
     exact hR
    ·rw [List.getElem?_set_ne hm] at hp
     exact (e4 m p' v hp hv').step st
  ·exact hX'.ob t' g' o' ho
 ·change (if t1=u then some (g,VObj.prow E k (els.set i (Zaa el j [q]))) else flips s.ob us t1)=some (g1,o1) at k1
  change (if t2=u then some (g,VObj.prow E k (els.set i (Zaa el j [q]))) else flips s.ob us t2)=some (g2,o2) at k2
  have f1:∃ o1',(flips s.ob us) t1=some (g1,o1'):=by
   split at k1
   ·rename_i e;subst e;injection k1 with k1;injection k1 with e3 e4;subst e3;exact ⟨_,hu⟩
   ·exact ⟨_,k1⟩
  have f2:∃ o2',(flips s.ob us) t2=some (g2,o2'):=by
   split at k2
   ·rename_i e;subst e;injection k2 with k2;injection k2 with e3 e4;subst e3;exact ⟨_,hu⟩
   ·exact ⟨_,k2⟩
  obtain ⟨o1',f1⟩:=f1
  obtain ⟨o2',f2⟩:=f2
  exact hX'.apart t1 t2 g1 g2 o1' o2' bb hne f1 f2 hb
theorem Znz {s:FS} {u w i j E k E' k':Nat} {g:Gen} {els:List (List PV)} {el:List PV} (hne:w≠u) (h0:s.ob u=some (g,.prow E k els)) (hi:els[i]? = some el) (hj:el[j]? = some .nil) :
  Shift s ⟨s.tm,Zba (Zba s.ob u (some (g,.prow E k (els.set i (Zaa el j [.row w (s.ng,0)]))))) w (some ((s.ng,0),.row E' k' false [])),s.ng+1⟩:=fun r a x hX=>by
 have hnew:¬ x.G (s.ng,0):=fun hg=>by
  rcases hX.gens _ hg with e | ⟨_,e⟩
  ·exact absurd e (Nat.lt_irrefl _)
  ·exact e.elim
 let y:Ctx:=⟨fun g=>x.G g∨g=(s.ng,0),x.F,x.W,fun g=>if g=(s.ng,0) then .slice none 0 0 else x.ρ g⟩
 have st:Step x y:=⟨fun g hg=>⟨.inl hg,if_neg (fun (e:g=(s.ng,0))=>hnew (by rw [← e];exact hg))⟩,fun _ _ h=>h,fun _ _ _ _ h=>h⟩
 have hρ:y.ρ (s.ng,0) = .slice none 0 0:=if_pos rfl
 obtain ⟨hgu,hO⟩:=hX.ob u g _ h0
 have hO2:ObRep y r.W0.heap.size r.D g (.prow E k els):=hO.step hgu st fun b _=>⟨rfl,fun _ h=>h⟩
 have old:∀ t' g' o',(if t'=w then some ((s.ng,0),VObj.row E' k' false []) else if t'=u then some (g,VObj.prow E k (els.set i (Zaa el j [.row w (s.ng,0)]))) else s.ob t')=some (g',o')→(t'=w∧g'=(s.ng,0)∧o' = .row E' k' false [])∨(t'=u∧g'=g∧o' = .prow E k (els.set i (Zaa el j [.row w (s.ng,0)])))∨s.ob t'=some (g',o'):=fun t' g' o' ho=>by
  split at ho
  ·rename_i e
   injection ho with ho
   injection ho with e1 e2
   exact .inl ⟨e,e1.symm,e2.symm⟩
  ·split at ho
   ·rename_i e
    injection ho with ho
    injection ho with e1 e2
    exact .inr (.inl ⟨e,e1.symm,e2.symm⟩)
   ·exact .inr (.inr ho)
 refine ⟨y,rfl,hX.defers,hX.size,hX.gr,fun g hg=>.inl ?_,fun t'=>(hX.tm t').step st,fun t' g' o' ho=>?_,fun t1 t2 g1 g2 o1 o2 b hne' k1 k2 hb=>?_,hX.flt,hX.f0,hX.fnew,fun g hg=>⟨(st.G g (hX.rho g hg).1).1,(st.G g (hX.rho g hg).1).2.trans (hX.rho g hg).2⟩,hX.inv,hX.keep⟩
 ·rcases hg with hg | rfl
  ·rcases hX.gens g hg with e | ⟨_,e⟩
   ·show g.1<s.ng+1;omega
   ·exact e.elim
  ·exact Nat.lt_succ_self _
 ·rcases old t' g' o' ho with ⟨rfl,rfl,rfl⟩ | ⟨rfl,rfl,rfl⟩ | ho
  ·exact ⟨.inr rfl,by simp,by simp,[],by rw [hρ];exact World.ownsRow_nil _ _ _ _,fun m p v hp=>by simp at hp,fun b hb=>by rw [hρ] at hb;simp [blk] at hb⟩
  ·obtain ⟨e1,e2,vs,e3,e4,e5⟩:=hO2
   have hk1:=e1 el (List.mem_of_getElem? hi)
   have hjk:j<k:=by rw [← hk1];exact (List.getElem?_eq_some_iff.1 hj).1
   have hfl:=ZdT els e1 i el j _ hi hj
   refine ⟨.inl hgu,fun e he=>?_,fun e he p' hp=>?_,vs,by rw [List.length_set];exact e3,fun m p' v hp hv'=>?_,e5⟩
   ·rcases List.mem_or_eq_of_mem_set he with h | h
    ·exact e1 e h
    ·rw [h,ZcG _ _ _ (by rw [hk1];exact hjk),hk1]
   ·rcases List.mem_or_eq_of_mem_set he with h | h
    ·exact e2 e h p' hp
    ·subst h
     unfold Zaa at hp
     rcases List.mem_append.1 hp with hp | hp
     ·rcases List.mem_append.1 hp with hp | hp
      ·exact e2 el (List.mem_of_getElem? hi) p' (List.mem_of_mem_take hp)
      ·rw [List.mem_singleton.1 hp];rfl
     ·exact e2 el (List.mem_of_getElem? hi) p' (List.mem_of_mem_drop hp)
   ·rw [ZmQ e1 hi hjk] at hp
    by_cases hm:i * k+j=m
    ·subst hm
     rw [List.getElem?_set_self (List.getElem?_eq_some_iff.1 hfl).1] at hp
     injection hp with hp
     subst hp
     have hr:=e4 _ _ v hfl hv'
     cases hr
     exact .row w (s.ng,0) none 0 0 (.inr rfl) hρ
    ·rw [List.getElem?_set_ne hm] at hp
     exact e4 m p' v hp hv'
  ·obtain ⟨h3,h4⟩:=hX.ob t' g' o' ho
   exact ⟨.inl h3,h4.step h3 st fun b _=>⟨rfl,fun _ h=>h⟩⟩
 ·have noB:∀ b,blk (y.ρ (s.ng,0))≠some b:=fun b hb=>by rw [hρ] at hb;simp [blk] at hb
  have tr:∀ t' g' o',((t'=w∧g'=(s.ng,0)∧o' = .row E' k' false [])∨(t'=u∧g'=g∧o' = .prow E k (els.set i (Zaa el j [.row w (s.ng,0)])))∨s.ob t'=some (g',o'))→g'=(s.ng,0)∨∃ o2,s.ob t'=some (g',o2):=fun t' g' o' h=>by
   rcases h with ⟨_,e,_⟩ | ⟨e1,e2,_⟩ | h
   ·exact .inl e
   ·subst e1 e2;exact .inr ⟨_,h0⟩
   ·exact .inr ⟨_,h⟩
  rcases tr _ _ _ (old t1 g1 o1 k1) with rfl | ⟨p1,q1⟩
  ·exact absurd hb (noB b)
  ·rcases tr _ _ _ (old t2 g2 o2 k2) with rfl | ⟨p2,q2⟩
   ·exact noB b
   ·rw [(st.G g1 (hX.ob t1 g1 p1 q1).1).2] at hb
    rw [(st.G g2 (hX.ob t2 g2 p2 q2).1).2]
    exact hX.apart t1 t2 g1 g2 p1 p2 b hne' q1 q2 hb
section
variable {tm:List (Nat×PV)} {ob:List (Nat×Option (Gen×VObj))} {ng:Nat}
theorem Zdj (u i j:Nat) {g:Gen} {E k:Nat} {els els':List (List PV)} {el:List PV} {p q:PV} {us:List (Nat×Option (Gen×VObj))} (h0:Zg ob u=some (g,.prow E k els)) (hi:els[i]? = some el) (hj:el[j]? = some p) (h:Zjn (Zg ob) p=some (q,us)) (he:els.set i (Zaa el j [q])=els') :
  Shift (mkS tm ob ng) (mkS tm ((u,some (g,.prow E k els'))::(us.reverse++ob)) ng):=by
 subst he
 have:=Zny (s:=mkS tm ob ng) h0 hi hj h
 have e:(⟨look tm,Zba (flips (Zg ob) us) u (some (g,.prow E k (els.set i (Zaa el j [q])))),ng⟩:FS)=mkS tm ((u,some (g,.prow E k (els.set i (Zaa el j [q]))))::(us.reverse++ob)) ng:=by
  rw [ZcM,Zex]
  rfl
 rw [← e]
 exact this
theorem Zkp (u w i j E' k':Nat) {g:Gen} {E k:Nat} {els els':List (List PV)} {el:List PV} (hne:(w == u)=false) (h0:Zg ob u=some (g,.prow E k els)) (hi:els[i]? = some el) (hj:el[j]? = some .nil) (he:els.set i (Zaa el j [.row w (ng,0)])=els') :
  Shift (mkS tm ob ng) (mkS tm ((w,some ((ng,0),.row E' k' false []))::(u,some (g,.prow E k els'))::ob) (ng+1)):=by
 subst he
 have:=Znz (s:=mkS tm ob ng) (E':=E') (k':=k') (by simpa using hne) h0 hi hj
 have e:(⟨look tm,Zba (Zba (Zg ob) u (some (g,.prow E k (els.set i (Zaa el j [.row w (ng,0)]))))) w (some ((ng,0),.row E' k' false [])),ng+1⟩:FS)=mkS tm ((w,some ((ng,0),.row E' k' false []))::(u,some (g,.prow E k (els.set i (Zaa el j [.row w (ng,0)]))))::ob) (ng+1):=by
  rw [Zex,Zex]
  rfl
 rw [← e]
 exact this
theorem ZiA (t:Nat) {E k:Nat} {g:Gen} {els:List (List PV)} (h:Zg ob t=some (g,.prow E k els)) (hp:∀ e ∈ els,∀ p ∈ e,p.pure=true):Shift (mkS tm ob ng) (mkS tm ((t,some (g,.row E k false els))::ob) ng):=fun r a x hX=>by
 have hob:∀ t' g' o',(mkS tm ((t,some (g,.row E k false els))::ob) ng).ob t'=some (g',o')→(t'=t∧g'=g∧o' = .row E k false els)∨(mkS tm ob ng).ob t'=some (g',o'):=fun t' g' o' ho=>by
  change (if t'=t then some (g,VObj.row E k false els) else Zg ob t')=some (g',o') at ho
  split at ho
  ·rename_i e
   injection ho with ho
   injection ho with e1 e2
   exact .inl ⟨e,e1.symm,e2.symm⟩
  ·exact .inr ho
 have hsame:∀ t' g' o',(mkS tm ((t,some (g,.row E k false els))::ob) ng).ob t'=some (g',o')→∃ o2,(mkS tm ob ng).ob t'=some (g',o2):=fun t' g' o' ho=>by
  rcases hob t' g' o' ho with ⟨rfl,rfl,rfl⟩ | ho
  ·exact ⟨_,h⟩
  ·exact ⟨_,ho⟩
 refine ⟨x,rfl,hX.defers,hX.size,hX.gr,hX.gens,hX.tm,fun t' g' o' ho=>?_,fun t1 t2 g1 g2 o1 o2 b hne h1 h2 hb=>?_,hX.flt,hX.f0,hX.fnew,hX.rho,hX.inv,hX.keep⟩
 ·rcases hob t' g' o' ho with ⟨rfl,rfl,rfl⟩ | ho
  ·obtain ⟨hg,q1,q2,vs,q3,q4,q5⟩:=hX.ob t' g' _ h
   exact ⟨hg,q1,hp,vs,q3,q4,fun b hb=>⟨(q5 b hb).1,fun o hF=>absurd hF ((q5 b hb).2 o)⟩⟩
  ·exact hX.ob t' g' o' ho
 ·obtain ⟨o1',h1'⟩:=hsame t1 g1 o1 h1
  obtain ⟨o2',h2'⟩:=hsame t2 g2 o2 h2
  exact hX.apart t1 t2 g1 g2 o1' o2' b hne h1' h2' hb
end
end VL
end Go.Proofs.YtjblgpmagampbaaGreatDoor
namespace Go.Proofs.YtjblgpmagampbaaGreatDoor
namespace VL
section
variable {P:Program} [WInv P] {ops:Array Oper} {draw:Bool} {i:Nat} {L:List Oper} {acc:List (List Nat×List Nat)} {K:FS→Prop} {tm:List (Nat×PV)} {ob:List (Nat×Option (Gen×VObj))} {ng:Nat}
 {d:Option Tmp} {ty:TypeId} {pos:String} {after:Array Edge} {gd:Option (Nat×Bool)} {T:TypeId} {x y:Operand} {E kk by_:Nat} {z:List PV} {t:Nat} {g:Gen} {els new:List (List PV)}
theorem ZaW {n:Nat} [Sl P T E kk by_ z] (hw:Zb ops (mkS tm ob ng) ⟨d,.call ⟨.builtin .len,#[x],#[T]⟩,ty,pos,after,gd⟩=some true) (hx:Zna (Zg ob) (evL tm x)=some els) (hn:els.length=n)
  (k:GoL P ops draw (i+1) L (acc ++ [(Zr (mkS tm ob ng) ⟨d,.call ⟨.builtin .len,#[x],#[T]⟩,ty,pos,after,gd⟩,[])]) (mkS (Zau d (.int .i64 (n:Int)) tm) ob ng) K):GoL P ops draw i (⟨d,.call ⟨.builtin .len,#[x],#[T]⟩,ty,pos,after,gd⟩::L) acc (mkS tm ob ng) K:=by
 subst hn
 exact Zta hw hx k
end
theorem ZgI (ν:Nat→Gen):∀ (r:List El),(Zdh ν r).length=r.length
 | []=>rfl
 | _::r=>by unfold Zdh;rw [List.length_append,ZgI ν r];rfl
theorem ZbD (ν:Nat→Gen) (r:List El) (p:List PV):(Zdh ν r ++ [p]).length=r.length+1:=by rw [List.length_append,ZgI];rfl
theorem Zmo (ν:Nat→Gen) (r:List El) (p:List PV):(Zdh ν r ++ [p])[r.length]? = some p:=by
 rw [List.getElem?_append_right (by rw [ZgI];exact Nat.le_refl _),ZgI,Nat.sub_self]
 rfl
section
variable {P:Program} {NT AT ET:Nat} {tm:List (Nat×PV)} {ob:List (Nat×Option (Gen×VObj))} {ng:Nat}
theorem Zbj {ex:Ex} (hex:ex = .ret∨ex = .normal) (ν:Nat→Gen) {e:El} {r:List El} (lits:List (Nat×Option (Gen×VObj))) (tm':List (Nat×PV)) {rs:List ResultVar} {res:PV} {ps:List PV} (hob:ob=lits++somes (stO NT AT ET ν e r)) (hl:(lits.all fun q=>!Za5 q.1)=true) (h1:Zfs (σf fun k=>(k,ν k)) tm tm')
  (h2:ZbX P (mkS tm' (somes (stO NT AT ET νb e r)) 2) rs=some ps) (h3:ZbY ps=res) (h00:ν 0=(0,0):=by rfl):Zp4 P rs res (stO NT AT ET νb e r) ex (mkS tm ob ng):=by
 have hs:Shift (mkS tm ob ng) (mkS tm' (somes ([]++stO NT AT ET νb e r)) 2):=ZaJ ν lits (fun k=>(k,ν k)) (fun _ _=>rfl) h00 h1 (x:=[]) (x':=[]) rfl hob hl (ZH _) rfl
 have hH:Has (somes (stO NT AT ET νb e r)) (stO NT AT ET νb e r):=ZaU (lits:=[]) rfl
 rcases hex with rfl | rfl
 ·exact ZgJ hs h2 h3 hH
 ·exact ZiV hs h2 h3 hH
end
end VL
end Go.Proofs.YtjblgpmagampbaaGreatDoor
namespace Go.Proofs.YtjblgpmagampbaaGreatDoor
namespace VL
section
variable {NT AT ET:Nat} {σ:Gen→Option (Nat×Gen)}
theorem Zm3 {ν ν':Nat→Gen}:∀ (r:List El),(∀ k,2000≤k→k<Za4 r→σ (ν k)=some (k,ν' k))→ZaN σ (ZeV NT AT ν r)=some (ZeV NT AT ν' r)
 | [],_=>rfl
 | e::r,h=>by
   have hb:Za4 (e::r)=Za4 r+10:=by unfold Za4;rw [List.length_cons];omega
   have hb2:2000≤Za4 r:=by unfold Za4;omega
   exact Zag (Zgx (fun j _=>h _ (by omega) (by omega)) e) (Zm3 r fun k h1 h2=>h k h1 (by omega))
theorem Zm4 {ν ν':Nat→Gen}:∀ (r:List El),(∀ k,2000≤k→k<Za4 r→σ (ν k)=some (k,ν' k))→ZeY σ (Zdh ν r)=some (Zdh ν' r)
 | [],_=>rfl
 | e::r,h=>by
   have hb:Za4 (e::r)=Za4 r+10:=by unfold Za4;rw [List.length_cons];omega
   have hb2:2000≤Za4 r:=by unfold Za4;omega
   exact ZaB (Zm4 r fun k h1 h2=>h k h1 (by omega)) (by simp only [ZeY,rnL,rn1,h (Za4 r) hb2 (by omega),Option.map_some])
theorem ZcI {A:List (Nat×Option (Gen×VObj))} {ν:Nat→Gen} {e:El} {r:List El} (hA:(A.all fun q=>decide (q.1<2000))=true):Has (A++somes (stO NT AT ET ν e r)) (ZeV NT AT ν r):=fun t g o hm=>by
 have hk:=(Zcj hm).1
 rw [ZbB _ _ t fun q hq hqt=>by
  have:=List.all_eq_true.1 hA q hq
  rw [hqt] at this
  simp only [decide_eq_true_eq] at this
  change 2000≤t at hk
  omega]
 have:=Zbr [] (Zay (NT:=NT) (AT:=AT) (ET:=ET) ν e r) (List.mem_cons_of_mem _ (List.mem_cons_of_mem _ (List.mem_append_right _ hm)))
 rwa [List.append_nil] at this
theorem Zrw {A:List (Nat×Option (Gen×VObj))} {ν:Nat→Gen} {e:El} {r:List El} (hA:(A.all fun q=>decide (q.1≤1000)||decide (1005≤q.1))=true):Has (A++somes (stO NT AT ET ν e r)) (elO NT AT 1001 ν e):=fun t g o hm=>by
 obtain ⟨hk,hk2,_⟩:=ZcT hm
 change 1001≤t at hk
 change t<1005 at hk2
 rw [ZbB _ _ t fun q hq hqt=>by
  have:=List.all_eq_true.1 hA q hq
  rw [hqt] at this
  simp only [Bool.or_eq_true,decide_eq_true_eq] at this
  omega]
 have:=Zbr [] (Zay (NT:=NT) (AT:=AT) (ET:=ET) ν e r) (List.mem_cons_of_mem _ (List.mem_cons_of_mem _ (List.mem_append_left _ hm)))
 rwa [List.append_nil] at this
def topf (n0 n1:Gen) (μ ν:Nat→Gen) (k:Nat):Nat×Gen:=if k=0 then (0,n0) else if k=1000 then (1000,n1) else if k<2000 then (k,μ k) else (k,ν k)
section
variable {tm:List (Nat×PV)} {ob:List (Nat×Option (Gen×VObj))} {ng:Nat}
theorem Zpf (n0 n1:Gen) (μ ν:Nat→Gen) {e':El} {r:List El} (tm':List (Nat×PV)) (h1:Zfs (σf (topf n0 n1 μ ν)) tm tm') (a0:Zg ob 0=some (n0,.box [.row 1000 n1])) (a1:Zg ob 1000=some (n1,.prow ET 1 (Zdh ν r ++ [[.ptr 1001 (μ 1001) 0]])))
  (a2:Has ob (elO NT AT 1001 μ e')) (a3:Has ob (ZeV NT AT ν r)) (h00:n0=(0,0):=by rfl):Shift (mkS tm ob ng) (mkS tm' (somes (stO NT AT ET νb e' r)) 2):=by
 have hl:∀ k,2000≤k→σf (topf n0 n1 μ ν) (νb k)=some (k,ν k):=fun k hk=>by
  have h1:¬ k=0:=by omega
  have h2:¬ k=1000:=by omega
  have h3:¬ k<2000:=by omega
  simp [σf,νb,topf,h1,h2,h3]
 have ht:∀ j,j<4→σf (topf n0 n1 μ ν) (νb (1001+j))=some (1001+j,μ (1001+j)):=fun j hj=>by
  have h1:¬ 1001+j=0:=by omega
  have h2:¬ 1001+j=1000:=by omega
  have h3:1001+j<2000:=by omega
  simp [σf,νb,topf,h2,h3]
 have e0:σf (topf n0 n1 μ ν) (νb 0)=some (0,n0):=by rw [h00];rfl
 have e1:σf (topf n0 n1 μ ν) (νb 1000)=some (1000,n1):=rfl
 have e2:σf (topf n0 n1 μ ν) (νb 1001)=some (1001,μ 1001):=ht 0 (by omega)
 have hp:ZeY (σf (topf n0 n1 μ ν)) (Zdh νb r ++ [[.ptr 1001 (νb 1001) 0]])=some (Zdh ν r ++ [[.ptr 1001 (μ 1001) 0]]):=ZaB (Zhb hl r) (by simp only [ZeY,rnL,rn1,e2,Option.map_some])
 have he:=Zag (Zgx (NT:=NT) (AT:=AT) (b:=1001) (b':=1001) (ν':=μ) ht e') (Zha (NT:=NT) (AT:=AT) hl r)
 have h2:ZaN (σf (topf n0 n1 μ ν)) (stO NT AT ET νb e' r)=some ((0,n0,.box [.row 1000 n1])::(1000,n1,.prow ET 1 (Zdh ν r ++ [[.ptr 1001 (μ 1001) 0]]))::(elO NT AT 1001 μ e'++ZeV NT AT ν r)):=by
  simp only [stO,ZaN,rnO,rnL,rn1,e0,e1,Option.map_some,hp,he]
 refine ZeK _ h1 h2 (Zk a0 (Zk a1 (ZiU a2 a3))) ?_
 have:=Zay (NT:=NT) (AT:=AT) (ET:=ET) μ e' r
 have e:((0,n0,VObj.box [.row 1000 n1])::(1000,n1,.prow ET 1 (Zdh ν r ++ [[.ptr 1001 (μ 1001) 0]]))::(elO NT AT 1001 μ e'++ZeV NT AT ν r)).map (·.1)=(stO NT AT ET μ e' r).map (·.1):=by
  unfold stO
  rw [List.map_cons,List.map_cons,List.map_cons,List.map_cons,List.map_append,List.map_append,Zgc ν μ]
 rw [e]
 exact this
def popf (n0 n1:Gen) (fx:Nat→Nat×Gen) (ν:Nat→Gen) (b:Nat) (k:Nat):Nat×Gen:=if k=0 then (0,n0) else if k=1000 then (1000,n1) else if k<1000 then fx k else if k<1005 then (b+(k - 1001),ν (b+(k - 1001))) else if k<2000 then (k - 100,ν (k - 100)) else (k,ν k)
theorem ZgM (n0 n1:Gen) (fx:Nat→Nat×Gen) (ν:Nat→Gen) {e2:El} {r:List El} {X X':List (Nat×Gen×VObj)} (tm':List (Nat×PV)) (h1:Zfs (σf (popf n0 n1 fx ν (Za4 r))) tm tm') (a0:Zg ob 0=some (n0,.box [.row 1000 n1])) (a1:Zg ob 1000=some (n1,.prow ET 1 (Zdh ν (e2::r))))
  (hx:ZaN (σf (popf n0 n1 fx ν (Za4 r))) X'=some X) (hX:∀ q ∈ X,q.1≠0∧q.1≠1000∧q.1<2000) (hXn:(X.map (·.1)).Nodup) (a2:Has ob X) (a3:Has ob (ZeV NT AT ν (e2::r))) (h00:n0=(0,0):=by rfl):Shift (mkS tm ob ng) (mkS tm' (somes (X'++stO NT AT ET νb e2 r)) 2):=by
 have hb:2000≤Za4 r:=by unfold Za4;omega
 have hl:∀ k,2000≤k→σf (popf n0 n1 fx ν (Za4 r)) (νb k)=some (k,ν k):=fun k hk=>by
  have h1:¬ k=0:=by omega
  have h2:¬ k=1000:=by omega
  have h3:¬ k<1005:=by omega
  have h4:¬ k<2000:=by omega
  have h5:¬ k<1000:=by omega
  simp [σf,νb,popf,h1,h2,h3,h4,h5]
 have ht:∀ j,j<4→σf (popf n0 n1 fx ν (Za4 r)) (νb (1001+j))=some (Za4 r+j,ν (Za4 r+j)):=fun j hj=>by
  have h2:¬ 1001+j=1000:=by omega
  have h3:1001+j<1005:=by omega
  have h4:1001+j - 1001=j:=by omega
  have h5:¬ 1001+j<1000:=by omega
  simp [σf,νb,popf,h2,h3,h4,h5]
 have e0:σf (popf n0 n1 fx ν (Za4 r)) (νb 0)=some (0,n0):=by rw [h00];rfl
 have e1:σf (popf n0 n1 fx ν (Za4 r)) (νb 1000)=some (1000,n1):=rfl
 have ee2:σf (popf n0 n1 fx ν (Za4 r)) (νb 1001)=some (Za4 r,ν (Za4 r)):=ht 0 (by omega)
 have hp:ZeY (σf (popf n0 n1 fx ν (Za4 r))) (Zdh νb r ++ [[.ptr 1001 (νb 1001) 0]])=some (Zdh ν r ++ [[.ptr (Za4 r) (ν (Za4 r)) 0]]):=ZaB (Zhb hl r) (by simp only [ZeY,rnL,rn1,ee2,Option.map_some])
 have he:=Zag (Zgx (NT:=NT) (AT:=AT) (b:=1001) (b':=Za4 r) (ν':=ν) ht e2) (Zha (NT:=NT) (AT:=AT) hl r)
 have h2:ZaN (σf (popf n0 n1 fx ν (Za4 r))) (stO NT AT ET νb e2 r)=some ((0,n0,.box [.row 1000 n1])::(1000,n1,.prow ET 1 (Zdh ν (e2::r)))::ZeV NT AT ν (e2::r)):=by
  simp only [stO,ZaN,rnO,rnL,rn1,e0,e1,Option.map_some,hp,he]
  rfl
 refine ZeK _ h1 (Zag hx h2) (ZiU a2 (Zk a0 (Zk a1 a3))) ?_
 rw [List.map_append]
 have hlow:∀ k ∈ (ZeV NT AT ν (e2::r)).map (·.1),2000≤k:=fun k hk=>by
  obtain ⟨q,hq,rfl⟩:=List.mem_map.1 hk
  exact (Zcj hq).1
 refine Zeo hXn ?_ fun k hk' hk=>?_
 ·rw [List.map_cons,List.map_cons,List.nodup_cons,List.nodup_cons]
  refine ⟨fun h=>?_,fun h=>?_,Zfy ν _⟩
  ·rcases List.mem_cons.1 h with h | h
   ·cases h
   ·have:=hlow _ h;omega
  ·have:=hlow _ h
   change 2000≤1000 at this
   omega
 ·obtain ⟨q',hq',rfl⟩:=List.mem_map.1 hk'
  have:=hX q' hq'
  rw [List.map_cons,List.map_cons] at hk
  rcases List.mem_cons.1 hk with e | hk
  ·change q'.1=0 at e;omega
  ·rcases List.mem_cons.1 hk with e | hk
   ·change q'.1=1000 at e;omega
   ·have:=hlow _ hk;omega
def pushf (n0 n1 m1 m2 m3:Gen) (k1 k2 k3:Nat) (ν:Nat→Gen) (b:Nat) (k:Nat):Nat×Gen:=if k=0 then (0,n0) else if k=1000 then (1000,n1) else if k=1001 then (k1,m1) else if k=1002 then (k2,m2) else if k=1003 then (k3,m3) else if b≤k then (1001+(k - b),ν (1001+(k - b))) else (k,ν k)
theorem ZnQ (n0 n1 m1 m2 m3:Gen) (k1 k2 k3:Nat) (ν:Nat→Gen) {e:El} {r:List El} {kind tag count:Int} {list:List (List PV)} (tm':List (Nat×PV)) (h1:Zfs (σf (pushf n0 n1 m1 m2 m3 k1 k2 k3 ν (Za4 r))) tm tm') (a0:Zg ob 0=some (n0,.box [.row 1000 n1])) (a1:Zg ob 1000=some (n1,.prow ET 1 (Zdh ν r ++ [[.ptr 1001 (ν 1001) 0]] ++ [[.ptr k1 m1 0]])))
  (b1:Zg ob k1=some (m1,.box [.int .i64 kind,.int .i64 tag,.int .i64 count,.row k2 m2,.row k3 m3])) (b2:Zg ob k2=some (m2,.row NT 5 false list)) (b3:Zg ob k3=some (m3,.prow AT 3 [])) (hk:(decide ([k1,k2,k3].Nodup) && [k1,k2,k3].all fun k=>!Za5 k)=true) (a2:Has ob (elO NT AT 1001 ν e)) (a3:Has ob (ZeV NT AT ν r)) (h00:n0=(0,0):=by rfl) :
  Shift (mkS tm ob ng) (mkS tm' (somes (stO NT AT ET νb ⟨kind,tag,count,list,none⟩ (e::r))) 2):=by
 have hb:2000≤Za4 r:=by unfold Za4;omega
 have hl:∀ k,2000≤k→k<Za4 r→σf (pushf n0 n1 m1 m2 m3 k1 k2 k3 ν (Za4 r)) (νb k)=some (k,ν k):=fun k hk hk'=>by
  have h1:¬ k=0:=by omega
  have h2:¬ k=1000:=by omega
  have h3:¬ k=1001:=by omega
  have h4:¬ k=1002:=by omega
  have h5:¬ k=1003:=by omega
  have h6:¬ Za4 r≤k:=by omega
  simp [σf,νb,pushf,h1,h2,h3,h4,h5,h6]
 have ht:∀ j,j<4→σf (pushf n0 n1 m1 m2 m3 k1 k2 k3 ν (Za4 r)) (νb (Za4 r+j))=some (1001+j,ν (1001+j)):=fun j hj=>by
  have h1:¬ Za4 r+j=0:=by omega
  have h2:¬ Za4 r+j=1000:=by omega
  have h3:¬ Za4 r+j=1001:=by omega
  have h4:¬ Za4 r+j=1002:=by omega
  have h5:¬ Za4 r+j=1003:=by omega
  have h6:Za4 r≤Za4 r+j:=by omega
  have h7:Za4 r+j - Za4 r=j:=by omega
  simp only [σf,νb,pushf,h1,h2,h3,h4,h5,h6,h7,if_true,if_false]
  rfl
 have e0:σf (pushf n0 n1 m1 m2 m3 k1 k2 k3 ν (Za4 r)) (νb 0)=some (0,n0):=by rw [h00];rfl
 have e1:σf (pushf n0 n1 m1 m2 m3 k1 k2 k3 ν (Za4 r)) (νb 1000)=some (1000,n1):=rfl
 have e2:σf (pushf n0 n1 m1 m2 m3 k1 k2 k3 ν (Za4 r)) (νb 1001)=some (k1,m1):=rfl
 have e3:σf (pushf n0 n1 m1 m2 m3 k1 k2 k3 ν (Za4 r)) (νb (1001+1))=some (k2,m2):=rfl
 have e4:σf (pushf n0 n1 m1 m2 m3 k1 k2 k3 ν (Za4 r)) (νb (1001+2))=some (k3,m3):=rfl
 have e5:σf (pushf n0 n1 m1 m2 m3 k1 k2 k3 ν (Za4 r)) (νb (Za4 r))=some (1001,ν 1001):=ht 0 (by omega)
 have hp:ZeY (σf (pushf n0 n1 m1 m2 m3 k1 k2 k3 ν (Za4 r))) (Zdh νb (e::r) ++ [[.ptr 1001 (νb 1001) 0]])=some (Zdh ν r ++ [[.ptr 1001 (ν 1001) 0]] ++ [[.ptr k1 m1 0]]):=
  ZaB (ZaB (Zm4 r hl) (by simp only [ZeY,rnL,rn1,e5,Option.map_some])) (by simp only [ZeY,rnL,rn1,e2,Option.map_some])
 have he:=Zag (Zgx (NT:=NT) (AT:=AT) (b:=Za4 r) (b':=1001) (ν':=ν) ht e) (Zm3 (NT:=NT) (AT:=AT) r hl)
 have h2:ZaN (σf (pushf n0 n1 m1 m2 m3 k1 k2 k3 ν (Za4 r))) (stO NT AT ET νb ⟨kind,tag,count,list,none⟩ (e::r))=some ((0,n0,.box [.row 1000 n1])::(1000,n1,.prow ET 1 (Zdh ν r ++ [[.ptr 1001 (ν 1001) 0]] ++ [[.ptr k1 m1 0]]))::(k1,m1,.box [.int .i64 kind,.int .i64 tag,.int .i64 count,.row k2 m2,.row k3 m3])::(k2,m2,.row NT 5 false list)::(k3,m3,.prow AT 3 [])::(elO NT AT 1001 ν e++ZeV NT AT ν r)):=by
  have he':ZaN (σf (pushf n0 n1 m1 m2 m3 k1 k2 k3 ν (Za4 r))) (ZeV NT AT νb (e::r))=some (elO NT AT 1001 ν e++ZeV NT AT ν r):=he
  have key:∀ X,elO NT AT 1001 νb ⟨kind,tag,count,list,none⟩++X=(1001,νb 1001,.box [.int .i64 kind,.int .i64 tag,.int .i64 count,.row (1001+1) (νb (1001+1)),.row (1001+2) (νb (1001+2))])::(1001+1,νb (1001+1),.row NT 5 false list)::(1001+2,νb (1001+2),.prow AT 3 [])::X:=fun _=>rfl
  unfold stO
  rw [key]
  simp only [ZaN,rnO,rnL,ZeY,rn1,e0,e1,e2,e3,e4,Option.map_some,hp,he']
 simp only [Bool.and_eq_true,decide_eq_true_eq,List.all_eq_true,Bool.not_eq_true'] at hk
 obtain ⟨hn,hpk⟩:=hk
 have hpk':∀ k ∈ [k1,k2,k3],¬ (k=0∨1000≤k):=fun k hk h=>by
  have:=hpk k hk
  rw [Zc2 h] at this
  cases this
 refine ZeK _ h1 h2 (Zk a0 (Zk a1 (Zk b1 (Zk b2 (Zk b3 (ZiU a2 a3)))))) ?_
 have hold:=Zay (NT:=NT) (AT:=AT) (ET:=ET) ν e r
 unfold stO at hold
 rw [List.map_cons,List.map_cons,List.nodup_cons,List.nodup_cons] at hold
 obtain ⟨w1,w2,w3⟩:=hold
 have hrest:∀ k ∈ (elO NT AT 1001 ν e++ZeV NT AT ν r).map (·.1),1000≤k:=fun k hk=>by
  obtain ⟨q,hq,rfl⟩:=List.mem_map.1 hk
  rcases List.mem_append.1 hq with hq | hq
  ·have:=(ZcT hq).1;omega
  ·have:=(Zcj hq).1;omega
 have p1:=hpk' k1 (by simp)
 have p2:=hpk' k2 (by simp)
 have p3:=hpk' k3 (by simp)
 simp only [List.nodup_cons,List.mem_cons,List.not_mem_nil,or_false,not_or] at hn
 obtain ⟨⟨n12,n13⟩,n23,_⟩:=hn
 simp only [List.map_cons,List.nodup_cons,List.mem_cons,not_or]
 refine ⟨⟨by omega,by omega,by omega,by omega,fun h=>by have:=hrest _ h;omega⟩,⟨by omega,by omega,by omega,fun h=>w2 h⟩,⟨n12,n13,fun h=>by have:=hrest _ h;omega⟩,⟨n23,fun h=>by have:=hrest _ h;omega⟩,fun h=>by have:=hrest _ h;omega,w3⟩
end
end
end VL
end Go.Proofs.YtjblgpmagampbaaGreatDoor
namespace Go.Proofs.YtjblgpmagampbaaGreatDoor
namespace VL
def κe (k:Nat):Nat:=1001+k
def γe (ν:Nat→Gen) (k:Nat):Gen:=ν (1001+k)
section
variable {NT AT ET:Nat} {P:Program} [WInv P] {ops:Array Oper} {draw:Bool} {i:Nat} {L:List Oper} {acc:List (List Nat×List Nat)} {K:FS→Prop} {tm:List (Nat×PV)} {ob:List (Nat×Option (Gen×VObj))} {ng:Nat}
 {d:Option Tmp} {ty:TypeId} {pos:String} {after:Array Edge} {gd:Option (Nat×Bool)}
def Zl5 (l:List (Nat×VObj)) (k:Nat):Bool:=l.any fun q=>q.1 == k
theorem Zbu {f:FuncId} {es:Array Operand} {ts:Array TypeId} {e:El} {r:List El} {p p2:PV} (lits:List (Nat×Option (Gen×VObj))) (ν:Nat→Gen) (hc:ContractG P f [.ptr 0 (0,0) 0] (objs (elO NT AT 0 νa e)) p (elO NT AT 0 νa e)) (hob:ob=lits++somes (stO NT AT ET ν e r)) (hl:(lits.all fun q=>!Za5 q.1)=true)
  (hw:Zb ops (mkS tm ob ng) ⟨d,.call ⟨.value (.func f),es,ts⟩,ty,pos,after,gd⟩=some true) (he:es.toList.map (evL tm) = [.ptr 1001 (ν 1001) 0]) (hp:rnP (σ1 (Zl5 (objs (elO NT AT 0 νa e))) κe (γe ν) κe ng i) p=some p2)
  (k:GoL P ops draw (i+1) L (acc ++ [(Zr (mkS tm ob ng) ⟨d,.call ⟨.value (.func f),es,ts⟩,ty,pos,after,gd⟩,(usG κe (objs (elO NT AT 0 νa e)) (elO NT AT 1001 ν e)).map (·.1))]) (mkS (Zau d p2 tm) ob ng) K) :
  GoL P ops draw i (⟨d,.call ⟨.value (.func f),es,ts⟩,ty,pos,after,gd⟩::L) acc (mkS tm ob ng) K:=by
 have hHas:Has ob (elO NT AT 1001 ν e):=fun t g o hm=>by
  rw [hob]
  exact ZaU hl t g o (List.mem_cons_of_mem _ (List.mem_cons_of_mem _ (List.mem_append_left _ hm)))
 have hr0:ZaN (σ0 κe (γe ν)) (elO NT AT 0 νa e)=some (elO NT AT 1001 ν e):=Zgx (fun j _=>by simp [σ0,νa,κe,γe]) e
 have hr1:ZaN (σ1 (Zl5 (objs (elO NT AT 0 νa e))) κe (γe ν) κe ng i) (elO NT AT 0 νa e)=some (elO NT AT 1001 ν e):=by
  obtain ⟨e1,e2,e3,e4,args⟩:=e
  rcases args with _ | ⟨pre,a⟩
  ·rfl
  ·have h3:∀ j,j<4→σ1 (Zl5 (objs (elO NT AT 0 νa ⟨e1,e2,e3,e4,some (pre,a)⟩))) κe (γe ν) κe ng i (νa (0+j))=some (1001+j,ν (1001+j)):=fun j hj=>by
    have:Zl5 (objs (elO NT AT 0 νa ⟨e1,e2,e3,e4,some (pre,a)⟩)) (0+j)=true:=by
     match j,hj with
     | 0,_=>rfl
     | 1,_=>rfl
     | 2,_=>rfl
     | 3,_=>rfl
    simp only [σ1,νa,this,if_true]
    simp only [κe,γe,Nat.zero_add]
   exact Zgx h3 _
 have hpre:Zn9 (σ0 κe (γe ν)) κe (γe ν) (Zg ob) (objs (elO NT AT 0 νa e)):=Zku hr0 hHas fun q hq=>by
  rw [(ZcT hq).2.2]
  simp [σ0,νa]
 have hk1:(objs (elO NT AT 0 νa e)).map (fun q=>κe q.1)=(elO NT AT 1001 ν e).map (·.1):=by
  obtain ⟨k,t,c,l,args⟩:=e
  cases args<;>rfl
 have hes:∀ t,t ∈ Zh0 (Zg ob) (.ptr 1001 (ν 1001) 0)→t ∈ Zr (mkS tm ob ng) ⟨d,.call ⟨.value (.func f),es,ts⟩,ty,pos,after,gd⟩:=fun t ht=>by
  have hp:PV.ptr 1001 (ν 1001) 0 ∈ es.toList.map (evL tm):=by rw [he];exact List.mem_singleton.2 rfl
  obtain ⟨o,ho,e2⟩:=List.mem_map.1 hp
  unfold Zr
  rw [if_neg (by simp [quiet])]
  refine List.mem_flatMap.2 ⟨o,?_,?_⟩
  ·rw [Zfw rfl]
   simp [Op.operands,Call.operands]
   exact .inr (by simpa using ho)
  ·rw [ZB,e2]
   exact ht
 refine ZmB (Zl5 (objs (elO NT AT 0 νa e))) κe (γe ν) κe hc hw ?_ hpre (by rw [hk1];exact ZdE _ _ _) (fun k hk=>?_) (fun t o' hm=>?_) hp hr1 (ZdE _ _ _) rfl ?_
 ·rw [he]
  rfl
 ·obtain ⟨q,hq,e2⟩:=List.any_eq_true.1 hk
  simp only [beq_iff_eq] at e2
  subst e2
  exact ⟨q.2,hq⟩
 ·obtain ⟨g,hg⟩:=ZfD hm
  have hm2:κe t ∈ (elO NT AT 1001 ν e).map (·.1):=by
   rw [← hk1]
   exact List.mem_map.2 ⟨_,hm,rfl⟩
  obtain ⟨⟨t2,g2,o2⟩,hq,e2⟩:=List.mem_map.1 hm2
  rw [← e2]
  exact hes _ (ZoV hHas (List.mem_singleton.2 rfl) hq 2)
 ·have e1:mkS (Zau d p2 tm) ((usG κe (objs (elO NT AT 0 νa e)) (elO NT AT 1001 ν e)).reverse++ob) ng=mkS (Zau d p2 tm) ob ng:=Zfd fun t=>?_
  ·rw [e1];exact k
  ·rw [Zia (ZdE _ _ _)]
   by_cases h1:∃ q ∈ elO NT AT 1001 ν e,q.1=t
   ·rw [if_pos h1]
    obtain ⟨⟨t',g,o⟩,hq,rfl⟩:=h1
    have w:=Zbr [] (ZdE 1001 ν e) hq
    rw [List.append_nil] at w
    rw [w]
    exact (hHas _ _ _ hq).symm
   ·rw [if_neg h1,if_neg fun ⟨q,hq,e3⟩=>h1 (by
     have hm2:κe q.1 ∈ (elO NT AT 1001 ν e).map (·.1):=by
      rw [← hk1]
      exact List.mem_map.2 ⟨_,hq,rfl⟩
     rw [e3] at hm2
     obtain ⟨q2,hq2,e4⟩:=List.mem_map.1 hm2
     exact ⟨q2,hq2,e4⟩)]
omit [WInv P] in
theorem Zmq {σ:Gen→Option (Nat×Gen)} {b:Nat} {ν ν':Nat→Gen} {e:El} (h:∀ q ∈ elO NT AT b ν e,σ (ν q.1)=some (q.1,ν' q.1)):ZaN σ (elO NT AT b ν e)=some (elO NT AT b ν' e):=by
 obtain ⟨e1,e2,e3,e4,args⟩:=e
 have h0:=h _ (List.mem_cons_self ..)
 have h1:=h _ (List.mem_cons_of_mem _ (List.mem_cons_self ..))
 have h2:=h _ (List.mem_cons_of_mem _ (List.mem_cons_of_mem _ (List.mem_cons_self ..)))
 rcases args with _ | ⟨pre,a⟩
 ·simp only [elO,Zla,ZfS,ZaN,rnO,rnL,rn1,h0,h1,h2,Option.map_some,ZeY]
 ·have h3:=h _ (List.mem_cons_of_mem _ (List.mem_cons_of_mem _ (List.mem_cons_of_mem _ (List.mem_singleton.2 rfl))))
  have:ZeY σ (pre.map Arg.cs ++ [[.bool a.named,.sl a.name,.row (b+3) (ν (b+3))]])=some (pre.map Arg.cs ++ [[.bool a.named,.sl a.name,.row (b+3) (ν' (b+3))]]):=
   ZaB (Ziy pre) (by simp only [ZeY,rnL,rn1,h3,Option.map_some])
  simp only [elO,Zla,ZfS,ZaN,rnO,rnL,rn1,h0,h1,h2,h3,Option.map_some,this]
omit [WInv P] in
theorem Zky {σ:Gen→Option (Nat×Gen)} {ν ν':Nat→Gen}:∀ {r:List El},(∀ q ∈ ZeV NT AT ν r,σ (ν q.1)=some (q.1,ν' q.1))→ZaN σ (ZeV NT AT ν r)=some (ZeV NT AT ν' r)
 | [],_=>rfl
 | _::_,h=>Zag (Zmq fun q hq=>h q (List.mem_append_left _ hq)) (Zky fun q hq=>h q (List.mem_append_right _ hq))
omit [WInv P] in
theorem Zkz {σ:Gen→Option (Nat×Gen)} {ν ν':Nat→Gen}:∀ {r:List El},(∀ q ∈ ZeV NT AT ν r,σ (ν q.1)=some (q.1,ν' q.1))→ZeY σ (Zdh ν r)=some (Zdh ν' r)
 | [],_=>rfl
 | _::r,h=>ZaB (Zkz fun q hq=>h q (List.mem_append_right _ hq)) (by
   have:=h _ (List.mem_append_left _ (List.mem_cons_self ..))
   simp only [ZeY,rnL,rn1,this,Option.map_some])
omit [WInv P] in
theorem Zr4 {σ:Gen→Option (Nat×Gen)} {ν ν':Nat→Gen} {e:El} {r:List El} (h:∀ q ∈ stO NT AT ET ν e r,σ (ν q.1)=some (q.1,ν' q.1)):ZaN σ (stO NT AT ET ν e r)=some (stO NT AT ET ν' e r):=by
 have h0:=h _ (List.mem_cons_self ..)
 have h1:=h _ (List.mem_cons_of_mem _ (List.mem_cons_self ..))
 have h2:=h _ (List.mem_cons_of_mem _ (List.mem_cons_of_mem _ (List.mem_append_left _ (List.mem_cons_self ..))))
 have hl:∀ q ∈ ZeV NT AT ν r,σ (ν q.1)=some (q.1,ν' q.1):=fun q hq=>h q (List.mem_cons_of_mem _ (List.mem_cons_of_mem _ (List.mem_append_right _ hq)))
 have hp:ZeY σ (Zdh ν r ++ [[.ptr 1001 (ν 1001) 0]])=some (Zdh ν' r ++ [[.ptr 1001 (ν' 1001) 0]]):=ZaB (Zkz hl) (by simp only [ZeY,rnL,rn1,h2,Option.map_some])
 have he:=Zag (Zmq (NT:=NT) (AT:=AT) (σ:=σ) (b:=1001) (ν:=ν) (ν':=ν') (e:=e) fun q hq=>h q (List.mem_cons_of_mem _ (List.mem_cons_of_mem _ (List.mem_append_left _ hq)))) (Zky hl)
 simp only [stO,ZaN,rnO,rnL,rn1,h0,h1,Option.map_some,hp,he]
theorem ZjV {f:FuncId} {es:Array Operand} {ts:Array TypeId} {args:List PV} {e:El} {r:List El} {p p2:PV} {X X2:List (Nat×Gen×VObj)} {ob2:List (Nat×Option (Gen×VObj))} (lits:List (Nat×Option (Gen×VObj))) (ν:Nat→Gen)
  (hc:ContractG P f (.ptr 0 (0,0) 0::args) (objs (stO NT AT ET νa e r)) p X) (hob:ob=lits++somes (stO NT AT ET ν e r)) (hl:(lits.all fun q=>!Za5 q.1)=true)
  (hw:Zb ops (mkS tm ob ng) ⟨d,.call ⟨.value (.func f),es,ts⟩,ty,pos,after,gd⟩=some true) (he:es.toList.map (evL tm) = .ptr 0 (ν 0) 0::args) (ha:rnA (σ0 (κp id) (γp ν ν)) args=some args) (hp:rnP (σ1 (Zl5 (objs (stO NT AT ET νa e r))) (κp id) (γp ν ν) id ng i) p=some p2)
  (hX:ZaN (σ1 (Zl5 (objs (stO NT AT ET νa e r))) (κp id) (γp ν ν) id ng i) X=some X2) (hXn:(X.map (·.1)).Nodup) (h2:∀ t,Zg ((usG (κp id) (objs (stO NT AT ET νa e r)) X2).reverse++ob) t=Zg ob2 t)
  (k:GoL P ops draw (i+1) L (acc ++ [(Zr (mkS tm ob ng) ⟨d,.call ⟨.value (.func f),es,ts⟩,ty,pos,after,gd⟩,(usG (κp id) (objs (stO NT AT ET νa e r)) X2).map (·.1))]) (mkS (Zau d p2 tm) ob2 ng) K) :
  GoL P ops draw i (⟨d,.call ⟨.value (.func f),es,ts⟩,ty,pos,after,gd⟩::L) acc (mkS tm ob ng) K:=by
 have hHas:Has ob (stO NT AT ET ν e r):=by rw [hob];exact ZaU hl
 have par1:∀ {q:Nat×Gen×VObj} {ν:Nat→Gen} {e:El} {r:List El},q ∈ stO NT AT ET ν e r→Za5 q.1=true:=fun h=>Zc2 (by have:=(Zdi h).1;omega)
 have hσ0:∀ k,k=0∨1000≤k→σ0 (κp id) (γp ν ν) (νa k)=some (k,ν k):=fun k hk=>by simp [σ0,νa,κp,γp,Zc2 hk]
 have hpre:Zn9 (σ0 (κp id) (γp ν ν)) (κp id) (γp ν ν) (Zg ob) (objs (stO NT AT ET νa e r)):=Zku (ZjM hσ0 e r) hHas fun q hq=>by
  rw [(Zdi hq).2]
  simp only [σ0,νa,if_true]
 have hinj:((objs (stO NT AT ET νa e r)).map fun q=>κp id q.1).Nodup:=by
  have e1:(objs (stO NT AT ET νa e r)).map (fun q=>κp id q.1)=(stO NT AT ET νa e r).map (·.1):=by
   unfold objs
   rw [List.map_map]
   refine List.map_congr_left fun q hq=>?_
   simp [κp]
  rw [e1]
  exact Zay _ _ _
 refine ZmB (Zl5 (objs (stO NT AT ET νa e r))) (κp id) (γp ν ν) id hc hw ?_ hpre hinj (fun k hk=>?_) (fun t o' hm=>?_) hp hX hXn rfl ?_
 ·rw [he]
  show (match rnP _ (.ptr 0 (0,0) 0),rnA _ args with | some q,some qs=>some (q::qs) | _,_=>none)=_
  rw [ha]
  rfl
 ·obtain ⟨q,hq,e2⟩:=List.any_eq_true.1 hk
  simp only [beq_iff_eq] at e2
  subst e2
  exact ⟨q.2,hq⟩
 ·obtain ⟨g,hg⟩:=ZfD hm
  have hm2:t ∈ (stO NT AT ET ν e r).map (·.1):=by
   rw [Zer ν νa]
   exact List.mem_map.2 ⟨_,hg,rfl⟩
  obtain ⟨⟨t2,g2,o2⟩,hq,e2⟩:=List.mem_map.1 hm2
  change t2=t at e2
  subst e2
  have hk:κp id t2=t2:=by simp [κp]
  rw [hk]
  have hpm:PV.ptr 0 (ν 0) 0 ∈ es.toList.map (evL tm):=by rw [he];exact List.mem_cons_self ..
  obtain ⟨o,ho,e3⟩:=List.mem_map.1 hpm
  unfold Zr
  rw [if_neg (by simp [quiet])]
  refine List.mem_flatMap.2 ⟨o,?_,?_⟩
  ·rw [Zfw rfl]
   simp [Op.operands,Call.operands]
   exact .inr (by simpa using ho)
  ·rw [ZB,e3]
   exact ZmV hHas hq
 ·have e1:mkS (Zau d p2 tm) ((usG (κp id) (objs (stO NT AT ET νa e r)) X2).reverse++ob) ng=mkS (Zau d p2 tm) ob2 ng:=Zfd h2
  rw [e1]
  exact k
omit [WInv P] in
theorem Zs9 {e:El} {r:List El} {q:Nat×Gen×VObj} (h:q ∈ stO NT AT ET νa e r):Zl5 (objs (stO NT AT ET νa e r)) q.1=true:=List.any_eq_true.2 ⟨(q.1,q.2.2),List.mem_map.2 ⟨q,h,rfl⟩,by simp⟩
omit [WInv P] in
theorem Zo6 (ν:Nat→Gen) (ng i:Nat) (e:El) (r:List El):∀ q ∈ stO NT AT ET νa e r,σ1 (Zl5 (objs (stO NT AT ET νa e r))) (κp id) (γp ν ν) id ng i (νa q.1)=some (q.1,ν q.1):=fun q hq=>by
 have:=Zs9 hq
 simp only [σ1,νa,this,if_true]
 simp [κp,γp]
theorem ZO {f:FuncId} {es:Array Operand} {ts:Array TypeId} {args:List PV} {e:El} {r:List El} {p p2:PV} (lits:List (Nat×Option (Gen×VObj))) (ν:Nat→Gen)
  (hc:ContractG P f (.ptr 0 (0,0) 0::args) (objs (stO NT AT ET νa e r)) p (stO NT AT ET νa e r)) (hob:ob=lits++somes (stO NT AT ET ν e r)) (hl:(lits.all fun q=>!Za5 q.1)=true)
  (hw:Zb ops (mkS tm ob ng) ⟨d,.call ⟨.value (.func f),es,ts⟩,ty,pos,after,gd⟩=some true) (he:es.toList.map (evL tm) = .ptr 0 (ν 0) 0::args) (ha:rnA (σ0 (κp id) (γp ν ν)) args=some args) (hp:rnP (σ1 (Zl5 (objs (stO NT AT ET νa e r))) (κp id) (γp ν ν) id ng i) p=some p2)
  (k:GoL P ops draw (i+1) L (acc ++ [(Zr (mkS tm ob ng) ⟨d,.call ⟨.value (.func f),es,ts⟩,ty,pos,after,gd⟩,(usG (κp id) (objs (stO NT AT ET νa e r)) (stO NT AT ET ν e r)).map (·.1))]) (mkS (Zau d p2 tm) ob ng) K) :
  GoL P ops draw i (⟨d,.call ⟨.value (.func f),es,ts⟩,ty,pos,after,gd⟩::L) acc (mkS tm ob ng) K:=by
 have hHas:Has ob (stO NT AT ET ν e r):=by rw [hob];exact ZaU hl
 refine ZjV lits ν hc hob hl hw he ha hp (Zr4 (Zo6 ν ng i e r)) (Zay _ _ _) (fun t=>?_) k
 rw [Zia (Zay _ _ _)]
 by_cases h1:∃ q ∈ stO NT AT ET ν e r,q.1=t
 ·rw [if_pos h1]
  obtain ⟨⟨t',g,o⟩,hq,rfl⟩:=h1
  have w:=Zbr [] (Zay ν e r) hq
  rw [List.append_nil] at w
  rw [w]
  exact (hHas _ _ _ hq).symm
 ·rw [if_neg h1,if_neg fun ⟨q,hq,e3⟩=>h1 (by
   obtain ⟨g,hg⟩:=ZfD (l:=stO NT AT ET νa e r) (t:=q.1) (o:=q.2) hq
   have hm2:q.1 ∈ (stO NT AT ET ν e r).map (·.1):=by
    rw [Zer ν νa]
    exact List.mem_map.2 ⟨_,hg,rfl⟩
   obtain ⟨q2,hq2,e4⟩:=List.mem_map.1 hm2
   have hk:κp id q.1=q.1:=by simp [κp]
   exact ⟨q2,hq2,by rw [e4,← hk];exact e3⟩)]
theorem ZiQ {x:Operand} (hw:Zb ops (mkS tm ob ng) ⟨d,.nilCheck x,ty,pos,after,gd⟩=some true) {t q k off:Nat} {g:Gen} (hx:evL tm x = .elp t g q k off)
  (kk:GoL P ops draw (i+1) L (acc ++ [(Zr (mkS tm ob ng) ⟨d,.nilCheck x,ty,pos,after,gd⟩,[])]) (mkS (Zau d (.elp t g q k off) tm) ob ng) K):GoL P ops draw i (⟨d,.nilCheck x,ty,pos,after,gd⟩::L) acc (mkS tm ob ng) K:=
 Zby (us:=[]) hw (.fn (by simp only [act,ZB,hx])) kk
theorem Zbv {x y:Operand} {T:TypeId} {agg:Bool} {n:Nat} [Ld P T agg n] (hw:Zb ops (mkS tm ob ng) ⟨d,.store T x y,ty,pos,after,gd⟩=some true) {t:Nat} {g:Gen} {E q kk off:Nat} {els els':List (List PV)} {e:List PV} {p:PV} {ps qs:List PV} {us:List (Nat×Option (Gen×VObj))}
  (hx:evL tm x = .elp t g q kk off) (hb:ZG (Zg ob) t g=some (.row E kk false els)) (he:els[q]? = some e) (hy:evL tm y=p) (hps:p.cells=ps) (hl:ps.length=n) (hr:Zdy (Zg ob) ps=some (qs,us)) (hf:off+n≤kk) (hus:us.all (fun q=>q.1 != t)=true) (hs:els.set q (Zaa e off qs)=els')
  (k:GoL P ops draw (i+1) L (acc ++ [(Zr (mkS tm ob ng) ⟨d,.store T x y,ty,pos,after,gd⟩,(us ++ [(t,some (g,VObj.row E kk false els'))]).map (·.1))]) (mkS (Zau d .un tm) ((t,some (g,VObj.row E kk false els'))::(us.reverse++ob)) ng) K) :
  GoL P ops draw i (⟨d,.store T x y,ty,pos,after,gd⟩::L) acc (mkS tm ob ng) K:=by
 subst hs
 refine Zi4 hw hx hb he hy hps hl hr hf hus ?_
 simpa using k
theorem ZfH {x:Operand} {T:TypeId} {agg:Bool} {n:Nat} [h:Ld P T agg n] (hw:Zb ops (mkS tm ob ng) ⟨d,.load T x,ty,pos,after,gd⟩=some true) {els:List (List PV)} {e:List PV} {q t:Nat} {g:Gen} {E kk off:Nat} {sh:Bool} {v:PV} (hx:evL tm x = .elp t g q kk off) (hb:ZG (Zg ob) t g=some (.row E kk sh els)) (he:els[q]? = some e) (hv:ZlI agg n (e.drop off)=some v)
  (k:GoL P ops draw (i+1) L (acc ++ [(Zr (mkS tm ob ng) ⟨d,.load T x,ty,pos,after,gd⟩,[])]) (mkS (Zau d v tm) ob ng) K):GoL P ops draw i (⟨d,.load T x,ty,pos,after,gd⟩::L) acc (mkS tm ob ng) K:=by
 refine ZA (cs:=e.drop off) hw ?_ hv k
 rw [hx]
 simp only [ZeD,hb,if_true,he,Option.map_some]
omit [WInv P] in
theorem ZdN {ex:Ex} (hex:ex = .ret∨ex = .normal) (n0 n1:Gen) (μ ν:Nat→Gen) {e0 e':El} {r:List El} (A:List (Nat×Option (Gen×VObj))) (tm':List (Nat×PV)) {rs:List ResultVar} {res:PV} {ps:List PV} (hob:ob=A++somes (stO NT AT ET ν e0 r)) (hA:(A.all fun q=>decide (q.1<2000))=true) (h1:Zfs (σf (topf n0 n1 μ ν)) tm tm')
  (a0:Zg ob 0=some (n0,.box [.row 1000 n1])) (a1:Zg ob 1000=some (n1,.prow ET 1 (Zdh ν r ++ [[.ptr 1001 (μ 1001) 0]]))) (a2:Has ob (elO NT AT 1001 μ e')) (h2:ZbX P (mkS tm' (somes (stO NT AT ET νb e' r)) 2) rs=some ps) (h3:ZbY ps=res) (h00:n0=(0,0):=by rfl) :
  Zp4 P rs res (stO NT AT ET νb e' r) ex (mkS tm ob ng):=by
 have hs:Shift (mkS tm ob ng) (mkS tm' (somes (stO NT AT ET νb e' r)) 2):=Zpf n0 n1 μ ν tm' h1 a0 a1 a2 (by rw [hob];exact ZcI hA) h00
 have hH:Has (somes (stO NT AT ET νb e' r)) (stO NT AT ET νb e' r):=ZaU (lits:=[]) rfl
 rcases hex with rfl | rfl
 ·exact ZgJ hs h2 h3 hH
 ·exact ZiV hs h2 h3 hH
theorem ZbE {α:Type} (l:List α) (a b:α):(l ++ [a]).set l.length b=l ++ [b]:=by
 rw [List.set_append_right _ _ (Nat.le_refl _),Nat.sub_self]
 rfl
theorem Zbc {α:Type} (l:List α) (a:α):(l ++ [a])[l.length]? = some a:=by
 rw [List.getElem?_append_right (Nat.le_refl _),Nat.sub_self]
 rfl
end
end VL
end Go.Proofs.YtjblgpmagampbaaGreatDoor
namespace Go.Proofs.YtjblgpmagampbaaGreatDoor
namespace VL
section
variable {P:Program} {NT AT ET:Nat} {tm:List (Nat×PV)} {ob:List (Nat×Option (Gen×VObj))} {ng:Nat}
theorem Zdo {ex:Ex} {rs:List ResultVar} {res:PV} {obs':List (Nat×Gen×VObj)} {s s1:FS} (h:Shift s s1) (k:Zp4 P rs res obs' ex s1):Zp4 P rs res obs' ex s:=by
 cases ex with
 | exit id=>exact k
 | normal=>obtain ⟨s2,h2,q⟩:=k;exact ⟨s2,h.trans h2,q⟩
 | ret=>obtain ⟨s2,h2,q⟩:=k;exact ⟨s2,h.trans h2,q⟩
theorem ZqM (ν:Nat→Gen) (r:List El) (p:List PV):(Zdh ν r ++ [p]).take r.length=Zdh ν r:=by
 have:=List.take_left (l₁:=Zdh ν r) (l₂:=[p])
 rwa [ZgI] at this
def Zl6 (NT AT ET:Nat) (ν:Nat→Gen) (n1:Gen) (e e2:El) (r:List El):List (Nat×Gen×VObj):=(0,ν 0,.box [.row 1000 n1])::(1000,n1,.prow ET 1 (Zdh ν (e2::r)))::(elO NT AT 1001 ν e++ZeV NT AT ν (e2::r))
theorem Zi2 (ν:Nat→Gen) (n1:Gen) (e e2:El) (r:List El):(Zl6 NT AT ET ν n1 e e2 r).map (·.1)=(stO NT AT ET ν e (e2::r)).map (·.1):=rfl
theorem ZqN (n1:Gen) {e e2:El} {r:List El} (A:List (Nat×Option (Gen×VObj))) (tm':List (Nat×PV)) {rs:List ResultVar} {res:PV} {ps:List PV} (hob:ob=A++somes (stO NT AT ET νa e (e2::r))) (hA:(A.all fun q=>decide (q.1≤1000))=true)
  (h1:Zfs (σf fun _=>(1000,n1)) tm tm') (a0:Zg ob 0=some ((0,0),.box [.row 1000 n1])) (a1:Zg ob 1000=some (n1,.prow ET 1 (Zdh νa (e2::r)))) (h2:ZbX P (mkS tm' (somes (Zl6 NT AT ET νa (1,1000) e e2 r)) 2) rs=some ps) (h3:ZbY ps=res) :
  Zp4 P rs res (Zl6 NT AT ET νa (1,1000) e e2 r) .ret (mkS tm ob ng):=by
 have hA1:(A.all fun q=>decide (q.1<2000))=true:=List.all_eq_true.2 fun q hq=>by
  have:=List.all_eq_true.1 hA q hq
  simp only [decide_eq_true_eq] at this ⊢
  omega
 have hA2:(A.all fun q=>decide (q.1≤1000)||decide (1005≤q.1))=true:=List.all_eq_true.2 fun q hq=>by
  have:=List.all_eq_true.1 hA q hq
  simp only [decide_eq_true_eq] at this
  simp [this]
 have k0:∀ k,σf (fun _=>(1000,n1)) (νa k)=some (k,νa k):=fun k=>rfl
 have hp:=Zhb (σ:=σf fun _=>(1000,n1)) (ν:=νa) (ν':=νa) (fun k _=>k0 k) (e2::r)
 have he:=Zag (Zgx (NT:=NT) (AT:=AT) (b:=1001) (b':=1001) (ν':=νa) (fun j _=>k0 _) e) (Zha (NT:=NT) (AT:=AT) (fun k _=>k0 k) (e2::r))
 have hx:ZaN (σf fun _=>(1000,n1)) (Zl6 NT AT ET νa (1,1000) e e2 r)=some (Zl6 NT AT ET νa n1 e e2 r):=by
  have e0:σf (fun _=>(1000,n1)) (νa 0)=some (0,νa 0):=rfl
  have e1:σf (fun _=>(1000,n1)) (1,1000)=some (1000,n1):=rfl
  simp only [Zl6,ZaN,rnO,rnL,rn1,e0,e1,Option.map_some,hp,he]
 have hn:∀ n1,((Zl6 NT AT ET νa n1 e e2 r).map (·.1)).Nodup:=fun n1=>by rw [Zi2];exact Zay _ _ _
 refine ZgJ (ZeK _ h1 hx (Zk a0 (Zk a1 (ZiU (by rw [hob];exact Zrw hA2) (by rw [hob];exact ZcI hA1)))) (hn _)) h2 h3 fun t g o hm=>?_
 have:=Zbr [] (hn (1,1000)) hm
 rwa [List.append_nil] at this
theorem Zpo {ν:Nat→Gen} {e:El} {r:List El} {lits:List (Nat×Option (Gen×VObj))} (h:(lits.all fun q=>!Za5 q.1)=true):mkS tm (somes (stO NT AT ET ν e r)++lits) ng=mkS tm (lits++somes (stO NT AT ET ν e r)) ng:=Zfd fun t=>by
 by_cases ht:∃ q ∈ stO NT AT ET ν e r,q.1=t
 ·obtain ⟨⟨t',g,o⟩,hq,rfl⟩:=ht
  rw [Zbr _ (Zay ν e r) hq]
  exact (ZaU h _ _ _ hq).symm
 ·have e1:∀ b,Zg (somes (stO NT AT ET ν e r)++b) t=Zg b t:=fun b=>ZbB _ _ _ fun q hq hqt=>by
   obtain ⟨g,o,h,_⟩:=Zfz hq
   exact ht ⟨_,h,hqt⟩
  have e2:Zg (somes (stO NT AT ET ν e r)) t=none:=by
   have:=e1 []
   rwa [List.append_nil] at this
  rw [e1]
  have:∀ (l:List (Nat×Option (Gen×VObj))),Zg l t=Zg (l++somes (stO NT AT ET ν e r)) t:=fun l=>by
   induction l with
   | nil=>exact e2.symm
   | cons q l ih=>
     show (if t=q.1 then q.2 else Zg l t)=if t=q.1 then q.2 else Zg (l++somes (stO NT AT ET ν e r)) t
     rw [ih]
  exact this lits
theorem Zpp {ex:Ex} (hex:ex = .ret∨ex = .normal) (n0 n1 m1 m2 m3:Gen) (k1 k2 k3:Nat) (ν:Nat→Gen) {e:El} {r:List El} {kind tag count:Int} {list:List (List PV)} (A:List (Nat×Option (Gen×VObj))) (tm':List (Nat×PV)) {rs:List ResultVar} {res:PV} {ps:List PV} (hob:ob=A++somes (stO NT AT ET ν e r)) (hA:(A.all fun q=>decide (q.1≤1000))=true)
  (h1:Zfs (σf (pushf n0 n1 m1 m2 m3 k1 k2 k3 ν (Za4 r))) tm tm') (a0:Zg ob 0=some (n0,.box [.row 1000 n1])) (a1:Zg ob 1000=some (n1,.prow ET 1 (Zdh ν r ++ [[.ptr 1001 (ν 1001) 0]] ++ [[.ptr k1 m1 0]])))
  (b1:Zg ob k1=some (m1,.box [.int .i64 kind,.int .i64 tag,.int .i64 count,.row k2 m2,.row k3 m3])) (b2:Zg ob k2=some (m2,.row NT 5 false list)) (b3:Zg ob k3=some (m3,.prow AT 3 [])) (hk:(decide ([k1,k2,k3].Nodup) && [k1,k2,k3].all fun k=>!Za5 k)=true)
  (h2:ZbX P (mkS tm' (somes (stO NT AT ET νb ⟨kind,tag,count,list,none⟩ (e::r))) 2) rs=some ps) (h3:ZbY ps=res) (h00:n0=(0,0):=by rfl):Zp4 P rs res (stO NT AT ET νb ⟨kind,tag,count,list,none⟩ (e::r)) ex (mkS tm ob ng):=by
 have hA1:(A.all fun q=>decide (q.1<2000))=true:=List.all_eq_true.2 fun q hq=>by
  have:=List.all_eq_true.1 hA q hq
  simp only [decide_eq_true_eq] at this ⊢
  omega
 have hA2:(A.all fun q=>decide (q.1≤1000)||decide (1005≤q.1))=true:=List.all_eq_true.2 fun q hq=>by
  have:=List.all_eq_true.1 hA q hq
  simp only [decide_eq_true_eq] at this
  simp [this]
 have hs:Shift (mkS tm ob ng) (mkS tm' (somes (stO NT AT ET νb ⟨kind,tag,count,list,none⟩ (e::r))) 2):=ZnQ n0 n1 m1 m2 m3 k1 k2 k3 ν tm' h1 a0 a1 b1 b2 b3 hk (by rw [hob];exact Zrw hA2) (by rw [hob];exact ZcI hA1) h00
 have hH:Has (somes (stO NT AT ET νb ⟨kind,tag,count,list,none⟩ (e::r))) (stO NT AT ET νb ⟨kind,tag,count,list,none⟩ (e::r)):=ZaU (lits:=[]) rfl
 rcases hex with rfl | rfl
 ·exact ZgJ hs h2 h3 hH
 ·exact ZiV hs h2 h3 hH
end
end VL
end Go.Proofs.YtjblgpmagampbaaGreatDoor
namespace Go.Proofs.YtjblgpmagampbaaGreatDoor
open VL
abbrev stP (ν:Nat→Gen) (e:El) (r:List El):List (Nat×Gen×VObj):=stO 197 256 243 ν e r
abbrev elP (b:Nat) (ν:Nat→Gen) (e:El):List (Nat×Gen×VObj):=elO 197 256 b ν e
abbrev PC (f:FuncId) (args:List PV) (e:El) (r:List El) (res:PV) (e':El) (r':List El):Prop:=ZtN 197 256 243 Tryz.prog f args e r res e' r'
set_option maxRecDepth 100000 in
theorem Zc7 (e:El) (r:List El) (hr:r.length≤1000):ContractG Tryz.prog 171 [.ptr 0 (0,0) 0] (objs (stP νa e r)) (.ptr 1001 (0,1001) 0) (stP νa e r):=by
 refine Zy mix Tryz.func171 (by kernel_rfl) rfl (by kernel_rfl) ?_
 rw [ZbF]
 repeat (first | (refine ZaW rfl rfl (ZbD _ _ _) ?_) | (refine ZfU rfl rfl rfl (by omega) ?_) | (refine Zd9 rfl rfl rfl rfl (by rw [ZbD];omega) ?_) | (refine Zcq rfl rfl rfl (Zmo _ _ _) rfl ?_) | refine Zhp ?_)
 exact ZgJ (Shift.refl _) rfl rfl (ZaU (lits:=[]) rfl)
abbrev ZtM (f:FuncId) (e:El) (p:PV):Prop:=ContractG Tryz.prog f [.ptr 0 (0,0) 0] (objs (elP 0 νa e)) p (elP 0 νa e)
theorem Zd7 (b:Nat) (ν:Nat→Gen) (pre:List Arg) (a:Arg):(ZfS b ν (some (pre,a))).length=pre.length+1:=by simp [ZfS]
theorem ZaI (b:Nat) (ν:Nat→Gen) (pre:List Arg) (a:Arg):(ZfS b ν (some (pre,a)))[pre.length]? = some [.bool a.named,.sl a.name,.row (b+3) (ν (b+3))]:=by simp [ZfS]
theorem ZfF (b:Nat) (ν:Nat→Gen) (pre:List Arg) (a:Arg) (x:List PV):(ZfS b ν (some (pre,a))).set pre.length x=pre.map Arg.cs ++ [x]:=by
 have:=ZbE (pre.map Arg.cs) [.bool a.named,.sl a.name,.row (b+3) (ν (b+3))] x
 rwa [List.length_map] at this
theorem ZmW {e:El} {rs:List ResultVar} {res:PV} {ps:List PV} {tm:List (Nat×PV)} {ng:Nat} (h2:ZbX Tryz.prog (mkS tm (obG (objs (elP 0 νa e))) ng) rs=some ps) (h3:ZbY ps=res) :
  Zp4 Tryz.prog rs res (elP 0 νa e) .ret (mkS tm (obG (objs (elP 0 νa e))) ng):=by
 have ho:obG (objs (elP 0 νa e))=somes (elP 0 νa e):=by
  unfold obG objs somes
  rw [List.map_map]
  refine List.map_congr_left fun q hq=>?_
  have:=(ZcT hq).2.2
  simp only [Function.comp]
  rw [show ((0,q.1):Gen)=q.2.1 from this.symm]
 refine ZgJ (Shift.refl _) h2 h3 fun t g o hm=>?_
 rw [ho]
 have:=Zbr [] (ZdE (NT:=197) (AT:=256) 0 νa e) hm
 rwa [List.append_nil] at this
set_option maxRecDepth 100000 in
theorem Zbp (e:El) (h:e.kind≠3∨e.args=none) (hn:∀ q,e.args=some q→q.1.length≤1000000):ZtM 303 e (.ptr 0 (0,0) 3):=by
 obtain ⟨kind,tag,count,list,args⟩:=e
 refine Zy mix Tryz.func303 (by kernel_rfl) rfl (by kernel_rfl) ?_
 by_cases hk:kind=3
 ·obtain rfl:args=none:=h.resolve_left (fun h=>h hk)
  subst hk
  repeat (first | (refine ZaW (n:=0) rfl rfl rfl ?_) | (refine Zf rfl rfl ?_) | refine Zhp ?_)
  exact ZmW rfl rfl
 ·cases args with
  | none=>
    repeat (first | (refine ZaW (n:=0) rfl rfl rfl ?_) | refine Zhp ?_)
    rw [decide_eq_false hk]
    repeat (first | (refine ZI rfl ?_) | (refine Zf rfl rfl ?_) | refine Zhp ?_)
    exact ZmW rfl rfl
  | some q=>
    obtain ⟨pre,a⟩:=q
    repeat (first | (refine ZaW rfl rfl (Zd7 ..) ?_) | refine Zhp ?_)
    rw [decide_eq_false hk]
    repeat (first | (refine ZI rfl ?_) | (refine Zf rfl rfl ?_) | refine Zhp ?_)
    exact ZmW rfl rfl
set_option maxRecDepth 100000 in
theorem ZeI (tag count:Int) (list:List (List PV)) (pre:List Arg) (a:Arg) (hn:pre.length≤1000000):ZtM 303 ⟨3,tag,count,list,some (pre,a)⟩ (.elp 2 (0,2) pre.length 3 2):=by
 refine Zy mix Tryz.func303 (by kernel_rfl) rfl (by kernel_rfl) ?_
 repeat (first | (refine ZaW rfl rfl (Zd7 ..) ?_) | refine Zhp ?_)
 have h0:decide ((0:Int)<((pre.length+1:Nat):Int))=true:=decide_eq_true (by omega)
 rw [h0]
 repeat (first | (refine ZfU rfl rfl rfl (by omega) ?_) | (refine Zo rfl rfl ?_) | (refine Zd9 rfl rfl rfl rfl (by rw [Zd7];omega) ?_) | refine Zhp ?_)
 exact ZmW rfl rfl
def Zts:List PV→Option Node
 | [.int .i64 k,.int .i64 t,.str s,.sl a,.sl b]=>some ⟨k,t,s,a,b⟩
 | _=>none
theorem ZlA {e:List PV} {n:Node} (h:Zts e=some n):e=n.cs:=by
 unfold Zts at h
 split at h
 ·injection h with h
  subst h
  rfl
 ·cases h
def VL.El.cur (e:El):List (List PV):=match e.args with
 | some (_,a)=>if e.kind=3 then a.value else e.list
 | none=>e.list
def VL.El.setCur (e:El) (l:List (List PV)):El:=match e.args with
 | some (pre,a)=>if e.kind=3 then ⟨e.kind,e.tag,e.count,e.list,some (pre,⟨a.named,a.name,l⟩)⟩ else ⟨e.kind,e.tag,e.count,l,e.args⟩
 | none=>⟨e.kind,e.tag,e.count,l,none⟩
def ZlB (l:List (List PV)) (n:Node):Option (List (List PV)):=ZfA 80 l [n.cs]
def ZnP (l:List (List PV)) (s:ByteArray):Option (List (List PV)):=match l.getLast? with
 | none=>ZlB l ⟨1,0,s,[],[]⟩
 | some e=>(Zts e).bind fun n=>if n.kind=1 then (Zp3 n.text s).map fun y=>l.dropLast ++ [Node.cs ⟨1,n.tag,y,n.kids,n.args⟩] else ZlB l ⟨1,0,s,[],[]⟩
theorem ZeL {l l':List (List PV)} {s:ByteArray} (h:ZnP l s=some l'):(l = []∧ZlB l ⟨1,0,s,[],[]⟩=some l')∨∃ init n,l=init ++ [Node.cs n]∧((n.kind=1∧∃ y,Zp3 n.text s=some y∧l'=init ++ [Node.cs ⟨1,n.tag,y,n.kids,n.args⟩])∨(n.kind≠1∧ZlB l ⟨1,0,s,[],[]⟩=some l')):=by
 unfold ZnP at h
 split at h
 ·rename_i hl
  exact .inl ⟨List.getLast?_eq_none_iff.1 hl,h⟩
 ·rename_i e hl
  obtain ⟨n,hn,h⟩:=Option.bind_eq_some_iff.1 h
  obtain ⟨init,rfl⟩:=List.getLast?_eq_some_iff.1 hl
  refine .inr ⟨init,n,by rw [ZlA hn],?_⟩
  split at h
  ·rename_i hk
   obtain ⟨y,hy,rfl⟩:=Option.map_eq_some_iff.1 h
   exact .inl ⟨hk,y,hy,by rw [List.dropLast_concat]⟩
  ·rename_i hk
   exact .inr ⟨hk,h⟩
def small (e:El) (r:List El):Prop:=r.length≤1000∧∀ q,e.args=some q→q.1.length≤1000000
def ZkC (e:El) (n:Node):Option El:=(ZlB e.cur n).map e.setCur
def ZcH (e:El) (s:ByteArray):Option El:=if s=⟨#[]⟩ then some e else (ZnP e.cur s).map e.setCur
set_option maxRecDepth 100000 in
theorem ZlC (e:El) (r:List El) (n:Node) (hs:small e r) (l':List (List PV)) (h:e.kind≠3∨e.args=none) (hR:ZlB e.list n=some l'):PC 241 [.agg n.cs] e r (.tup []) ⟨e.kind,e.tag,e.count,l',e.args⟩ r:=by
 refine Zy mix Tryz.func241 (by kernel_rfl) rfl (by kernel_rfl) ?_
 rw [ZbF]
 obtain ⟨h1,h2,rfl⟩:=Zb0 hR
 obtain ⟨kind,tag,count,list,args⟩:=e
 rcases args with _ | ⟨pre,a⟩
 ·repeat (first | (refine ZO [_] νa (Zc7 _ r hs.1) rfl rfl rfl rfl rfl rfl ?_) | (refine Zbu [_] νa (Zbp _ h hs.2) rfl rfl rfl rfl rfl ?_) | (refine Za2 rfl rfl rfl rfl h1 h2 (by rfl) ?_) | (refine Zaf (n:=list.length) rfl rfl rfl rfl (by simp) ?_) | (refine Zbv rfl rfl rfl (Zbc _ _) rfl rfl rfl rfl (Nat.le_of_ble_eq_true rfl) rfl (ZbE _ _ _) ?_) | refine Zm rfl (by (conv=>lhs;whnf);try rfl) ?_ | refine ZA rfl rfl rfl ?_ | refine Zn rfl (by (conv=>lhs;whnf);try rfl) ?_ | refine Zak rfl rfl ?_ | refine ZgT rfl rfl ?_ | refine Zjw rfl (by (conv=>lhs;whnf);try rfl) (by (conv=>lhs;whnf);try rfl) (by rfl) ?_ | refine Zap rfl rfl rfl (by (conv=>lhs;whnf);try rfl) (by (conv=>lhs;whnf);try rfl) (by rfl) (by rfl) (Nat.le_of_ble_eq_true rfl) (by (conv=>lhs;whnf);try rfl) ?_ | refine ZP rfl rfl rfl (by rfl) (by decide) (by (conv=>lhs;whnf);try rfl) ?_ | refine Zc ?_ | refine ZbS (by kernel_rfl) ?_ | refine Zh ?_ | refine Za ?_ | refine Zx ?_)
  exact ZdN (.inr rfl) (0,0) (0,1000) (fun k=>if k=1002 then (3,6) else νa k) νa [_,_,_,_,_] [] rfl rfl trivial rfl rfl (Zk rfl (Zk rfl (Zk rfl (ZH _)))) rfl rfl
 ·repeat (first | (refine ZO [_] νa (Zc7 _ r hs.1) rfl rfl rfl rfl rfl rfl ?_) | (refine Zbu [_] νa (Zbp _ h hs.2) rfl rfl rfl rfl rfl ?_) | (refine Za2 rfl rfl rfl rfl h1 h2 (by rfl) ?_) | (refine Zaf (n:=list.length) rfl rfl rfl rfl (by simp) ?_) | (refine Zbv rfl rfl rfl (Zbc _ _) rfl rfl rfl rfl (Nat.le_of_ble_eq_true rfl) rfl (ZbE _ _ _) ?_) | refine Zm rfl (by (conv=>lhs;whnf);try rfl) ?_ | refine ZA rfl rfl rfl ?_ | refine Zn rfl (by (conv=>lhs;whnf);try rfl) ?_ | refine Zak rfl rfl ?_ | refine ZgT rfl rfl ?_ | refine Zjw rfl (by (conv=>lhs;whnf);try rfl) (by (conv=>lhs;whnf);try rfl) (by rfl) ?_ | refine Zap rfl rfl rfl (by (conv=>lhs;whnf);try rfl) (by (conv=>lhs;whnf);try rfl) (by rfl) (by rfl) (Nat.le_of_ble_eq_true rfl) (by (conv=>lhs;whnf);try rfl) ?_ | refine ZP rfl rfl rfl (by rfl) (by decide) (by (conv=>lhs;whnf);try rfl) ?_ | refine Zc ?_ | refine ZbS (by kernel_rfl) ?_ | refine Zh ?_ | refine Za ?_ | refine Zx ?_)
  exact ZdN (.inr rfl) (0,0) (0,1000) (fun k=>if k=1002 then (3,6) else νa k) νa [_,_,_,_,_] [] rfl rfl trivial rfl rfl (Zk rfl (Zk rfl (Zk rfl (Zk rfl (ZH _))))) rfl rfl
set_option maxRecDepth 100000 in
theorem ZqD (tag count:Int) (list:List (List PV)) (pre:List Arg) (a:Arg) (r:List El) (n:Node) (hs:small ⟨3,tag,count,list,some (pre,a)⟩ r) (l':List (List PV)) (hR:ZlB a.value n=some l') :
  PC 241 [.agg n.cs] ⟨3,tag,count,list,some (pre,a)⟩ r (.tup []) ⟨3,tag,count,list,some (pre,⟨a.named,a.name,l'⟩)⟩ r:=by
 refine Zy mix Tryz.func241 (by kernel_rfl) rfl (by kernel_rfl) ?_
 rw [ZbF]
 obtain ⟨h1,h2,rfl⟩:=Zb0 hR
 repeat (first | (refine ZO [_] νa (Zc7 _ r hs.1) rfl rfl rfl rfl rfl rfl ?_) | (refine Zbu [_] νa (ZeI _ _ _ _ _ (hs.2 _ rfl)) rfl rfl rfl rfl rfl ?_) | (refine ZiQ rfl rfl ?_) | (refine Zcq rfl rfl rfl (ZaI _ _ _ _) rfl ?_) | (refine Za2 rfl rfl rfl rfl h1 h2 (by rfl) ?_) | (refine Zaf (n:=a.value.length) rfl rfl rfl rfl (by simp) ?_) | (refine Zbv rfl rfl rfl (Zbc _ _) rfl rfl rfl rfl (Nat.le_of_ble_eq_true rfl) rfl (ZbE _ _ _) ?_) | (refine Zid rfl rfl rfl (ZaI _ _ _ _) rfl rfl rfl rfl (Nat.le_of_ble_eq_true rfl) (ZfF _ _ _ _ _) ?_) | refine Zm rfl (by (conv=>lhs;whnf);try rfl) ?_ | refine ZA rfl rfl rfl ?_ | refine Zn rfl (by (conv=>lhs;whnf);try rfl) ?_ | refine ZgT rfl rfl ?_ | refine Zjw rfl (by (conv=>lhs;whnf);try rfl) (by (conv=>lhs;whnf);try rfl) (by rfl) ?_ | refine ZP rfl rfl rfl (by rfl) (by decide) (by (conv=>lhs;whnf);try rfl) ?_ | refine Zc ?_ | refine ZbS (by kernel_rfl) ?_ | refine Zh ?_ | refine Za ?_ | refine Zx ?_)
 exact ZdN (.inr rfl) (0,0) (0,1000) (fun k=>if k=1004 then (3,6) else νa k) νa [_,_,_,_,_] [] rfl rfl trivial rfl rfl (Zk rfl (Zk rfl (Zk rfl (Zk rfl (ZH _))))) rfl rfl
end Go.Proofs.YtjblgpmagampbaaGreatDoor
