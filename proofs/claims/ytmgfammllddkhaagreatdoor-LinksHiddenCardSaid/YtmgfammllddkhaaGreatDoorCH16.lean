/- Functions of the program as Lean functions. Written by fxgen.py. -/
import Derived.Test.YtmgfammllddkhaaGreatDoorCH15
import Derived.Test.YtmgfammllddkhaaGreatDoorCH06
set_option linter.unusedVariables false
set_option maxHeartbeats 4000000
set_option maxRecDepth 100000
namespace Go.Proofs.YtmgfammllddkhaaGreatDoor
open VL
def ZdE (p0:Int):Option Int:=
 letk (fun (x2:Int) (x3:Int)=>
  letk (fun (x5:Int) (x6:Int)=>
   letk (fun (x8:Int) (x9:Int)=>
    (atS (⟨#[0,1,2,2,3,3,3,3,4,4,4,4,4,4,4,4,5,5,5,5,5,5,5,5,5,5,5,5,5,5,5,5,6,6,6,6,6,6,6,6,6,6,6,6,6,6,6,6,6,6,6,6,6,6,6,6,6,6,6,6,6,6,6,6,7,7,7,7,7,7,7,7,7,7,7,7,7,7,7,7,7,7,7,7,7,7,7,7,7,7,7,7,7,7,7,7,7,7,7,7,7,7,7,7,7,7,7,7,7,7,7,7,7,7,7,7,7,7,7,7,7,7,7,7,7,7,7,7,8,8,8,8,8,8,8,8,8,8,8,8,8,8,8,8,8,8,8,8,8,8,8,8,8,8,8,8,8,8,8,8,8,8,8,8,8,8,8,8,8,8,8,8,8,8,8,8,8,8,8,8,8,8,8,8,8,8,8,8,8,8,8,8,8,8,8,8,8,8,8,8,8,8,8,8,8,8,8,8,8,8,8,8,8,8,8,8,8,8,8,8,8,8,8,8,8,8,8,8,8,8,8,8,8,8,8,8,8,8,8,8,8,8,8,8,8,8,8,8,8,8,8,8,8,8,8,8]⟩:ByteArray) (IntKind.wrap .u8 x8)).bind fun c10=>
    (some (w64 (x9+(IntKind.wrap .i64 c10))):Option Int)) fun k3=>
   if (decide (256≤x5)) then
    (Zqa .u64 x5 8).bind fun q11=>
    k3 q11 (w64 (x6+8))
   else
   k3 x5 x6) fun k2=>
  if (decide (65536≤x2)) then
   (Zqa .u64 x2 16).bind fun q12=>
   k2 q12 (w64 (x3+16))
  else
  k2 x2 x3) fun k1=>
 if (decide (4294967296≤p0)) then
  (Zqa .u64 p0 32).bind fun q13=>
  k1 q13 32
 else
 k1 p0 0
theorem ZgY (p0:Int) (r:Int) (h:ZdE p0=some r):ZH Tryz.prog 128 [.int .u64 p0] (.int .i64 r):=by
 refine cF (fun r=>.int .i64 r) h mix Tryz.func128 fun r h=>?_
 unfold ZdE at h
 refine ZW ?_
 refine rg ?_
 refine rg ?_
 refine ZbS h fun k1 hk1 h=>?_
 refine ZbC (α:=Int×Int) (fun a _=>mkS [(0,.int .u64 a.1),(2,.int .i64 a.2)] [] 2) (fun a=>k1 a.1 a.2=some r) (ZW ?_) (fun a _ h=>?_)
 ·refine cS h rfl (fun h=>?_) fun h=>?_
  ·refine rg ?_
   obtain ⟨q13,h7,h⟩:=bnd h
   refine ZiA rfl h7 rfl rfl (ZW ?_)
   refine rg ?_
   exact jn (q13,32) h (sR [])
  exact jn (p0,0) h (sR [])
 obtain ⟨x2,x3⟩:=a
 subst hk1
 dsimp only at h ⊢
 refine ZW ?_
 refine rg ?_
 refine ZbS h fun k2 hk2 h=>?_
 refine ZbC (α:=Int×Int) (fun a _=>mkS [(0,.int .u64 a.1),(2,.int .i64 a.2)] [] 2) (fun a=>k2 a.1 a.2=some r) (ZW ?_) (fun a _ h=>?_)
 ·refine cS h rfl (fun h=>?_) fun h=>?_
  ·refine rg ?_
   obtain ⟨q12,h6,h⟩:=bnd h
   refine ZiA rfl h6 rfl rfl (ZW ?_)
   refine rg ?_
   exact jn (q12,(w64 (x3+16))) h (sR [])
  exact jn (x2,x3) h (sR [])
 obtain ⟨x5,x6⟩:=a
 subst hk2
 dsimp only at h ⊢
 refine ZW ?_
 refine rg ?_
 refine ZbS h fun k3 hk3 h=>?_
 refine ZbC (α:=Int×Int) (fun a _=>mkS [(0,.int .u64 a.1),(2,.int .i64 a.2)] [] 2) (fun a=>k3 a.1 a.2=some r) (ZW ?_) (fun a _ h=>?_)
 ·refine cS h rfl (fun h=>?_) fun h=>?_
  ·refine rg ?_
   obtain ⟨q11,h5,h⟩:=bnd h
   refine ZiA rfl h5 rfl rfl (ZW ?_)
   refine rg ?_
   exact jn (q11,(w64 (x6+8))) h (sR [])
  exact jn (x5,x6) h (sR [])
 obtain ⟨x8,x9⟩:=a
 subst hk3
 dsimp only at h ⊢
 refine ZW ?_
 refine rg ?_
 refine aS h fun c10 h=>?_
 cases h
 exact rQ
def ZeM (p0:Int):Option Int:=
 (ZdE p0).bind fun r1=>
 (some r1:Option Int)
theorem Zis (p0:Int) (r:Int) (h:ZeM p0=some r):ZH Tryz.prog 69 [.int .u64 p0] (.int .i64 r):=by
 refine cF (fun r=>.int .i64 r) h mix Tryz.func69 fun r h=>?_
 unfold ZeM at h
 refine ZW ?_
 refine rg ?_
 refine Zw rfl rfl (ZW ?_)
 refine rg ?_
 refine aC h (ZgY _) fun r1 h=>?_
 cases h
 exact rQ
def ZaW (p0:List Link) (p1:Int) (p2:Int):Option (List Link):=
 Zbv Zed (fun f17 ((x95,x96):Int×(List Link))=>
  if (decide (x95<p2)) then
   Zbv Zed (fun f24 ((x253,x254):Int×(List Link))=>
    letk (fun (x273:Bool)=>
     if x273 then
      (atI x254 (w64 (x253 - 1))).bind fun e278=>
      (atI x254 x253).bind fun e279=>
      (atI x254 x253).bind fun e280=>
      (atI (Ze4 x254 x253 e278) (w64 (x253 - 1))).bind fun e281=>
      f24 ((w64 (x253 - 1)),(Ze4 (Ze4 x254 x253 e278) (w64 (x253 - 1)) e279))
     else
     f17 ((w64 (x95+1)),x254)) fun k25=>
    if (decide (p1<x253)) then
     (atI x254 x253).bind fun e282=>
     (atI x254 (w64 (x253 - 1))).bind fun e283=>
     (Zf2 e282 e283).bind fun r284=>
     k25 (decide (r284<0))
    else
    k25 false) (x95,x96)
  else
  (some x96:Option (List Link))) ((w64 (p1+1)),p0)
theorem Zcn (p0:List Link) (p1:Int) (p2:Int) (r:List Link) (h:ZaW p0 p1 p2=some r):ContractR Tryz.prog 119 [.int .i64 p1,.int .i64 p2,.fn 33 []] 42 3 (List.map Link.cs p0) (.tup []) (List.map Link.cs r):=by
 refine ZbB (R:=fun r=>.tup []) (O:=fun r=>(List.map Link.cs r)) h mix Tryz.func119 (by kernel_rfl) rfl (by kernel_rfl) fun r h=>?_
 unfold ZaW at h
 refine ZW ?_
 refine rg ?_
 refine bl ?_
 refine Zar h fun f17 mf17 hf17 h=>?_
 refine Zac (α:=Nat×(Int×(List Link))) (fun a _=>mkS [(0,.row 0 (0,0)),(1,.int .i64 p1),(2,.int .i64 p2),(3,.fn 33 []),(8,.int .i64 a.2.1)] [(0,some ((0,0),.row 42 3 false (List.map Link.cs a.2.2)))] 2) (fun a=>Zbv a.1 f17 a.2=some r) (fun a=>a.1) (mf17,(w64 (p1+1)),p0) 2 h (ZO [] ⟨rfl,rfl,rfl,rfl,rfl,trivial⟩ ⟨⟨rfl,rfl⟩,trivial⟩ rfl) (fun a _ h=>?_)
 obtain ⟨mf17,x95,x96⟩:=a
 obtain ⟨mf17,rfl,h⟩:=Zas hf17 h
 dsimp only at h ⊢
 refine ZW ?_
 refine rg ?_
 refine cS h rfl (fun h=>?_) fun h=>?_
 ·refine bl ?_
  refine rg ?_
  refine bl ?_
  refine Zar h fun f24 mf24 hf24 h=>?_
  refine Zac (α:=Nat×(Int×(List Link))) (fun a _=>mkS [(0,.row 0 (0,0)),(1,.int .i64 p1),(2,.int .i64 p2),(3,.fn 33 []),(8,.int .i64 x95),(9,.int .i64 a.2.1)] [(0,some ((0,0),.row 42 3 false (List.map Link.cs a.2.2)))] 2) (fun a=>Zbv a.1 f24 a.2=some r) (fun a=>a.1) (mf24,x95,x96) 2 h (ZO [] ⟨rfl,rfl,rfl,rfl,rfl,rfl,trivial⟩ ⟨⟨rfl,rfl⟩,trivial⟩ rfl) (fun a _ h=>?_)
  obtain ⟨mf24,x253,x254⟩:=a
  obtain ⟨mf24,rfl,h⟩:=Zas hf24 h
  dsimp only at h ⊢
  refine ZW ?_
  refine jL h (fun x273=>mkS [(0,.row 0 (0,0)),(1,.int .i64 p1),(2,.int .i64 p2),(3,.fn 33 []),(8,.int .i64 x95),(9,.int .i64 x253),(34,.bool x273)] [(0,some ((0,0),.row 42 3 false (List.map Link.cs x254)))] 2) (fun k25 h=>?_) fun x273 h=>?_
  ·refine rg ?_
   refine kS 21 h rfl (fun h=>?_) fun h=>?_
   ·obtain ⟨e282,h250,h⟩:=bnd h
    refine Zae rfl h250 rfl rfl rfl (ZW ?_)
    refine ZaG rfl h250 rfl rfl rfl (ZW ?_)
    obtain ⟨e283,h251,h⟩:=bnd h
    refine Zae rfl h251 rfl rfl rfl (ZW ?_)
    refine ZaG rfl h251 rfl rfl rfl (ZW ?_)
    obtain ⟨r284,h252,h⟩:=bnd h
    refine ZeH (Lc:=[]) (args1:=[e282.pv,e283.pv]) (Zke _ _ _ h252) rfl rfl rfl rfl (ZW ?_)
    exact jn (decide (r284<0)) h (ZO [] ⟨rfl,rfl,rfl,rfl,rfl,rfl,rfl,trivial⟩ ⟨⟨rfl,rfl⟩,trivial⟩ rfl)
   iterate 12 refine Zaj rfl (ZW ?_)
   exact jn false h (ZO [] ⟨rfl,rfl,rfl,rfl,rfl,rfl,rfl,trivial⟩ ⟨⟨rfl,rfl⟩,trivial⟩ rfl)
  refine cS h rfl (fun h=>?_) fun h=>?_
  ·refine bl ?_
   refine rg ?_
   obtain ⟨e278,h246,h⟩:=bnd h
   refine Zae rfl h246 rfl rfl rfl (ZW ?_)
   refine ZaG rfl h246 rfl rfl rfl (ZW ?_)
   obtain ⟨e279,h247,h⟩:=bnd h
   refine Zae rfl h247 rfl rfl rfl (ZW ?_)
   refine ZaG rfl h247 rfl rfl rfl (ZW ?_)
   obtain ⟨e280,h248,h⟩:=bnd h
   refine Zae rfl h248 rfl rfl rfl (ZW ?_)
   refine ZbN (e':=e278) rfl h248 rfl rfl rfl rfl rfl rfl (Nat.le_of_ble_eq_true rfl) rfl rfl (ZW ?_)
   obtain ⟨e281,h249,h⟩:=bnd h
   refine Zae rfl h249 rfl rfl rfl (ZW ?_)
   refine ZbN (e':=e279) rfl h249 rfl rfl rfl rfl rfl rfl (Nat.le_of_ble_eq_true rfl) rfl rfl (ZW ?_)
   refine rg ?_
   exact rn (mf24,(w64 (x253 - 1)),(Ze4 (Ze4 x254 x253 e278) (w64 (x253 - 1)) e279)) h (ZO [] ⟨rfl,rfl,rfl,rfl,rfl,rfl,trivial⟩ ⟨⟨rfl,rfl⟩,trivial⟩ rfl)
  refine rg ?_
  exact rn (mf17,(w64 (x95+1)),x254) h (ZO [] ⟨rfl,rfl,rfl,rfl,rfl,trivial⟩ ⟨⟨rfl,rfl⟩,trivial⟩ rfl)
 cases h
 exact Zcu rfl rfl rfl
def Zbn (p0:List Link) (p1:Int) (p2:Int) (p3:Int):Option (List Link):=
 Zbv Zed (fun f1 (_:Unit)=>
  if (decide ((w64 (p2 - p1))≤12)) then
   (ZaW p0 p1 p2).bind fun r4=>
   (some r4:Option (List Link))
  else
  if (decide (p3=0)) then
   (none:Option (List Link))
  else
  (none:Option (List Link))) ()
theorem Zde (p0:List Link) (p1:Int) (p2:Int) (p3:Int) (r:List Link) (h:Zbn p0 p1 p2 p3=some r):ContractR Tryz.prog 68 [.int .i64 p1,.int .i64 p2,.int .i64 p3,.fn 33 []] 42 3 (List.map Link.cs p0) (.tup []) (List.map Link.cs r):=by
 refine ZbB (R:=fun r=>.tup []) (O:=fun r=>(List.map Link.cs r)) h mix Tryz.func68 (by kernel_rfl) rfl (by kernel_rfl) fun r h=>?_
 unfold Zbn at h
 refine ZW ?_
 refine rg ?_
 refine rg ?_
 refine bl ?_
 refine Zar h fun f1 mf1 hf1 h=>?_
 refine Zac (α:=Nat×Unit) (fun a _=>mkS [(0,.row 0 (0,0)),(1,.int .i64 p1),(2,.int .i64 p2),(3,.int .i64 p3),(4,.fn 33 []),(10,.bool true),(11,.bool true)] [(0,some ((0,0),.row 42 3 false (List.map Link.cs p0)))] 2) (fun a=>Zbv a.1 f1 a.2=some r) (fun a=>a.1) (mf1,()) 2 h (ZO [] ⟨rfl,rfl,rfl,rfl,rfl,rfl,rfl,trivial⟩ ⟨⟨rfl,rfl⟩,trivial⟩ rfl) (fun a _ h=>?_)
 obtain ⟨mf1,_⟩:=a
 obtain ⟨mf1,rfl,hG⟩:=Zas hf1 h
 replace h:=hG
 refine ZW ?_
 refine bl ?_
 refine rg ?_
 refine rg ?_
 refine cS h rfl (fun h=>?_) fun h=>?_
 ·refine rg ?_
  obtain ⟨r4,h4,h⟩:=bnd h
  refine Zcf (Zcn _ _ _ _ h4) rfl rfl rfl rfl rfl (ZW ?_)
  cases h
  exact Zof rfl rfl rfl
 refine rg ?_
 refine cS h rfl (fun h=>?_) fun h=>?_
 ·cases h
 cases h
def ZaU (p0:List Link):Option (List Link):=
 (ZeM (IntKind.wrap .u64 (p0.length:Int))).bind fun r1=>
 (Zbn p0 0 (p0.length:Int) r1).bind fun r2=>
 (some r2:Option (List Link))
theorem Ze1 (p0:List Link) (r:List Link) (h:ZaU p0=some r):ContractR Tryz.prog 32 [.fn 33 []] 42 3 (List.map Link.cs p0) (.tup []) (List.map Link.cs r):=by
 refine ZbB (R:=fun r=>.tup []) (O:=fun r=>(List.map Link.cs r)) h mix Tryz.func32 (by kernel_rfl) rfl (by kernel_rfl) fun r h=>?_
 unfold ZaU at h
 refine ZW ?_
 refine rg ?_
 refine lM Link.cs p0 ?_
 refine rg ?_
 refine aC h (Zis _) fun r1 h=>?_
 obtain ⟨r2,h2,h⟩:=bnd h
 refine Zcf (Zde _ _ _ _ _ h2) rfl rfl rfl rfl rfl (ZW ?_)
 cases h
 exact Zcu rfl rfl rfl
def Za1 (p0:List Link):Option (List Link):=
 if (decide ((p0.length:Int)<2)) then
  (some p0:Option (List Link))
 else
 Zbv Zed (fun f82 (x570:Int)=>
  if (decide (x570<(p0.length:Int))) then
   (atI p0 x570).bind fun e784=>
   (atI p0 (w64 (x570 - 1))).bind fun e785=>
   if (decide (e784=e785)) then
    (ZrC p0 x570).bind fun _=>
    Zbv Zed (fun f97 ((x830,x831,x832):Int×Int×(List Link))=>
     if (decide (x831<(Zsv x832 x570))) then
      letk (fun (x847:Int) (x848:List Link)=>
       f97 (x847,(w64 (x831+1)),x848)) fun k98=>
      (atQ x832 x570 x831).bind fun e849=>
      (atQ x832 x570 (w64 (x831 - 1))).bind fun e850=>
      if (!decide (e849=e850)) then
       (atQ x832 x570 x831).bind fun e851=>
       (atI x832 x830).bind fun e852=>
       k98 (w64 (x830+1)) (Ze4 x832 x830 e851)
      else
      k98 x830 x832
     else
     (ZrC x832 x830).bind fun _=>
     (ZrH (Zsp x832 x830 (⟨0,(⟨0,(⟨#[]⟩:ByteArray)⟩:Title)⟩:Link)) 0 x830).bind fun l854=>
     (some l854:Option (List Link))) (x570,1,p0)
   else
   f82 (w64 (x570+1))
  else
  (some p0:Option (List Link))) 1
theorem Zfd (p0:List Link) (r:List Link) (h:Za1 p0=some r):ContractS Tryz.prog 41 [] 42 3 (List.map Link.cs p0) (List.map Link.cs r):=by
 refine Zh9 (O:=fun r=>(List.map Link.cs r)) h mix Tryz.func41 (by kernel_rfl) rfl (by kernel_rfl) fun r h=>?_
 unfold Za1 at h
 refine ZW ?_
 refine rg ?_
 refine rg ?_
 refine lM Link.cs p0 ?_
 refine cS h rfl (fun h=>?_) fun h=>?_
 ·refine rg ?_
  cases h
  exact Zjx rfl rfl
 refine rg ?_
 refine bl ?_
 refine Zar h fun f82 mf82 hf82 h=>?_
 refine Zac (α:=Nat×Int) (fun a _=>mkS [(0,.row 0 (0,0)),(3,.int .i64 a.2)] [(0,some ((0,0),.row 42 3 false (List.map Link.cs p0)))] 2) (fun a=>Zbv a.1 f82 a.2=some r) (fun a=>a.1) (mf82,1) 2 h (sR []) (fun a _ h=>?_)
 obtain ⟨mf82,x570⟩:=a
 obtain ⟨mf82,rfl,h⟩:=Zas hf82 h
 dsimp only at h ⊢
 refine ZW ?_
 refine rg ?_
 refine lM Link.cs p0 ?_
 refine cS h rfl (fun h=>?_) fun h=>?_
 ·refine bl ?_
  refine rg ?_
  obtain ⟨e784,h584,h⟩:=bnd h
  refine Zae rfl h584 rfl rfl rfl (ZW ?_)
  refine ZaG rfl h584 rfl rfl rfl (ZW ?_)
  obtain ⟨e785,h585,h⟩:=bnd h
  refine Zae rfl h585 rfl rfl rfl (ZW ?_)
  refine ZaG rfl h585 rfl rfl rfl (ZW ?_)
  refine Znw (.inl rfl) rfl rfl rfl rfl rfl (fun W=>Zrb e784 e785 W) (ZW ?_)
  refine cS h rfl (fun h=>?_) fun h=>?_
  ·refine rg ?_
   obtain ⟨_,h586,h⟩:=bnd h
   refine Zl4 rfl h586 rfl rfl rfl (ZW ?_)
   refine rg ?_
   refine bl ?_
   refine Zar h fun f97 mf97 hf97 h=>?_
   refine Zac (α:=Nat×(Int×Int×(List Link))) (fun a _=>mkS [(0,.row 0 (0,0)),(3,.int .i64 a.2.1),(4,.suf 0 (0,0) (x570).toNat 3),(5,.int .i64 a.2.2.1)] [(0,some ((0,0),.row 42 3 false (List.map Link.cs a.2.2.2)))] 2) (fun a=>Zbv a.1 f97 a.2=some r) (fun a=>a.1) (mf97,x570,1,p0) 2 h (sR []) (fun a _ h=>?_)
   obtain ⟨mf97,x830,x831,x832⟩:=a
   obtain ⟨mf97,rfl,h⟩:=Zas hf97 h
   dsimp only at h ⊢
   refine ZW ?_
   refine rg ?_
   refine Zqw (M:=x832) (f:=Link.cs) rfl rfl rfl (ZW ?_)
   refine cS h rfl (fun h=>?_) fun h=>?_
   ·refine ZbS h fun k98 hk98 h=>?_
    refine ZbC (α:=Int×(List Link)) (fun a _=>mkS [(0,.row 0 (0,0)),(3,.int .i64 a.1),(4,.suf 0 (0,0) (x570).toNat 3),(5,.int .i64 x831)] [(0,some ((0,0),.row 42 3 false (List.map Link.cs a.2)))] 2) (fun a=>k98 a.1 a.2=some r) (ZW ?_) (fun a _ h=>?_)
    ·refine bl ?_
     refine rg ?_
     obtain ⟨e849,h631,h⟩:=bnd h
     refine Zeh rfl h631 rfl rfl rfl (ZW ?_)
     refine ZaG rfl (ZfS h631) rfl rfl rfl (ZW ?_)
     obtain ⟨e850,h632,h⟩:=bnd h
     refine Zeh rfl h632 rfl rfl rfl (ZW ?_)
     refine ZaG rfl (ZfS h632) rfl rfl rfl (ZW ?_)
     refine Znw (.inr rfl) rfl rfl rfl rfl rfl (fun W=>Zou e849 e850 W) (ZW ?_)
     refine cS h rfl (fun h=>?_) fun h=>?_
     ·refine rg ?_
      obtain ⟨e851,h633,h⟩:=bnd h
      refine Zeh rfl h633 rfl rfl rfl (ZW ?_)
      refine ZaG rfl (ZfS h633) rfl rfl rfl (ZW ?_)
      obtain ⟨e852,h634,h⟩:=bnd h
      refine Zae rfl h634 rfl rfl rfl (ZW ?_)
      refine ZbN (e':=e851) rfl h634 rfl rfl rfl rfl rfl rfl (Nat.le_of_ble_eq_true rfl) rfl rfl (ZW ?_)
      refine rg ?_
      exact jn ((w64 (x830+1)),(Ze4 x832 x830 e851)) h (sR [])
     exact jn (x830,x832) h (sR [])
    obtain ⟨x847,x848⟩:=a
    subst hk98
    dsimp only at h ⊢
    refine ZW ?_
    refine rg ?_
    exact rn (mf97,x847,(w64 (x831+1)),x848) h (sR [])
   refine rg ?_
   obtain ⟨_,h635,h⟩:=bnd h
   refine Zl4 rfl h635 rfl rfl rfl (ZW ?_)
   refine Zl5 (M:=x832) (f:=Link.cs) (zr:=(⟨0,(⟨0,(⟨#[]⟩:ByteArray)⟩:Title)⟩:Link)) rfl rfl rfl rfl rfl (ZW ?_)
   refine rg ?_
   obtain ⟨l854,h636,h⟩:=bnd h
   refine Zl6 rfl h636 rfl rfl rfl (ZW ?_)
   cases h
   exact Zjx rfl rfl
  refine rg ?_
  exact rn (mf82,(w64 (x570+1))) h (sR [])
 refine rg ?_
 cases h
 exact Zjx rfl rfl
end Go.Proofs.YtmgfammllddkhaaGreatDoor
