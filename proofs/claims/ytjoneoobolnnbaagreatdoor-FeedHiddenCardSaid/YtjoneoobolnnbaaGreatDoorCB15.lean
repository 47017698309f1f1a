/- Functions of the program as Lean functions. Written by fxgen.py. -/
import Derived.Test.YtjoneoobolnnbaaGreatDoorCB14
import Derived.Test.YtjoneoobolnnbaaGreatDoorCB04
import Derived.Test.YtjoneoobolnnbaaGreatDoorCB08
import Derived.Test.YtjoneoobolnnbaaGreatDoorCB03
set_option linter.unusedVariables false
set_option maxHeartbeats 4000000
set_option maxRecDepth 100000
namespace Go.Proofs.YtjoneoobolnnbaaGreatDoor
open VL
def ZaK (p0:List Item):Option (List Item):=
 ZE Zaj (fun f1 ((x9,x10,x11):Int×Int×(List Item))=>
  if (decide (x9<x10)) then
   (atI x11 x10).bind fun e24=>
   (atI x11 x9).bind fun e25=>
   (atI x11 x9).bind fun e26=>
   (atI (ZaS x11 x9 e24) x10).bind fun e27=>
   f1 ((w64 (x9+1)),(w64 (x10 - 1)),(ZaS (ZaS x11 x9 e24) x10 e25))
  else
  (some x11:Option (List Item))) (0,(w64 ((p0.length:Int) - 1)),p0)
theorem Zik (p0:List Item) (r:List Item) (h:ZaK p0=some r):ContractR Tryz.prog 45 [] 52 6 (List.map Item.cs p0) (.tup []) (List.map Item.cs r):=by
 refine Zbe (R:=fun r=>.tup []) (O:=fun r=>(List.map Item.cs r)) h mix Tryz.func45 (by kernel_rfl) rfl (by kernel_rfl) fun r h=>?_
 unfold ZaK at h
 refine Zh ?_
 refine rg ?_
 refine lM Item.cs p0 ?_
 refine bl ?_
 refine Zn h fun f1 mf1 hf1 h=>?_
 refine Zk (α:=Nat×(Int×Int×(List Item))) (fun a _=>mkS [(0,.row 0 (0,0)),(2,.int .i64 a.2.1),(3,.int .i64 a.2.2.1)] [(0,some ((0,0),.row 52 6 false (List.map Item.cs a.2.2.2)))] 2) (fun a=>ZE a.1 f1 a.2=some r) (fun a=>a.1) (mf1,0,(w64 ((p0.length:Int) - 1)),p0) 2 h (sR []) (fun a _ h=>?_)
 obtain ⟨mf1,x9,x10,x11⟩:=a
 obtain ⟨mf1,rfl,h⟩:=Zo hf1 h
 dsimp only at h ⊢
 refine Zh ?_
 refine rg ?_
 refine cS h rfl (fun h=>?_) fun h=>?_
 ·refine bl ?_
  refine rg ?_
  obtain ⟨e24,h21,h⟩:=bnd h
  refine ZD rfl h21 rfl rfl rfl (Zh ?_)
  refine ZaB rfl h21 rfl rfl rfl (Zh ?_)
  obtain ⟨e25,h22,h⟩:=bnd h
  refine ZD rfl h22 rfl rfl rfl (Zh ?_)
  refine ZaB rfl h22 rfl rfl rfl (Zh ?_)
  obtain ⟨e26,h23,h⟩:=bnd h
  refine ZD rfl h23 rfl rfl rfl (Zh ?_)
  refine Zbc (e':=e24) rfl h23 rfl rfl rfl rfl rfl rfl (Nat.le_of_ble_eq_true rfl) rfl rfl (Zh ?_)
  obtain ⟨e27,h24,h⟩:=bnd h
  refine ZD rfl h24 rfl rfl rfl (Zh ?_)
  refine Zbc (e':=e25) rfl h24 rfl rfl rfl rfl rfl rfl (Nat.le_of_ble_eq_true rfl) rfl rfl (Zh ?_)
  refine rg ?_
  exact rn (mf1,(w64 (x9+1)),(w64 (x10 - 1)),(ZaS (ZaS x11 x9 e24) x10 e25)) h (sR [])
 cases h
 exact Zc4 rfl rfl rfl
def ZbB (p0:State) (p1:ByteArray) (p2:Int):Option (List Item):=
 ZE Zaj (fun f2 ((x19,x20):Int×(List Title))=>
  if (decide (x19<(p0.pages.length:Int))) then
   (atI p0.pages x19).bind fun e27=>
   (ZcF 24 x20 [e27.title]).bind fun l28=>
   f2 ((w64 (x19+1)),l28)
  else
  (Zc7 x20).bind fun r29=>
  (Zcq p0 p1 r29).bind fun r30=>
  (ZaK r30).bind fun r31=>
  (ZjA r31 0 (if (if (r31.length:Int)<p2 then (r31.length:Int) else p2) > 0 then (if (r31.length:Int)<p2 then (r31.length:Int) else p2) else 0)).bind fun l32=>
  (Zap l32).bind fun r33=>
  (some r33:Option (List Item))) (0,([]:List Title))
theorem Zfd (p0:State) (p1:ByteArray) (p2:Int) (r:List Item) (h:ZbB p0 p1 p2=some r):Zd Tryz.prog 18 [p0.pv,.str p1,.int .i64 p2] (.sl (List.map Item.cs r)):=by
 refine cF (fun r=>.sl (List.map Item.cs r)) h mix Tryz.func18 fun r h=>?_
 unfold ZbB at h
 refine Zh ?_
 refine rg ?_
 refine rg ?_
 refine rg ?_
 refine lM Stored.cs p0.pages ?_
 refine bl ?_
 refine Zn h fun f2 mf2 hf2 h=>?_
 refine Zk (α:=Nat×(Int×(List Title))) (fun a _=>mkS [(1,.str p1),(2,.int .i64 p2),(3,.ptr 3 (1,3) 0),(7,.row 7 (1,7)),(12,.sl (List.map Stored.cs p0.pages)),(13,.int .i64 (p0.pages.length:Int)),(14,.int .i64 a.2.1)] [(3,some ((1,3),.box (State.cs p0))),(7,some ((1,7),.row 29 2 false (List.map Title.cs a.2.2)))] 2) (fun a=>ZE a.1 f2 a.2=some r) (fun a=>a.1) (mf2,0,([]:List Title)) 2 h (Za9 [((1,3),(1,0))] 7 29 2 rfl ⟨rfl,rfl,rfl,rfl,rfl,rfl,rfl,trivial⟩ ⟨⟨rfl,rfl⟩,⟨rfl,rfl⟩,trivial⟩ rfl) (fun a _ h=>?_)
 obtain ⟨mf2,x19,x20⟩:=a
 obtain ⟨mf2,rfl,h⟩:=Zo hf2 h
 dsimp only at h ⊢
 refine Zh ?_
 refine rg ?_
 refine cS h rfl (fun h=>?_) fun h=>?_
 ·refine bl ?_
  refine rg ?_
  refine aI Stored.cs h fun e27 h=>?_
  refine rg ?_
  refine ZZ (M:=([e27.title]:List Title)) (f:=Title.cs) rfl rfl rfl rfl (Nat.le_of_ble_eq_true rfl) rfl (Zh ?_)
  refine pR Title.cs h fun l28 h=>?_
  refine rg ?_
  exact rn (mf2,(w64 (x19+1)),l28) h (sR [(3,1,3),(7,4,4)])
 refine rg ?_
 obtain ⟨r29,h25,h⟩:=bnd h
 refine Zon (ZmN _ _ h25) rfl rfl rfl rfl (Zh ?_)
 refine aN h (ZkX _ _ _) fun r30 h=>?_
 refine rg ?_
 obtain ⟨r31,h27,h⟩:=bnd h
 refine ZcY (Zik _ _ h27) rfl rfl rfl rfl rfl (Zh ?_)
 refine rg ?_
 refine lM Item.cs r31 ?_
 refine Zvz rfl rfl rfl (Zh ?_)
 refine ZwZ rfl rfl rfl (Zh ?_)
 refine sM Item.cs h fun l32 h=>?_
 refine aC h (Zfq _) fun r33 h=>?_
 cases h
 exact rQ
def ZaN (p0:State) (p1:ByteArray) (p2:Int):Option (List Item):=
 (ZaE p0 p1).bind fun r1=>
 (Zc7 r1).bind fun r2=>
 (Zcq p0 p1 r2).bind fun r3=>
 (ZjA r3 (if (if (r3.length:Int)<p2 then (r3.length:Int) else p2) > 0 then (if (r3.length:Int)<p2 then (r3.length:Int) else p2) else 0) (r3.length:Int)).bind fun l4=>
 (Zap l4).bind fun r5=>
 (some r5:Option (List Item))
theorem ZcO (p0:State) (p1:ByteArray) (p2:Int) (r:List Item) (h:ZaN p0 p1 p2=some r):Zd Tryz.prog 17 [p0.pv,.str p1,.int .i64 p2] (.sl (List.map Item.cs r)):=by
 refine cF (fun r=>.sl (List.map Item.cs r)) h mix Tryz.func17 fun r h=>?_
 unfold ZaN at h
 refine Zh ?_
 refine rg ?_
 refine rg ?_
 refine aN h (Zcr _ _) fun r1 h=>?_
 obtain ⟨r2,h2,h⟩:=bnd h
 refine Zon (ZmN _ _ h2) rfl rfl rfl rfl (Zh ?_)
 refine aN h (ZkX _ _ _) fun r3 h=>?_
 refine rg ?_
 refine lM Item.cs r3 ?_
 refine Zvz rfl rfl rfl (Zh ?_)
 refine ZwZ rfl rfl rfl (Zh ?_)
 refine sM Item.cs h fun l4 h=>?_
 refine aC h (Zfq _) fun r5 h=>?_
 cases h
 exact rQ
def ZoZ (p0:List ByteArray) (p1:ByteArray):Option (List ByteArray):=
 ZE Zaj (fun f7 (x14:Int)=>
  letk (fun (x19:Bool)=>
   if x19 then
    f7 (w64 (x14+1))
   else
   letk (fun (x21:Bool)=>
    if x21 then
     (some p0:Option (List ByteArray))
    else
    (ZjA p0 0 x14).bind fun l22=>
    (ZcF 16 [] l22).bind fun l23=>
    (ZcF 16 l23 [p1]).bind fun l24=>
    (ZjA p0 x14 (p0.length:Int)).bind fun l25=>
    (ZcF 16 l24 l25).bind fun l26=>
    (some l26:Option (List ByteArray))) fun k9=>
   if (decide (x14<(p0.length:Int))) then
    (atI p0 x14).bind fun e27=>
    k9 (decide (e27=p1))
   else
   k9 false) fun k8=>
  if (decide (x14<(p0.length:Int))) then
   (atI p0 x14).bind fun e28=>
   k8 (ltS e28 p1)
  else
  k8 false) 0
theorem Zp9 (p0:List ByteArray) (p1:ByteArray) (r:List ByteArray) (h:ZoZ p0 p1=some r):Zd Tryz.prog 136 [.sl (List.map csS p0),.str p1] (.sl (List.map csS r)):=by
 refine cF (fun r=>.sl (List.map csS r)) h mix Tryz.func136 fun r h=>?_
 unfold ZoZ at h
 refine Zh ?_
 refine rg ?_
 refine rg ?_
 refine bl ?_
 refine Zn h fun f7 mf7 hf7 h=>?_
 refine Zk (α:=Nat×Int) (fun a _=>mkS [(0,.sl (List.map csS p0)),(1,.str p1),(5,.int .i64 a.2)] [] 2) (fun a=>ZE a.1 f7 a.2=some r) (fun a=>a.1) (mf7,0) 2 h (sR []) (fun a _ h=>?_)
 obtain ⟨mf7,x14⟩:=a
 obtain ⟨mf7,rfl,h⟩:=Zo hf7 h
 dsimp only at h ⊢
 refine Zh ?_
 refine jL h (fun x19=>mkS [(0,.sl (List.map csS p0)),(1,.str p1),(5,.int .i64 x14),(17,.bool x19)] [] 2) (fun k8 h=>?_) fun x19 h=>?_
 ·refine rg ?_
  refine lM csS p0 ?_
  refine kS 10 h rfl (fun h=>?_) fun h=>?_
  ·refine aI csS h fun e28 h=>?_
   exact jn (ltS e28 p1) h (sR [])
  iterate 6 refine Zi rfl (Zh ?_)
  exact jn false h (sR [])
 refine cS h rfl (fun h=>?_) fun h=>?_
 ·refine bl ?_
  refine rg ?_
  exact rn (mf7,(w64 (x14+1))) h (sR [])
 refine jL h (fun x21=>mkS [(0,.sl (List.map csS p0)),(1,.str p1),(5,.int .i64 x14),(31,.bool x21)] [] 2) (fun k9 h=>?_) fun x21 h=>?_
 ·refine rg ?_
  refine lM csS p0 ?_
  refine kS 24 h rfl (fun h=>?_) fun h=>?_
  ·refine aI csS h fun e27 h=>?_
   exact jn (decide (e27=p1)) h (sR [])
  iterate 6 refine Zi rfl (Zh ?_)
  exact jn false h (sR [])
 refine cS h rfl (fun h=>?_) fun h=>?_
 ·refine rg ?_
  cases h
  exact rQ
 refine rg ?_
 refine sM csS h fun l22 h=>?_
 obtain ⟨l23,h14,h⟩:=bnd h
 refine Zil (f:=csS) rfl h14 (fun _=>rfl) rfl rfl rfl (Zh ?_)
 refine bM csS ([p1]:List ByteArray) ?_
 refine pR csS h fun l24 h=>?_
 refine sM csS h fun l25 h=>?_
 refine pR csS h fun l26 h=>?_
 cases h
 exact rQ
def Zjx (p0:Group) (p1:ByteArray) (p2:List ByteArray):Option Bool:=
 ZE Zaj (fun f12 (x130:Int)=>
  if (decide (x130<(p0.members.length:Int))) then
   (atI p0.members x130).bind fun e179=>
   letk (fun (x187:Bool)=>
    if x187 then
     (some true:Option Bool)
    else
    f12 (w64 (x130+1))) fun k14=>
   (Zba p1).bind fun r188=>
   if r188 then
    if (decide (e179=p1)) then
     k14 true
    else
    if (decide (0<(e179.size:Int))) then
     (atS e179 0).bind fun c189=>
     if (decide (c189=64)) then
      (Zge e179 1 (e179.size:Int)).bind fun l190=>
      (Zrq p2 l190).bind fun r191=>
      k14 r191
     else
     k14 false
    else
    k14 false
   else
   if (decide (0<(e179.size:Int))) then
    (atS e179 0).bind fun c192=>
    if (decide (c192=64)) then
     (Zge e179 1 (e179.size:Int)).bind fun l193=>
     (Zrq p2 l193).bind fun r194=>
     k14 r194
    else
    k14 false
   else
   k14 false
  else
  (some false:Option Bool)) 0
theorem Zo0 (p0:Group) (p1:ByteArray) (p2:List ByteArray) (r:Bool) (h:Zjx p0 p1 p2=some r):Zd Tryz.prog 137 [p0.pv,.str p1,.sl (List.map csS p2)] (.bool r):=by
 refine cF (fun r=>.bool r) h mix Tryz.func137 fun r h=>?_
 unfold Zjx at h
 refine Zh ?_
 refine rg ?_
 refine rg ?_
 refine bl ?_
 refine Zn h fun f12 mf12 hf12 h=>?_
 refine Zk (α:=Nat×Int) (fun a _=>mkS [(1,.str p1),(2,.sl (List.map csS p2)),(3,.ptr 3 (1,3) 0),(7,.int .i64 a.2)] [(3,some ((1,3),.box (Group.cs p0)))] 2) (fun a=>ZE a.1 f12 a.2=some r) (fun a=>a.1) (mf12,0) 2 h (sR [(3,1,0)]) (fun a _ h=>?_)
 obtain ⟨mf12,x130⟩:=a
 obtain ⟨mf12,rfl,h⟩:=Zo hf12 h
 dsimp only at h ⊢
 refine Zh ?_
 refine rg ?_
 refine lM csS p0.members ?_
 refine cS h rfl (fun h=>?_) fun h=>?_
 ·refine bl ?_
  refine rg ?_
  refine aI csS h fun e179 h=>?_
  refine jL h (fun x187=>mkS [(1,.str p1),(2,.sl (List.map csS p2)),(3,.ptr 3 (1,3) 0),(7,.int .i64 x130),(43,.bool x187)] [(3,some ((1,3),.box (Group.cs p0)))] 2) (fun k14 h=>?_) fun x187 h=>?_
  ·refine rg ?_
   refine aC h (ZbM _) fun r188 h=>?_
   refine kS 23 h rfl (fun h=>?_) fun h=>?_
   ·refine kS 28 h rfl (fun h=>?_) fun h=>?_
    ·iterate 14 refine Zi rfl (Zh ?_)
     exact jn true h (sR [(3,1,3)])
    refine kS 32 h rfl (fun h=>?_) fun h=>?_
    ·refine aS h fun c189 h=>?_
     refine kS 37 h rfl (fun h=>?_) fun h=>?_
     ·refine sS h fun l190 h=>?_
      refine aC h (Zp2 _ _) fun r191 h=>?_
      exact jn r191 h (sR [(3,1,3)])
     iterate 4 refine Zi rfl (Zh ?_)
     exact jn false h (sR [(3,1,3)])
    iterate 7 refine Zi rfl (Zh ?_)
    exact jn false h (sR [(3,1,3)])
   iterate 3 refine Zi rfl (Zh ?_)
   refine kS 32 h rfl (fun h=>?_) fun h=>?_
   ·refine aS h fun c192 h=>?_
    refine kS 37 h rfl (fun h=>?_) fun h=>?_
    ·refine sS h fun l193 h=>?_
     refine aC h (Zp2 _ _) fun r194 h=>?_
     exact jn r194 h (sR [(3,1,3)])
    iterate 4 refine Zi rfl (Zh ?_)
    exact jn false h (sR [(3,1,3)])
   iterate 7 refine Zi rfl (Zh ?_)
   exact jn false h (sR [(3,1,3)])
  refine cS h rfl (fun h=>?_) fun h=>?_
  ·refine rg ?_
   cases h
   exact rQ
  refine rg ?_
  exact rn (mf12,(w64 (x130+1))) h (sR [(3,1,3)])
 refine rg ?_
 cases h
 exact rQ
def Zfk (p0:Policy) (p1:ByteArray):Option (List ByteArray):=
 (Zba p1).bind fun r1=>
 letk (fun (x3:List ByteArray)=>
  ZE Zaj (fun f23 ((x122,x123):(List ByteArray)×Int)=>
   if (decide (x123<(x122.length:Int))) then
    ZE Zaj (fun f26 ((x162,x163):(List ByteArray)×Int)=>
     if (decide (x163<(p0.groups.length:Int))) then
      letk (fun (x177:List ByteArray)=>
       f26 (x177,(w64 (x163+1)))) fun k27=>
      (atI p0.groups x163).bind fun e178=>
      (Zjx e178 p1 x162).bind fun r179=>
      if r179 then
       (atI p0.groups x163).bind fun e180=>
       (ZoZ x162 e180.name).bind fun r181=>
       k27 r181
      else
      k27 x162
     else
     f23 (x162,(x122.length:Int))) (x122,0)
   else
   (some x122:Option (List ByteArray))) (x3,(-1))) fun k1=>
 if r1 then
  (ZoZ [(⟨#[97,108,108]⟩:ByteArray)] (⟨#[117,115,101,114,115]⟩:ByteArray)).bind fun r182=>
  k1 r182
 else
 k1 [(⟨#[97,108,108]⟩:ByteArray)]
theorem Zqa (p0:Policy) (p1:ByteArray) (r:List ByteArray) (h:Zfk p0 p1=some r):Zd Tryz.prog 83 [p0.pv,.str p1] (.sl (List.map csS r)):=by
 refine cF (fun r=>.sl (List.map csS r)) h mix Tryz.func83 fun r h=>?_
 unfold Zfk at h
 refine Zh ?_
 refine rg ?_
 refine rg ?_
 refine bM csS ([(⟨#[97,108,108]⟩:ByteArray)]:List ByteArray) ?_
 refine rg ?_
 refine aC h (ZbM _) fun r1 h=>?_
 refine jL h (fun x3=>mkS [(1,.str p1),(2,.ptr 2 (1,2) 0),(5,.sl (List.map csS x3))] [(2,some ((1,2),.box (Policy.cs p0)))] 2) (fun k1 h=>?_) fun x3 h=>?_
 ·refine cS h rfl (fun h=>?_) fun h=>?_
  ·refine rg ?_
   refine aC h (Zp9 _ _) fun r182 h=>?_
   exact jn r182 h (sR [(2,1,0)])
  exact jn [(⟨#[97,108,108]⟩:ByteArray)] h (Shift.trans (ZqZ 5 rfl rfl) (sR [(2,1,0)]))
 refine rg ?_
 refine bl ?_
 refine Zn h fun f23 mf23 hf23 h=>?_
 refine Zk (α:=Nat×((List ByteArray)×Int)) (fun a _=>mkS [(1,.str p1),(2,.ptr 2 (1,2) 0),(5,.sl (List.map csS a.2.1)),(6,.int .i64 a.2.2)] [(2,some ((1,2),.box (Policy.cs p0)))] 2) (fun a=>ZE a.1 f23 a.2=some r) (fun a=>a.1) (mf23,x3,(-1)) 2 h (sR [(2,1,2)]) (fun a _ h=>?_)
 obtain ⟨mf23,x122,x123⟩:=a
 obtain ⟨mf23,rfl,h⟩:=Zo hf23 h
 dsimp only at h ⊢
 refine Zh ?_
 refine rg ?_
 refine lM csS x122 ?_
 refine cS h rfl (fun h=>?_) fun h=>?_
 ·refine bl ?_
  refine rg ?_
  refine lM csS x122 ?_
  refine rg ?_
  refine bl ?_
  refine Zn h fun f26 mf26 hf26 h=>?_
  refine Zk (α:=Nat×((List ByteArray)×Int)) (fun a _=>mkS [(1,.str p1),(2,.ptr 2 (1,2) 0),(5,.sl (List.map csS a.2.1)),(6,.int .i64 (x122.length:Int)),(7,.int .i64 a.2.2)] [(2,some ((1,2),.box (Policy.cs p0)))] 2) (fun a=>ZE a.1 f26 a.2=some r) (fun a=>a.1) (mf26,x122,0) 2 h (sR [(2,1,2)]) (fun a _ h=>?_)
  obtain ⟨mf26,x162,x163⟩:=a
  obtain ⟨mf26,rfl,h⟩:=Zo hf26 h
  dsimp only at h ⊢
  refine Zh ?_
  refine rg ?_
  refine lM Group.cs p0.groups ?_
  refine cS h rfl (fun h=>?_) fun h=>?_
  ·refine jL h (fun x177=>mkS [(1,.str p1),(2,.ptr 2 (1,2) 0),(5,.sl (List.map csS x177)),(6,.int .i64 (x122.length:Int)),(7,.int .i64 x163)] [(2,some ((1,2),.box (Policy.cs p0)))] 2) (fun k27 h=>?_) fun x177 h=>?_
   ·refine bl ?_
    refine rg ?_
    refine aI Group.cs h fun e178 h=>?_
    refine aC h (Zo0 _ _ _) fun r179 h=>?_
    refine cS h rfl (fun h=>?_) fun h=>?_
    ·refine rg ?_
     refine aI Group.cs h fun e180 h=>?_
     refine aC h (Zp9 _ _) fun r181 h=>?_
     exact jn r181 h (sR [(2,1,2)])
    exact jn x162 h (sR [(2,1,2)])
   refine rg ?_
   exact rn (mf26,x177,(w64 (x163+1))) h (sR [(2,1,2)])
  exact rn (mf23,x162,(x122.length:Int)) h (sR [(2,1,2)])
 refine rg ?_
 cases h
 exact rQ
end Go.Proofs.YtjoneoobolnnbaaGreatDoor
