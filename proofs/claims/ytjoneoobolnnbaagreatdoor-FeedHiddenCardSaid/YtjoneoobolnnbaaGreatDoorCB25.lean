/- Functions of the program as Lean functions. Written by fxgen.py. -/
import Derived.Test.YtjoneoobolnnbaaGreatDoorCB35
import Derived.Test.YtjoneoobolnnbaaGreatDoorCB24
import Derived.Test.YtjoneoobolnnbaaGreatDoorCB19
import Derived.Test.YtjoneoobolnnbaaGreatDoorCB04
set_option linter.unusedVariables false
set_option maxHeartbeats 4000000
set_option maxRecDepth 100000
namespace Go.Proofs.YtjoneoobolnnbaaGreatDoor
open VL
def ZhB (p0:State):Option Bool:=
 letk (fun (x1:Bool)=>
  if x1 then
   (some false:Option Bool)
  else
  ZE Zaj (fun f13 (x67:Int)=>
   if (decide (x67<(p0.pages.length:Int))) then
    (atI p0.pages x67).bind fun e98=>
    letk (fun (x103:Bool)=>
     if x103 then
      (some false:Option Bool)
     else
     f13 (w64 (x67+1))) fun k15=>
    (ZbD e98.title).bind fun r104=>
    if (!r104) then
     k15 true
    else
    (Zeh p0 e98.history).bind fun r105=>
    if (!r105) then
     k15 true
    else
    if (decide (0<x67)) then
     (atI p0.pages (w64 (x67 - 1))).bind fun e106=>
     (ZiI e106.title e98.title).bind fun r107=>
     k15 (decide (0≤r107))
    else
    k15 false
   else
   ZE Zaj (fun f27 (x181:Int)=>
    if (decide (x181<(p0.gone.length:Int))) then
     letk (fun (x213:Bool)=>
      if x213 then
       (some false:Option Bool)
      else
      f27 (w64 (x181+1))) fun k29=>
     (atI p0.gone x181).bind fun e214=>
     (ZbD e214.title).bind fun r215=>
     if (!r215) then
      k29 true
     else
     (atI p0.gone x181).bind fun e216=>
     (Zeh p0 e216.history).bind fun r217=>
     k29 (!r217)
    else
    (Zed).bind fun r218=>
    (Zce p0 r218).bind fun r219=>
    if r219.2 then
     (Zdi r219.1).bind fun r222=>
     (Zai r222.text).bind fun r223=>
     (some (decide (r223.2.2=0)):Option Bool)
    else
    (some true:Option Bool)) 0) 0) fun k1=>
 if (decide (200<(p0.pages.length:Int))) then
  k1 true
 else
 k1 (decide (100<(p0.gone.length:Int)))
theorem ZqB (p0:State) (r:Bool) (h:ZhB p0=some r):Zd Tryz.prog 84 [p0.pv] (.bool r):=by
 refine cF (fun r=>.bool r) h mix Tryz.func84 fun r h=>?_
 unfold ZhB at h
 refine Zh ?_
 refine rg ?_
 refine jL h (fun x1=>mkS [(1,.ptr 1 (1,1) 0),(20,.bool x1)] [(1,some ((1,1),.box (State.cs p0)))] 2) (fun k1 h=>?_) fun x1 h=>?_
 ·refine rg ?_
  refine lM Stored.cs p0.pages ?_
  refine kS 15 h rfl (fun h=>?_) fun h=>?_
  ·iterate 4 refine Zi rfl (Zh ?_)
   exact jn true h (sR [(1,1,0)])
  refine lM Stored.cs p0.gone ?_
  exact jn (decide (100<(p0.gone.length:Int))) h (sR [(1,1,0)])
 refine cS h rfl (fun h=>?_) fun h=>?_
 ·refine rg ?_
  cases h
  exact rQ
 refine rg ?_
 refine bl ?_
 refine Zn h fun f13 mf13 hf13 h=>?_
 refine Zk (α:=Nat×Int) (fun a _=>mkS [(1,.ptr 1 (1,1) 0),(3,.int .i64 a.2)] [(1,some ((1,1),.box (State.cs p0)))] 2) (fun a=>ZE a.1 f13 a.2=some r) (fun a=>a.1) (mf13,0) 2 h (sR [(1,1,1)]) (fun a _ h=>?_)
 obtain ⟨mf13,x67⟩:=a
 obtain ⟨mf13,rfl,h⟩:=Zo hf13 h
 dsimp only at h ⊢
 refine Zh ?_
 refine rg ?_
 refine lM Stored.cs p0.pages ?_
 refine cS h rfl (fun h=>?_) fun h=>?_
 ·refine bl ?_
  refine rg ?_
  refine aI Stored.cs h fun e98 h=>?_
  refine jL h (fun x103=>mkS [(1,.ptr 1 (1,1) 0),(3,.int .i64 x67),(60,.bool x103)] [(1,some ((1,1),.box (State.cs p0)))] 2) (fun k15 h=>?_) fun x103 h=>?_
  ·refine rg ?_
   refine aC h (Zcv _) fun r104 h=>?_
   refine kS 37 h rfl (fun h=>?_) fun h=>?_
   ·iterate 20 refine Zi rfl (Zh ?_)
    exact jn true h (sR [(1,1,1)])
   refine aC h (ZjW _ _) fun r105 h=>?_
   refine kS 44 h rfl (fun h=>?_) fun h=>?_
   ·iterate 15 refine Zi rfl (Zh ?_)
    exact jn true h (sR [(1,1,1)])
   refine kS 47 h rfl (fun h=>?_) fun h=>?_
   ·refine aI Stored.cs h fun e106 h=>?_
    refine aC h (Zia _ _) fun r107 h=>?_
    exact jn (decide (0≤r107)) h (sR [(1,1,1)])
   iterate 11 refine Zi rfl (Zh ?_)
   exact jn false h (sR [(1,1,1)])
  refine cS h rfl (fun h=>?_) fun h=>?_
  ·refine rg ?_
   cases h
   exact rQ
  refine rg ?_
  exact rn (mf13,(w64 (x67+1))) h (sR [(1,1,1)])
 refine rg ?_
 refine bl ?_
 refine Zn h fun f27 mf27 hf27 h=>?_
 refine Zk (α:=Nat×Int) (fun a _=>mkS [(1,.ptr 1 (1,1) 0),(5,.int .i64 a.2)] [(1,some ((1,1),.box (State.cs p0)))] 2) (fun a=>ZE a.1 f27 a.2=some r) (fun a=>a.1) (mf27,0) 2 h (sR [(1,1,1)]) (fun a _ h=>?_)
 obtain ⟨mf27,x181⟩:=a
 obtain ⟨mf27,rfl,h⟩:=Zo hf27 h
 dsimp only at h ⊢
 refine Zh ?_
 refine rg ?_
 refine lM Stored.cs p0.gone ?_
 refine cS h rfl (fun h=>?_) fun h=>?_
 ·refine bl ?_
  refine jL h (fun x213=>mkS [(1,.ptr 1 (1,1) 0),(5,.int .i64 x181),(86,.bool x213)] [(1,some ((1,1),.box (State.cs p0)))] 2) (fun k29 h=>?_) fun x213 h=>?_
  ·refine rg ?_
   refine aI Stored.cs h fun e214 h=>?_
   refine aC h (Zcv _) fun r215 h=>?_
   refine kS 76 h rfl (fun h=>?_) fun h=>?_
   ·iterate 9 refine Zi rfl (Zh ?_)
    exact jn true h (sR [(1,1,1)])
   refine aI Stored.cs h fun e216 h=>?_
   refine aC h (ZjW _ _) fun r217 h=>?_
   exact jn (!r217) h (sR [(1,1,1)])
  refine cS h rfl (fun h=>?_) fun h=>?_
  ·refine rg ?_
   cases h
   exact rQ
  refine rg ?_
  exact rn (mf27,(w64 (x181+1))) h (sR [(1,1,1)])
 refine rg ?_
 refine aC h ZeC fun r218 h=>?_
 refine aC h (Zef _ _) fun r219 h=>?_
 refine rg ?_
 refine cS h rfl (fun h=>?_) fun h=>?_
 ·refine rg ?_
  refine aC h (ZjN _) fun r222 h=>?_
  refine aC h (Zjr _) fun r223 h=>?_
  refine rg ?_
  cases h
  exact rQ
 refine rg ?_
 cases h
 exact rQ
def Zgi (p0:State):Option Bool:=
 letk (fun (x1:Bool)=>
  if x1 then
   (some false:Option Bool)
  else
  letk (fun (x5:Bool)=>
   (some x5:Option Bool)) fun k2=>
  (ZhB p0).bind fun r6=>
  if r6 then
   (ZdW p0).bind fun r7=>
   if r7 then
    (Zh7 p0).bind fun r8=>
    k2 r8
   else
   k2 false
  else
  k2 false) fun k1=>
 if (decide (p0.seq<0)) then
  k1 true
 else
 if (decide (1073741824<p0.seq)) then
  k1 true
 else
 if (decide (p0.clock<0)) then
  k1 true
 else
 k1 (decide (52595999<p0.clock))
theorem ZqC (p0:State) (r:Bool) (h:Zgi p0=some r):Zd Tryz.prog 49 [p0.pv] (.bool r):=by
 refine cF (fun r=>.bool r) h mix Tryz.func49 fun r h=>?_
 unfold Zgi at h
 refine Zh ?_
 refine rg ?_
 refine jL h (fun x1=>mkS [(1,.ptr 1 (1,1) 0),(20,.bool x1)] [(1,some ((1,1),.box (State.cs p0)))] 2) (fun k1 h=>?_) fun x1 h=>?_
 ·refine rg ?_
  refine kS 6 h rfl (fun h=>?_) fun h=>?_
  ·iterate 9 refine Zi rfl (Zh ?_)
   exact jn true h (sR [(1,1,0)])
  refine kS 11 h rfl (fun h=>?_) fun h=>?_
  ·iterate 6 refine Zi rfl (Zh ?_)
   exact jn true h (sR [(1,1,0)])
  refine kS 16 h rfl (fun h=>?_) fun h=>?_
  ·iterate 3 refine Zi rfl (Zh ?_)
   exact jn true h (sR [(1,1,0)])
  exact jn (decide (52595999<p0.clock)) h (sR [(1,1,0)])
 refine cS h rfl (fun h=>?_) fun h=>?_
 ·refine rg ?_
  cases h
  exact rQ
 refine jL h (fun x5=>mkS [(2,.bool x5)] [] 2) (fun k2 h=>?_) fun x5 h=>?_
 ·refine rg ?_
  refine aC h (ZqB _) fun r6 h=>?_
  refine kS 23 h rfl (fun h=>?_) fun h=>?_
  ·refine aC h (ZmS _) fun r7 h=>?_
   refine kS 27 h rfl (fun h=>?_) fun h=>?_
   ·refine aC h (Zrm _) fun r8 h=>?_
    exact jn r8 h (sR [])
   iterate 2 refine Zi rfl (Zh ?_)
   exact jn false h (sR [])
  iterate 4 refine Zi rfl (Zh ?_)
  exact jn false h (sR [])
 cases h
 exact rQ
end Go.Proofs.YtjoneoobolnnbaaGreatDoor
