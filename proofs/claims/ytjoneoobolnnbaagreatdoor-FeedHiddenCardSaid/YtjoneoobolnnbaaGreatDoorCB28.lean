/- Functions of the program as Lean functions. Written by fxgen.py. -/
import Derived.Test.YtjoneoobolnnbaaGreatDoorCB08
import Derived.Test.YtjoneoobolnnbaaGreatDoorCB27
import Derived.Test.YtjoneoobolnnbaaGreatDoorCB04
set_option linter.unusedVariables false
set_option maxHeartbeats 4000000
set_option maxRecDepth 100000
namespace Go.Proofs.YtjoneoobolnnbaaGreatDoor
open VL
def ZcU (p0:ByteArray):Option Bool:=
 letk (fun (x2:Bool)=>
  (some x2:Option Bool)) fun k1=>
 if (decide (p0=(⟨#[]⟩:ByteArray))) then
  k1 true
 else
 (Zba p0).bind fun r3=>
 k1 r3
theorem Zf0 (p0:ByteArray) (r:Bool) (h:ZcU p0=some r):Zd Tryz.prog 143 [.str p0] (.bool r):=by
 refine cF (fun r=>.bool r) h mix Tryz.func143 fun r h=>?_
 unfold ZcU at h
 refine Zh ?_
 refine rg ?_
 refine jL h (fun x2=>mkS [(2,.bool x2)] [] 2) (fun k1 h=>?_) fun x2 h=>?_
 ·refine rg ?_
  refine kS 5 h rfl (fun h=>?_) fun h=>?_
  ·iterate 2 refine Zi rfl (Zh ?_)
   exact jn true h (sR [])
  refine aC h (ZbM _) fun r3 h=>?_
  exact jn r3 h (sR [])
 cases h
 exact rQ
def ZfC (p0:List Revision):Option Bool:=
 letk (fun (x1:Bool)=>
  if x1 then
   (some false:Option Bool)
  else
  ZE Zaj (fun f13 (x43:Int)=>
   if (decide (x43<(p0.length:Int))) then
    (atI p0 x43).bind fun e62=>
    letk (fun (x65:Bool)=>
     if x65 then
      (some false:Option Bool)
     else
     f13 (w64 (x43+1))) fun k15=>
    if (!decide (e62.number=(w64 (x43+1)))) then
     k15 true
    else
    if (!decide (e62.seq=0)) then
     k15 true
    else
    (ZcU e62.user).bind fun r66=>
    if (!r66) then
     k15 true
    else
    if (decide (e62.minute<0)) then
     k15 true
    else
    if (decide (52595999<e62.minute)) then
     k15 true
    else
    if (decide (0<x43)) then
     (atI p0 (w64 (x43 - 1))).bind fun e67=>
     k15 (decide (e62.minute<e67.minute))
    else
    k15 false
   else
   (some true:Option Bool)) 0) fun k1=>
 if (decide ((p0.length:Int)<1)) then
  k1 true
 else
 k1 (decide (40<(p0.length:Int)))
theorem ZoL (p0:List Revision) (r:Bool) (h:ZfC p0=some r):Zd Tryz.prog 144 [.sl (List.map Revision.cs p0)] (.bool r):=by
 refine cF (fun r=>.bool r) h mix Tryz.func144 fun r h=>?_
 unfold ZfC at h
 refine Zh ?_
 refine rg ?_
 refine jL h (fun x1=>mkS [(0,.sl (List.map Revision.cs p0)),(12,.bool x1)] [] 2) (fun k1 h=>?_) fun x1 h=>?_
 ·refine rg ?_
  refine lM Revision.cs p0 ?_
  refine kS 8 h rfl (fun h=>?_) fun h=>?_
  ·iterate 3 refine Zi rfl (Zh ?_)
   exact jn true h (sR [])
  refine lM Revision.cs p0 ?_
  exact jn (decide (40<(p0.length:Int))) h (sR [])
 refine cS h rfl (fun h=>?_) fun h=>?_
 ·refine rg ?_
  cases h
  exact rQ
 refine rg ?_
 refine bl ?_
 refine Zn h fun f13 mf13 hf13 h=>?_
 refine Zk (α:=Nat×Int) (fun a _=>mkS [(0,.sl (List.map Revision.cs p0)),(3,.int .i64 a.2)] [] 2) (fun a=>ZE a.1 f13 a.2=some r) (fun a=>a.1) (mf13,0) 2 h (sR []) (fun a _ h=>?_)
 obtain ⟨mf13,x43⟩:=a
 obtain ⟨mf13,rfl,h⟩:=Zo hf13 h
 dsimp only at h ⊢
 refine Zh ?_
 refine rg ?_
 refine lM Revision.cs p0 ?_
 refine cS h rfl (fun h=>?_) fun h=>?_
 ·refine bl ?_
  refine rg ?_
  refine aI Revision.cs h fun e62 h=>?_
  refine jL h (fun x65=>mkS [(0,.sl (List.map Revision.cs p0)),(3,.int .i64 x43),(63,.bool x65)] [] 2) (fun k15 h=>?_) fun x65 h=>?_
  ·refine rg ?_
   refine kS 28 h rfl (fun h=>?_) fun h=>?_
   ·iterate 26 refine Zi rfl (Zh ?_)
    exact jn true h (sR [])
   refine kS 33 h rfl (fun h=>?_) fun h=>?_
   ·iterate 23 refine Zi rfl (Zh ?_)
    exact jn true h (sR [])
   refine aC h (Zf0 _) fun r66 h=>?_
   refine kS 39 h rfl (fun h=>?_) fun h=>?_
   ·iterate 19 refine Zi rfl (Zh ?_)
    exact jn true h (sR [])
   refine kS 44 h rfl (fun h=>?_) fun h=>?_
   ·iterate 16 refine Zi rfl (Zh ?_)
    exact jn true h (sR [])
   refine kS 49 h rfl (fun h=>?_) fun h=>?_
   ·iterate 13 refine Zi rfl (Zh ?_)
    exact jn true h (sR [])
   refine kS 52 h rfl (fun h=>?_) fun h=>?_
   ·refine aI Revision.cs h fun e67 h=>?_
    exact jn (decide (e62.minute<e67.minute)) h (sR [])
   iterate 9 refine Zi rfl (Zh ?_)
   exact jn false h (sR [])
  refine cS h rfl (fun h=>?_) fun h=>?_
  ·refine rg ?_
   cases h
   exact rQ
  refine rg ?_
  exact rn (mf13,(w64 (x43+1))) h (sR [])
 refine rg ?_
 cases h
 exact rQ
def ZbH (p0:Change):Option Bool:=
 letk (fun (x5:Bool)=>
  if x5 then
   (some false:Option Bool)
  else
  letk (fun (x14:Bool)=>
   if x14 then
    (some (!decide (p0.user=(⟨#[]⟩:ByteArray))):Option Bool)
   else
   if (decide (p0.kind=4)) then
    letk (fun (x16:Bool)=>
     (some x16:Option Bool)) fun k8=>
    (ZbD p0.to).bind fun r17=>
    if r17 then
     if (decide (p0.n=0)) then
      k8 true
     else
     k8 (decide (p0.n=1))
    else
    k8 false
   else
   if (decide (p0.kind=6)) then
    letk (fun (x18:Bool)=>
     (some x18:Option Bool)) fun k9=>
    if (decide (1≤p0.n)) then
     k9 (decide (p0.n≤52596000))
    else
    k9 false
   else
   if (decide (p0.kind=9)) then
    letk (fun (x19:Bool)=>
     (some x19:Option Bool)) fun k10=>
    if (decide (0≤p0.n)) then
     k10 (decide (p0.n≤40))
    else
    k10 false
   else
   if (decide (p0.kind=10)) then
    letk (fun (x20:Bool)=>
     (some x20:Option Bool)) fun k11=>
    if (decide (1≤p0.n)) then
     k11 (decide (p0.n≤1073741824))
    else
    k11 false
   else
   if (decide (p0.kind=5)) then
    (ZfC p0.history).bind fun r21=>
    (some r21:Option Bool)
   else
   (some true:Option Bool)) fun k7=>
  if (decide (p0.kind=7)) then
   k7 (decide (p0.kind=7))
  else
  k7 (decide (p0.kind=8))) fun k1=>
 if (!decide (p0.kind=6)) then
  if (!decide (p0.kind=10)) then
   (ZbD p0.title).bind fun r22=>
   if (!r22) then
    k1 true
   else
   (ZcU p0.user).bind fun r23=>
   k1 (!r23)
  else
  (ZcU p0.user).bind fun r24=>
  k1 (!r24)
 else
 (ZcU p0.user).bind fun r25=>
 k1 (!r25)
theorem ZpS (p0:Change) (r:Bool) (h:ZbH p0=some r):Zd Tryz.prog 88 [p0.pv] (.bool r):=by
 refine cF (fun r=>.bool r) h mix Tryz.func88 fun r h=>?_
 unfold ZbH at h
 refine Zh ?_
 refine rg ?_
 refine jL h (fun x5=>mkS [(1,.ptr 1 (1,1) 0),(22,.bool x5)] [(1,some ((1,1),.box (Change.cs p0)))] 2) (fun k1 h=>?_) fun x5 h=>?_
 ·refine rg ?_
  refine kS 6 h rfl (fun h=>?_) fun h=>?_
  ·refine kS 11 h rfl (fun h=>?_) fun h=>?_
   ·refine aC h (Zcv _) fun r22 h=>?_
    refine kS 17 h rfl (fun h=>?_) fun h=>?_
    ·iterate 4 refine Zi rfl (Zh ?_)
     exact jn true h (sR [(1,1,0)])
    refine aC h (Zf0 _) fun r23 h=>?_
    exact jn (!r23) h (sR [(1,1,0)])
   iterate 4 refine Zi rfl (Zh ?_)
   refine aC h (Zf0 _) fun r24 h=>?_
   exact jn (!r24) h (sR [(1,1,0)])
  iterate 7 refine Zi rfl (Zh ?_)
  refine aC h (Zf0 _) fun r25 h=>?_
  exact jn (!r25) h (sR [(1,1,0)])
 refine cS h rfl (fun h=>?_) fun h=>?_
 ·refine rg ?_
  cases h
  exact rQ
 refine rg ?_
 refine bl ?_
 refine rg ?_
 refine jL h (fun x14=>mkS [(1,.ptr 1 (1,1) 0),(24,.int .i64 p0.kind),(25,.bool x14)] [(1,some ((1,1),.box (Change.cs p0)))] 2) (fun k7 h=>?_) fun x14 h=>?_
 ·refine cS h rfl (fun h=>?_) fun h=>?_
  ·exact jn (decide (p0.kind=7)) h (sR [(1,1,1)])
  refine rg ?_
  exact jn (decide (p0.kind=8)) h (sR [(1,1,1)])
 refine cS h rfl (fun h=>?_) fun h=>?_
 ·refine rg ?_
  cases h
  exact rQ
 refine rg ?_
 refine cS h rfl (fun h=>?_) fun h=>?_
 ·refine jL h (fun x16=>mkS [(2,.bool x16)] [] 2) (fun k8 h=>?_) fun x16 h=>?_
  ·refine rg ?_
   refine aC h (Zcv _) fun r17 h=>?_
   refine kS 36 h rfl (fun h=>?_) fun h=>?_
   ·refine kS 40 h rfl (fun h=>?_) fun h=>?_
    ·iterate 3 refine Zi rfl (Zh ?_)
     exact jn true h (sR [])
    exact jn (decide (p0.n=1)) h (sR [])
   iterate 8 refine Zi rfl (Zh ?_)
   exact jn false h (sR [])
  cases h
  exact rQ
 refine rg ?_
 refine cS h rfl (fun h=>?_) fun h=>?_
 ·refine jL h (fun x18=>mkS [(2,.bool x18)] [] 2) (fun k9 h=>?_) fun x18 h=>?_
  ·refine rg ?_
   refine kS 51 h rfl (fun h=>?_) fun h=>?_
   ·exact jn (decide (p0.n≤52596000)) h (sR [])
   iterate 3 refine Zi rfl (Zh ?_)
   exact jn false h (sR [])
  cases h
  exact rQ
 refine rg ?_
 refine cS h rfl (fun h=>?_) fun h=>?_
 ·refine jL h (fun x19=>mkS [(2,.bool x19)] [] 2) (fun k10 h=>?_) fun x19 h=>?_
  ·refine rg ?_
   refine kS 61 h rfl (fun h=>?_) fun h=>?_
   ·exact jn (decide (p0.n≤40)) h (sR [])
   iterate 3 refine Zi rfl (Zh ?_)
   exact jn false h (sR [])
  cases h
  exact rQ
 refine rg ?_
 refine cS h rfl (fun h=>?_) fun h=>?_
 ·refine jL h (fun x20=>mkS [(2,.bool x20)] [] 2) (fun k11 h=>?_) fun x20 h=>?_
  ·refine rg ?_
   refine kS 71 h rfl (fun h=>?_) fun h=>?_
   ·exact jn (decide (p0.n≤1073741824)) h (sR [])
   iterate 3 refine Zi rfl (Zh ?_)
   exact jn false h (sR [])
  cases h
  exact rQ
 refine rg ?_
 refine cS h rfl (fun h=>?_) fun h=>?_
 ·refine rg ?_
  refine aC h (ZoL _) fun r21 h=>?_
  cases h
  exact rQ
 refine rg ?_
 cases h
 exact rQ
def Zby (p0:Change):Option Int:=
 (Zg2 p0).bind fun r1=>
 if (!r1) then
  (some 7:Option Int)
 else
 (ZbH p0).bind fun r2=>
 if (!r2) then
  (some 2:Option Int)
 else
 letk (fun (x3:Bool)=>
  if x3 then
   (some 3:Option Int)
  else
  ZE Zaj (fun f13 (x45:Int)=>
   if (decide (x45<(p0.history.length:Int))) then
    letk (fun (x63:Bool)=>
     if x63 then
      (some 3:Option Int)
     else
     f13 (w64 (x45+1))) fun k15=>
    (atI p0.history x45).bind fun e64=>
    if (decide (8192<(e64.text.size:Int))) then
     k15 true
    else
    (atI p0.history x45).bind fun e65=>
    k15 (decide (200<(e65.note.size:Int)))
   else
   (some 0:Option Int)) 0) fun k1=>
 if (decide (8192<(p0.text.size:Int))) then
  k1 true
 else
 k1 (decide (200<(p0.note.size:Int)))
theorem Zrf (p0:Change) (r:Int) (h:Zby p0=some r):Zd Tryz.prog 50 [p0.pv] (.int .i64 r):=by
 refine cF (fun r=>.int .i64 r) h mix Tryz.func50 fun r h=>?_
 unfold Zby at h
 refine Zh ?_
 refine rg ?_
 refine rg ?_
 refine aC h (ZsR _) fun r1 h=>?_
 refine cS h rfl (fun h=>?_) fun h=>?_
 ·refine rg ?_
  cases h
  exact rQ
 refine rg ?_
 refine aC h (ZpS _) fun r2 h=>?_
 refine cS h rfl (fun h=>?_) fun h=>?_
 ·refine rg ?_
  cases h
  exact rQ
 refine jL h (fun x3=>mkS [(1,.ptr 1 (1,1) 0),(19,.bool x3)] [(1,some ((1,1),.box (Change.cs p0)))] 2) (fun k1 h=>?_) fun x3 h=>?_
 ·refine rg ?_
  refine kS 14 h rfl (fun h=>?_) fun h=>?_
  ·iterate 4 refine Zi rfl (Zh ?_)
   exact jn true h (sR [(1,1,0)])
  exact jn (decide (200<(p0.note.size:Int))) h (sR [(1,1,0)])
 refine cS h rfl (fun h=>?_) fun h=>?_
 ·refine rg ?_
  cases h
  exact rQ
 refine rg ?_
 refine bl ?_
 refine Zn h fun f13 mf13 hf13 h=>?_
 refine Zk (α:=Nat×Int) (fun a _=>mkS [(1,.ptr 1 (1,1) 0),(3,.int .i64 a.2)] [(1,some ((1,1),.box (Change.cs p0)))] 2) (fun a=>ZE a.1 f13 a.2=some r) (fun a=>a.1) (mf13,0) 2 h (sR [(1,1,1)]) (fun a _ h=>?_)
 obtain ⟨mf13,x45⟩:=a
 obtain ⟨mf13,rfl,h⟩:=Zo hf13 h
 dsimp only at h ⊢
 refine Zh ?_
 refine rg ?_
 refine lM Revision.cs p0.history ?_
 refine cS h rfl (fun h=>?_) fun h=>?_
 ·refine bl ?_
  refine jL h (fun x63=>mkS [(1,.ptr 1 (1,1) 0),(3,.int .i64 x45),(44,.bool x63)] [(1,some ((1,1),.box (Change.cs p0)))] 2) (fun k15 h=>?_) fun x63 h=>?_
  ·refine rg ?_
   refine aI Revision.cs h fun e64 h=>?_
   refine kS 35 h rfl (fun h=>?_) fun h=>?_
   ·iterate 8 refine Zi rfl (Zh ?_)
    exact jn true h (sR [(1,1,1)])
   refine aI Revision.cs h fun e65 h=>?_
   exact jn (decide (200<(e65.note.size:Int))) h (sR [(1,1,1)])
  refine cS h rfl (fun h=>?_) fun h=>?_
  ·refine rg ?_
   cases h
   exact rQ
  refine rg ?_
  exact rn (mf13,(w64 (x45+1))) h (sR [(1,1,1)])
 refine rg ?_
 cases h
 exact rQ
end Go.Proofs.YtjoneoobolnnbaaGreatDoor
