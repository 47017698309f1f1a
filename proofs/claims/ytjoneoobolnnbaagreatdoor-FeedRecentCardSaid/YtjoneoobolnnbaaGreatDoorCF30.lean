/- Functions of the program as Lean functions. Written by fxgen.py. -/
import Derived.Test.YtjoneoobolnnbaaGreatDoorCF10
import Derived.Test.YtjoneoobolnnbaaGreatDoorCF29
import Derived.Test.YtjoneoobolnnbaaGreatDoorCF04
set_option linter.unusedVariables false
set_option maxHeartbeats 4000000
set_option maxRecDepth 100000
namespace Go.Proofs.YtjoneoobolnnbaaGreatDoor
open VL
def ZbM (p0:ByteArray):Option Bool:=
 letk (fun (x2:Bool)=>
  (some x2:Option Bool)) fun k1=>
 if (decide (p0=(⟨#[]⟩:ByteArray))) then
  k1 true
 else
 (ZaG p0).bind fun r3=>
 k1 r3
theorem Zeq (p0:ByteArray) (r:Bool) (hF:ZbM p0=some r):Zb Tryz.prog 143 [.str p0] (.bool r):=by
 refine cF (fun r=>.bool r) hF mix Tryz.func143 fun r hF=>?_
 unfold ZbM at hF
 refine Za ?_
 refine rg ?_
 refine jL hF (fun x2=>mkS [(2,.bool x2)] [] 2) (fun k1 hF=>?_) fun x2 hF=>?_
 ·refine rg ?_
  refine kS 5 hF rfl (fun hF=>?_) fun hF=>?_
  ·iterate 2 refine Zh rfl (Za ?_)
   exact jn true hF (sR [])
  obtain ⟨r3,h2,hF⟩:=bnd hF
  refine Zf (ZbH _ _ h2) rfl rfl (Za ?_)
  exact jn r3 hF (sR [])
 cases hF
 exact rQ
def ZdZ (p0:List Revision):Option Bool:=
 letk (fun (x1:Bool)=>
  if x1 then
   (some false:Option Bool)
  else
  ZK Zax (fun f13 (x43:Int)=>
   if (decide (x43<(p0.length:Int))) then
    (atI p0 x43).bind fun e62=>
    letk (fun (x65:Bool)=>
     if x65 then
      (some false:Option Bool)
     else
     f13 (w64 (x43+1))) fun k15=>
    if (!decide (e62.number=(w64 (x43+1)))) then
     k15 true
    else
    if (!decide (e62.seq=0)) then
     k15 true
    else
    (ZbM e62.user).bind fun r66=>
    if (!r66) then
     k15 true
    else
    if (decide (e62.minute<0)) then
     k15 true
    else
    if (decide (52595999<e62.minute)) then
     k15 true
    else
    if (decide (0<x43)) then
     (atI p0 (w64 (x43 - 1))).bind fun e67=>
     k15 (decide (e62.minute<e67.minute))
    else
    k15 false
   else
   (some true:Option Bool)) 0) fun k1=>
 if (decide ((p0.length:Int)<1)) then
  k1 true
 else
 k1 (decide (40<(p0.length:Int)))
theorem ZlM (p0:List Revision) (r:Bool) (hF:ZdZ p0=some r):Zb Tryz.prog 144 [.sl (List.map Revision.cs p0)] (.bool r):=by
 refine cF (fun r=>.bool r) hF mix Tryz.func144 fun r hF=>?_
 unfold ZdZ at hF
 refine Za ?_
 refine rg ?_
 refine jL hF (fun x1=>mkS [(0,.sl (List.map Revision.cs p0)),(12,.bool x1)] [] 2) (fun k1 hF=>?_) fun x1 hF=>?_
 ·refine rg ?_
  refine Zr rfl (M:=p0) (f:=Revision.cs) rfl (Za ?_)
  refine kS 8 hF rfl (fun hF=>?_) fun hF=>?_
  ·iterate 3 refine Zh rfl (Za ?_)
   exact jn true hF (sR [])
  refine Zr rfl (M:=p0) (f:=Revision.cs) rfl (Za ?_)
  exact jn (decide (40<(p0.length:Int))) hF (sR [])
 refine cS hF rfl (fun hF=>?_) fun hF=>?_
 ·refine rg ?_
  cases hF
  exact rQ
 refine rg ?_
 refine bl ?_
 refine Zn hF fun f13 mf13 hf13 hF=>?_
 refine Zl (α:=Nat×Int) (fun a _=>mkS [(0,.sl (List.map Revision.cs p0)),(3,.int .i64 a.2)] [] 2) (fun a=>ZK a.1 f13 a.2=some r) (fun a=>a.1) (mf13,0) 2 hF (sR []) (fun a _ hF=>?_)
 obtain ⟨mf13,x43⟩:=a
 obtain ⟨mf13,rfl,hF⟩:=Zo hf13 hF
 dsimp only at hF ⊢
 refine Za ?_
 refine rg ?_
 refine Zr rfl (M:=p0) (f:=Revision.cs) rfl (Za ?_)
 refine cS hF rfl (fun hF=>?_) fun hF=>?_
 ·refine bl ?_
  refine rg ?_
  obtain ⟨e62,h48,hF⟩:=bnd hF
  refine Zk (f:=Revision.cs) rfl h48 rfl rfl rfl (Za ?_)
  refine jL hF (fun x65=>mkS [(0,.sl (List.map Revision.cs p0)),(3,.int .i64 x43),(63,.bool x65)] [] 2) (fun k15 hF=>?_) fun x65 hF=>?_
  ·refine rg ?_
   refine kS 28 hF rfl (fun hF=>?_) fun hF=>?_
   ·iterate 26 refine Zh rfl (Za ?_)
    exact jn true hF (sR [])
   refine kS 33 hF rfl (fun hF=>?_) fun hF=>?_
   ·iterate 23 refine Zh rfl (Za ?_)
    exact jn true hF (sR [])
   obtain ⟨r66,h51,hF⟩:=bnd hF
   refine Zf (Zeq _ _ h51) rfl rfl (Za ?_)
   refine kS 39 hF rfl (fun hF=>?_) fun hF=>?_
   ·iterate 19 refine Zh rfl (Za ?_)
    exact jn true hF (sR [])
   refine kS 44 hF rfl (fun hF=>?_) fun hF=>?_
   ·iterate 16 refine Zh rfl (Za ?_)
    exact jn true hF (sR [])
   refine kS 49 hF rfl (fun hF=>?_) fun hF=>?_
   ·iterate 13 refine Zh rfl (Za ?_)
    exact jn true hF (sR [])
   refine kS 52 hF rfl (fun hF=>?_) fun hF=>?_
   ·obtain ⟨e67,h52,hF⟩:=bnd hF
    refine Zk (f:=Revision.cs) rfl h52 rfl rfl rfl (Za ?_)
    exact jn (decide (e62.minute<e67.minute)) hF (sR [])
   iterate 9 refine Zh rfl (Za ?_)
   exact jn false hF (sR [])
  refine cS hF rfl (fun hF=>?_) fun hF=>?_
  ·refine rg ?_
   cases hF
   exact rQ
  refine rg ?_
  exact rn (mf13,(w64 (x43+1))) hF (sR [])
 refine rg ?_
 cases hF
 exact rQ
def ZdO (p0:Change):Option Bool:=
 letk (fun (x5:Bool)=>
  if x5 then
   (some false:Option Bool)
  else
  letk (fun (x14:Bool)=>
   if x14 then
    (some (!decide (p0.user=(⟨#[]⟩:ByteArray))):Option Bool)
   else
   if (decide (p0.kind=4)) then
    letk (fun (x16:Bool)=>
     (some x16:Option Bool)) fun k8=>
    (Zbc p0.to).bind fun r17=>
    if r17 then
     if (decide (p0.n=0)) then
      k8 true
     else
     k8 (decide (p0.n=1))
    else
    k8 false
   else
   if (decide (p0.kind=6)) then
    letk (fun (x18:Bool)=>
     (some x18:Option Bool)) fun k9=>
    if (decide (1≤p0.n)) then
     k9 (decide (p0.n≤52596000))
    else
    k9 false
   else
   if (decide (p0.kind=9)) then
    letk (fun (x19:Bool)=>
     (some x19:Option Bool)) fun k10=>
    if (decide (0≤p0.n)) then
     k10 (decide (p0.n≤40))
    else
    k10 false
   else
   if (decide (p0.kind=10)) then
    letk (fun (x20:Bool)=>
     (some x20:Option Bool)) fun k11=>
    if (decide (1≤p0.n)) then
     k11 (decide (p0.n≤1073741824))
    else
    k11 false
   else
   if (decide (p0.kind=5)) then
    (ZdZ p0.history).bind fun r21=>
    (some r21:Option Bool)
   else
   (some true:Option Bool)) fun k7=>
  if (decide (p0.kind=7)) then
   k7 (decide (p0.kind=7))
  else
  k7 (decide (p0.kind=8))) fun k1=>
 if (!decide (p0.kind=6)) then
  if (!decide (p0.kind=10)) then
   (Zbc p0.title).bind fun r22=>
   if (!r22) then
    k1 true
   else
   (ZbM p0.user).bind fun r23=>
   k1 (!r23)
  else
  (ZbM p0.user).bind fun r24=>
  k1 (!r24)
 else
 (ZbM p0.user).bind fun r25=>
 k1 (!r25)
theorem ZmJ (p0:Change) (r:Bool) (hF:ZdO p0=some r):Zb Tryz.prog 88 [p0.pv] (.bool r):=by
 refine cF (fun r=>.bool r) hF mix Tryz.func88 fun r hF=>?_
 unfold ZdO at hF
 refine Za ?_
 refine rg ?_
 refine jL hF (fun x5=>mkS [(1,.ptr 1 (1,1) 0),(22,.bool x5)] [(1,some ((1,1),.box [.int .i64 p0.kind,.str p0.user,.str p0.note,.int .i64 p0.title.space,.str p0.title.name,.int .i64 p0.to.space,.str p0.to.name,.str p0.text,.int .i64 p0.n,.sl (List.map Revision.cs p0.history)]))] 2) (fun k1 hF=>?_) fun x5 hF=>?_
 ·refine rg ?_
  refine kS 6 hF rfl (fun hF=>?_) fun hF=>?_
  ·refine kS 11 hF rfl (fun hF=>?_) fun hF=>?_
   ·obtain ⟨r22,h11,hF⟩:=bnd hF
    refine Zf (Zbv _ _ h11) rfl rfl (Za ?_)
    refine kS 17 hF rfl (fun hF=>?_) fun hF=>?_
    ·iterate 4 refine Zh rfl (Za ?_)
     exact jn true hF (sR [(1,1,0)])
    obtain ⟨r23,h12,hF⟩:=bnd hF
    refine Zf (Zeq _ _ h12) rfl rfl (Za ?_)
    exact jn (!r23) hF (sR [(1,1,0)])
   iterate 4 refine Zh rfl (Za ?_)
   obtain ⟨r24,h13,hF⟩:=bnd hF
   refine Zf (Zeq _ _ h13) rfl rfl (Za ?_)
   exact jn (!r24) hF (sR [(1,1,0)])
  iterate 7 refine Zh rfl (Za ?_)
  obtain ⟨r25,h14,hF⟩:=bnd hF
  refine Zf (Zeq _ _ h14) rfl rfl (Za ?_)
  exact jn (!r25) hF (sR [(1,1,0)])
 refine cS hF rfl (fun hF=>?_) fun hF=>?_
 ·refine rg ?_
  cases hF
  exact rQ
 refine rg ?_
 refine bl ?_
 refine rg ?_
 refine jL hF (fun x14=>mkS [(1,.ptr 1 (1,1) 0),(24,.int .i64 p0.kind),(25,.bool x14)] [(1,some ((1,1),.box [.int .i64 p0.kind,.str p0.user,.str p0.note,.int .i64 p0.title.space,.str p0.title.name,.int .i64 p0.to.space,.str p0.to.name,.str p0.text,.int .i64 p0.n,.sl (List.map Revision.cs p0.history)]))] 2) (fun k7 hF=>?_) fun x14 hF=>?_
 ·refine cS hF rfl (fun hF=>?_) fun hF=>?_
  ·exact jn (decide (p0.kind=7)) hF (sR [(1,1,1)])
  refine rg ?_
  exact jn (decide (p0.kind=8)) hF (sR [(1,1,1)])
 refine cS hF rfl (fun hF=>?_) fun hF=>?_
 ·refine rg ?_
  cases hF
  exact rQ
 refine rg ?_
 refine cS hF rfl (fun hF=>?_) fun hF=>?_
 ·refine jL hF (fun x16=>mkS [(2,.bool x16)] [] 2) (fun k8 hF=>?_) fun x16 hF=>?_
  ·refine rg ?_
   obtain ⟨r17,h9,hF⟩:=bnd hF
   refine Zf (Zbv _ _ h9) rfl rfl (Za ?_)
   refine kS 36 hF rfl (fun hF=>?_) fun hF=>?_
   ·refine kS 40 hF rfl (fun hF=>?_) fun hF=>?_
    ·iterate 3 refine Zh rfl (Za ?_)
     exact jn true hF (sR [])
    exact jn (decide (p0.n=1)) hF (sR [])
   iterate 8 refine Zh rfl (Za ?_)
   exact jn false hF (sR [])
  cases hF
  exact rQ
 refine rg ?_
 refine cS hF rfl (fun hF=>?_) fun hF=>?_
 ·refine jL hF (fun x18=>mkS [(2,.bool x18)] [] 2) (fun k9 hF=>?_) fun x18 hF=>?_
  ·refine rg ?_
   refine kS 51 hF rfl (fun hF=>?_) fun hF=>?_
   ·exact jn (decide (p0.n≤52596000)) hF (sR [])
   iterate 3 refine Zh rfl (Za ?_)
   exact jn false hF (sR [])
  cases hF
  exact rQ
 refine rg ?_
 refine cS hF rfl (fun hF=>?_) fun hF=>?_
 ·refine jL hF (fun x19=>mkS [(2,.bool x19)] [] 2) (fun k10 hF=>?_) fun x19 hF=>?_
  ·refine rg ?_
   refine kS 61 hF rfl (fun hF=>?_) fun hF=>?_
   ·exact jn (decide (p0.n≤40)) hF (sR [])
   iterate 3 refine Zh rfl (Za ?_)
   exact jn false hF (sR [])
  cases hF
  exact rQ
 refine rg ?_
 refine cS hF rfl (fun hF=>?_) fun hF=>?_
 ·refine jL hF (fun x20=>mkS [(2,.bool x20)] [] 2) (fun k11 hF=>?_) fun x20 hF=>?_
  ·refine rg ?_
   refine kS 71 hF rfl (fun hF=>?_) fun hF=>?_
   ·exact jn (decide (p0.n≤1073741824)) hF (sR [])
   iterate 3 refine Zh rfl (Za ?_)
   exact jn false hF (sR [])
  cases hF
  exact rQ
 refine rg ?_
 refine cS hF rfl (fun hF=>?_) fun hF=>?_
 ·refine rg ?_
  obtain ⟨r21,h10,hF⟩:=bnd hF
  refine Zf (ZlM _ _ h10) rfl rfl (Za ?_)
  cases hF
  exact rQ
 refine rg ?_
 cases hF
 exact rQ
def Zd0 (p0:Change):Option Int:=
 (ZhD p0).bind fun r1=>
 if (!r1) then
  (some 7:Option Int)
 else
 (ZdO p0).bind fun r2=>
 if (!r2) then
  (some 2:Option Int)
 else
 letk (fun (x3:Bool)=>
  if x3 then
   (some 3:Option Int)
  else
  ZK Zax (fun f13 (x45:Int)=>
   if (decide (x45<(p0.history.length:Int))) then
    letk (fun (x63:Bool)=>
     if x63 then
      (some 3:Option Int)
     else
     f13 (w64 (x45+1))) fun k15=>
    (atI p0.history x45).bind fun e64=>
    if (decide (8192<(e64.text.size:Int))) then
     k15 true
    else
    (atI p0.history x45).bind fun e65=>
    k15 (decide (200<(e65.note.size:Int)))
   else
   (some 0:Option Int)) 0) fun k1=>
 if (decide (8192<(p0.text.size:Int))) then
  k1 true
 else
 k1 (decide (200<(p0.note.size:Int)))
theorem ZnT (p0:Change) (r:Int) (hF:Zd0 p0=some r):Zb Tryz.prog 50 [p0.pv] (.int .i64 r):=by
 refine cF (fun r=>.int .i64 r) hF mix Tryz.func50 fun r hF=>?_
 unfold Zd0 at hF
 refine Za ?_
 refine rg ?_
 refine rg ?_
 obtain ⟨r1,h1,hF⟩:=bnd hF
 refine Zf (ZpF _ _ h1) rfl rfl (Za ?_)
 refine cS hF rfl (fun hF=>?_) fun hF=>?_
 ·refine rg ?_
  cases hF
  exact rQ
 refine rg ?_
 obtain ⟨r2,h2,hF⟩:=bnd hF
 refine Zf (ZmJ _ _ h2) rfl rfl (Za ?_)
 refine cS hF rfl (fun hF=>?_) fun hF=>?_
 ·refine rg ?_
  cases hF
  exact rQ
 refine jL hF (fun x3=>mkS [(1,.ptr 1 (1,1) 0),(19,.bool x3)] [(1,some ((1,1),.box [.int .i64 p0.kind,.str p0.user,.str p0.note,.int .i64 p0.title.space,.str p0.title.name,.int .i64 p0.to.space,.str p0.to.name,.str p0.text,.int .i64 p0.n,.sl (List.map Revision.cs p0.history)]))] 2) (fun k1 hF=>?_) fun x3 hF=>?_
 ·refine rg ?_
  refine kS 14 hF rfl (fun hF=>?_) fun hF=>?_
  ·iterate 4 refine Zh rfl (Za ?_)
   exact jn true hF (sR [(1,1,0)])
  exact jn (decide (200<(p0.note.size:Int))) hF (sR [(1,1,0)])
 refine cS hF rfl (fun hF=>?_) fun hF=>?_
 ·refine rg ?_
  cases hF
  exact rQ
 refine rg ?_
 refine bl ?_
 refine Zn hF fun f13 mf13 hf13 hF=>?_
 refine Zl (α:=Nat×Int) (fun a _=>mkS [(1,.ptr 1 (1,1) 0),(3,.int .i64 a.2)] [(1,some ((1,1),.box [.int .i64 p0.kind,.str p0.user,.str p0.note,.int .i64 p0.title.space,.str p0.title.name,.int .i64 p0.to.space,.str p0.to.name,.str p0.text,.int .i64 p0.n,.sl (List.map Revision.cs p0.history)]))] 2) (fun a=>ZK a.1 f13 a.2=some r) (fun a=>a.1) (mf13,0) 2 hF (sR [(1,1,1)]) (fun a _ hF=>?_)
 obtain ⟨mf13,x45⟩:=a
 obtain ⟨mf13,rfl,hF⟩:=Zo hf13 hF
 dsimp only at hF ⊢
 refine Za ?_
 refine rg ?_
 refine Zr rfl (M:=p0.history) (f:=Revision.cs) rfl (Za ?_)
 refine cS hF rfl (fun hF=>?_) fun hF=>?_
 ·refine bl ?_
  refine jL hF (fun x63=>mkS [(1,.ptr 1 (1,1) 0),(3,.int .i64 x45),(44,.bool x63)] [(1,some ((1,1),.box [.int .i64 p0.kind,.str p0.user,.str p0.note,.int .i64 p0.title.space,.str p0.title.name,.int .i64 p0.to.space,.str p0.to.name,.str p0.text,.int .i64 p0.n,.sl (List.map Revision.cs p0.history)]))] 2) (fun k15 hF=>?_) fun x63 hF=>?_
  ·refine rg ?_
   obtain ⟨e64,h49,hF⟩:=bnd hF
   refine Zk (f:=Revision.cs) rfl h49 rfl rfl rfl (Za ?_)
   refine kS 35 hF rfl (fun hF=>?_) fun hF=>?_
   ·iterate 8 refine Zh rfl (Za ?_)
    exact jn true hF (sR [(1,1,1)])
   obtain ⟨e65,h50,hF⟩:=bnd hF
   refine Zk (f:=Revision.cs) rfl h50 rfl rfl rfl (Za ?_)
   exact jn (decide (200<(e65.note.size:Int))) hF (sR [(1,1,1)])
  refine cS hF rfl (fun hF=>?_) fun hF=>?_
  ·refine rg ?_
   cases hF
   exact rQ
  refine rg ?_
  exact rn (mf13,(w64 (x45+1))) hF (sR [(1,1,1)])
 refine rg ?_
 cases hF
 exact rQ
end Go.Proofs.YtjoneoobolnnbaaGreatDoor
