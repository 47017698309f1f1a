/- Functions of the program as Lean functions. Written by fxgen.py. -/
import Derived.Test.YtjoneoobolnnbaaGreatDoorCF20
import Derived.Test.YtjoneoobolnnbaaGreatDoorCF21
import Derived.Test.YtjoneoobolnnbaaGreatDoorCF25
import Derived.Test.YtjoneoobolnnbaaGreatDoorCF04
set_option linter.unusedVariables false
set_option maxHeartbeats 4000000
set_option maxRecDepth 100000
namespace Go.Proofs.YtjoneoobolnnbaaGreatDoor
open VL
def ZfI (p0:State):Option Bool:=
 letk (fun (x1:Bool)=>
  if x1 then
   (some false:Option Bool)
  else
  ZK Zax (fun f13 (x67:Int)=>
   if (decide (x67<(p0.pages.length:Int))) then
    (atI p0.pages x67).bind fun e98=>
    letk (fun (x103:Bool)=>
     if x103 then
      (some false:Option Bool)
     else
     f13 (w64 (x67+1))) fun k15=>
    (Zbc e98.title).bind fun r104=>
    if (!r104) then
     k15 true
    else
    (ZcW p0 e98.history).bind fun r105=>
    if (!r105) then
     k15 true
    else
    if (decide (0<x67)) then
     (atI p0.pages (w64 (x67 - 1))).bind fun e106=>
     (Zgz e106.title e98.title).bind fun r107=>
     k15 (decide (0≤r107))
    else
    k15 false
   else
   ZK Zax (fun f27 (x181:Int)=>
    if (decide (x181<(p0.gone.length:Int))) then
     letk (fun (x213:Bool)=>
      if x213 then
       (some false:Option Bool)
      else
      f27 (w64 (x181+1))) fun k29=>
     (atI p0.gone x181).bind fun e214=>
     (Zbc e214.title).bind fun r215=>
     if (!r215) then
      k29 true
     else
     (atI p0.gone x181).bind fun e216=>
     (ZcW p0 e216.history).bind fun r217=>
     k29 (!r217)
    else
    (ZcT).bind fun r218=>
    (Zei p0 r218).bind fun r219=>
    if r219.2 then
     (Zb9 r219.1).bind fun r222=>
     (Zaf r222.text).bind fun r223=>
     (some (decide (r223.2.2=0)):Option Bool)
    else
    (some true:Option Bool)) 0) 0) fun k1=>
 if (decide (200<(p0.pages.length:Int))) then
  k1 true
 else
 k1 (decide (100<(p0.gone.length:Int)))
theorem Zno (p0:State) (r:Bool) (hF:ZfI p0=some r):Zb Tryz.prog 84 [p0.pv] (.bool r):=by
 refine cF (fun r=>.bool r) hF mix Tryz.func84 fun r hF=>?_
 unfold ZfI at hF
 refine Za ?_
 refine rg ?_
 refine jL hF (fun x1=>mkS [(1,.ptr 1 (1,1) 0),(20,.bool x1)] [(1,some ((1,1),.box [.int .i64 p0.seq,.int .i64 p0.clock,.sl (List.map Stored.cs p0.pages),.sl (List.map Stored.cs p0.gone),.sl (List.map Proposal.cs p0.proposals),.int .i64 p0.proposed,.sl (List.map Watch.cs p0.watches),.sl (List.map Last.cs p0.lasts)]))] 2) (fun k1 hF=>?_) fun x1 hF=>?_
 ·refine rg ?_
  refine Zr rfl (M:=p0.pages) (f:=Stored.cs) rfl (Za ?_)
  refine kS 15 hF rfl (fun hF=>?_) fun hF=>?_
  ·iterate 4 refine Zh rfl (Za ?_)
   exact jn true hF (sR [(1,1,0)])
  refine Zr rfl (M:=p0.gone) (f:=Stored.cs) rfl (Za ?_)
  exact jn (decide (100<(p0.gone.length:Int))) hF (sR [(1,1,0)])
 refine cS hF rfl (fun hF=>?_) fun hF=>?_
 ·refine rg ?_
  cases hF
  exact rQ
 refine rg ?_
 refine bl ?_
 refine Zn hF fun f13 mf13 hf13 hF=>?_
 refine Zl (α:=Nat×Int) (fun a _=>mkS [(1,.ptr 1 (1,1) 0),(3,.int .i64 a.2)] [(1,some ((1,1),.box [.int .i64 p0.seq,.int .i64 p0.clock,.sl (List.map Stored.cs p0.pages),.sl (List.map Stored.cs p0.gone),.sl (List.map Proposal.cs p0.proposals),.int .i64 p0.proposed,.sl (List.map Watch.cs p0.watches),.sl (List.map Last.cs p0.lasts)]))] 2) (fun a=>ZK a.1 f13 a.2=some r) (fun a=>a.1) (mf13,0) 2 hF (sR [(1,1,1)]) (fun a _ hF=>?_)
 obtain ⟨mf13,x67⟩:=a
 obtain ⟨mf13,rfl,hF⟩:=Zo hf13 hF
 dsimp only at hF ⊢
 refine Za ?_
 refine rg ?_
 refine Zr rfl (M:=p0.pages) (f:=Stored.cs) rfl (Za ?_)
 refine cS hF rfl (fun hF=>?_) fun hF=>?_
 ·refine bl ?_
  refine rg ?_
  obtain ⟨e98,h84,hF⟩:=bnd hF
  refine Zk (f:=Stored.cs) rfl h84 rfl rfl rfl (Za ?_)
  refine jL hF (fun x103=>mkS [(1,.ptr 1 (1,1) 0),(3,.int .i64 x67),(60,.bool x103)] [(1,some ((1,1),.box [.int .i64 p0.seq,.int .i64 p0.clock,.sl (List.map Stored.cs p0.pages),.sl (List.map Stored.cs p0.gone),.sl (List.map Proposal.cs p0.proposals),.int .i64 p0.proposed,.sl (List.map Watch.cs p0.watches),.sl (List.map Last.cs p0.lasts)]))] 2) (fun k15 hF=>?_) fun x103 hF=>?_
  ·refine rg ?_
   obtain ⟨r104,h89,hF⟩:=bnd hF
   refine Zf (Zbv _ _ h89) rfl rfl (Za ?_)
   refine kS 37 hF rfl (fun hF=>?_) fun hF=>?_
   ·iterate 20 refine Zh rfl (Za ?_)
    exact jn true hF (sR [(1,1,1)])
   obtain ⟨r105,h90,hF⟩:=bnd hF
   refine Zf (Zht _ _ _ h90) rfl rfl (Za ?_)
   refine kS 44 hF rfl (fun hF=>?_) fun hF=>?_
   ·iterate 15 refine Zh rfl (Za ?_)
    exact jn true hF (sR [(1,1,1)])
   refine kS 47 hF rfl (fun hF=>?_) fun hF=>?_
   ·obtain ⟨e106,h91,hF⟩:=bnd hF
    refine Zk (f:=Stored.cs) rfl h91 rfl rfl rfl (Za ?_)
    obtain ⟨r107,h92,hF⟩:=bnd hF
    refine Zf (Zf9 _ _ _ h92) rfl rfl (Za ?_)
    exact jn (decide (0≤r107)) hF (sR [(1,1,1)])
   iterate 11 refine Zh rfl (Za ?_)
   exact jn false hF (sR [(1,1,1)])
  refine cS hF rfl (fun hF=>?_) fun hF=>?_
  ·refine rg ?_
   cases hF
   exact rQ
  refine rg ?_
  exact rn (mf13,(w64 (x67+1))) hF (sR [(1,1,1)])
 refine rg ?_
 refine bl ?_
 refine Zn hF fun f27 mf27 hf27 hF=>?_
 refine Zl (α:=Nat×Int) (fun a _=>mkS [(1,.ptr 1 (1,1) 0),(5,.int .i64 a.2)] [(1,some ((1,1),.box [.int .i64 p0.seq,.int .i64 p0.clock,.sl (List.map Stored.cs p0.pages),.sl (List.map Stored.cs p0.gone),.sl (List.map Proposal.cs p0.proposals),.int .i64 p0.proposed,.sl (List.map Watch.cs p0.watches),.sl (List.map Last.cs p0.lasts)]))] 2) (fun a=>ZK a.1 f27 a.2=some r) (fun a=>a.1) (mf27,0) 2 hF (sR [(1,1,1)]) (fun a _ hF=>?_)
 obtain ⟨mf27,x181⟩:=a
 obtain ⟨mf27,rfl,hF⟩:=Zo hf27 hF
 dsimp only at hF ⊢
 refine Za ?_
 refine rg ?_
 refine Zr rfl (M:=p0.gone) (f:=Stored.cs) rfl (Za ?_)
 refine cS hF rfl (fun hF=>?_) fun hF=>?_
 ·refine bl ?_
  refine jL hF (fun x213=>mkS [(1,.ptr 1 (1,1) 0),(5,.int .i64 x181),(86,.bool x213)] [(1,some ((1,1),.box [.int .i64 p0.seq,.int .i64 p0.clock,.sl (List.map Stored.cs p0.pages),.sl (List.map Stored.cs p0.gone),.sl (List.map Proposal.cs p0.proposals),.int .i64 p0.proposed,.sl (List.map Watch.cs p0.watches),.sl (List.map Last.cs p0.lasts)]))] 2) (fun k29 hF=>?_) fun x213 hF=>?_
  ·refine rg ?_
   obtain ⟨e214,h185,hF⟩:=bnd hF
   refine Zk (f:=Stored.cs) rfl h185 rfl rfl rfl (Za ?_)
   obtain ⟨r215,h186,hF⟩:=bnd hF
   refine Zf (Zbv _ _ h186) rfl rfl (Za ?_)
   refine kS 76 hF rfl (fun hF=>?_) fun hF=>?_
   ·iterate 9 refine Zh rfl (Za ?_)
    exact jn true hF (sR [(1,1,1)])
   obtain ⟨e216,h187,hF⟩:=bnd hF
   refine Zk (f:=Stored.cs) rfl h187 rfl rfl rfl (Za ?_)
   obtain ⟨r217,h188,hF⟩:=bnd hF
   refine Zf (Zht _ _ _ h188) rfl rfl (Za ?_)
   exact jn (!r217) hF (sR [(1,1,1)])
  refine cS hF rfl (fun hF=>?_) fun hF=>?_
  ·refine rg ?_
   cases hF
   exact rQ
  refine rg ?_
  exact rn (mf27,(w64 (x181+1))) hF (sR [(1,1,1)])
 refine rg ?_
 obtain ⟨r218,h189,hF⟩:=bnd hF
 refine Zf (Zdf _ h189) rfl rfl (Za ?_)
 obtain ⟨r219,h190,hF⟩:=bnd hF
 refine Zf (Zpe _ _ _ h190) rfl rfl (Za ?_)
 refine rg ?_
 refine cS hF rfl (fun hF=>?_) fun hF=>?_
 ·refine rg ?_
  obtain ⟨r222,h193,hF⟩:=bnd hF
  refine Zf (Zlm _ _ h193) rfl rfl (Za ?_)
  obtain ⟨r223,h194,hF⟩:=bnd hF
  refine Zf (Zj0 _ _ h194) rfl rfl (Za ?_)
  refine rg ?_
  cases hF
  exact rQ
 refine rg ?_
 cases hF
 exact rQ
def ZeG (p0:State):Option Bool:=
 letk (fun (x1:Bool)=>
  if x1 then
   (some false:Option Bool)
  else
  letk (fun (x5:Bool)=>
   (some x5:Option Bool)) fun k2=>
  (ZfI p0).bind fun r6=>
  if r6 then
   (ZcE p0).bind fun r7=>
   if r7 then
    (Zf7 p0).bind fun r8=>
    k2 r8
   else
   k2 false
  else
  k2 false) fun k1=>
 if (decide (p0.seq<0)) then
  k1 true
 else
 if (decide (1073741824<p0.seq)) then
  k1 true
 else
 if (decide (p0.clock<0)) then
  k1 true
 else
 k1 (decide (52595999<p0.clock))
theorem Znp (p0:State) (r:Bool) (hF:ZeG p0=some r):Zb Tryz.prog 49 [p0.pv] (.bool r):=by
 refine cF (fun r=>.bool r) hF mix Tryz.func49 fun r hF=>?_
 unfold ZeG at hF
 refine Za ?_
 refine rg ?_
 refine jL hF (fun x1=>mkS [(1,.ptr 1 (1,1) 0),(20,.bool x1)] [(1,some ((1,1),.box [.int .i64 p0.seq,.int .i64 p0.clock,.sl (List.map Stored.cs p0.pages),.sl (List.map Stored.cs p0.gone),.sl (List.map Proposal.cs p0.proposals),.int .i64 p0.proposed,.sl (List.map Watch.cs p0.watches),.sl (List.map Last.cs p0.lasts)]))] 2) (fun k1 hF=>?_) fun x1 hF=>?_
 ·refine rg ?_
  refine kS 6 hF rfl (fun hF=>?_) fun hF=>?_
  ·iterate 9 refine Zh rfl (Za ?_)
   exact jn true hF (sR [(1,1,0)])
  refine kS 11 hF rfl (fun hF=>?_) fun hF=>?_
  ·iterate 6 refine Zh rfl (Za ?_)
   exact jn true hF (sR [(1,1,0)])
  refine kS 16 hF rfl (fun hF=>?_) fun hF=>?_
  ·iterate 3 refine Zh rfl (Za ?_)
   exact jn true hF (sR [(1,1,0)])
  exact jn (decide (52595999<p0.clock)) hF (sR [(1,1,0)])
 refine cS hF rfl (fun hF=>?_) fun hF=>?_
 ·refine rg ?_
  cases hF
  exact rQ
 refine jL hF (fun x5=>mkS [(2,.bool x5)] [] 2) (fun k2 hF=>?_) fun x5 hF=>?_
 ·refine rg ?_
  obtain ⟨r6,h4,hF⟩:=bnd hF
  refine Zf (Zno _ _ h4) rfl rfl (Za ?_)
  refine kS 23 hF rfl (fun hF=>?_) fun hF=>?_
  ·obtain ⟨r7,h5,hF⟩:=bnd hF
   refine Zf (ZjW _ _ h5) rfl rfl (Za ?_)
   refine kS 27 hF rfl (fun hF=>?_) fun hF=>?_
   ·obtain ⟨r8,h6,hF⟩:=bnd hF
    refine Zf (Zn3 _ _ h6) rfl rfl (Za ?_)
    exact jn r8 hF (sR [])
   iterate 2 refine Zh rfl (Za ?_)
   exact jn false hF (sR [])
  iterate 4 refine Zh rfl (Za ?_)
  exact jn false hF (sR [])
 cases hF
 exact rQ
end Go.Proofs.YtjoneoobolnnbaaGreatDoor
