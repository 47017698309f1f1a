/- Functions of the program as Lean functions. Written by fxgen.py. -/
import Derived.Test.YtjoneoobolnnbaaGreatDoorCF20
import Derived.Test.YtjoneoobolnnbaaGreatDoorCF04
set_option linter.unusedVariables false
set_option maxHeartbeats 4000000
set_option maxRecDepth 100000
namespace Go.Proofs.YtjoneoobolnnbaaGreatDoor
open VL
def ZcE (p0:State):Option Bool:=
 letk (fun (x1:Bool)=>
  if x1 then
   (some false:Option Bool)
  else
  ZK Zax (fun f13 ((x52,x53):Int×Int)=>
   if (decide (x53<(p0.proposals.length:Int))) then
    (atI p0.proposals x53).bind fun e72=>
    letk (fun (x75:Bool)=>
     if x75 then
      (some false:Option Bool)
     else
     f13 (e72.id,(w64 (x53+1)))) fun k15=>
    if (decide (e72.id≤x52)) then
     k15 true
    else
    if (decide (p0.proposed<e72.id)) then
     k15 true
    else
    (ZdL e72.user).bind fun r76=>
    if (!r76) then
     k15 true
    else
    (Zbc e72.title).bind fun r77=>
    if (!r77) then
     k15 true
    else
    if (decide (e72.base<0)) then
     k15 true
    else
    if (decide (40<e72.base)) then
     k15 true
    else
    if (decide (8192<(e72.text.size:Int))) then
     k15 true
    else
    if (decide (200<(e72.note.size:Int))) then
     k15 true
    else
    if (decide (e72.minute<0)) then
     k15 true
    else
    k15 (decide (p0.clock<e72.minute))
   else
   (some true:Option Bool)) (0,0)) fun k1=>
 if (decide (40<(p0.proposals.length:Int))) then
  k1 true
 else
 if (decide (p0.proposed<0)) then
  k1 true
 else
 k1 (decide (1073741824<p0.proposed))
theorem ZjW (p0:State) (r:Bool) (hF:ZcE p0=some r):Zb Tryz.prog 85 [p0.pv] (.bool r):=by
 refine cF (fun r=>.bool r) hF mix Tryz.func85 fun r hF=>?_
 unfold ZcE at hF
 refine Za ?_
 refine rg ?_
 refine jL hF (fun x1=>mkS [(1,.ptr 1 (1,1) 0),(19,.bool x1)] [(1,some ((1,1),.box [.int .i64 p0.seq,.int .i64 p0.clock,.sl (List.map Stored.cs p0.pages),.sl (List.map Stored.cs p0.gone),.sl (List.map Proposal.cs p0.proposals),.int .i64 p0.proposed,.sl (List.map Watch.cs p0.watches),.sl (List.map Last.cs p0.lasts)]))] 2) (fun k1 hF=>?_) fun x1 hF=>?_
 ·refine rg ?_
  refine Zr rfl (M:=p0.proposals) (f:=Proposal.cs) rfl (Za ?_)
  refine kS 10 hF rfl (fun hF=>?_) fun hF=>?_
  ·iterate 6 refine Zh rfl (Za ?_)
   exact jn true hF (sR [(1,1,0)])
  refine kS 15 hF rfl (fun hF=>?_) fun hF=>?_
  ·iterate 3 refine Zh rfl (Za ?_)
   exact jn true hF (sR [(1,1,0)])
  exact jn (decide (1073741824<p0.proposed)) hF (sR [(1,1,0)])
 refine cS hF rfl (fun hF=>?_) fun hF=>?_
 ·refine rg ?_
  cases hF
  exact rQ
 refine rg ?_
 refine rg ?_
 refine bl ?_
 refine Zn hF fun f13 mf13 hf13 hF=>?_
 refine Zl (α:=Nat×(Int×Int)) (fun a _=>mkS [(1,.ptr 1 (1,1) 0),(3,.int .i64 a.2.1),(4,.int .i64 a.2.2)] [(1,some ((1,1),.box [.int .i64 p0.seq,.int .i64 p0.clock,.sl (List.map Stored.cs p0.pages),.sl (List.map Stored.cs p0.gone),.sl (List.map Proposal.cs p0.proposals),.int .i64 p0.proposed,.sl (List.map Watch.cs p0.watches),.sl (List.map Last.cs p0.lasts)]))] 2) (fun a=>ZK a.1 f13 a.2=some r) (fun a=>a.1) (mf13,0,0) 2 hF (sR [(1,1,1)]) (fun a _ hF=>?_)
 obtain ⟨mf13,x52,x53⟩:=a
 obtain ⟨mf13,rfl,hF⟩:=Zo hf13 hF
 dsimp only at hF ⊢
 refine Za ?_
 refine rg ?_
 refine Zr rfl (M:=p0.proposals) (f:=Proposal.cs) rfl (Za ?_)
 refine cS hF rfl (fun hF=>?_) fun hF=>?_
 ·refine bl ?_
  refine rg ?_
  obtain ⟨e72,h56,hF⟩:=bnd hF
  refine Zk (f:=Proposal.cs) rfl h56 rfl rfl rfl (Za ?_)
  refine jL hF (fun x75=>mkS [(1,.ptr 1 (1,1) 0),(4,.int .i64 x53),(5,.ptr 5 (1,5) 0),(88,.bool x75)] [(1,some ((1,1),.box [.int .i64 p0.seq,.int .i64 p0.clock,.sl (List.map Stored.cs p0.pages),.sl (List.map Stored.cs p0.gone),.sl (List.map Proposal.cs p0.proposals),.int .i64 p0.proposed,.sl (List.map Watch.cs p0.watches),.sl (List.map Last.cs p0.lasts)])),(5,some ((1,5),.box [.int .i64 e72.id,.str e72.user,.str e72.note,.int .i64 e72.title.space,.str e72.title.name,.int .i64 e72.base,.str e72.text,.int .i64 e72.minute]))] 2) (fun k15 hF=>?_) fun x75 hF=>?_
  ·refine rg ?_
   refine kS 36 hF rfl (fun hF=>?_) fun hF=>?_
   ·iterate 35 refine Zh rfl (Za ?_)
    exact jn true hF (sR [(1,1,1),(5,3,5)])
   refine kS 43 hF rfl (fun hF=>?_) fun hF=>?_
   ·iterate 30 refine Zh rfl (Za ?_)
    exact jn true hF (sR [(1,1,1),(5,3,5)])
   obtain ⟨r76,h59,hF⟩:=bnd hF
   refine Zf (Zix _ _ h59) rfl rfl (Za ?_)
   refine kS 49 hF rfl (fun hF=>?_) fun hF=>?_
   ·iterate 26 refine Zh rfl (Za ?_)
    exact jn true hF (sR [(1,1,1),(5,3,5)])
   obtain ⟨r77,h60,hF⟩:=bnd hF
   refine Zf (Zbv _ _ h60) rfl rfl (Za ?_)
   refine kS 55 hF rfl (fun hF=>?_) fun hF=>?_
   ·iterate 22 refine Zh rfl (Za ?_)
    exact jn true hF (sR [(1,1,1),(5,3,5)])
   refine kS 60 hF rfl (fun hF=>?_) fun hF=>?_
   ·iterate 19 refine Zh rfl (Za ?_)
    exact jn true hF (sR [(1,1,1),(5,3,5)])
   refine kS 65 hF rfl (fun hF=>?_) fun hF=>?_
   ·iterate 16 refine Zh rfl (Za ?_)
    exact jn true hF (sR [(1,1,1),(5,3,5)])
   refine kS 71 hF rfl (fun hF=>?_) fun hF=>?_
   ·iterate 12 refine Zh rfl (Za ?_)
    exact jn true hF (sR [(1,1,1),(5,3,5)])
   refine kS 77 hF rfl (fun hF=>?_) fun hF=>?_
   ·iterate 8 refine Zh rfl (Za ?_)
    exact jn true hF (sR [(1,1,1),(5,3,5)])
   refine kS 82 hF rfl (fun hF=>?_) fun hF=>?_
   ·iterate 5 refine Zh rfl (Za ?_)
    exact jn true hF (sR [(1,1,1),(5,3,5)])
   exact jn (decide (p0.clock<e72.minute)) hF (sR [(1,1,1),(5,3,5)])
  refine cS hF rfl (fun hF=>?_) fun hF=>?_
  ·refine rg ?_
   cases hF
   exact rQ
  refine rg ?_
  refine rg ?_
  exact rn (mf13,e72.id,(w64 (x53+1))) hF (sR [(1,1,1)])
 refine rg ?_
 cases hF
 exact rQ
def Zf7 (p0:State):Option Bool:=
 letk (fun (x1:Bool)=>
  if x1 then
   (some false:Option Bool)
  else
  ZK Zax (fun f13 (x67:Int)=>
   if (decide (x67<(p0.watches.length:Int))) then
    (atI p0.watches x67).bind fun e98=>
    letk (fun (x103:Bool)=>
     if x103 then
      (some false:Option Bool)
     else
     f13 (w64 (x67+1))) fun k15=>
    (ZaG e98.user).bind fun r104=>
    if (!r104) then
     k15 true
    else
    (Zbc e98.title).bind fun r105=>
    if (!r105) then
     k15 true
    else
    if (decide (0<x67)) then
     (atI p0.watches (w64 (x67 - 1))).bind fun e106=>
     (ZdM e106 e98).bind fun r107=>
     k15 (!r107)
    else
    k15 false
   else
   ZK Zax (fun f27 (x149:Int)=>
    if (decide (x149<(p0.lasts.length:Int))) then
     (atI p0.lasts x149).bind fun e168=>
     letk (fun (x171:Bool)=>
      if x171 then
       (some false:Option Bool)
      else
      f27 (w64 (x149+1))) fun k29=>
     (ZaG e168.user).bind fun r172=>
     if (!r172) then
      k29 true
     else
     if (decide (e168.seq<1)) then
      k29 true
     else
     if (decide (p0.seq<e168.seq)) then
      k29 true
     else
     if (decide (0<x149)) then
      (atI p0.lasts (w64 (x149 - 1))).bind fun e173=>
      k29 (!ltS e173.user e168.user)
     else
     k29 false
    else
    (some true:Option Bool)) 0) 0) fun k1=>
 if (decide (100<(p0.watches.length:Int))) then
  k1 true
 else
 k1 (decide (60<(p0.lasts.length:Int)))
theorem Zn3 (p0:State) (r:Bool) (hF:Zf7 p0=some r):Zb Tryz.prog 86 [p0.pv] (.bool r):=by
 refine cF (fun r=>.bool r) hF mix Tryz.func86 fun r hF=>?_
 unfold Zf7 at hF
 refine Za ?_
 refine rg ?_
 refine jL hF (fun x1=>mkS [(1,.ptr 1 (1,1) 0),(16,.bool x1)] [(1,some ((1,1),.box [.int .i64 p0.seq,.int .i64 p0.clock,.sl (List.map Stored.cs p0.pages),.sl (List.map Stored.cs p0.gone),.sl (List.map Proposal.cs p0.proposals),.int .i64 p0.proposed,.sl (List.map Watch.cs p0.watches),.sl (List.map Last.cs p0.lasts)]))] 2) (fun k1 hF=>?_) fun x1 hF=>?_
 ·refine rg ?_
  refine Zr rfl (M:=p0.watches) (f:=Watch.cs) rfl (Za ?_)
  refine kS 11 hF rfl (fun hF=>?_) fun hF=>?_
  ·iterate 4 refine Zh rfl (Za ?_)
   exact jn true hF (sR [(1,1,0)])
  refine Zr rfl (M:=p0.lasts) (f:=Last.cs) rfl (Za ?_)
  exact jn (decide (60<(p0.lasts.length:Int))) hF (sR [(1,1,0)])
 refine cS hF rfl (fun hF=>?_) fun hF=>?_
 ·refine rg ?_
  cases hF
  exact rQ
 refine rg ?_
 refine bl ?_
 refine Zn hF fun f13 mf13 hf13 hF=>?_
 refine Zl (α:=Nat×Int) (fun a _=>mkS [(1,.ptr 1 (1,1) 0),(3,.int .i64 a.2)] [(1,some ((1,1),.box [.int .i64 p0.seq,.int .i64 p0.clock,.sl (List.map Stored.cs p0.pages),.sl (List.map Stored.cs p0.gone),.sl (List.map Proposal.cs p0.proposals),.int .i64 p0.proposed,.sl (List.map Watch.cs p0.watches),.sl (List.map Last.cs p0.lasts)]))] 2) (fun a=>ZK a.1 f13 a.2=some r) (fun a=>a.1) (mf13,0) 2 hF (sR [(1,1,1)]) (fun a _ hF=>?_)
 obtain ⟨mf13,x67⟩:=a
 obtain ⟨mf13,rfl,hF⟩:=Zo hf13 hF
 dsimp only at hF ⊢
 refine Za ?_
 refine rg ?_
 refine Zr rfl (M:=p0.watches) (f:=Watch.cs) rfl (Za ?_)
 refine cS hF rfl (fun hF=>?_) fun hF=>?_
 ·refine bl ?_
  refine rg ?_
  obtain ⟨e98,h84,hF⟩:=bnd hF
  refine Zk (f:=Watch.cs) rfl h84 rfl rfl rfl (Za ?_)
  refine jL hF (fun x103=>mkS [(1,.ptr 1 (1,1) 0),(3,.int .i64 x67),(53,.bool x103)] [(1,some ((1,1),.box [.int .i64 p0.seq,.int .i64 p0.clock,.sl (List.map Stored.cs p0.pages),.sl (List.map Stored.cs p0.gone),.sl (List.map Proposal.cs p0.proposals),.int .i64 p0.proposed,.sl (List.map Watch.cs p0.watches),.sl (List.map Last.cs p0.lasts)]))] 2) (fun k15 hF=>?_) fun x103 hF=>?_
  ·refine rg ?_
   obtain ⟨r104,h89,hF⟩:=bnd hF
   refine Zf (ZbH _ _ h89) rfl rfl (Za ?_)
   refine kS 33 hF rfl (fun hF=>?_) fun hF=>?_
   ·iterate 17 refine Zh rfl (Za ?_)
    exact jn true hF (sR [(1,1,1)])
   obtain ⟨r105,h90,hF⟩:=bnd hF
   refine Zf (Zbv _ _ h90) rfl rfl (Za ?_)
   refine kS 39 hF rfl (fun hF=>?_) fun hF=>?_
   ·iterate 13 refine Zh rfl (Za ?_)
    exact jn true hF (sR [(1,1,1)])
   refine kS 42 hF rfl (fun hF=>?_) fun hF=>?_
   ·obtain ⟨e106,h91,hF⟩:=bnd hF
    refine Zk (f:=Watch.cs) rfl h91 rfl rfl rfl (Za ?_)
    obtain ⟨r107,h92,hF⟩:=bnd hF
    refine Zf (Ziy _ _ _ h92) rfl rfl (Za ?_)
    exact jn (!r107) hF (sR [(1,1,1)])
   iterate 9 refine Zh rfl (Za ?_)
   exact jn false hF (sR [(1,1,1)])
  refine cS hF rfl (fun hF=>?_) fun hF=>?_
  ·refine rg ?_
   cases hF
   exact rQ
  refine rg ?_
  exact rn (mf13,(w64 (x67+1))) hF (sR [(1,1,1)])
 refine rg ?_
 refine bl ?_
 refine Zn hF fun f27 mf27 hf27 hF=>?_
 refine Zl (α:=Nat×Int) (fun a _=>mkS [(1,.ptr 1 (1,1) 0),(5,.int .i64 a.2)] [(1,some ((1,1),.box [.int .i64 p0.seq,.int .i64 p0.clock,.sl (List.map Stored.cs p0.pages),.sl (List.map Stored.cs p0.gone),.sl (List.map Proposal.cs p0.proposals),.int .i64 p0.proposed,.sl (List.map Watch.cs p0.watches),.sl (List.map Last.cs p0.lasts)]))] 2) (fun a=>ZK a.1 f27 a.2=some r) (fun a=>a.1) (mf27,0) 2 hF (sR [(1,1,1)]) (fun a _ hF=>?_)
 obtain ⟨mf27,x149⟩:=a
 obtain ⟨mf27,rfl,hF⟩:=Zo hf27 hF
 dsimp only at hF ⊢
 refine Za ?_
 refine rg ?_
 refine Zr rfl (M:=p0.lasts) (f:=Last.cs) rfl (Za ?_)
 refine cS hF rfl (fun hF=>?_) fun hF=>?_
 ·refine bl ?_
  refine rg ?_
  obtain ⟨e168,h140,hF⟩:=bnd hF
  refine Zk (f:=Last.cs) rfl h140 rfl rfl rfl (Za ?_)
  refine jL hF (fun x171=>mkS [(1,.ptr 1 (1,1) 0),(5,.int .i64 x149),(97,.bool x171)] [(1,some ((1,1),.box [.int .i64 p0.seq,.int .i64 p0.clock,.sl (List.map Stored.cs p0.pages),.sl (List.map Stored.cs p0.gone),.sl (List.map Proposal.cs p0.proposals),.int .i64 p0.proposed,.sl (List.map Watch.cs p0.watches),.sl (List.map Last.cs p0.lasts)]))] 2) (fun k29 hF=>?_) fun x171 hF=>?_
  ·refine rg ?_
   obtain ⟨r172,h143,hF⟩:=bnd hF
   refine Zf (ZbH _ _ h143) rfl rfl (Za ?_)
   refine kS 70 hF rfl (fun hF=>?_) fun hF=>?_
   ·iterate 22 refine Zh rfl (Za ?_)
    exact jn true hF (sR [(1,1,1)])
   refine kS 75 hF rfl (fun hF=>?_) fun hF=>?_
   ·iterate 19 refine Zh rfl (Za ?_)
    exact jn true hF (sR [(1,1,1)])
   refine kS 82 hF rfl (fun hF=>?_) fun hF=>?_
   ·iterate 14 refine Zh rfl (Za ?_)
    exact jn true hF (sR [(1,1,1)])
   refine kS 85 hF rfl (fun hF=>?_) fun hF=>?_
   ·obtain ⟨e173,h144,hF⟩:=bnd hF
    refine Zk (f:=Last.cs) rfl h144 rfl rfl rfl (Za ?_)
    exact jn (!ltS e173.user e168.user) hF (sR [(1,1,1)])
   iterate 10 refine Zh rfl (Za ?_)
   exact jn false hF (sR [(1,1,1)])
  refine cS hF rfl (fun hF=>?_) fun hF=>?_
  ·refine rg ?_
   cases hF
   exact rQ
  refine rg ?_
  exact rn (mf27,(w64 (x149+1))) hF (sR [(1,1,1)])
 refine rg ?_
 cases hF
 exact rQ
end Go.Proofs.YtjoneoobolnnbaaGreatDoor
