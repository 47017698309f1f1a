/- Functions of the program as Lean functions. Written by fxgen.py. -/
import Derived.Test.YtjoneoobolnnbaaGreatDoorCF10
import Derived.Test.YtjoneoobolnnbaaGreatDoorCF19
import Derived.Test.YtjoneoobolnnbaaGreatDoorCF04
set_option linter.unusedVariables false
set_option maxHeartbeats 4000000
set_option maxRecDepth 100000
namespace Go.Proofs.YtjoneoobolnnbaaGreatDoor
open VL
def ZdL (p0:ByteArray):Option Bool:=
 letk (fun (x2:Bool)=>
  (some x2:Option Bool)) fun k1=>
 if (decide (p0=(⟨#[]⟩:ByteArray))) then
  k1 true
 else
 (ZaG p0).bind fun r3=>
 k1 r3
theorem Zix (p0:ByteArray) (r:Bool) (hF:ZdL p0=some r):Zb Tryz.prog 141 [.str p0] (.bool r):=by
 refine cF (fun r=>.bool r) hF mix Tryz.func141 fun r hF=>?_
 unfold ZdL at hF
 refine Za ?_
 refine rg ?_
 refine jL hF (fun x2=>mkS [(2,.bool x2)] [] 2) (fun k1 hF=>?_) fun x2 hF=>?_
 ·refine rg ?_
  refine kS 5 hF rfl (fun hF=>?_) fun hF=>?_
  ·iterate 2 refine Zh rfl (Za ?_)
   exact jn true hF (sR [])
  obtain ⟨r3,h2,hF⟩:=bnd hF
  refine Zf (ZbH _ _ h2) rfl rfl (Za ?_)
  exact jn r3 hF (sR [])
 cases hF
 exact rQ
def ZcW (p0:State) (p1:List Revision):Option Bool:=
 letk (fun (x1:Bool)=>
  if x1 then
   (some false:Option Bool)
  else
  ZK Zax (fun f13 ((x37,x38,x39):Int×Int×Int)=>
   if (decide (x39<(p1.length:Int))) then
    (atI p1 x39).bind fun e52=>
    letk (fun (x54:Bool)=>
     if x54 then
      (some false:Option Bool)
     else
     f13 (e52.minute,e52.seq,(w64 (x39+1)))) fun k15=>
    if (!decide (e52.number=(w64 (x39+1)))) then
     k15 true
    else
    if (decide (8192<(e52.text.size:Int))) then
     k15 true
    else
    if (decide (200<(e52.note.size:Int))) then
     k15 true
    else
    (ZdL e52.user).bind fun r55=>
    if (!r55) then
     k15 true
    else
    if (decide (e52.minute<x37)) then
     k15 true
    else
    if (decide (p0.clock<e52.minute)) then
     k15 true
    else
    if (decide (e52.seq<x38)) then
     k15 true
    else
    k15 (decide (p0.seq<e52.seq))
   else
   (some true:Option Bool)) (0,1,0)) fun k1=>
 if (decide ((p1.length:Int)<1)) then
  k1 true
 else
 k1 (decide (40<(p1.length:Int)))
theorem Zht (p0:State) (p1:List Revision) (r:Bool) (hF:ZcW p0 p1=some r):Zb Tryz.prog 138 [p0.pv,.sl (List.map Revision.cs p1)] (.bool r):=by
 refine cF (fun r=>.bool r) hF mix Tryz.func138 fun r hF=>?_
 unfold ZcW at hF
 refine Za ?_
 refine rg ?_
 refine jL hF (fun x1=>mkS [(1,.sl (List.map Revision.cs p1)),(2,.ptr 2 (1,2) 0),(16,.bool x1)] [(2,some ((1,2),.box [.int .i64 p0.seq,.int .i64 p0.clock,.sl (List.map Stored.cs p0.pages),.sl (List.map Stored.cs p0.gone),.sl (List.map Proposal.cs p0.proposals),.int .i64 p0.proposed,.sl (List.map Watch.cs p0.watches),.sl (List.map Last.cs p0.lasts)]))] 2) (fun k1 hF=>?_) fun x1 hF=>?_
 ·refine rg ?_
  refine Zr rfl (M:=p1) (f:=Revision.cs) rfl (Za ?_)
  refine kS 12 hF rfl (fun hF=>?_) fun hF=>?_
  ·iterate 3 refine Zh rfl (Za ?_)
   exact jn true hF (sR [(2,1,0)])
  refine Zr rfl (M:=p1) (f:=Revision.cs) rfl (Za ?_)
  exact jn (decide (40<(p1.length:Int))) hF (sR [(2,1,0)])
 refine cS hF rfl (fun hF=>?_) fun hF=>?_
 ·refine rg ?_
  cases hF
  exact rQ
 refine rg ?_
 refine rg ?_
 refine bl ?_
 refine Zn hF fun f13 mf13 hf13 hF=>?_
 refine Zl (α:=Nat×(Int×Int×Int)) (fun a _=>mkS [(1,.sl (List.map Revision.cs p1)),(2,.ptr 2 (1,2) 0),(5,.int .i64 a.2.1),(6,.int .i64 a.2.2.1),(7,.int .i64 a.2.2.2)] [(2,some ((1,2),.box [.int .i64 p0.seq,.int .i64 p0.clock,.sl (List.map Stored.cs p0.pages),.sl (List.map Stored.cs p0.gone),.sl (List.map Proposal.cs p0.proposals),.int .i64 p0.proposed,.sl (List.map Watch.cs p0.watches),.sl (List.map Last.cs p0.lasts)]))] 2) (fun a=>ZK a.1 f13 a.2=some r) (fun a=>a.1) (mf13,0,1,0) 2 hF (sR [(2,1,2)]) (fun a _ hF=>?_)
 obtain ⟨mf13,x37,x38,x39⟩:=a
 obtain ⟨mf13,rfl,hF⟩:=Zo hf13 hF
 dsimp only at hF ⊢
 refine Za ?_
 refine rg ?_
 refine Zr rfl (M:=p1) (f:=Revision.cs) rfl (Za ?_)
 refine cS hF rfl (fun hF=>?_) fun hF=>?_
 ·refine bl ?_
  refine rg ?_
  obtain ⟨e52,h34,hF⟩:=bnd hF
  refine Zk (f:=Revision.cs) rfl h34 rfl rfl rfl (Za ?_)
  refine jL hF (fun x54=>mkS [(1,.sl (List.map Revision.cs p1)),(2,.ptr 2 (1,2) 0),(7,.int .i64 x39),(8,.ptr 8 (1,8) 0),(75,.bool x54)] [(2,some ((1,2),.box [.int .i64 p0.seq,.int .i64 p0.clock,.sl (List.map Stored.cs p0.pages),.sl (List.map Stored.cs p0.gone),.sl (List.map Proposal.cs p0.proposals),.int .i64 p0.proposed,.sl (List.map Watch.cs p0.watches),.sl (List.map Last.cs p0.lasts)])),(8,some ((1,8),.box [.int .i64 e52.number,.str e52.user,.str e52.note,.str e52.text,.int .i64 e52.minute,.int .i64 e52.seq]))] 2) (fun k15 hF=>?_) fun x54 hF=>?_
  ·refine rg ?_
   refine kS 32 hF rfl (fun hF=>?_) fun hF=>?_
   ·iterate 30 refine Zh rfl (Za ?_)
    exact jn true hF (sR [(2,1,2),(8,3,4)])
   refine kS 38 hF rfl (fun hF=>?_) fun hF=>?_
   ·iterate 26 refine Zh rfl (Za ?_)
    exact jn true hF (sR [(2,1,2),(8,3,4)])
   refine kS 44 hF rfl (fun hF=>?_) fun hF=>?_
   ·iterate 22 refine Zh rfl (Za ?_)
    exact jn true hF (sR [(2,1,2),(8,3,4)])
   obtain ⟨r55,h36,hF⟩:=bnd hF
   refine Zf (Zix _ _ h36) rfl rfl (Za ?_)
   refine kS 50 hF rfl (fun hF=>?_) fun hF=>?_
   ·iterate 18 refine Zh rfl (Za ?_)
    exact jn true hF (sR [(2,1,2),(8,3,4)])
   refine kS 56 hF rfl (fun hF=>?_) fun hF=>?_
   ·iterate 14 refine Zh rfl (Za ?_)
    exact jn true hF (sR [(2,1,2),(8,3,4)])
   refine kS 63 hF rfl (fun hF=>?_) fun hF=>?_
   ·iterate 9 refine Zh rfl (Za ?_)
    exact jn true hF (sR [(2,1,2),(8,3,4)])
   refine kS 69 hF rfl (fun hF=>?_) fun hF=>?_
   ·iterate 5 refine Zh rfl (Za ?_)
    exact jn true hF (sR [(2,1,2),(8,3,4)])
   exact jn (decide (p0.seq<e52.seq)) hF (sR [(2,1,2),(8,3,4)])
  refine cS hF rfl (fun hF=>?_) fun hF=>?_
  ·refine rg ?_
   cases hF
   exact rQ
  refine rg ?_
  refine rg ?_
  exact rn (mf13,e52.minute,e52.seq,(w64 (x39+1))) hF (sR [(2,1,2)])
 refine rg ?_
 cases hF
 exact rQ
def ZdM (p0:Watch) (p1:Watch):Option Bool:=
 letk (fun (x2:Bool)=>
  (some x2:Option Bool)) fun k1=>
 if (ltS p0.user p1.user) then
  k1 true
 else
 if (decide (p0.user=p1.user)) then
  (Zgz p0.title p1.title).bind fun r3=>
  k1 (decide (r3<0))
 else
 k1 false
theorem Ziy (p0:Watch) (p1:Watch) (r:Bool) (hF:ZdM p0 p1=some r):Zb Tryz.prog 142 [p0.pv,p1.pv] (.bool r):=by
 refine cF (fun r=>.bool r) hF mix Tryz.func142 fun r hF=>?_
 unfold ZdM at hF
 refine Za ?_
 refine rg ?_
 refine jL hF (fun x2=>mkS [(4,.bool x2)] [] 2) (fun k1 hF=>?_) fun x2 hF=>?_
 ·refine rg ?_
  refine kS 10 hF rfl (fun hF=>?_) fun hF=>?_
  ·iterate 13 refine Zh rfl (Za ?_)
   exact jn true hF (sR [])
  refine kS 16 hF rfl (fun hF=>?_) fun hF=>?_
  ·obtain ⟨r3,h2,hF⟩:=bnd hF
   refine Zf (Zf9 _ _ _ h2) rfl rfl (Za ?_)
   exact jn (decide (r3<0)) hF (sR [])
  iterate 6 refine Zh rfl (Za ?_)
  exact jn false hF (sR [])
 cases hF
 exact rQ
end Go.Proofs.YtjoneoobolnnbaaGreatDoor
