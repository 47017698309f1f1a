/- Functions of the program as Lean functions. Written by fxgen.py. -/
import Derived.Test.YtphibahplgmgfaaGreatDoorPB06
import Derived.Test.YtphibahplgmgfaaGreatDoorPB12
import Derived.Test.YtphibahplgmgfaaGreatDoorPB08
set_option linter.unusedVariables false
set_option maxHeartbeats 4000000
set_option maxRecDepth 100000
namespace Go.Proofs.YtphibahplgmgfaaGreatDoor
open VL
def r27_isUser (p0:ByteArray):Option Bool:=
 letk (fun (x2:Bool)=>
  (some x2:Option Bool)) fun k1=>
 if (decide (p0=(⟨#[]⟩:ByteArray))) then
  k1 true
 else
 (r12_IsName p0).bind fun r3=>
 k1 r3
theorem r27_isUser_c (p0:ByteArray) (r:Bool) (hF:r27_isUser p0=some r):Contract0 Tryz.prog 143 [.str p0] (.bool r):=by
 refine cF (fun r=>.bool r) hF mix Tryz.func143 fun r hF=>?_
 unfold r27_isUser at hF
 refine runX ?_
 refine rg ?_
 refine jL hF (fun x2=>mkS [(2,.bool x2)] [] 2) (fun k1 hF=>?_) fun x2 hF=>?_
 ·refine rg ?_
  refine kS 5 hF rfl (fun hF=>?_) fun hF=>?_
  ·iterate 2 refine g_skip rfl (runX ?_)
   exact jn true hF (sR [])
  obtain ⟨r3,h2,hF⟩:=bnd hF
  refine g_call (r12_IsName_c _ _ h2) rfl rfl (runX ?_)
  exact jn r3 hF (sR [])
 cases hF
 exact rQ
def r27_history (p0:State) (p1:List Revision):Option Bool:=
 letk (fun (x1:Bool)=>
  if x1 then
   (some false:Option Bool)
  else
  fixN bigN (fun f13 ((x37,x38,x39):Int×Int×Int)=>
   if (decide (x39<(p1.length:Int))) then
    (atI p1 x39).bind fun e52=>
    letk (fun (x54:Bool)=>
     if x54 then
      (some false:Option Bool)
     else
     f13 (e52.minute,e52.seq,(w64 (x39+1)))) fun k15=>
    if (!decide (e52.number=(w64 (x39+1)))) then
     k15 true
    else
    if (decide (8192<(e52.text.size:Int))) then
     k15 true
    else
    if (decide (200<(e52.note.size:Int))) then
     k15 true
    else
    (r27_isUser e52.user).bind fun r55=>
    if (!r55) then
     k15 true
    else
    if (decide (e52.minute<x37)) then
     k15 true
    else
    if (decide (p0.clock<e52.minute)) then
     k15 true
    else
    if (decide (e52.seq<x38)) then
     k15 true
    else
    k15 (decide (p0.seq<e52.seq))
   else
   (some true:Option Bool)) (0,1,0)) fun k1=>
 if (decide ((p1.length:Int)<1)) then
  k1 true
 else
 k1 (decide (40<(p1.length:Int)))
theorem r27_history_c (p0:State) (p1:List Revision) (r:Bool) (hF:r27_history p0 p1=some r):Contract0 Tryz.prog 142 [p0.pv,.sl (List.map Revision.cs p1)] (.bool r):=by
 refine cF (fun r=>.bool r) hF mix Tryz.func142 fun r hF=>?_
 unfold r27_history at hF
 refine runX ?_
 refine rg ?_
 refine jL hF (fun x1=>mkS [(1,.sl (List.map Revision.cs p1)),(2,.ptr 2 (1,2) 0),(16,.bool x1)] [(2,some ((1,2),.box [.int .i64 p0.seq,.int .i64 p0.clock,.sl (List.map Stored.cs p0.pages),.sl (List.map Stored.cs p0.gone),.sl (List.map Proposal.cs p0.proposals),.int .i64 p0.proposed,.sl (List.map Watch.cs p0.watches),.sl (List.map Last.cs p0.lasts)]))] 2) (fun k1 hF=>?_) fun x1 hF=>?_
 ·refine rg ?_
  refine g_lenM rfl (M:=p1) (f:=Revision.cs) rfl (runX ?_)
  refine kS 12 hF rfl (fun hF=>?_) fun hF=>?_
  ·iterate 3 refine g_skip rfl (runX ?_)
   exact jn true hF (sR [(2,1,0)])
  refine g_lenM rfl (M:=p1) (f:=Revision.cs) rfl (runX ?_)
  exact jn (decide (40<(p1.length:Int))) hF (sR [(2,1,0)])
 refine cS hF rfl (fun hF=>?_) fun hF=>?_
 ·refine rg ?_
  cases hF
  exact rQ
 refine rg ?_
 refine rg ?_
 refine bl ?_
 refine fix_elim hF fun f13 mf13 hf13 hF=>?_
 refine pws_loop (α:=Nat×(Int×Int×Int)) (fun a _=>mkS [(1,.sl (List.map Revision.cs p1)),(2,.ptr 2 (1,2) 0),(5,.int .i64 a.2.1),(6,.int .i64 a.2.2.1),(7,.int .i64 a.2.2.2)] [(2,some ((1,2),.box [.int .i64 p0.seq,.int .i64 p0.clock,.sl (List.map Stored.cs p0.pages),.sl (List.map Stored.cs p0.gone),.sl (List.map Proposal.cs p0.proposals),.int .i64 p0.proposed,.sl (List.map Watch.cs p0.watches),.sl (List.map Last.cs p0.lasts)]))] 2) (fun a=>fixN a.1 f13 a.2=some r) (fun a=>a.1) (mf13,0,1,0) 2 hF (sR [(2,1,2)]) (fun a _ hF=>?_)
 obtain ⟨mf13,x37,x38,x39⟩:=a
 obtain ⟨mf13,rfl,hF⟩:=fix_step hf13 hF
 dsimp only at hF ⊢
 refine runX ?_
 refine rg ?_
 refine g_lenM rfl (M:=p1) (f:=Revision.cs) rfl (runX ?_)
 refine cS hF rfl (fun hF=>?_) fun hF=>?_
 ·refine bl ?_
  refine rg ?_
  obtain ⟨e52,h34,hF⟩:=bnd hF
  refine g_indexI (f:=Revision.cs) rfl h34 rfl rfl rfl (runX ?_)
  refine jL hF (fun x54=>mkS [(1,.sl (List.map Revision.cs p1)),(2,.ptr 2 (1,2) 0),(7,.int .i64 x39),(8,.ptr 8 (1,8) 0),(75,.bool x54)] [(2,some ((1,2),.box [.int .i64 p0.seq,.int .i64 p0.clock,.sl (List.map Stored.cs p0.pages),.sl (List.map Stored.cs p0.gone),.sl (List.map Proposal.cs p0.proposals),.int .i64 p0.proposed,.sl (List.map Watch.cs p0.watches),.sl (List.map Last.cs p0.lasts)])),(8,some ((1,8),.box [.int .i64 e52.number,.str e52.user,.str e52.note,.str e52.text,.int .i64 e52.minute,.int .i64 e52.seq]))] 2) (fun k15 hF=>?_) fun x54 hF=>?_
  ·refine rg ?_
   refine kS 32 hF rfl (fun hF=>?_) fun hF=>?_
   ·iterate 30 refine g_skip rfl (runX ?_)
    exact jn true hF (sR [(2,1,2),(8,3,4)])
   refine kS 38 hF rfl (fun hF=>?_) fun hF=>?_
   ·iterate 26 refine g_skip rfl (runX ?_)
    exact jn true hF (sR [(2,1,2),(8,3,4)])
   refine kS 44 hF rfl (fun hF=>?_) fun hF=>?_
   ·iterate 22 refine g_skip rfl (runX ?_)
    exact jn true hF (sR [(2,1,2),(8,3,4)])
   obtain ⟨r55,h36,hF⟩:=bnd hF
   refine g_call (r27_isUser_c _ _ h36) rfl rfl (runX ?_)
   refine kS 50 hF rfl (fun hF=>?_) fun hF=>?_
   ·iterate 18 refine g_skip rfl (runX ?_)
    exact jn true hF (sR [(2,1,2),(8,3,4)])
   refine kS 56 hF rfl (fun hF=>?_) fun hF=>?_
   ·iterate 14 refine g_skip rfl (runX ?_)
    exact jn true hF (sR [(2,1,2),(8,3,4)])
   refine kS 63 hF rfl (fun hF=>?_) fun hF=>?_
   ·iterate 9 refine g_skip rfl (runX ?_)
    exact jn true hF (sR [(2,1,2),(8,3,4)])
   refine kS 69 hF rfl (fun hF=>?_) fun hF=>?_
   ·iterate 5 refine g_skip rfl (runX ?_)
    exact jn true hF (sR [(2,1,2),(8,3,4)])
   exact jn (decide (p0.seq<e52.seq)) hF (sR [(2,1,2),(8,3,4)])
  refine cS hF rfl (fun hF=>?_) fun hF=>?_
  ·refine rg ?_
   cases hF
   exact rQ
  refine rg ?_
  refine rg ?_
  exact rn (mf13,e52.minute,e52.seq,(w64 (x39+1))) hF (sR [(2,1,2)])
 refine rg ?_
 cases hF
 exact rQ
def r27_before (p0:Watch) (p1:Watch):Option Bool:=
 letk (fun (x2:Bool)=>
  (some x2:Option Bool)) fun k1=>
 if (ltS p0.user p1.user) then
  k1 true
 else
 if (decide (p0.user=p1.user)) then
  (r1_Compare p0.title p1.title).bind fun r3=>
  k1 (decide (r3<0))
 else
 k1 false
theorem r27_before_c (p0:Watch) (p1:Watch) (r:Bool) (hF:r27_before p0 p1=some r):Contract0 Tryz.prog 144 [p0.pv,p1.pv] (.bool r):=by
 refine cF (fun r=>.bool r) hF mix Tryz.func144 fun r hF=>?_
 unfold r27_before at hF
 refine runX ?_
 refine rg ?_
 refine jL hF (fun x2=>mkS [(4,.bool x2)] [] 2) (fun k1 hF=>?_) fun x2 hF=>?_
 ·refine rg ?_
  refine kS 10 hF rfl (fun hF=>?_) fun hF=>?_
  ·iterate 13 refine g_skip rfl (runX ?_)
   exact jn true hF (sR [])
  refine kS 16 hF rfl (fun hF=>?_) fun hF=>?_
  ·obtain ⟨r3,h2,hF⟩:=bnd hF
   refine g_call (r1_Compare_c _ _ _ h2) rfl rfl (runX ?_)
   exact jn (decide (r3<0)) hF (sR [])
  iterate 6 refine g_skip rfl (runX ?_)
  exact jn false hF (sR [])
 cases hF
 exact rQ
end Go.Proofs.YtphibahplgmgfaaGreatDoor
