/- Functions of the program as Lean functions. Written by fxgen.py. -/
import Derived.Test.YtjoneoobolnnbaaGreatDoorCF17
import Derived.Test.YtjoneoobolnnbaaGreatDoorCF15
import Derived.Test.YtjoneoobolnnbaaGreatDoorCF16
import Derived.Test.YtjoneoobolnnbaaGreatDoorCF04
set_option linter.unusedVariables false
set_option maxHeartbeats 4000000
set_option maxRecDepth 100000
namespace Go.Proofs.YtjoneoobolnnbaaGreatDoor
open VL
def ZeC (p0:State) (p1:Title) (p2:Int):Option (Revision×Bool):=
 (ZbN p0 p1).bind fun r1=>
 ZK Zax (fun f2 (x11:Int)=>
  if (decide (x11<(r1.1.history.length:Int))) then
   (atI r1.1.history x11).bind fun e15=>
   if (decide (e15.number=p2)) then
    (some (e15,true):Option (Revision×Bool))
   else
   f2 (w64 (x11+1))
  else
  (some ((⟨0,(⟨#[]⟩:ByteArray),(⟨#[]⟩:ByteArray),(⟨#[]⟩:ByteArray),0,0⟩:Revision),false):Option (Revision×Bool))) 0
theorem ZiP (p0:State) (p1:Title) (p2:Int) (r:Revision×Bool) (hF:ZeC p0 p1 p2=some r):Zb Tryz.prog 105 [p0.pv,p1.pv,.int .i64 p2] (.tup [r.1.pv,.bool r.2]):=by
 refine cF (fun r=>.tup [r.1.pv,.bool r.2]) hF mix Tryz.func105 fun r hF=>?_
 unfold ZeC at hF
 refine Za ?_
 refine rg ?_
 refine rg ?_
 obtain ⟨r1,h1,hF⟩:=bnd hF
 refine Zf (Zdm _ _ _ h1) rfl rfl (Za ?_)
 refine rg ?_
 refine Zr rfl (M:=r1.1.history) (f:=Revision.cs) rfl (Za ?_)
 refine bl ?_
 refine Zn hF fun f2 mf2 hf2 hF=>?_
 refine Zl (α:=Nat×Int) (fun a _=>mkS [(2,.int .i64 p2),(6,.ptr 6 (1,6) 0),(19,.sl (List.map Revision.cs r1.1.history)),(20,.int .i64 (r1.1.history.length:Int)),(21,.int .i64 a.2)] [(6,some ((1,6),.box [.int .i64 0,.str (⟨#[]⟩:ByteArray),.str (⟨#[]⟩:ByteArray),.str (⟨#[]⟩:ByteArray),.int .i64 0,.int .i64 0]))] 2) (fun a=>ZK a.1 f2 a.2=some r) (fun a=>a.1) (mf2,0) 2 hF (sR [(6,1,2)]) (fun a _ hF=>?_)
 obtain ⟨mf2,x11⟩:=a
 obtain ⟨mf2,rfl,hF⟩:=Zo hf2 hF
 dsimp only at hF ⊢
 refine Za ?_
 refine rg ?_
 refine cS hF rfl (fun hF=>?_) fun hF=>?_
 ·refine bl ?_
  refine rg ?_
  obtain ⟨e15,h13,hF⟩:=bnd hF
  refine Zk (f:=Revision.cs) rfl h13 rfl rfl rfl (Za ?_)
  refine rg ?_
  refine cS hF rfl (fun hF=>?_) fun hF=>?_
  ·refine rg ?_
   cases hF
   exact rQ
  refine rg ?_
  exact rn (mf2,(w64 (x11+1))) hF (sR [(6,1,6)])
 refine rg ?_
 cases hF
 exact rQ
def ZbR (p0:State) (p1:Title) (p2:Int):Option (ByteArray×Bool):=
 if (decide (p2=0)) then
  (some ((⟨#[]⟩:ByteArray),true):Option (ByteArray×Bool))
 else
 (ZeC p0 p1 p2).bind fun r1=>
 (some (r1.1.text,r1.2):Option (ByteArray×Bool))
theorem Zd6 (p0:State) (p1:Title) (p2:Int) (r:ByteArray×Bool) (hF:ZbR p0 p1 p2=some r):Zb Tryz.prog 58 [p0.pv,p1.pv,.int .i64 p2] (.tup [.str r.1,.bool r.2]):=by
 refine cF (fun r=>.tup [.str r.1,.bool r.2]) hF mix Tryz.func58 fun r hF=>?_
 unfold ZbR at hF
 refine Za ?_
 refine rg ?_
 refine rg ?_
 refine cS hF rfl (fun hF=>?_) fun hF=>?_
 ·refine rg ?_
  cases hF
  exact rQ
 refine rg ?_
 obtain ⟨r1,h1,hF⟩:=bnd hF
 refine Zf (ZiP _ _ _ _ h1) rfl rfl (Za ?_)
 refine rg ?_
 cases hF
 exact rQ
def Zkc (p0:State) (p1:ByteArray) (p2:Title) (p3:Int) (p4:Int):Option ((List Edit)×Int):=
 letk (fun (x3:Bool)=>
  if x3 then
   (some ([],2):Option ((List Edit)×Int))
  else
  (Zbn p0).bind fun r4=>
  (ZbN p0 p2).bind fun r5=>
  (ZbR p0 p2 p3).bind fun r6=>
  (ZbR p0 p2 p4).bind fun r7=>
  (Zbq r4 p1).bind fun r11=>
  (ZeF r4 r11 1 p2).bind fun r12=>
  if (!r12) then
   (some ([],10):Option ((List Edit)×Int))
  else
  letk (fun (x13:Bool)=>
   if x13 then
    (some ([],4):Option ((List Edit)×Int))
   else
   (Zi7 r6.1 r7.1).bind fun r14=>
   (some (r14,0):Option ((List Edit)×Int))) fun k3=>
  if (!r5.2) then
   k3 true
  else
  if (!r6.2) then
   k3 true
  else
  k3 (!r7.2)) fun k1=>
 (Zd4 p2).bind fun r15=>
 if (!r15) then
  k1 true
 else
 if (!decide (p1=(⟨#[]⟩:ByteArray))) then
  (ZcG p1).bind fun r16=>
  k1 (!r16)
 else
 k1 false
theorem Zoc (p0:State) (p1:ByteArray) (p2:Title) (p3:Int) (p4:Int) (r:(List Edit)×Int) (hF:Zkc p0 p1 p2 p3 p4=some r):Zb Tryz.prog 29 [p0.pv,.str p1,p2.pv,.int .i64 p3,.int .i64 p4] (.tup [.sl (List.map Edit.cs r.1),.int .i64 r.2]):=by
 refine cF (fun r=>.tup [.sl (List.map Edit.cs r.1),.int .i64 r.2]) hF mix Tryz.func29 fun r hF=>?_
 unfold Zkc at hF
 refine Za ?_
 refine rg ?_
 refine jL hF (fun x3=>mkS [(1,.str p1),(3,.int .i64 p3),(4,.int .i64 p4),(5,.ptr 5 (1,5) 0),(7,.ptr 7 (1,7) 0),(30,.bool x3)] [(5,some ((1,5),.box [.int .i64 p0.seq,.int .i64 p0.clock,.sl (List.map Stored.cs p0.pages),.sl (List.map Stored.cs p0.gone),.sl (List.map Proposal.cs p0.proposals),.int .i64 p0.proposed,.sl (List.map Watch.cs p0.watches),.sl (List.map Last.cs p0.lasts)])),(7,some ((1,7),.box [.int .i64 p2.space,.str p2.name]))] 2) (fun k1 hF=>?_) fun x3 hF=>?_
 ·refine rg ?_
  obtain ⟨r15,h12,hF⟩:=bnd hF
  refine Zf (ZdD _ _ h12) rfl rfl (Za ?_)
  refine kS 22 hF rfl (fun hF=>?_) fun hF=>?_
  ·iterate 7 refine Zh rfl (Za ?_)
   exact jn true hF (sR [(5,1,0),(7,1,1)])
  refine kS 25 hF rfl (fun hF=>?_) fun hF=>?_
  ·obtain ⟨r16,h13,hF⟩:=bnd hF
   refine Zf (ZcH _ _ h13) rfl rfl (Za ?_)
   exact jn (!r16) hF (sR [(5,1,0),(7,1,1)])
  iterate 3 refine Zh rfl (Za ?_)
  exact jn false hF (sR [(5,1,0),(7,1,1)])
 refine cS hF rfl (fun hF=>?_) fun hF=>?_
 ·refine rg ?_
  cases hF
  exact rQ
 refine rg ?_
 obtain ⟨r4,h3,hF⟩:=bnd hF
 refine Zf (Zf5 _ _ h3) rfl rfl (Za ?_)
 refine rg ?_
 obtain ⟨r5,h4,hF⟩:=bnd hF
 refine Zf (Zdm _ _ _ h4) rfl rfl (Za ?_)
 refine rg ?_
 obtain ⟨r6,h5,hF⟩:=bnd hF
 refine Zf (Zd6 _ _ _ _ h5) rfl rfl (Za ?_)
 refine rg ?_
 obtain ⟨r7,h6,hF⟩:=bnd hF
 refine Zf (Zd6 _ _ _ _ h6) rfl rfl (Za ?_)
 refine bl ?_
 refine rg ?_
 obtain ⟨r11,h9,hF⟩:=bnd hF
 refine Zf (Zgi _ _ _ h9) rfl rfl (Za ?_)
 obtain ⟨r12,h10,hF⟩:=bnd hF
 refine Zf (Zit _ _ _ _ _ h10) rfl rfl (Za ?_)
 refine cS hF rfl (fun hF=>?_) fun hF=>?_
 ·refine rg ?_
  cases hF
  exact rQ
 refine jL hF (fun x13=>mkS [(15,.str r6.1),(17,.str r7.1),(61,.bool x13)] [] 2) (fun k3 hF=>?_) fun x13 hF=>?_
 ·refine rg ?_
  refine kS 64 hF rfl (fun hF=>?_) fun hF=>?_
  ·iterate 4 refine Zh rfl (Za ?_)
   exact jn true hF (sR [])
  refine kS 68 hF rfl (fun hF=>?_) fun hF=>?_
  ·iterate 2 refine Zh rfl (Za ?_)
   exact jn true hF (sR [])
  exact jn (!r7.2) hF (sR [])
 refine cS hF rfl (fun hF=>?_) fun hF=>?_
 ·refine rg ?_
  cases hF
  exact rQ
 refine rg ?_
 obtain ⟨r14,h11,hF⟩:=bnd hF
 refine Zf (Zng _ _ _ h11) rfl rfl (Za ?_)
 cases hF
 exact rQ
end Go.Proofs.YtjoneoobolnnbaaGreatDoor
