/- Functions of the program as Lean functions. Written by fxgen.py. -/
import Derived.Test.YtjoneoobolnnbaaGreatDoorCB22
import Derived.Test.YtjoneoobolnnbaaGreatDoorCB13
import Derived.Test.YtjoneoobolnnbaaGreatDoorCB14
import Derived.Test.YtjoneoobolnnbaaGreatDoorCB04
set_option linter.unusedVariables false
set_option maxHeartbeats 4000000
set_option maxRecDepth 100000
namespace Go.Proofs.YtjoneoobolnnbaaGreatDoor
open VL
def Zdc (p0:State) (p1:Title) (p2:Int):Option (Revision×Bool):=
 (Zbr p0 p1).bind fun r1=>
 ZE Zaj (fun f2 (x11:Int)=>
  if (decide (x11<(r1.1.history.length:Int))) then
   (atI r1.1.history x11).bind fun e15=>
   if (decide (e15.number=p2)) then
    (some (e15,true):Option (Revision×Bool))
   else
   f2 (w64 (x11+1))
  else
  (some ((⟨0,(⟨#[]⟩:ByteArray),(⟨#[]⟩:ByteArray),(⟨#[]⟩:ByteArray),0,0⟩:Revision),false):Option (Revision×Bool))) 0
theorem Zlr (p0:State) (p1:Title) (p2:Int) (r:Revision×Bool) (h:Zdc p0 p1 p2=some r):Zd Tryz.prog 105 [p0.pv,p1.pv,.int .i64 p2] (.tup [r.1.pv,.bool r.2]):=by
 refine cF (fun r=>.tup [r.1.pv,.bool r.2]) h mix Tryz.func105 fun r h=>?_
 unfold Zdc at h
 refine Zh ?_
 refine rg ?_
 refine rg ?_
 refine aC h (ZeN _ _) fun r1 h=>?_
 refine rg ?_
 refine lM Revision.cs r1.1.history ?_
 refine bl ?_
 refine Zn h fun f2 mf2 hf2 h=>?_
 refine Zk (α:=Nat×Int) (fun a _=>mkS [(2,.int .i64 p2),(6,.ptr 6 (1,6) 0),(19,.sl (List.map Revision.cs r1.1.history)),(20,.int .i64 (r1.1.history.length:Int)),(21,.int .i64 a.2)] [(6,some ((1,6),.box [.int .i64 0,.str (⟨#[]⟩:ByteArray),.str (⟨#[]⟩:ByteArray),.str (⟨#[]⟩:ByteArray),.int .i64 0,.int .i64 0]))] 2) (fun a=>ZE a.1 f2 a.2=some r) (fun a=>a.1) (mf2,0) 2 h (sR [(6,1,2)]) (fun a _ h=>?_)
 obtain ⟨mf2,x11⟩:=a
 obtain ⟨mf2,rfl,h⟩:=Zo hf2 h
 dsimp only at h ⊢
 refine Zh ?_
 refine rg ?_
 refine cS h rfl (fun h=>?_) fun h=>?_
 ·refine bl ?_
  refine rg ?_
  refine aI Revision.cs h fun e15 h=>?_
  refine rg ?_
  refine cS h rfl (fun h=>?_) fun h=>?_
  ·refine rg ?_
   cases h
   exact rQ
  refine rg ?_
  exact rn (mf2,(w64 (x11+1))) h (sR [(6,1,6)])
 refine rg ?_
 cases h
 exact rQ
def ZaM (p0:State) (p1:Title) (p2:Int):Option (ByteArray×Bool):=
 if (decide (p2=0)) then
  (some ((⟨#[]⟩:ByteArray),true):Option (ByteArray×Bool))
 else
 (Zdc p0 p1 p2).bind fun r1=>
 (some (r1.1.text,r1.2):Option (ByteArray×Bool))
theorem ZfG (p0:State) (p1:Title) (p2:Int) (r:ByteArray×Bool) (h:ZaM p0 p1 p2=some r):Zd Tryz.prog 58 [p0.pv,p1.pv,.int .i64 p2] (.tup [.str r.1,.bool r.2]):=by
 refine cF (fun r=>.tup [.str r.1,.bool r.2]) h mix Tryz.func58 fun r h=>?_
 unfold ZaM at h
 refine Zh ?_
 refine rg ?_
 refine rg ?_
 refine cS h rfl (fun h=>?_) fun h=>?_
 ·refine rg ?_
  cases h
  exact rQ
 refine rg ?_
 refine aC h (Zlr _ _ _) fun r1 h=>?_
 refine rg ?_
 cases h
 exact rQ
def Zb2 (p0:State) (p1:ByteArray) (p2:Title) (p3:Int) (p4:Int):Option ((List Edit)×Int):=
 letk (fun (x3:Bool)=>
  if x3 then
   (some ([],2):Option ((List Edit)×Int))
  else
  (Zck p0).bind fun r4=>
  (Zbr p0 p2).bind fun r5=>
  (ZaM p0 p2 p3).bind fun r6=>
  (ZaM p0 p2 p4).bind fun r7=>
  (Zbp r4 p1).bind fun r11=>
  (ZbY r4 r11 1 p2).bind fun r12=>
  if (!r12) then
   (some ([],10):Option ((List Edit)×Int))
  else
  letk (fun (x13:Bool)=>
   if x13 then
    (some ([],4):Option ((List Edit)×Int))
   else
   (Zdy r6.1 r7.1).bind fun r14=>
   (some (r14,0):Option ((List Edit)×Int))) fun k3=>
  if (!r5.2) then
   k3 true
  else
  if (!r6.2) then
   k3 true
  else
  k3 (!r7.2)) fun k1=>
 (Zdn p2).bind fun r15=>
 if (!r15) then
  k1 true
 else
 if (!decide (p1=(⟨#[]⟩:ByteArray))) then
  (Zcn p1).bind fun r16=>
  k1 (!r16)
 else
 k1 false
theorem Zhe (p0:State) (p1:ByteArray) (p2:Title) (p3:Int) (p4:Int) (r:(List Edit)×Int) (h:Zb2 p0 p1 p2 p3 p4=some r):Zd Tryz.prog 29 [p0.pv,.str p1,p2.pv,.int .i64 p3,.int .i64 p4] (.tup [.sl (List.map Edit.cs r.1),.int .i64 r.2]):=by
 refine cF (fun r=>.tup [.sl (List.map Edit.cs r.1),.int .i64 r.2]) h mix Tryz.func29 fun r h=>?_
 unfold Zb2 at h
 refine Zh ?_
 refine rg ?_
 refine jL h (fun x3=>mkS [(1,.str p1),(3,.int .i64 p3),(4,.int .i64 p4),(5,.ptr 5 (1,5) 0),(7,.ptr 7 (1,7) 0),(30,.bool x3)] [(5,some ((1,5),.box (State.cs p0))),(7,some ((1,7),.box (Title.cs p2)))] 2) (fun k1 h=>?_) fun x3 h=>?_
 ·refine rg ?_
  refine aC h (Ze9 _) fun r15 h=>?_
  refine kS 22 h rfl (fun h=>?_) fun h=>?_
  ·iterate 7 refine Zi rfl (Zh ?_)
   exact jn true h (sR [(5,1,0),(7,1,1)])
  refine kS 25 h rfl (fun h=>?_) fun h=>?_
  ·refine aC h (ZdY _) fun r16 h=>?_
   exact jn (!r16) h (sR [(5,1,0),(7,1,1)])
  iterate 3 refine Zi rfl (Zh ?_)
  exact jn false h (sR [(5,1,0),(7,1,1)])
 refine cS h rfl (fun h=>?_) fun h=>?_
 ·refine rg ?_
  cases h
  exact rQ
 refine rg ?_
 refine aC h (Zh5 _) fun r4 h=>?_
 refine rg ?_
 refine aC h (ZeN _ _) fun r5 h=>?_
 refine rg ?_
 refine aC h (ZfG _ _ _) fun r6 h=>?_
 refine rg ?_
 refine aC h (ZfG _ _ _) fun r7 h=>?_
 refine bl ?_
 refine rg ?_
 refine aC h (Zim _ _) fun r11 h=>?_
 refine aC h (ZkY _ _ _ _) fun r12 h=>?_
 refine cS h rfl (fun h=>?_) fun h=>?_
 ·refine rg ?_
  cases h
  exact rQ
 refine jL h (fun x13=>mkS [(15,.str r6.1),(17,.str r7.1),(61,.bool x13)] [] 2) (fun k3 h=>?_) fun x13 h=>?_
 ·refine rg ?_
  refine kS 64 h rfl (fun h=>?_) fun h=>?_
  ·iterate 4 refine Zi rfl (Zh ?_)
   exact jn true h (sR [])
  refine kS 68 h rfl (fun h=>?_) fun h=>?_
  ·iterate 2 refine Zi rfl (Zh ?_)
   exact jn true h (sR [])
  exact jn (!r7.2) h (sR [])
 refine cS h rfl (fun h=>?_) fun h=>?_
 ·refine rg ?_
  cases h
  exact rQ
 refine rg ?_
 refine aC h (Zqo _ _) fun r14 h=>?_
 cases h
 exact rQ
end Go.Proofs.YtjoneoobolnnbaaGreatDoor
