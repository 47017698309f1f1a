/- Functions of the program as Lean functions. Written by fxgen.py. -/
import Derived.Test.YtpffimahajgiaaaGreatDoorVV10
import Derived.Test.YtpffimahajgiaaaGreatDoorVV13
import Derived.Test.YtpffimahajgiaaaGreatDoorVV19
import Derived.Test.YtpffimahajgiaaaGreatDoorVV03
set_option linter.unusedVariables false
set_option maxHeartbeats 4000000
set_option maxRecDepth 100000
namespace Go.Proofs.YtpffimahajgiaaaGreatDoor
open VL
def Zcm (p0:List Page):Option Int:=
 Zbf Zdy (fun f8 (x38:Int)=>
  if (decide (x38<(p0.length:Int))) then
   (atI p0 x38).bind fun e60=>
   (Zbo e60.title).bind fun r61=>
   if (!r61) then
    (some 1:Option Int)
   else
   letk (fun (x64:Bool)=>
    if x64 then
     (some 6:Option Int)
    else
    if (decide (8192<(e60.text.size:Int))) then
     (some 3:Option Int)
    else
    if (decide (e60.revision<1)) then
     (some 2:Option Int)
    else
    f8 (w64 (x38+1))) fun k10=>
   if (decide (0<x38)) then
    (atI p0 (w64 (x38 - 1))).bind fun e65=>
    (Za1 e65.title e60.title).bind fun r66=>
    k10 (decide (0≤r66))
   else
   k10 false
  else
  (some 0:Option Int)) 0
theorem Zeq (p0:List Page) (r:Int) (h:Zcm p0=some r):ZH Tryz.prog 31 [.sl (List.map Page.cs p0)] (.int .i64 r):=by
 refine cF (fun r=>.int .i64 r) h mix Tryz.func31 fun r h=>?_
 unfold Zcm at h
 refine Zac ?_
 refine rg ?_
 refine rg ?_
 refine lM Page.cs p0 ?_
 refine bl ?_
 refine Zat h fun f8 mf8 hf8 h=>?_
 refine Zah (α:=Nat×Int) (fun a _=>mkS [(0,.sl (List.map Page.cs p0)),(5,.sl (List.map Page.cs p0)),(6,.int .i64 (p0.length:Int)),(7,.int .i64 a.2)] [] 2) (fun a=>Zbf a.1 f8 a.2=some r) (fun a=>a.1) (mf8,0) 2 h (sR []) (fun a _ h=>?_)
 obtain ⟨mf8,x38⟩:=a
 obtain ⟨mf8,rfl,h⟩:=Zau hf8 h
 dsimp only at h ⊢
 refine Zac ?_
 refine rg ?_
 refine cS h rfl (fun h=>?_) fun h=>?_
 ·refine bl ?_
  refine rg ?_
  refine aI Page.cs h fun e60 h=>?_
  refine bl ?_
  refine rg ?_
  refine aC h (Zb3 _) fun r61 h=>?_
  refine cS h rfl (fun h=>?_) fun h=>?_
  ·refine rg ?_
   cases h
   exact rQ
  refine jL h (fun x64=>mkS [(0,.sl (List.map Page.cs p0)),(4,.ptr 4 (1,4) 0),(5,.sl (List.map Page.cs p0)),(6,.int .i64 (p0.length:Int)),(7,.int .i64 x38),(17,.bool x64)] [(4,some ((1,4),.box (Page.cs e60)))] 2) (fun k10 h=>?_) fun x64 h=>?_
  ·refine rg ?_
   refine kS 20 h rfl (fun h=>?_) fun h=>?_
   ·refine aI Page.cs h fun e65 h=>?_
    refine aC h (Zc7 _ _) fun r66 h=>?_
    exact jn (decide (0≤r66)) h (sR [(4,3,3)])
   iterate 10 refine ZY rfl (Zac ?_)
   exact jn false h (sR [(4,3,3)])
  refine cS h rfl (fun h=>?_) fun h=>?_
  ·refine rg ?_
   cases h
   exact rQ
  refine rg ?_
  refine cS h rfl (fun h=>?_) fun h=>?_
  ·refine rg ?_
   cases h
   exact rQ
  refine rg ?_
  refine cS h rfl (fun h=>?_) fun h=>?_
  ·refine rg ?_
   cases h
   exact rQ
  refine rg ?_
  exact rn (mf8,(w64 (x38+1))) h (sR [])
 refine rg ?_
 cases h
 exact rQ
def Za2 (p0:List ByteArray):Option Int:=
 Zbf Zdy (fun f8 (x30:Int)=>
  if (decide (x30<(p0.length:Int))) then
   (atI p0 x30).bind fun e46=>
   (ZdG e46).bind fun r47=>
   if (!r47) then
    (some 1:Option Int)
   else
   letk (fun (x49:Bool)=>
    if x49 then
     (some 6:Option Int)
    else
    f8 (w64 (x30+1))) fun k10=>
   if (decide (0<x30)) then
    (atI p0 (w64 (x30 - 1))).bind fun e50=>
    k10 (!ltS e50 e46)
   else
   k10 false
  else
  (some 0:Option Int)) 0
theorem Zee (p0:List ByteArray) (r:Int) (h:Za2 p0=some r):ZH Tryz.prog 33 [.sl (List.map csS p0)] (.int .i64 r):=by
 refine cF (fun r=>.int .i64 r) h mix Tryz.func33 fun r h=>?_
 unfold Za2 at h
 refine Zac ?_
 refine rg ?_
 refine rg ?_
 refine lM csS p0 ?_
 refine bl ?_
 refine Zat h fun f8 mf8 hf8 h=>?_
 refine Zah (α:=Nat×Int) (fun a _=>mkS [(0,.sl (List.map csS p0)),(5,.sl (List.map csS p0)),(6,.int .i64 (p0.length:Int)),(7,.int .i64 a.2)] [] 2) (fun a=>Zbf a.1 f8 a.2=some r) (fun a=>a.1) (mf8,0) 2 h (sR []) (fun a _ h=>?_)
 obtain ⟨mf8,x30⟩:=a
 obtain ⟨mf8,rfl,h⟩:=Zau hf8 h
 dsimp only at h ⊢
 refine Zac ?_
 refine rg ?_
 refine cS h rfl (fun h=>?_) fun h=>?_
 ·refine bl ?_
  refine rg ?_
  refine aI csS h fun e46 h=>?_
  refine rg ?_
  refine aC h (ZeQ _) fun r47 h=>?_
  refine cS h rfl (fun h=>?_) fun h=>?_
  ·refine rg ?_
   cases h
   exact rQ
  refine jL h (fun x49=>mkS [(0,.sl (List.map csS p0)),(5,.sl (List.map csS p0)),(6,.int .i64 (p0.length:Int)),(7,.int .i64 x30),(25,.bool x49)] [] 2) (fun k10 h=>?_) fun x49 h=>?_
  ·refine rg ?_
   refine kS 17 h rfl (fun h=>?_) fun h=>?_
   ·refine aI csS h fun e50 h=>?_
    exact jn (!ltS e50 e46) h (sR [])
   iterate 7 refine ZY rfl (Zac ?_)
   exact jn false h (sR [])
  refine cS h rfl (fun h=>?_) fun h=>?_
  ·refine rg ?_
   cases h
   exact rQ
  refine rg ?_
  exact rn (mf8,(w64 (x30+1))) h (sR [])
 refine rg ?_
 cases h
 exact rQ
def Za8 (p0:List Asked):Option Int:=
 Zbf Zdy (fun f2 ((x11,x12):Int×(List (Key×Bool)))=>
  if (decide (x11<(p0.length:Int))) then
   (atI p0 x11).bind fun e16=>
   if ((Zbw x12 e16.key).getD false) then
    (some 5:Option Int)
   else
   if (decide (32768<(e16.answer.text.size:Int))) then
    (some 3:Option Int)
   else
   f2 ((w64 (x11+1)),(Zb0 x12 e16.key true))
  else
  (some 0:Option Int)) (0,([]:List (Key×Bool)))
theorem Zer (p0:List Asked) (r:Int) (h:Za8 p0=some r):ZH Tryz.prog 34 [.sl (List.map Asked.cs p0)] (.int .i64 r):=by
 refine cF (fun r=>.int .i64 r) h mix Tryz.func34 fun r h=>?_
 unfold Za8 at h
 refine Zac ?_
 refine rg ?_
 refine rg ?_
 refine ZkI Key.pv PV.bool rfl (Zac ?_)
 refine rg ?_
 refine lM Asked.cs p0 ?_
 refine bl ?_
 refine Zat h fun f2 mf2 hf2 h=>?_
 refine Zah (α:=Nat×(Int×(List (Key×Bool)))) (fun a _=>mkS [(3,.mp 6 (1,6)),(7,.sl (List.map Asked.cs p0)),(8,.int .i64 (p0.length:Int)),(9,.int .i64 a.2.1)] [(6,some ((1,6),.mp (Zf3 Key.pv PV.bool a.2.2)))] 2) (fun a=>Zbf a.1 f2 a.2=some r) (fun a=>a.1) (mf2,0,([]:List (Key×Bool))) 2 h (sR [(6,2,0)]) (fun a _ h=>?_)
 obtain ⟨mf2,x11,x12⟩:=a
 obtain ⟨mf2,rfl,h⟩:=Zau hf2 h
 dsimp only at h ⊢
 refine Zac ?_
 refine rg ?_
 refine cS h rfl (fun h=>?_) fun h=>?_
 ·refine bl ?_
  refine rg ?_
  refine aI Asked.cs h fun e16 h=>?_
  refine rg ?_
  refine Zl9 Key.pv PV.bool e16.key false rfl rfl rfl rfl rfl (Zac ?_)
  refine cS h rfl (fun h=>?_) fun h=>?_
  ·refine rg ?_
   cases h
   exact rQ
  refine rg ?_
  refine cS h rfl (fun h=>?_) fun h=>?_
  ·refine rg ?_
   cases h
   exact rQ
  refine rg ?_
  refine Zl8 Key.pv PV.bool e16.key true rfl rfl rfl rfl rfl (Zac ?_)
  refine rg ?_
  exact rn (mf2,(w64 (x11+1)),(Zb0 x12 e16.key true)) h (sR [(6,1,6)])
 refine rg ?_
 cases h
 exact rQ
def ZaQ (p0:View):Option Int:=
 letk (fun (x1:Bool)=>
  if x1 then
   (some 3:Option Int)
  else
  (Zcm p0.pages).bind fun r2=>
  if (!decide (r2=0)) then
   (some r2:Option Int)
  else
  (Zcl p0.policy).bind fun r3=>
  if (!decide (r3=0)) then
   (some r3:Option Int)
  else
  (Za2 p0.groups).bind fun r4=>
  if (!decide (r4=0)) then
   (some r4:Option Int)
  else
  letk (fun (x5:Bool)=>
   if x5 then
    (some 2:Option Int)
   else
   (Za8 p0.fixed).bind fun r6=>
   (some r6:Option Int)) fun k2=>
  if (decide (p0.clock<0)) then
   k2 true
  else
  k2 (decide (52596000≤p0.clock))) fun k1=>
 if (decide (200<(p0.pages.length:Int))) then
  k1 true
 else
 if (decide (26<(p0.groups.length:Int))) then
  k1 true
 else
 k1 (decide (20000<(p0.fixed.length:Int)))
theorem Zbx (p0:View) (r:Int) (h:ZaQ p0=some r):ZH Tryz.prog 11 [p0.pv] (.int .i64 r):=by
 refine cF (fun r=>.int .i64 r) h mix Tryz.func11 fun r h=>?_
 unfold ZaQ at h
 refine Zac ?_
 refine rg ?_
 refine jL h (fun x1=>mkS [(1,.ptr 1 (1,1) 0),(21,.bool x1)] [(1,some ((1,1),.box (View.cs p0)))] 2) (fun k1 h=>?_) fun x1 h=>?_
 ·refine rg ?_
  refine lM Page.cs p0.pages ?_
  refine kS 10 h rfl (fun h=>?_) fun h=>?_
  ·iterate 8 refine ZY rfl (Zac ?_)
   exact jn true h (sR [(1,1,0)])
  refine lM csS p0.groups ?_
  refine kS 16 h rfl (fun h=>?_) fun h=>?_
  ·iterate 4 refine ZY rfl (Zac ?_)
   exact jn true h (sR [(1,1,0)])
  refine lM Asked.cs p0.fixed ?_
  exact jn (decide (20000<(p0.fixed.length:Int))) h (sR [(1,1,0)])
 refine cS h rfl (fun h=>?_) fun h=>?_
 ·refine rg ?_
  cases h
  exact rQ
 refine rg ?_
 refine aC h (Zeq _) fun r2 h=>?_
 refine rg ?_
 refine cS h rfl (fun h=>?_) fun h=>?_
 ·refine rg ?_
  cases h
  exact rQ
 refine rg ?_
 refine aC h (Zen _) fun r3 h=>?_
 refine rg ?_
 refine cS h rfl (fun h=>?_) fun h=>?_
 ·refine rg ?_
  cases h
  exact rQ
 refine rg ?_
 refine aC h (Zee _) fun r4 h=>?_
 refine rg ?_
 refine cS h rfl (fun h=>?_) fun h=>?_
 ·refine rg ?_
  cases h
  exact rQ
 refine jL h (fun x5=>mkS [(1,.ptr 1 (1,1) 0),(47,.bool x5)] [(1,some ((1,1),.box (View.cs p0)))] 2) (fun k2 h=>?_) fun x5 h=>?_
 ·refine rg ?_
  refine kS 43 h rfl (fun h=>?_) fun h=>?_
  ·iterate 3 refine ZY rfl (Zac ?_)
   exact jn true h (sR [(1,1,1)])
  exact jn (decide (52596000≤p0.clock)) h (sR [(1,1,1)])
 refine cS h rfl (fun h=>?_) fun h=>?_
 ·refine rg ?_
  cases h
  exact rQ
 refine rg ?_
 refine aC h (Zer _) fun r6 h=>?_
 cases h
 exact rQ
def ZaL (p0:Key):Option Bool:=
 letk (fun (x13:Bool)=>
  if x13 then
   letk (fun (x15:Bool)=>
    (some x15:Option Bool)) fun k8=>
   (Zbo p0.title).bind fun r16=>
   if r16 then
    k8 (decide (p0.n=0))
   else
   k8 false
  else
  letk (fun (x17:Bool)=>
   if x17 then
    letk (fun (x19:Bool)=>
     (some x19:Option Bool)) fun k10=>
    (Zbo p0.title).bind fun r20=>
    if r20 then
     if (decide (p0.title.space=4)) then
      k10 (decide (p0.n=0))
     else
     k10 false
    else
    k10 false
   else
   if (decide (p0.kind=5)) then
    letk (fun (x21:Bool)=>
     (some x21:Option Bool)) fun k11=>
    if (decide (p0.title=(⟨0,(⟨#[]⟩:ByteArray)⟩:Title))) then
     if (decide (1≤p0.n)) then
      k11 (decide (p0.n≤5))
     else
     k11 false
    else
    k11 false
   else
   if (decide (p0.kind=6)) then
    letk (fun (x23:Bool)=>
     (some x23:Option Bool)) fun k12=>
    (Zbo p0.title).bind fun r24=>
    if r24 then
     if (decide (1≤p0.n)) then
      k12 (decide (p0.n≤5))
     else
     k12 false
    else
    k12 false
   else
   (some false:Option Bool)) fun k9=>
  if (decide (p0.kind=3)) then
   k9 (decide (p0.kind=3))
  else
  k9 (decide (p0.kind=4))) fun k7=>
 if (decide (p0.kind=1)) then
  k7 (decide (p0.kind=1))
 else
 if (decide (p0.kind=2)) then
  k7 (decide (p0.kind=2))
 else
 k7 (decide (p0.kind=7))
theorem Zby (p0:Key) (r:Bool) (h:ZaL p0=some r):ZH Tryz.prog 13 [p0.pv] (.bool r):=by
 refine cF (fun r=>.bool r) h mix Tryz.func13 fun r h=>?_
 unfold ZaL at h
 refine Zac ?_
 refine rg ?_
 refine rg ?_
 refine bl ?_
 refine rg ?_
 refine jL h (fun x13=>mkS [(1,.ptr 1 (1,1) 0),(4,.int .i64 p0.kind),(5,.bool x13)] [(1,some ((1,1),.box (Key.cs p0)))] 2) (fun k7 h=>?_) fun x13 h=>?_
 ·refine cS h rfl (fun h=>?_) fun h=>?_
  ·exact jn (decide (p0.kind=1)) h (sR [(1,1,0)])
  refine rg ?_
  refine cS h rfl (fun h=>?_) fun h=>?_
  ·exact jn (decide (p0.kind=2)) h (sR [(1,1,0)])
  refine rg ?_
  exact jn (decide (p0.kind=7)) h (sR [(1,1,0)])
 refine cS h rfl (fun h=>?_) fun h=>?_
 ·refine jL h (fun x15=>mkS [(2,.bool x15)] [] 2) (fun k8 h=>?_) fun x15 h=>?_
  ·refine rg ?_
   refine aC h (Zb3 _) fun r16 h=>?_
   refine kS 12 h rfl (fun h=>?_) fun h=>?_
   ·exact jn (decide (p0.n=0)) h (sR [])
   iterate 3 refine ZY rfl (Zac ?_)
   exact jn false h (sR [])
  cases h
  exact rQ
 refine rg ?_
 refine jL h (fun x17=>mkS [(1,.ptr 1 (1,1) 0),(4,.int .i64 p0.kind),(17,.bool x17)] [(1,some ((1,1),.box (Key.cs p0)))] 2) (fun k9 h=>?_) fun x17 h=>?_
 ·refine cS h rfl (fun h=>?_) fun h=>?_
  ·exact jn (decide (p0.kind=3)) h (sR [(1,1,1)])
  refine rg ?_
  exact jn (decide (p0.kind=4)) h (sR [(1,1,1)])
 refine cS h rfl (fun h=>?_) fun h=>?_
 ·refine jL h (fun x19=>mkS [(2,.bool x19)] [] 2) (fun k10 h=>?_) fun x19 h=>?_
  ·refine rg ?_
   refine aC h (Zb3 _) fun r20 h=>?_
   refine kS 23 h rfl (fun h=>?_) fun h=>?_
   ·refine kS 29 h rfl (fun h=>?_) fun h=>?_
    ·exact jn (decide (p0.n=0)) h (sR [])
    iterate 3 refine ZY rfl (Zac ?_)
    exact jn false h (sR [])
   iterate 7 refine ZY rfl (Zac ?_)
   exact jn false h (sR [])
  cases h
  exact rQ
 refine rg ?_
 refine cS h rfl (fun h=>?_) fun h=>?_
 ·refine jL h (fun x21=>mkS [(2,.bool x21)] [] 2) (fun k11 h=>?_) fun x21 h=>?_
  ·refine rg ?_
   refine ZfA (.inl rfl) rfl rfl rfl rfl rfl (fun W=>Zd4 p0.title (⟨0,(⟨#[]⟩:ByteArray)⟩:Title) W) (Zac ?_)
   refine kS 40 h rfl (fun h=>?_) fun h=>?_
   ·refine kS 45 h rfl (fun h=>?_) fun h=>?_
    ·exact jn (decide (p0.n≤5)) h (sR [])
    iterate 3 refine ZY rfl (Zac ?_)
    exact jn false h (sR [])
   iterate 6 refine ZY rfl (Zac ?_)
   exact jn false h (sR [])
  cases h
  exact rQ
 refine rg ?_
 refine cS h rfl (fun h=>?_) fun h=>?_
 ·refine jL h (fun x23=>mkS [(2,.bool x23)] [] 2) (fun k12 h=>?_) fun x23 h=>?_
  ·refine rg ?_
   refine aC h (Zb3 _) fun r24 h=>?_
   refine kS 55 h rfl (fun h=>?_) fun h=>?_
   ·refine kS 60 h rfl (fun h=>?_) fun h=>?_
    ·exact jn (decide (p0.n≤5)) h (sR [])
    iterate 3 refine ZY rfl (Zac ?_)
    exact jn false h (sR [])
   iterate 6 refine ZY rfl (Zac ?_)
   exact jn false h (sR [])
  cases h
  exact rQ
 refine rg ?_
 cases h
 exact rQ
def Zfm (p0:List Asked) (p1:Key):Option (Answer×Bool):=
 Zbf Zdy (fun f2 (x10:Int)=>
  if (decide (x10<(p0.length:Int))) then
   (atI p0 x10).bind fun e14=>
   if (decide (e14.key=p1)) then
    (some (e14.answer,true):Option (Answer×Bool))
   else
   f2 (w64 (x10+1))
  else
  (some ((⟨false,(⟨#[]⟩:ByteArray),0⟩:Answer),false):Option (Answer×Bool))) 0
theorem Ziq (p0:List Asked) (p1:Key) (r:Answer×Bool) (h:Zfm p0 p1=some r):ZH Tryz.prog 56 [.sl (List.map Asked.cs p0),p1.pv] (.tup [r.1.pv,.bool r.2]):=by
 refine cF (fun r=>.tup [r.1.pv,.bool r.2]) h mix Tryz.func56 fun r h=>?_
 unfold Zfm at h
 refine Zac ?_
 refine rg ?_
 refine rg ?_
 refine lM Asked.cs p0 ?_
 refine bl ?_
 refine Zat h fun f2 mf2 hf2 h=>?_
 refine Zah (α:=Nat×Int) (fun a _=>mkS [(3,.ptr 3 (1,3) 0),(4,.ptr 4 (1,4) 0),(8,.sl (List.map Asked.cs p0)),(9,.int .i64 (p0.length:Int)),(10,.int .i64 a.2)] [(3,some ((1,3),.box (Key.cs p1))),(4,some ((1,4),.box [.bool false,.str (⟨#[]⟩:ByteArray),.int .i64 0]))] 2) (fun a=>Zbf a.1 f2 a.2=some r) (fun a=>a.1) (mf2,0) 2 h (sR [(3,1,0),(4,1,1)]) (fun a _ h=>?_)
 obtain ⟨mf2,x10⟩:=a
 obtain ⟨mf2,rfl,h⟩:=Zau hf2 h
 dsimp only at h ⊢
 refine Zac ?_
 refine rg ?_
 refine cS h rfl (fun h=>?_) fun h=>?_
 ·refine bl ?_
  refine rg ?_
  refine aI Asked.cs h fun e14 h=>?_
  refine rg ?_
  refine ZfA (.inl rfl) rfl rfl rfl rfl rfl (fun W=>Zj3 e14.key p1 W) (Zac ?_)
  refine cS h rfl (fun h=>?_) fun h=>?_
  ·refine rg ?_
   cases h
   exact rQ
  refine rg ?_
  exact rn (mf2,(w64 (x10+1))) h (sR [(3,1,3),(4,1,4)])
 refine rg ?_
 cases h
 exact rQ
def Zfn (p0:View) (p1:Key):Option Answer:=
 Zbf Zdy (fun f12 (x26:Int)=>
  if (decide (x26<(p0.pages.length:Int))) then
   (atI p0.pages x26).bind fun e36=>
   if (!decide (e36.title=p1.title)) then
    f12 (w64 (x26+1))
   else
   letk (fun (x37:ByteArray) (x38:Int)=>
    (some (⟨true,x37,x38⟩:Answer):Option Answer)) fun k14=>
   if (decide (p1.kind=1)) then
    k14 e36.text 0
   else
   if (decide (p1.kind=7)) then
    k14 (⟨#[]⟩:ByteArray) e36.revision
   else
   k14 (⟨#[]⟩:ByteArray) 0
  else
  (some (⟨false,(⟨#[]⟩:ByteArray),0⟩:Answer):Option Answer)) 0
theorem Zir (p0:View) (p1:Key) (r:Answer) (h:Zfn p0 p1=some r):ZH Tryz.prog 60 [p0.pv,p1.pv] (r.pv):=by
 refine cF (fun r=>r.pv) h mix Tryz.func60 fun r h=>?_
 unfold Zfn at h
 refine Zac ?_
 refine rg ?_
 refine rg ?_
 refine lM Page.cs p0.pages ?_
 refine bl ?_
 refine Zat h fun f12 mf12 hf12 h=>?_
 refine Zah (α:=Nat×Int) (fun a _=>mkS [(3,.ptr 3 (1,3) 0),(4,.ptr 4 (1,4) 0),(9,.sl (List.map Page.cs p0.pages)),(10,.int .i64 (p0.pages.length:Int)),(11,.int .i64 a.2)] [(3,some ((1,3),.box (Key.cs p1))),(4,some ((1,4),.box [.bool false,.str (⟨#[]⟩:ByteArray),.int .i64 0]))] 2) (fun a=>Zbf a.1 f12 a.2=some r) (fun a=>a.1) (mf12,0) 2 h (sR [(3,1,1),(4,1,2)]) (fun a _ h=>?_)
 obtain ⟨mf12,x26⟩:=a
 obtain ⟨mf12,rfl,h⟩:=Zau hf12 h
 dsimp only at h ⊢
 refine Zac ?_
 refine rg ?_
 refine cS h rfl (fun h=>?_) fun h=>?_
 ·refine bl ?_
  refine rg ?_
  refine aI Page.cs h fun e36 h=>?_
  refine rg ?_
  refine ZfA (.inr rfl) rfl rfl rfl rfl rfl (fun W=>ZlA e36.title p1.title W) (Zac ?_)
  refine cS h rfl (fun h=>?_) fun h=>?_
  ·refine rg ?_
   exact rn (mf12,(w64 (x26+1))) h (sR [(3,1,3),(4,1,4)])
  refine rg ?_
  refine rg ?_
  refine Zbk h fun k14 hk14 h=>?_
  refine Zbv (α:=ByteArray×Int) (fun a _=>mkS [(4,.ptr 4 (1,4) 0),(7,.ptr 7 (1,7) 0)] [(4,some ((1,4),.box [.bool false,.str (⟨#[]⟩:ByteArray),.int .i64 0])),(7,some ((1,7),.box [.bool true,.str a.1,.int .i64 a.2]))] 2) (fun a=>k14 a.1 a.2=some r) (Zac ?_) (fun a _ h=>?_)
  ·refine bl ?_
   refine rg ?_
   refine cS h rfl (fun h=>?_) fun h=>?_
   ·refine rg ?_
    exact jn (e36.text,0) h (sR [(4,1,4),(7,5,1)])
   refine rg ?_
   refine cS h rfl (fun h=>?_) fun h=>?_
   ·refine rg ?_
    exact jn ((⟨#[]⟩:ByteArray),e36.revision) h (sR [(4,1,4),(7,5,1)])
   exact jn ((⟨#[]⟩:ByteArray),0) h (sR [(4,1,4),(7,5,1)])
  obtain ⟨x37,x38⟩:=a
  subst hk14
  dsimp only at h ⊢
  refine Zac ?_
  refine rg ?_
  cases h
  exact rQ
 refine rg ?_
 cases h
 exact rQ
def ZeU (p0:View) (p1:Key):Option Answer:=
 (Zfm p0.fixed p1).bind fun r1=>
 letk (fun (x3:Bool)=>
  if x3 then
   (some r1.1:Option Answer)
  else
  letk (fun (x5:Bool)=>
   if x5 then
    (none:Option Answer)
   else
   if (decide (p1.kind=5)) then
    (none:Option Answer)
   else
   if (decide (p1.kind=6)) then
    (none:Option Answer)
   else
   (Zfn p0 p1).bind fun r6=>
   (some r6:Option Answer)) fun k3=>
  if (decide (p1.kind=3)) then
   k3 (decide (p1.kind=3))
  else
  k3 (decide (p1.kind=4))) fun k1=>
 if r1.2 then
  k1 true
 else
 (ZaL p1).bind fun r7=>
 k1 (!r7)
theorem Zf8 (p0:View) (p1:Key) (r:Answer) (h:ZeU p0 p1=some r):ZH Tryz.prog 18 [p0.pv,p1.pv] (r.pv):=by
 refine cF (fun r=>r.pv) h mix Tryz.func18 fun r h=>?_
 unfold ZeU at h
 refine Zac ?_
 refine rg ?_
 refine rg ?_
 refine aC h (Ziq _ _) fun r1 h=>?_
 refine jL h (fun x3=>mkS [(2,.ptr 2 (1,2) 0),(3,.ptr 3 (1,3) 0),(4,.ptr 4 (1,4) 0),(5,.ptr 5 (1,5) 0),(23,.bool x3)] [(2,some ((1,2),.box (View.cs p0))),(3,some ((1,3),.box (Key.cs p1))),(4,some ((1,4),.box [.bool false,.str (⟨#[]⟩:ByteArray),.int .i64 0])),(5,some ((1,5),.box (Answer.cs r1.1)))] 2) (fun k1 h=>?_) fun x3 h=>?_
 ·refine rg ?_
  refine kS 19 h rfl (fun h=>?_) fun h=>?_
  ·iterate 3 refine ZY rfl (Zac ?_)
   exact jn true h (sR [(2,1,0),(3,1,1),(4,1,2),(5,2,7)])
  refine aC h (Zby _) fun r7 h=>?_
  exact jn (!r7) h (sR [(2,1,0),(3,1,1),(4,1,2),(5,2,7)])
 refine cS h rfl (fun h=>?_) fun h=>?_
 ·refine rg ?_
  cases h
  exact rQ
 refine rg ?_
 refine bl ?_
 refine rg ?_
 refine jL h (fun x5=>mkS [(2,.ptr 2 (1,2) 0),(3,.ptr 3 (1,3) 0),(4,.ptr 4 (1,4) 0),(26,.int .i64 p1.kind),(27,.bool x5)] [(2,some ((1,2),.box (View.cs p0))),(3,some ((1,3),.box (Key.cs p1))),(4,some ((1,4),.box [.bool false,.str (⟨#[]⟩:ByteArray),.int .i64 0]))] 2) (fun k3 h=>?_) fun x5 h=>?_
 ·refine cS h rfl (fun h=>?_) fun h=>?_
  ·exact jn (decide (p1.kind=3)) h (sR [(2,1,2),(3,1,3),(4,1,4)])
  refine rg ?_
  exact jn (decide (p1.kind=4)) h (sR [(2,1,2),(3,1,3),(4,1,4)])
 refine cS h rfl (fun h=>?_) fun h=>?_
 ·cases h
 refine rg ?_
 refine cS h rfl (fun h=>?_) fun h=>?_
 ·cases h
 refine rg ?_
 refine cS h rfl (fun h=>?_) fun h=>?_
 ·cases h
 refine rg ?_
 refine aC h (Zir _ _) fun r6 h=>?_
 cases h
 exact rQ
def Zdk (p0:Key) (p1:Key):Option Int:=
 (ZaM p0.kind p1.kind).bind fun r1=>
 (Za1 p0.title p1.title).bind fun r2=>
 (ZaM p0.n p1.n).bind fun r3=>
 (ZbC [r1,r2,r3]).bind fun r4=>
 (some r4:Option Int)
theorem ZfG (p0:Key) (p1:Key) (r:Int) (h:Zdk p0 p1=some r):ZH Tryz.prog 21 [p0.pv,p1.pv] (.int .i64 r):=by
 refine cF (fun r=>.int .i64 r) h mix Tryz.func21 fun r h=>?_
 unfold Zdk at h
 refine Zac ?_
 refine rg ?_
 refine rg ?_
 refine aC h (ZbB _ _) fun r1 h=>?_
 refine aC h (Zc7 _ _) fun r2 h=>?_
 refine aC h (ZbB _ _) fun r3 h=>?_
 refine bM csI ([r1,r2,r3]:List Int) ?_
 refine aL h (ZeF _) fun r4 h=>?_
 cases h
 exact rQ
def Zdl:Option Bool:=
 letk (fun (x6:Bool)=>
  (some x6:Option Bool)) fun k1=>
 (ZaQ (⟨[(⟨(⟨0,(⟨#[65]⟩:ByteArray)⟩:Title),(⟨#[120]⟩:ByteArray),3⟩:Page)],(⟨[],[],[]⟩:Policy),[],0,[]⟩:View)).bind fun r7=>
 if (decide (r7=0)) then
  (ZeU (⟨[(⟨(⟨0,(⟨#[65]⟩:ByteArray)⟩:Title),(⟨#[120]⟩:ByteArray),3⟩:Page)],(⟨[],[],[]⟩:Policy),[],0,[]⟩:View) (⟨1,(⟨0,(⟨#[65]⟩:ByteArray)⟩:Title),0⟩:Key)).bind fun r8=>
  if (decide (r8=(⟨true,(⟨#[120]⟩:ByteArray),0⟩:Answer))) then
   (ZeU (⟨[(⟨(⟨0,(⟨#[65]⟩:ByteArray)⟩:Title),(⟨#[120]⟩:ByteArray),3⟩:Page)],(⟨[],[],[]⟩:Policy),[],0,[]⟩:View) (⟨7,(⟨0,(⟨#[65]⟩:ByteArray)⟩:Title),0⟩:Key)).bind fun r9=>
   if (decide (r9=(⟨true,(⟨#[]⟩:ByteArray),3⟩:Answer))) then
    (ZaL (⟨5,(⟨0,(⟨#[]⟩:ByteArray)⟩:Title),3⟩:Key)).bind fun r10=>
    if r10 then
     (Zdk (⟨1,(⟨0,(⟨#[]⟩:ByteArray)⟩:Title),0⟩:Key) (⟨2,(⟨0,(⟨#[]⟩:ByteArray)⟩:Title),0⟩:Key)).bind fun r11=>
     k1 (decide (r11=(-1)))
    else
    k1 false
   else
   k1 false
  else
  k1 false
 else
 k1 false
theorem Zfo  (r:Bool) (h:Zdl=some r):ZH Tryz.prog 6 [] (.bool r):=by
 refine cF (fun r=>.bool r) h mix Tryz.func6 fun r h=>?_
 unfold Zdl at h
 refine Zac ?_
 refine rg ?_
 refine rg ?_
 refine rg ?_
 refine Zbn (M:=([(⟨(⟨0,(⟨#[65]⟩:ByteArray)⟩:Title),(⟨#[120]⟩:ByteArray),3⟩:Page)]:List Page)) (f:=Page.cs) rfl rfl rfl rfl (Nat.le_of_ble_eq_true rfl) rfl (Zac ?_)
 refine jL h (fun x6=>mkS [(0,.bool x6)] [] 2) (fun k1 h=>?_) fun x6 h=>?_
 ·refine rg ?_
  refine aL h (Zbx _) fun r7 h=>?_
  refine kS 11 h rfl (fun h=>?_) fun h=>?_
  ·refine aC h (Zf8 _ _) fun r8 h=>?_
   refine ZfA (.inl rfl) rfl rfl rfl rfl rfl (fun W=>Zg6 r8 (⟨true,(⟨#[120]⟩:ByteArray),0⟩:Answer) W) (Zac ?_)
   refine kS 19 h rfl (fun h=>?_) fun h=>?_
   ·refine aC h (Zf8 _ _) fun r9 h=>?_
    refine ZfA (.inl rfl) rfl rfl rfl rfl rfl (fun W=>Zg6 r9 (⟨true,(⟨#[]⟩:ByteArray),3⟩:Answer) W) (Zac ?_)
    refine kS 27 h rfl (fun h=>?_) fun h=>?_
    ·refine aC h (Zby _) fun r10 h=>?_
     refine kS 31 h rfl (fun h=>?_) fun h=>?_
     ·refine aC h (ZfG _ _) fun r11 h=>?_
      exact jn (decide (r11=(-1))) h (sR [])
     iterate 4 refine ZY rfl (Zac ?_)
     exact jn false h (sR [])
    iterate 6 refine ZY rfl (Zac ?_)
    exact jn false h (sR [])
   iterate 12 refine ZY rfl (Zac ?_)
   exact jn false h (sR [])
  iterate 18 refine ZY rfl (Zac ?_)
  exact jn false h (sR [])
 cases h
 exact rQ
def Zdm (p0:View):Option Bool:=
 letk (fun (x1:Bool)=>
  if x1 then
   (some true:Option Bool)
  else
  Zbf Zdy (fun f13 (x43:Int)=>
   if (decide (x43<(p0.pages.length:Int))) then
    letk (fun (x61:Bool)=>
     if x61 then
      (some true:Option Bool)
     else
     f13 (w64 (x43+1))) fun k15=>
    (atI p0.pages x43).bind fun e62=>
    if (decide (300<(e62.text.size:Int))) then
     k15 true
    else
    (atI p0.pages x43).bind fun e63=>
    k15 (decide (200<(e63.title.name.size:Int)))
   else
   Zbf Zdy (fun f17 (x73:Int)=>
    if (decide (x73<(p0.fixed.length:Int))) then
     (atI p0.fixed x73).bind fun e77=>
     if (decide (300<(e77.answer.text.size:Int))) then
      (some true:Option Bool)
     else
     f17 (w64 (x73+1))
    else
    Zbf Zdy (fun f19 (x87:Int)=>
     if (decide (x87<(p0.policy.groups.length:Int))) then
      (atI p0.policy.groups x87).bind fun e91=>
      if (decide (8<(e91.members.length:Int))) then
       (some true:Option Bool)
      else
      f19 (w64 (x87+1))
     else
     (some false:Option Bool)) 0) 0) 0) fun k1=>
 if (decide (8<(p0.pages.length:Int))) then
  k1 true
 else
 if (decide (30<(p0.fixed.length:Int))) then
  k1 true
 else
 if (decide (20<(p0.groups.length:Int))) then
  k1 true
 else
 if (decide (8<(p0.policy.groups.length:Int))) then
  k1 true
 else
 if (decide (20<(p0.policy.rules.length:Int))) then
  k1 true
 else
 k1 (decide (20<(p0.policy.guards.length:Int)))
theorem Zis (p0:View) (r:Bool) (h:Zdm p0=some r):ZH Tryz.prog 5 [p0.pv] (.bool r):=by
 refine cF (fun r=>.bool r) h mix Tryz.func5 fun r h=>?_
 unfold Zdm at h
 refine Zac ?_
 refine rg ?_
 refine jL h (fun x1=>mkS [(1,.ptr 1 (1,1) 0),(42,.bool x1)] [(1,some ((1,1),.box (View.cs p0)))] 2) (fun k1 h=>?_) fun x1 h=>?_
 ·refine rg ?_
  refine lM Page.cs p0.pages ?_
  refine kS 10 h rfl (fun h=>?_) fun h=>?_
  ·iterate 23 refine ZY rfl (Zac ?_)
   exact jn true h (sR [(1,1,0)])
  refine lM Asked.cs p0.fixed ?_
  refine kS 16 h rfl (fun h=>?_) fun h=>?_
  ·iterate 19 refine ZY rfl (Zac ?_)
   exact jn true h (sR [(1,1,0)])
  refine lM csS p0.groups ?_
  refine kS 22 h rfl (fun h=>?_) fun h=>?_
  ·iterate 15 refine ZY rfl (Zac ?_)
   exact jn true h (sR [(1,1,0)])
  refine lM Group.cs p0.policy.groups ?_
  refine kS 29 h rfl (fun h=>?_) fun h=>?_
  ·iterate 10 refine ZY rfl (Zac ?_)
   exact jn true h (sR [(1,1,0)])
  refine lM Rule.cs p0.policy.rules ?_
  refine kS 36 h rfl (fun h=>?_) fun h=>?_
  ·iterate 5 refine ZY rfl (Zac ?_)
   exact jn true h (sR [(1,1,0)])
  refine lM Guard.cs p0.policy.guards ?_
  exact jn (decide (20<(p0.policy.guards.length:Int))) h (sR [(1,1,0)])
 refine cS h rfl (fun h=>?_) fun h=>?_
 ·refine rg ?_
  cases h
  exact rQ
 refine rg ?_
 refine bl ?_
 refine Zat h fun f13 mf13 hf13 h=>?_
 refine Zah (α:=Nat×Int) (fun a _=>mkS [(1,.ptr 1 (1,1) 0),(3,.int .i64 a.2)] [(1,some ((1,1),.box (View.cs p0)))] 2) (fun a=>Zbf a.1 f13 a.2=some r) (fun a=>a.1) (mf13,0) 2 h (sR [(1,1,1)]) (fun a _ h=>?_)
 obtain ⟨mf13,x43⟩:=a
 obtain ⟨mf13,rfl,h⟩:=Zau hf13 h
 dsimp only at h ⊢
 refine Zac ?_
 refine rg ?_
 refine lM Page.cs p0.pages ?_
 refine cS h rfl (fun h=>?_) fun h=>?_
 ·refine bl ?_
  refine jL h (fun x61=>mkS [(1,.ptr 1 (1,1) 0),(3,.int .i64 x43),(68,.bool x61)] [(1,some ((1,1),.box (View.cs p0)))] 2) (fun k15 h=>?_) fun x61 h=>?_
  ·refine rg ?_
   refine aI Page.cs h fun e62 h=>?_
   refine kS 58 h rfl (fun h=>?_) fun h=>?_
   ·iterate 9 refine ZY rfl (Zac ?_)
    exact jn true h (sR [(1,1,1)])
   refine aI Page.cs h fun e63 h=>?_
   exact jn (decide (200<(e63.title.name.size:Int))) h (sR [(1,1,1)])
  refine cS h rfl (fun h=>?_) fun h=>?_
  ·refine rg ?_
   cases h
   exact rQ
  refine rg ?_
  exact rn (mf13,(w64 (x43+1))) h (sR [(1,1,1)])
 refine rg ?_
 refine bl ?_
 refine Zat h fun f17 mf17 hf17 h=>?_
 refine Zah (α:=Nat×Int) (fun a _=>mkS [(1,.ptr 1 (1,1) 0),(4,.int .i64 a.2)] [(1,some ((1,1),.box (View.cs p0)))] 2) (fun a=>Zbf a.1 f17 a.2=some r) (fun a=>a.1) (mf17,0) 2 h (sR [(1,1,1)]) (fun a _ h=>?_)
 obtain ⟨mf17,x73⟩:=a
 obtain ⟨mf17,rfl,h⟩:=Zau hf17 h
 dsimp only at h ⊢
 refine Zac ?_
 refine rg ?_
 refine lM Asked.cs p0.fixed ?_
 refine cS h rfl (fun h=>?_) fun h=>?_
 ·refine bl ?_
  refine rg ?_
  refine aI Asked.cs h fun e77 h=>?_
  refine cS h rfl (fun h=>?_) fun h=>?_
  ·refine rg ?_
   cases h
   exact rQ
  refine rg ?_
  exact rn (mf17,(w64 (x73+1))) h (sR [(1,1,1)])
 refine rg ?_
 refine bl ?_
 refine Zat h fun f19 mf19 hf19 h=>?_
 refine Zah (α:=Nat×Int) (fun a _=>mkS [(1,.ptr 1 (1,1) 0),(5,.int .i64 a.2)] [(1,some ((1,1),.box (View.cs p0)))] 2) (fun a=>Zbf a.1 f19 a.2=some r) (fun a=>a.1) (mf19,0) 2 h (sR [(1,1,1)]) (fun a _ h=>?_)
 obtain ⟨mf19,x87⟩:=a
 obtain ⟨mf19,rfl,h⟩:=Zau hf19 h
 dsimp only at h ⊢
 refine Zac ?_
 refine rg ?_
 refine lM Group.cs p0.policy.groups ?_
 refine cS h rfl (fun h=>?_) fun h=>?_
 ·refine bl ?_
  refine rg ?_
  refine aI Group.cs h fun e91 h=>?_
  refine lM csS e91.members ?_
  refine cS h rfl (fun h=>?_) fun h=>?_
  ·refine rg ?_
   cases h
   exact rQ
  refine rg ?_
  exact rn (mf19,(w64 (x87+1))) h (sR [(1,1,1)])
 refine rg ?_
 cases h
 exact rQ
def Zdx (p0:List Asked) (p1:Key):Option (Answer×Bool):=
 Zbf Zdy (fun f2 (x18:Int)=>
  if (decide (x18<(p0.length:Int))) then
   (atI p0 x18).bind fun e25=>
   if (decide (e25.key=p1)) then
    (atI p0 x18).bind fun e26=>
    (some (e26.answer,true):Option (Answer×Bool))
   else
   f2 (w64 (x18+1))
  else
  (some ((⟨false,(⟨#[]⟩:ByteArray),0⟩:Answer),false):Option (Answer×Bool))) 0
theorem Zjv (p0:List Asked) (p1:Key) (r:Answer×Bool) (h:Zdx p0 p1=some r):ZH Tryz.prog 39 [.sl (List.map Asked.cs p0),p1.pv] (.tup [r.1.pv,.bool r.2]):=by
 refine cF (fun r=>.tup [r.1.pv,.bool r.2]) h mix Tryz.func39 fun r h=>?_
 unfold Zdx at h
 refine Zac ?_
 refine rg ?_
 refine rg ?_
 refine bl ?_
 refine Zat h fun f2 mf2 hf2 h=>?_
 refine Zah (α:=Nat×Int) (fun a _=>mkS [(0,.sl (List.map Asked.cs p0)),(3,.ptr 3 (1,3) 0),(4,.ptr 4 (1,4) 0),(6,.int .i64 a.2)] [(3,some ((1,3),.box (Key.cs p1))),(4,some ((1,4),.box [.bool false,.str (⟨#[]⟩:ByteArray),.int .i64 0]))] 2) (fun a=>Zbf a.1 f2 a.2=some r) (fun a=>a.1) (mf2,0) 2 h (sR [(3,1,0),(4,1,1)]) (fun a _ h=>?_)
 obtain ⟨mf2,x18⟩:=a
 obtain ⟨mf2,rfl,h⟩:=Zau hf2 h
 dsimp only at h ⊢
 refine Zac ?_
 refine rg ?_
 refine lM Asked.cs p0 ?_
 refine cS h rfl (fun h=>?_) fun h=>?_
 ·refine bl ?_
  refine rg ?_
  refine aI Asked.cs h fun e25 h=>?_
  refine ZfA (.inl rfl) rfl rfl rfl rfl rfl (fun W=>Zj3 e25.key p1 W) (Zac ?_)
  refine cS h rfl (fun h=>?_) fun h=>?_
  ·refine rg ?_
   refine aI Asked.cs h fun e26 h=>?_
   cases h
   exact rQ
  refine rg ?_
  exact rn (mf2,(w64 (x18+1))) h (sR [(3,1,3),(4,1,4)])
 refine rg ?_
 cases h
 exact rQ
def Zbq (p0:View):Option Int:=
 letk (fun (x1:Bool)=>
  if x1 then
   (some 3:Option Int)
  else
  Zbf Zdy (fun f9 (x39:Int)=>
   if (decide (x39<(p0.pages.length:Int))) then
    (atI p0.pages x39).bind fun e61=>
    (Zd5 e61.title).bind fun r62=>
    if (!r62) then
     (some 1:Option Int)
    else
    letk (fun (x65:Bool)=>
     if x65 then
      (some 6:Option Int)
     else
     if (decide (8192<(e61.text.size:Int))) then
      (some 3:Option Int)
     else
     if (decide (e61.revision<1)) then
      (some 2:Option Int)
     else
     f9 (w64 (x39+1))) fun k11=>
    if (decide (0<x39)) then
     (atI p0.pages (w64 (x39 - 1))).bind fun e66=>
     (ZcA e66.title e61.title).bind fun r67=>
     k11 (decide (0≤r67))
    else
    k11 false
   else
   (Zdg p0.policy).bind fun r68=>
   if (!decide (r68=0)) then
    (some r68:Option Int)
   else
   Zbf Zdy (fun f19 (x106:Int)=>
    if (decide (x106<(p0.groups.length:Int))) then
     (atI p0.groups x106).bind fun e128=>
     (ZdT e128).bind fun r129=>
     if (!r129) then
      (some 1:Option Int)
     else
     letk (fun (x132:Bool)=>
      if x132 then
       (some 6:Option Int)
      else
      f19 (w64 (x106+1))) fun k21=>
     if (decide (0<x106)) then
      (atI p0.groups x106).bind fun e133=>
      (atI p0.groups (w64 (x106 - 1))).bind fun e134=>
      k21 (ltS e133 e134||decide (e133=e134))
     else
     k21 false
    else
    letk (fun (x135:Bool)=>
     if x135 then
      (some 2:Option Int)
     else
     Zbf Zdy (fun f24 (x169:Int)=>
      if (decide (x169<(p0.fixed.length:Int))) then
       (Zfx p0.fixed 0 x169).bind fun l182=>
       (atI p0.fixed x169).bind fun e183=>
       (Zdx l182 e183.key).bind fun r184=>
       if r184.2 then
        (some 5:Option Int)
       else
       (atI p0.fixed x169).bind fun e185=>
       if (decide (32768<(e185.answer.text.size:Int))) then
        (some 3:Option Int)
       else
       f24 (w64 (x169+1))
      else
      (some 0:Option Int)) 0) fun k22=>
    if (decide (p0.clock<0)) then
     k22 true
    else
    k22 (decide (52596000≤p0.clock))) 0) 0) fun k1=>
 if (decide (200<(p0.pages.length:Int))) then
  k1 true
 else
 if (decide (26<(p0.groups.length:Int))) then
  k1 true
 else
 k1 (decide (20000<(p0.fixed.length:Int)))
theorem ZdH (p0:View) (r:Int) (h:Zbq p0=some r):ZH Tryz.prog 12 [p0.pv] (.int .i64 r):=by
 refine cF (fun r=>.int .i64 r) h mix Tryz.func12 fun r h=>?_
 unfold Zbq at h
 refine Zac ?_
 refine rg ?_
 refine jL h (fun x1=>mkS [(1,.ptr 1 (1,1) 0),(25,.bool x1)] [(1,some ((1,1),.box (View.cs p0)))] 2) (fun k1 h=>?_) fun x1 h=>?_
 ·refine rg ?_
  refine lM Page.cs p0.pages ?_
  refine kS 14 h rfl (fun h=>?_) fun h=>?_
  ·iterate 8 refine ZY rfl (Zac ?_)
   exact jn true h (sR [(1,1,0)])
  refine lM csS p0.groups ?_
  refine kS 20 h rfl (fun h=>?_) fun h=>?_
  ·iterate 4 refine ZY rfl (Zac ?_)
   exact jn true h (sR [(1,1,0)])
  refine lM Asked.cs p0.fixed ?_
  exact jn (decide (20000<(p0.fixed.length:Int))) h (sR [(1,1,0)])
 refine cS h rfl (fun h=>?_) fun h=>?_
 ·refine rg ?_
  cases h
  exact rQ
 refine rg ?_
 refine bl ?_
 refine Zat h fun f9 mf9 hf9 h=>?_
 refine Zah (α:=Nat×Int) (fun a _=>mkS [(1,.ptr 1 (1,1) 0),(3,.int .i64 a.2)] [(1,some ((1,1),.box (View.cs p0)))] 2) (fun a=>Zbf a.1 f9 a.2=some r) (fun a=>a.1) (mf9,0) 2 h (sR [(1,1,1)]) (fun a _ h=>?_)
 obtain ⟨mf9,x39⟩:=a
 obtain ⟨mf9,rfl,h⟩:=Zau hf9 h
 dsimp only at h ⊢
 refine Zac ?_
 refine rg ?_
 refine lM Page.cs p0.pages ?_
 refine cS h rfl (fun h=>?_) fun h=>?_
 ·refine bl ?_
  refine rg ?_
  refine aI Page.cs h fun e61 h=>?_
  refine bl ?_
  refine rg ?_
  refine aC h (Zdr _) fun r62 h=>?_
  refine cS h rfl (fun h=>?_) fun h=>?_
  ·refine rg ?_
   cases h
   exact rQ
  refine jL h (fun x65=>mkS [(1,.ptr 1 (1,1) 0),(3,.int .i64 x39),(4,.ptr 4 (1,4) 0),(43,.bool x65)] [(1,some ((1,1),.box (View.cs p0))),(4,some ((1,4),.box (Page.cs e61)))] 2) (fun k11 h=>?_) fun x65 h=>?_
  ·refine rg ?_
   refine kS 46 h rfl (fun h=>?_) fun h=>?_
   ·refine aI Page.cs h fun e66 h=>?_
    refine aC h (ZeG _ _) fun r67 h=>?_
    exact jn (decide (0≤r67)) h (sR [(1,1,1),(4,3,5)])
   iterate 11 refine ZY rfl (Zac ?_)
   exact jn false h (sR [(1,1,1),(4,3,5)])
  refine cS h rfl (fun h=>?_) fun h=>?_
  ·refine rg ?_
   cases h
   exact rQ
  refine rg ?_
  refine cS h rfl (fun h=>?_) fun h=>?_
  ·refine rg ?_
   cases h
   exact rQ
  refine rg ?_
  refine cS h rfl (fun h=>?_) fun h=>?_
  ·refine rg ?_
   cases h
   exact rQ
  refine rg ?_
  exact rn (mf9,(w64 (x39+1))) h (sR [(1,1,1)])
 refine rg ?_
 refine aC h (ZfD _) fun r68 h=>?_
 refine rg ?_
 refine cS h rfl (fun h=>?_) fun h=>?_
 ·refine rg ?_
  cases h
  exact rQ
 refine rg ?_
 refine bl ?_
 refine Zat h fun f19 mf19 hf19 h=>?_
 refine Zah (α:=Nat×Int) (fun a _=>mkS [(1,.ptr 1 (1,1) 0),(6,.int .i64 a.2)] [(1,some ((1,1),.box (View.cs p0)))] 2) (fun a=>Zbf a.1 f19 a.2=some r) (fun a=>a.1) (mf19,0) 2 h (sR [(1,1,1)]) (fun a _ h=>?_)
 obtain ⟨mf19,x106⟩:=a
 obtain ⟨mf19,rfl,h⟩:=Zau hf19 h
 dsimp only at h ⊢
 refine Zac ?_
 refine rg ?_
 refine lM csS p0.groups ?_
 refine cS h rfl (fun h=>?_) fun h=>?_
 ·refine bl ?_
  refine rg ?_
  refine aI csS h fun e128 h=>?_
  refine aC h (ZgJ _) fun r129 h=>?_
  refine cS h rfl (fun h=>?_) fun h=>?_
  ·refine rg ?_
   cases h
   exact rQ
  refine jL h (fun x132=>mkS [(1,.ptr 1 (1,1) 0),(6,.int .i64 x106),(103,.bool x132)] [(1,some ((1,1),.box (View.cs p0)))] 2) (fun k21 h=>?_) fun x132 h=>?_
  ·refine rg ?_
   refine kS 90 h rfl (fun h=>?_) fun h=>?_
   ·refine aI csS h fun e133 h=>?_
    refine aI csS h fun e134 h=>?_
    exact jn (ltS e133 e134||decide (e133=e134)) h (sR [(1,1,1)])
   iterate 12 refine ZY rfl (Zac ?_)
   exact jn false h (sR [(1,1,1)])
  refine cS h rfl (fun h=>?_) fun h=>?_
  ·refine rg ?_
   cases h
   exact rQ
  refine rg ?_
  exact rn (mf19,(w64 (x106+1))) h (sR [(1,1,1)])
 refine jL h (fun x135=>mkS [(1,.ptr 1 (1,1) 0),(111,.bool x135)] [(1,some ((1,1),.box (View.cs p0)))] 2) (fun k22 h=>?_) fun x135 h=>?_
 ·refine rg ?_
  refine kS 107 h rfl (fun h=>?_) fun h=>?_
  ·iterate 3 refine ZY rfl (Zac ?_)
   exact jn true h (sR [(1,1,1)])
  exact jn (decide (52596000≤p0.clock)) h (sR [(1,1,1)])
 refine cS h rfl (fun h=>?_) fun h=>?_
 ·refine rg ?_
  cases h
  exact rQ
 refine rg ?_
 refine bl ?_
 refine Zat h fun f24 mf24 hf24 h=>?_
 refine Zah (α:=Nat×Int) (fun a _=>mkS [(1,.ptr 1 (1,1) 0),(7,.int .i64 a.2)] [(1,some ((1,1),.box (View.cs p0)))] 2) (fun a=>Zbf a.1 f24 a.2=some r) (fun a=>a.1) (mf24,0) 2 h (sR [(1,1,1)]) (fun a _ h=>?_)
 obtain ⟨mf24,x169⟩:=a
 obtain ⟨mf24,rfl,h⟩:=Zau hf24 h
 dsimp only at h ⊢
 refine Zac ?_
 refine rg ?_
 refine lM Asked.cs p0.fixed ?_
 refine cS h rfl (fun h=>?_) fun h=>?_
 ·refine bl ?_
  refine rg ?_
  refine sM Asked.cs h fun l182 h=>?_
  refine aI Asked.cs h fun e183 h=>?_
  refine aC h (Zjv _ _) fun r184 h=>?_
  refine rg ?_
  refine cS h rfl (fun h=>?_) fun h=>?_
  ·refine rg ?_
   cases h
   exact rQ
  refine rg ?_
  refine aI Asked.cs h fun e185 h=>?_
  refine cS h rfl (fun h=>?_) fun h=>?_
  ·refine rg ?_
   cases h
   exact rQ
  refine rg ?_
  exact rn (mf24,(w64 (x169+1))) h (sR [(1,1,1)])
 refine rg ?_
 cases h
 exact rQ
def ZbU (p0:Key):Option Bool:=
 letk (fun (x13:Bool)=>
  if x13 then
   letk (fun (x15:Bool)=>
    (some x15:Option Bool)) fun k8=>
   (Zd5 p0.title).bind fun r16=>
   if r16 then
    k8 (decide (p0.n=0))
   else
   k8 false
  else
  letk (fun (x17:Bool)=>
   if x17 then
    letk (fun (x19:Bool)=>
     (some x19:Option Bool)) fun k10=>
    (Zd5 p0.title).bind fun r20=>
    if r20 then
     if (decide (p0.title.space=4)) then
      k10 (decide (p0.n=0))
     else
     k10 false
    else
    k10 false
   else
   if (decide (p0.kind=5)) then
    letk (fun (x21:Bool)=>
     (some x21:Option Bool)) fun k11=>
    if (decide (p0.title=(⟨0,(⟨#[]⟩:ByteArray)⟩:Title))) then
     if (decide (1≤p0.n)) then
      k11 (decide (p0.n≤5))
     else
     k11 false
    else
    k11 false
   else
   if (decide (p0.kind=6)) then
    letk (fun (x23:Bool)=>
     (some x23:Option Bool)) fun k12=>
    (Zd5 p0.title).bind fun r24=>
    if r24 then
     if (decide (1≤p0.n)) then
      k12 (decide (p0.n≤5))
     else
     k12 false
    else
    k12 false
   else
   (some false:Option Bool)) fun k9=>
  if (decide (p0.kind=3)) then
   k9 (decide (p0.kind=3))
  else
  k9 (decide (p0.kind=4))) fun k7=>
 if (decide (p0.kind=1)) then
  k7 (decide (p0.kind=1))
 else
 if (decide (p0.kind=2)) then
  k7 (decide (p0.kind=2))
 else
 k7 (decide (p0.kind=7))
theorem ZdI (p0:Key) (r:Bool) (h:ZbU p0=some r):ZH Tryz.prog 14 [p0.pv] (.bool r):=by
 refine cF (fun r=>.bool r) h mix Tryz.func14 fun r h=>?_
 unfold ZbU at h
 refine Zac ?_
 refine rg ?_
 refine rg ?_
 refine bl ?_
 refine rg ?_
 refine jL h (fun x13=>mkS [(1,.ptr 1 (1,1) 0),(4,.int .i64 p0.kind),(5,.bool x13)] [(1,some ((1,1),.box (Key.cs p0)))] 2) (fun k7 h=>?_) fun x13 h=>?_
 ·refine cS h rfl (fun h=>?_) fun h=>?_
  ·exact jn (decide (p0.kind=1)) h (sR [(1,1,0)])
  refine rg ?_
  refine cS h rfl (fun h=>?_) fun h=>?_
  ·exact jn (decide (p0.kind=2)) h (sR [(1,1,0)])
  refine rg ?_
  exact jn (decide (p0.kind=7)) h (sR [(1,1,0)])
 refine cS h rfl (fun h=>?_) fun h=>?_
 ·refine jL h (fun x15=>mkS [(2,.bool x15)] [] 2) (fun k8 h=>?_) fun x15 h=>?_
  ·refine rg ?_
   refine aC h (Zdr _) fun r16 h=>?_
   refine kS 12 h rfl (fun h=>?_) fun h=>?_
   ·exact jn (decide (p0.n=0)) h (sR [])
   iterate 3 refine ZY rfl (Zac ?_)
   exact jn false h (sR [])
  cases h
  exact rQ
 refine rg ?_
 refine jL h (fun x17=>mkS [(1,.ptr 1 (1,1) 0),(4,.int .i64 p0.kind),(17,.bool x17)] [(1,some ((1,1),.box (Key.cs p0)))] 2) (fun k9 h=>?_) fun x17 h=>?_
 ·refine cS h rfl (fun h=>?_) fun h=>?_
  ·exact jn (decide (p0.kind=3)) h (sR [(1,1,1)])
  refine rg ?_
  exact jn (decide (p0.kind=4)) h (sR [(1,1,1)])
 refine cS h rfl (fun h=>?_) fun h=>?_
 ·refine jL h (fun x19=>mkS [(2,.bool x19)] [] 2) (fun k10 h=>?_) fun x19 h=>?_
  ·refine rg ?_
   refine aC h (Zdr _) fun r20 h=>?_
   refine kS 23 h rfl (fun h=>?_) fun h=>?_
   ·refine kS 29 h rfl (fun h=>?_) fun h=>?_
    ·exact jn (decide (p0.n=0)) h (sR [])
    iterate 3 refine ZY rfl (Zac ?_)
    exact jn false h (sR [])
   iterate 7 refine ZY rfl (Zac ?_)
   exact jn false h (sR [])
  cases h
  exact rQ
 refine rg ?_
 refine cS h rfl (fun h=>?_) fun h=>?_
 ·refine jL h (fun x21=>mkS [(2,.bool x21)] [] 2) (fun k11 h=>?_) fun x21 h=>?_
  ·refine rg ?_
   refine ZfA (.inl rfl) rfl rfl rfl rfl rfl (fun W=>Zd4 p0.title (⟨0,(⟨#[]⟩:ByteArray)⟩:Title) W) (Zac ?_)
   refine kS 40 h rfl (fun h=>?_) fun h=>?_
   ·refine kS 45 h rfl (fun h=>?_) fun h=>?_
    ·exact jn (decide (p0.n≤5)) h (sR [])
    iterate 3 refine ZY rfl (Zac ?_)
    exact jn false h (sR [])
   iterate 6 refine ZY rfl (Zac ?_)
   exact jn false h (sR [])
  cases h
  exact rQ
 refine rg ?_
 refine cS h rfl (fun h=>?_) fun h=>?_
 ·refine jL h (fun x23=>mkS [(2,.bool x23)] [] 2) (fun k12 h=>?_) fun x23 h=>?_
  ·refine rg ?_
   refine aC h (Zdr _) fun r24 h=>?_
   refine kS 55 h rfl (fun h=>?_) fun h=>?_
   ·refine kS 60 h rfl (fun h=>?_) fun h=>?_
    ·exact jn (decide (p0.n≤5)) h (sR [])
    iterate 3 refine ZY rfl (Zac ?_)
    exact jn false h (sR [])
   iterate 6 refine ZY rfl (Zac ?_)
   exact jn false h (sR [])
  cases h
  exact rQ
 refine rg ?_
 cases h
 exact rQ
end Go.Proofs.YtpffimahajgiaaaGreatDoor
