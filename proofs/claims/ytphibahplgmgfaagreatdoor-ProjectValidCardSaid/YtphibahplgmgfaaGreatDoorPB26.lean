/- Functions of the program as Lean functions. Written by fxgen.py. | Functions of the program as Lean functions. Written by fxgen.py. | Functions of the program as Lean functions. Written by fxgen.py. | Functions of the program as Lean functions. Written by fxgen.py. -/
import Derived.Test.YtphibahplgmgfaaGreatDoorPB06
import Derived.Test.YtphibahplgmgfaaGreatDoorPB03
import Derived.Test.YtphibahplgmgfaaGreatDoorPB08
import Derived.Test.YtphibahplgmgfaaGreatDoorPB18
import Derived.Test.YtphibahplgmgfaaGreatDoorPB12
import Derived.Test.YtphibahplgmgfaaGreatDoorPB11
set_option linter.unusedVariables false
set_option maxHeartbeats 4000000
set_option maxRecDepth 100000
namespace Go.Proofs.YtphibahplgmgfaaGreatDoor
open VL
def r13_put (p0:List ByteArray) (p1:ByteArray):Option (List ByteArray):=
 fixN bigN (fun f7 (x14:Int)=>
  letk (fun (x19:Bool)=>
   if x19 then
    f7 (w64 (x14+1))
   else
   letk (fun (x21:Bool)=>
    if x21 then
     (some p0:Option (List ByteArray))
    else
    (subL p0 0 x14).bind fun l22=>
    (appL 16 [] l22).bind fun l23=>
    (appL 16 l23 [p1]).bind fun l24=>
    (subL p0 x14 (p0.length:Int)).bind fun l25=>
    (appL 16 l24 l25).bind fun l26=>
    (some l26:Option (List ByteArray))) fun k9=>
   if (decide (x14<(p0.length:Int))) then
    (atI p0 x14).bind fun e27=>
    k9 (decide (e27=p1))
   else
   k9 false) fun k8=>
  if (decide (x14<(p0.length:Int))) then
   (atI p0 x14).bind fun e28=>
   k8 (ltS e28 p1)
  else
  k8 false) 0
theorem r13_put_c (p0:List ByteArray) (p1:ByteArray) (r:List ByteArray) (hF:r13_put p0 p1=some r):Contract0 Tryz.prog 65 [.sl (List.map csS p0),.str p1] (.sl (List.map csS r)):=by
 refine cF (fun r=>.sl (List.map csS r)) hF mix Tryz.func65 fun r hF=>?_
 unfold r13_put at hF
 refine runX ?_
 refine rg ?_
 refine rg ?_
 refine bl ?_
 refine fix_elim hF fun f7 mf7 hf7 hF=>?_
 refine pws_loop (α:=Nat×Int) (fun a _=>mkS [(0,.sl (List.map csS p0)),(1,.str p1),(5,.int .i64 a.2)] [] 2) (fun a=>fixN a.1 f7 a.2=some r) (fun a=>a.1) (mf7,0) 2 hF (sR []) (fun a _ hF=>?_)
 obtain ⟨mf7,x14⟩:=a
 obtain ⟨mf7,rfl,hF⟩:=fix_step hf7 hF
 dsimp only at hF ⊢
 refine runX ?_
 refine jL hF (fun x19=>mkS [(0,.sl (List.map csS p0)),(1,.str p1),(5,.int .i64 x14),(17,.bool x19)] [] 2) (fun k8 hF=>?_) fun x19 hF=>?_
 ·refine rg ?_
  refine g_lenM rfl (M:=p0) (f:=csS) rfl (runX ?_)
  refine kS 10 hF rfl (fun hF=>?_) fun hF=>?_
  ·obtain ⟨e28,h19,hF⟩:=bnd hF
   refine g_indexI (f:=csS) rfl h19 rfl rfl rfl (runX ?_)
   exact jn (ltS e28 p1) hF (sR [])
  iterate 6 refine g_skip rfl (runX ?_)
  exact jn false hF (sR [])
 refine cS hF rfl (fun hF=>?_) fun hF=>?_
 ·refine bl ?_
  refine rg ?_
  exact rn (mf7,(w64 (x14+1))) hF (sR [])
 refine jL hF (fun x21=>mkS [(0,.sl (List.map csS p0)),(1,.str p1),(5,.int .i64 x14),(31,.bool x21)] [] 2) (fun k9 hF=>?_) fun x21 hF=>?_
 ·refine rg ?_
  refine g_lenM rfl (M:=p0) (f:=csS) rfl (runX ?_)
  refine kS 24 hF rfl (fun hF=>?_) fun hF=>?_
  ·obtain ⟨e27,h18,hF⟩:=bnd hF
   refine g_indexI (f:=csS) rfl h18 rfl rfl rfl (runX ?_)
   exact jn (decide (e27=p1)) hF (sR [])
  iterate 6 refine g_skip rfl (runX ?_)
  exact jn false hF (sR [])
 refine cS hF rfl (fun hF=>?_) fun hF=>?_
 ·refine rg ?_
  cases hF
  exact rQ
 refine rg ?_
 obtain ⟨l22,h13,hF⟩:=bnd hF
 refine g_sliceM (f:=csS) rfl h13 (fun _=>rfl) rfl rfl rfl rfl (runX ?_)
 obtain ⟨l23,h14,hF⟩:=bnd hF
 refine g_appN (f:=csS) rfl h14 (fun _=>rfl) rfl rfl rfl (runX ?_)
 refine g_buildM (M:=([p1]:List ByteArray)) (f:=csS) rfl rfl rfl rfl (Nat.le_of_ble_eq_true rfl) rfl (runX ?_)
 obtain ⟨l24,h15,hF⟩:=bnd hF
 refine g_appR (f:=csS) rfl h15 (fun _=>rfl) rfl rfl rfl rfl (runX ?_)
 obtain ⟨l25,h16,hF⟩:=bnd hF
 refine g_sliceM (f:=csS) rfl h16 (fun _=>rfl) rfl rfl rfl rfl (runX ?_)
 obtain ⟨l26,h17,hF⟩:=bnd hF
 refine g_appR (f:=csS) rfl h17 (fun _=>rfl) rfl rfl rfl rfl (runX ?_)
 cases hF
 exact rQ
def r13_belongs (p0:Group) (p1:ByteArray) (p2:List ByteArray):Option Bool:=
 fixN bigN (fun f12 (x130:Int)=>
  if (decide (x130<(p0.members.length:Int))) then
   (atI p0.members x130).bind fun e179=>
   letk (fun (x187:Bool)=>
    if x187 then
     (some true:Option Bool)
    else
    f12 (w64 (x130+1))) fun k14=>
   (r12_IsName p1).bind fun r188=>
   if r188 then
    if (decide (e179=p1)) then
     k14 true
    else
    if (decide (0<(e179.size:Int))) then
     (atS e179 0).bind fun c189=>
     if (decide (c189=64)) then
      (subS e179 1 (e179.size:Int)).bind fun l190=>
      (r13_Has p2 l190).bind fun r191=>
      k14 r191
     else
     k14 false
    else
    k14 false
   else
   if (decide (0<(e179.size:Int))) then
    (atS e179 0).bind fun c192=>
    if (decide (c192=64)) then
     (subS e179 1 (e179.size:Int)).bind fun l193=>
     (r13_Has p2 l193).bind fun r194=>
     k14 r194
    else
    k14 false
   else
   k14 false
  else
  (some false:Option Bool)) 0
theorem r13_belongs_c (p0:Group) (p1:ByteArray) (p2:List ByteArray) (r:Bool) (hF:r13_belongs p0 p1 p2=some r):Contract0 Tryz.prog 66 [p0.pv,.str p1,.sl (List.map csS p2)] (.bool r):=by
 refine cF (fun r=>.bool r) hF mix Tryz.func66 fun r hF=>?_
 unfold r13_belongs at hF
 refine runX ?_
 refine rg ?_
 refine rg ?_
 refine bl ?_
 refine fix_elim hF fun f12 mf12 hf12 hF=>?_
 refine pws_loop (α:=Nat×Int) (fun a _=>mkS [(1,.str p1),(2,.sl (List.map csS p2)),(3,.ptr 3 (1,3) 0),(7,.int .i64 a.2)] [(3,some ((1,3),.box [.str p0.name,.sl (List.map csS p0.members)]))] 2) (fun a=>fixN a.1 f12 a.2=some r) (fun a=>a.1) (mf12,0) 2 hF (sR [(3,1,0)]) (fun a _ hF=>?_)
 obtain ⟨mf12,x130⟩:=a
 obtain ⟨mf12,rfl,hF⟩:=fix_step hf12 hF
 dsimp only at hF ⊢
 refine runX ?_
 refine rg ?_
 refine g_lenM rfl (M:=p0.members) (f:=csS) rfl (runX ?_)
 refine cS hF rfl (fun hF=>?_) fun hF=>?_
 ·refine bl ?_
  refine rg ?_
  obtain ⟨e179,h166,hF⟩:=bnd hF
  refine g_indexI (f:=csS) rfl h166 rfl rfl rfl (runX ?_)
  refine jL hF (fun x187=>mkS [(1,.str p1),(2,.sl (List.map csS p2)),(3,.ptr 3 (1,3) 0),(7,.int .i64 x130),(43,.bool x187)] [(3,some ((1,3),.box [.str p0.name,.sl (List.map csS p0.members)]))] 2) (fun k14 hF=>?_) fun x187 hF=>?_
  ·refine rg ?_
   obtain ⟨r188,h174,hF⟩:=bnd hF
   refine g_call (r12_IsName_c _ _ h174) rfl rfl (runX ?_)
   refine kS 23 hF rfl (fun hF=>?_) fun hF=>?_
   ·refine kS 28 hF rfl (fun hF=>?_) fun hF=>?_
    ·iterate 14 refine g_skip rfl (runX ?_)
     exact jn true hF (sR [(3,1,3)])
    refine kS 32 hF rfl (fun hF=>?_) fun hF=>?_
    ·obtain ⟨c189,h175,hF⟩:=bnd hF
     refine g_indexSI StrT.eq rfl h175 rfl rfl (runX ?_)
     refine kS 37 hF rfl (fun hF=>?_) fun hF=>?_
     ·obtain ⟨l190,h176,hF⟩:=bnd hF
      refine g_sliceSI StrT.eq rfl h176 rfl rfl rfl (runX ?_)
      obtain ⟨r191,h177,hF⟩:=bnd hF
      refine g_call (r13_Has_c _ _ _ h177) rfl rfl (runX ?_)
      exact jn r191 hF (sR [(3,1,3)])
     iterate 4 refine g_skip rfl (runX ?_)
     exact jn false hF (sR [(3,1,3)])
    iterate 7 refine g_skip rfl (runX ?_)
    exact jn false hF (sR [(3,1,3)])
   iterate 3 refine g_skip rfl (runX ?_)
   refine kS 32 hF rfl (fun hF=>?_) fun hF=>?_
   ·obtain ⟨c192,h178,hF⟩:=bnd hF
    refine g_indexSI StrT.eq rfl h178 rfl rfl (runX ?_)
    refine kS 37 hF rfl (fun hF=>?_) fun hF=>?_
    ·obtain ⟨l193,h179,hF⟩:=bnd hF
     refine g_sliceSI StrT.eq rfl h179 rfl rfl rfl (runX ?_)
     obtain ⟨r194,h180,hF⟩:=bnd hF
     refine g_call (r13_Has_c _ _ _ h180) rfl rfl (runX ?_)
     exact jn r194 hF (sR [(3,1,3)])
    iterate 4 refine g_skip rfl (runX ?_)
    exact jn false hF (sR [(3,1,3)])
   iterate 7 refine g_skip rfl (runX ?_)
   exact jn false hF (sR [(3,1,3)])
  refine cS hF rfl (fun hF=>?_) fun hF=>?_
  ·refine rg ?_
   cases hF
   exact rQ
  refine rg ?_
  exact rn (mf12,(w64 (x130+1))) hF (sR [(3,1,3)])
 refine rg ?_
 cases hF
 exact rQ
def r13_Groups (p0:Policy) (p1:ByteArray):Option (List ByteArray):=
 (r12_IsName p1).bind fun r1=>
 letk (fun (x3:List ByteArray)=>
  fixN bigN (fun f23 ((x122,x123):(List ByteArray)×Int)=>
   if (decide (x123<(x122.length:Int))) then
    fixN bigN (fun f26 ((x162,x163):(List ByteArray)×Int)=>
     if (decide (x163<(p0.groups.length:Int))) then
      letk (fun (x177:List ByteArray)=>
       f26 (x177,(w64 (x163+1)))) fun k27=>
      (atI p0.groups x163).bind fun e178=>
      (r13_belongs e178 p1 x162).bind fun r179=>
      if r179 then
       (atI p0.groups x163).bind fun e180=>
       (r13_put x162 e180.name).bind fun r181=>
       k27 r181
      else
      k27 x162
     else
     f23 (x162,(x122.length:Int))) (x122,0)
   else
   (some x122:Option (List ByteArray))) (x3,(-1))) fun k1=>
 if r1 then
  (r13_put [(⟨#[97,108,108]⟩:ByteArray)] (⟨#[117,115,101,114,115]⟩:ByteArray)).bind fun r182=>
  k1 r182
 else
 k1 [(⟨#[97,108,108]⟩:ByteArray)]
theorem r13_Groups_c (p0:Policy) (p1:ByteArray) (r:List ByteArray) (hF:r13_Groups p0 p1=some r):Contract0 Tryz.prog 27 [p0.pv,.str p1] (.sl (List.map csS r)):=by
 refine cF (fun r=>.sl (List.map csS r)) hF mix Tryz.func27 fun r hF=>?_
 unfold r13_Groups at hF
 refine runX ?_
 refine rg ?_
 refine rg ?_
 refine g_buildM (M:=([(⟨#[97,108,108]⟩:ByteArray)]:List ByteArray)) (f:=csS) rfl rfl rfl rfl (Nat.le_of_ble_eq_true rfl) rfl (runX ?_)
 refine rg ?_
 obtain ⟨r1,h1,hF⟩:=bnd hF
 refine g_call (r12_IsName_c _ _ h1) rfl rfl (runX ?_)
 refine jL hF (fun x3=>mkS [(1,.str p1),(2,.ptr 2 (1,2) 0),(5,.sl (List.map csS x3))] [(2,some ((1,2),.box [.sl (List.map Group.cs p0.groups),.sl (List.map Rule.cs p0.rules),.sl (List.map Guard.cs p0.guards)]))] 2) (fun k1 hF=>?_) fun x3 hF=>?_
 ·refine cS hF rfl (fun hF=>?_) fun hF=>?_
  ·refine rg ?_
   obtain ⟨r182,h147,hF⟩:=bnd hF
   refine g_call (r13_put_c _ _ _ h147) rfl rfl (runX ?_)
   exact jn r182 hF (sR [(2,1,0)])
  exact jn [(⟨#[97,108,108]⟩:ByteArray)] hF (Shift.trans (shift_T 5 rfl rfl) (sR [(2,1,0)]))
 refine rg ?_
 refine bl ?_
 refine fix_elim hF fun f23 mf23 hf23 hF=>?_
 refine pws_loop (α:=Nat×((List ByteArray)×Int)) (fun a _=>mkS [(1,.str p1),(2,.ptr 2 (1,2) 0),(5,.sl (List.map csS a.2.1)),(6,.int .i64 a.2.2)] [(2,some ((1,2),.box [.sl (List.map Group.cs p0.groups),.sl (List.map Rule.cs p0.rules),.sl (List.map Guard.cs p0.guards)]))] 2) (fun a=>fixN a.1 f23 a.2=some r) (fun a=>a.1) (mf23,x3,(-1)) 2 hF (sR [(2,1,2)]) (fun a _ hF=>?_)
 obtain ⟨mf23,x122,x123⟩:=a
 obtain ⟨mf23,rfl,hF⟩:=fix_step hf23 hF
 dsimp only at hF ⊢
 refine runX ?_
 refine rg ?_
 refine g_lenM rfl (M:=x122) (f:=csS) rfl (runX ?_)
 refine cS hF rfl (fun hF=>?_) fun hF=>?_
 ·refine bl ?_
  refine rg ?_
  refine g_lenM rfl (M:=x122) (f:=csS) rfl (runX ?_)
  refine rg ?_
  refine bl ?_
  refine fix_elim hF fun f26 mf26 hf26 hF=>?_
  refine pws_loop (α:=Nat×((List ByteArray)×Int)) (fun a _=>mkS [(1,.str p1),(2,.ptr 2 (1,2) 0),(5,.sl (List.map csS a.2.1)),(6,.int .i64 (x122.length:Int)),(7,.int .i64 a.2.2)] [(2,some ((1,2),.box [.sl (List.map Group.cs p0.groups),.sl (List.map Rule.cs p0.rules),.sl (List.map Guard.cs p0.guards)]))] 2) (fun a=>fixN a.1 f26 a.2=some r) (fun a=>a.1) (mf26,x122,0) 2 hF (sR [(2,1,2)]) (fun a _ hF=>?_)
  obtain ⟨mf26,x162,x163⟩:=a
  obtain ⟨mf26,rfl,hF⟩:=fix_step hf26 hF
  dsimp only at hF ⊢
  refine runX ?_
  refine rg ?_
  refine g_lenM rfl (M:=p0.groups) (f:=Group.cs) rfl (runX ?_)
  refine cS hF rfl (fun hF=>?_) fun hF=>?_
  ·refine jL hF (fun x177=>mkS [(1,.str p1),(2,.ptr 2 (1,2) 0),(5,.sl (List.map csS x177)),(6,.int .i64 (x122.length:Int)),(7,.int .i64 x163)] [(2,some ((1,2),.box [.sl (List.map Group.cs p0.groups),.sl (List.map Rule.cs p0.rules),.sl (List.map Guard.cs p0.guards)]))] 2) (fun k27 hF=>?_) fun x177 hF=>?_
   ·refine bl ?_
    refine rg ?_
    obtain ⟨e178,h143,hF⟩:=bnd hF
    refine g_indexI (f:=Group.cs) rfl h143 rfl rfl rfl (runX ?_)
    obtain ⟨r179,h144,hF⟩:=bnd hF
    refine g_call (r13_belongs_c _ _ _ _ h144) rfl rfl (runX ?_)
    refine cS hF rfl (fun hF=>?_) fun hF=>?_
    ·refine rg ?_
     obtain ⟨e180,h145,hF⟩:=bnd hF
     refine g_indexI (f:=Group.cs) rfl h145 rfl rfl rfl (runX ?_)
     obtain ⟨r181,h146,hF⟩:=bnd hF
     refine g_call (r13_put_c _ _ _ h146) rfl rfl (runX ?_)
     exact jn r181 hF (sR [(2,1,2)])
    exact jn x162 hF (sR [(2,1,2)])
   refine rg ?_
   exact rn (mf26,x177,(w64 (x163+1))) hF (sR [(2,1,2)])
  exact rn (mf23,x162,(x122.length:Int)) hF (sR [(2,1,2)])
 refine rg ?_
 cases hF
 exact rQ
end Go.Proofs.YtphibahplgmgfaaGreatDoor
set_option linter.unusedVariables false
set_option maxHeartbeats 4000000
set_option maxRecDepth 100000
namespace Go.Proofs.YtphibahplgmgfaaGreatDoor
open VL
def r29_PolicyOf (p0:State):Option Policy:=
 (r29_Policy).bind fun r1=>
 (r27_Text p0 r1).bind fun r2=>
 if (!r2.2) then
  (some (⟨[],[],[]⟩:Policy):Option Policy)
 else
 (r12_Parse r2.1).bind fun r3=>
 if (!decide (r3.2.2=0)) then
  (some (⟨[],[],[]⟩:Policy):Option Policy)
 else
 (some r3.1:Option Policy)
theorem r29_PolicyOf_c (p0:State) (r:Policy) (hF:r29_PolicyOf p0=some r):Contract0 Tryz.prog 28 [p0.pv] (r.pv):=by
 refine cF (fun r=>r.pv) hF mix Tryz.func28 fun r hF=>?_
 unfold r29_PolicyOf at hF
 refine runX ?_
 refine rg ?_
 refine rg ?_
 obtain ⟨r1,h1,hF⟩:=bnd hF
 refine g_call (r29_Policy_c _ h1) rfl rfl (runX ?_)
 obtain ⟨r2,h2,hF⟩:=bnd hF
 refine g_call (r27_Text_c _ _ _ h2) rfl rfl (runX ?_)
 refine rg ?_
 refine cS hF rfl (fun hF=>?_) fun hF=>?_
 ·refine rg ?_
  cases hF
  exact rQ
 refine rg ?_
 obtain ⟨r3,h3,hF⟩:=bnd hF
 refine g_call (r12_Parse_c _ _ h3) rfl rfl (runX ?_)
 refine rg ?_
 refine cS hF rfl (fun hF=>?_) fun hF=>?_
 ·refine rg ?_
  cases hF
  exact rQ
 refine rg ?_
 cases hF
 exact rQ
def r29_May (p0:State) (p1:ByteArray) (p2:Int) (p3:Title):Option Bool:=
 (r29_PolicyOf p0).bind fun r1=>
 (r13_Groups r1 p1).bind fun r2=>
 (r13_May r1 r2 p2 p3).bind fun r3=>
 (some r3:Option Bool)
theorem r29_May_c (p0:State) (p1:ByteArray) (p2:Int) (p3:Title) (r:Bool) (hF:r29_May p0 p1 p2 p3=some r):Contract0 Tryz.prog 30 [p0.pv,.str p1,.int .i64 p2,p3.pv] (.bool r):=by
 refine cF (fun r=>.bool r) hF mix Tryz.func30 fun r hF=>?_
 unfold r29_May at hF
 refine runX ?_
 refine rg ?_
 refine rg ?_
 obtain ⟨r1,h1,hF⟩:=bnd hF
 refine g_call (r29_PolicyOf_c _ _ h1) rfl rfl (runX ?_)
 refine rg ?_
 obtain ⟨r2,h2,hF⟩:=bnd hF
 refine g_call (r13_Groups_c _ _ _ h2) rfl rfl (runX ?_)
 obtain ⟨r3,h3,hF⟩:=bnd hF
 refine g_call (r13_May_c _ _ _ _ _ h3) rfl rfl (runX ?_)
 cases hF
 exact rQ
end Go.Proofs.YtphibahplgmgfaaGreatDoor
set_option linter.unusedVariables false
set_option maxHeartbeats 4000000
set_option maxRecDepth 100000
namespace Go.Proofs.YtphibahplgmgfaaGreatDoor
open VL
def slices_Clone_Revision (p0:List Revision):Option (List Revision):=
 (neL p0).bind fun u1=>
 (appL 72 [] p0).bind fun l2=>
 (some l2:Option (List Revision))
theorem slices_Clone_Revision_c (p0:List Revision) (r:List Revision) (hF:slices_Clone_Revision p0=some r):Contract0 Tryz.prog 133 [.sl (List.map Revision.cs p0)] (.sl (List.map Revision.cs r)):=by
 refine cF (fun r=>.sl (List.map Revision.cs r)) hF mix Tryz.func133 fun r hF=>?_
 unfold slices_Clone_Revision at hF
 refine runX ?_
 refine rg ?_
 refine rg ?_
 obtain ⟨u1,h1,hF⟩:=bnd hF
 refine g_eqNil rfl h1 rfl (runX ?_)
 refine pws_condF rfl rfl (runX ?_)
 refine rg ?_
 refine g_buildM (M:=([]:List Revision)) (f:=Revision.cs) rfl rfl rfl rfl (Nat.le_of_ble_eq_true rfl) rfl (runX ?_)
 obtain ⟨l2,h2,hF⟩:=bnd hF
 refine g_appR (f:=Revision.cs) rfl h2 (fun _=>rfl) rfl rfl rfl rfl (runX ?_)
 cases hF
 exact rQ
def state_ownPage (p0:Stored):Option Stored:=
 (slices_Clone_Revision p0.history).bind fun r1=>
 (some (⟨p0.title,r1⟩:Stored):Option Stored)
theorem state_ownPage_c (p0:Stored) (r:Stored) (hF:state_ownPage p0=some r):Contract0 Tryz.prog 92 [p0.pv] (r.pv):=by
 refine cF (fun r=>r.pv) hF mix Tryz.func92 fun r hF=>?_
 unfold state_ownPage at hF
 refine runX ?_
 refine rg ?_
 refine rg ?_
 obtain ⟨r1,h1,hF⟩:=bnd hF
 refine g_call (slices_Clone_Revision_c _ _ h1) rfl rfl (runX ?_)
 refine rg ?_
 cases hF
 exact rQ
def state_Page (p0:State) (p1:Title):Option (Stored×Bool):=
 fixN bigN (fun f2 (x18:Int)=>
  if (decide (x18<(p0.pages.length:Int))) then
   (atI p0.pages x18).bind fun e25=>
   if (decide (e25.title=p1)) then
    (state_ownPage e25).bind fun r26=>
    (some (r26,true):Option (Stored×Bool))
   else
   f2 (w64 (x18+1))
  else
  (some ((⟨(⟨0,(⟨#[]⟩:ByteArray)⟩:Title),[]⟩:Stored),false):Option (Stored×Bool))) 0
theorem state_Page_c (p0:State) (p1:Title) (r:Stored×Bool) (hF:state_Page p0 p1=some r):Contract0 Tryz.prog 52 [p0.pv,p1.pv] (.tup [r.1.pv,.bool r.2]):=by
 refine cF (fun r=>.tup [r.1.pv,.bool r.2]) hF mix Tryz.func52 fun r hF=>?_
 unfold state_Page at hF
 refine runX ?_
 refine rg ?_
 refine rg ?_
 refine g_lenM rfl (M:=p0.pages) (f:=Stored.cs) rfl (runX ?_)
 refine bl ?_
 refine fix_elim hF fun f2 mf2 hf2 hF=>?_
 refine pws_loop (α:=Nat×Int) (fun a _=>mkS [(3,.ptr 3 (1,3) 0),(4,.ptr 4 (1,4) 0),(9,.sl (List.map Stored.cs p0.pages)),(10,.int .i64 (p0.pages.length:Int)),(11,.int .i64 a.2)] [(3,some ((1,3),.box [.int .i64 p1.space,.str p1.name])),(4,some ((1,4),.box [.int .i64 0,.str (⟨#[]⟩:ByteArray),.nil]))] 2) (fun a=>fixN a.1 f2 a.2=some r) (fun a=>a.1) (mf2,0) 2 hF (sR [(3,1,1),(4,1,2)]) (fun a _ hF=>?_)
 obtain ⟨mf2,x18⟩:=a
 obtain ⟨mf2,rfl,hF⟩:=fix_step hf2 hF
 dsimp only at hF ⊢
 refine runX ?_
 refine rg ?_
 refine cS hF rfl (fun hF=>?_) fun hF=>?_
 ·refine bl ?_
  refine rg ?_
  obtain ⟨e25,h23,hF⟩:=bnd hF
  refine g_indexI (f:=Stored.cs) rfl h23 rfl rfl rfl (runX ?_)
  refine rg ?_
  refine g_eqT (.inl rfl) rfl rfl rfl rfl rfl (fun W=>titleEql e25.title p1 W) (runX ?_)
  refine cS hF rfl (fun hF=>?_) fun hF=>?_
  ·refine rg ?_
   obtain ⟨r26,h24,hF⟩:=bnd hF
   refine g_call (state_ownPage_c _ _ h24) rfl rfl (runX ?_)
   cases hF
   exact rQ
  refine rg ?_
  exact rn (mf2,(w64 (x18+1))) hF (sR [(3,1,3),(4,1,4)])
 refine rg ?_
 cases hF
 exact rQ
def state_Current (p0:Stored):Option Revision:=
 if (decide ((p0.history.length:Int)=0)) then
  (some (⟨0,(⟨#[]⟩:ByteArray),(⟨#[]⟩:ByteArray),(⟨#[]⟩:ByteArray),0,0⟩:Revision):Option Revision)
 else
 (atI p0.history (w64 ((p0.history.length:Int) - 1))).bind fun e1=>
 (some e1:Option Revision)
theorem state_Current_c (p0:Stored) (r:Revision) (hF:state_Current p0=some r):Contract0 Tryz.prog 50 [p0.pv] (r.pv):=by
 refine cF (fun r=>r.pv) hF mix Tryz.func50 fun r hF=>?_
 unfold state_Current at hF
 refine runX ?_
 refine rg ?_
 refine rg ?_
 refine g_lenM rfl (M:=p0.history) (f:=Revision.cs) rfl (runX ?_)
 refine cS hF rfl (fun hF=>?_) fun hF=>?_
 ·refine rg ?_
  cases hF
  exact rQ
 refine rg ?_
 refine g_lenM rfl (M:=p0.history) (f:=Revision.cs) rfl (runX ?_)
 obtain ⟨e1,h1,hF⟩:=bnd hF
 refine g_indexI (f:=Revision.cs) rfl h1 rfl rfl rfl (runX ?_)
 cases hF
 exact rQ
end Go.Proofs.YtphibahplgmgfaaGreatDoor
set_option linter.unusedVariables false
set_option maxHeartbeats 4000000
set_option maxRecDepth 100000
namespace Go.Proofs.YtphibahplgmgfaaGreatDoor
open VL
def edit_PolicyOf (p0:State):Option Policy:=
 (state_Page p0 (⟨5,(⟨#[80,111,108,105,99,121]⟩:ByteArray)⟩:Title)).bind fun r1=>
 if (!r1.2) then
  (some (⟨[],[],[]⟩:Policy):Option Policy)
 else
 (state_Current r1.1).bind fun r2=>
 (policy_Parse r2.text).bind fun r3=>
 if (!decide (r3.2.2=0)) then
  (some (⟨[],[],[]⟩:Policy):Option Policy)
 else
 (some r3.1:Option Policy)
theorem edit_PolicyOf_c (p0:State) (r:Policy) (hF:edit_PolicyOf p0=some r):Contract0 Tryz.prog 47 [p0.pv] (r.pv):=by
 refine cF (fun r=>r.pv) hF mix Tryz.func47 fun r hF=>?_
 unfold edit_PolicyOf at hF
 refine runX ?_
 refine rg ?_
 refine rg ?_
 refine g_loadG rfl rfl (runX ?_)
 obtain ⟨r1,h1,hF⟩:=bnd hF
 refine g_call (state_Page_c _ _ _ h1) rfl rfl (runX ?_)
 refine rg ?_
 refine cS hF rfl (fun hF=>?_) fun hF=>?_
 ·refine rg ?_
  cases hF
  exact rQ
 refine rg ?_
 obtain ⟨r2,h2,hF⟩:=bnd hF
 refine g_call (state_Current_c _ _ h2) rfl rfl (runX ?_)
 obtain ⟨r3,h3,hF⟩:=bnd hF
 refine g_call (policy_Parse_c _ _ h3) rfl rfl (runX ?_)
 refine rg ?_
 refine cS hF rfl (fun hF=>?_) fun hF=>?_
 ·refine rg ?_
  cases hF
  exact rQ
 refine rg ?_
 cases hF
 exact rQ
end Go.Proofs.YtphibahplgmgfaaGreatDoor
