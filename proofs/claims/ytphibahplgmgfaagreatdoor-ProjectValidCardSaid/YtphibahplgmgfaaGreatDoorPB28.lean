/- Functions of the program as Lean functions. Written by fxgen.py. | Functions of the program as Lean functions. Written by fxgen.py. | Functions of the program as Lean functions. Written by fxgen.py. | Functions of the program as Lean functions. Written by fxgen.py. | Functions of the program as Lean functions. Written by fxgen.py. -/
import Derived.Test.YtphibahplgmgfaaGreatDoorPB03
import Derived.Test.YtphibahplgmgfaaGreatDoorPB08
set_option linter.unusedVariables false
set_option maxHeartbeats 4000000
set_option maxRecDepth 100000
namespace Go.Proofs.YtphibahplgmgfaaGreatDoor
open VL
def slices_Equal_Page (p0:List Page) (p1:List Page):Option Bool:=
 if (!decide ((p0.length:Int)=(p1.length:Int))) then
  (some false:Option Bool)
 else
 fixN 9223372036854775808 (fun f2 (x18:Int)=>
  if (decide (x18<(p0.length:Int))) then
   (atI p0 x18).bind fun e25=>
   (atI p1 x18).bind fun e26=>
   if (!decide (e25=e26)) then
    (some false:Option Bool)
   else
   f2 (w64 (x18+1))
  else
  (some true:Option Bool)) 0
theorem slices_Equal_Page_c (p0:List Page) (p1:List Page) (r:Bool) (hF:slices_Equal_Page p0 p1=some r):Contract0 Tryz.prog 53 [.sl (List.map Page.cs p0),.sl (List.map Page.cs p1)] (.bool r):=by
 refine cF (fun r=>.bool r) hF mix Tryz.func53 fun r hF=>?_
 unfold slices_Equal_Page at hF
 refine runX ?_
 refine rg ?_
 refine rg ?_
 refine g_lenM rfl (M:=p0) (f:=Page.cs) rfl (runX ?_)
 refine g_lenM rfl (M:=p1) (f:=Page.cs) rfl (runX ?_)
 refine cS hF rfl (fun hF=>?_) fun hF=>?_
 ·refine rg ?_
  cases hF
  exact rQ
 refine rg ?_
 refine g_lenM rfl (M:=p0) (f:=Page.cs) rfl (runX ?_)
 refine bl ?_
 refine fix_elim hF fun f2 mf2 hf2 hF=>?_
 refine pws_loop (α:=Nat×Int) (fun a _=>mkS [(0,.sl (List.map Page.cs p0)),(1,.sl (List.map Page.cs p1)),(12,.int .i64 (p0.length:Int)),(13,.int .i64 a.2)] [] 2) (fun a=>fixN a.1 f2 a.2=some r) (fun a=>a.1) (mf2,0) 2 hF (sR []) (fun a _ hF=>?_)
 obtain ⟨mf2,x18⟩:=a
 obtain ⟨mf2,rfl,hF⟩:=fix_step hf2 hF
 dsimp only at hF ⊢
 refine runX ?_
 refine rg ?_
 refine cS hF rfl (fun hF=>?_) fun hF=>?_
 ·refine bl ?_
  refine rg ?_
  refine rg ?_
  obtain ⟨e25,h23,hF⟩:=bnd hF
  refine g_indexI (f:=Page.cs) rfl h23 rfl rfl rfl (runX ?_)
  obtain ⟨e26,h24,hF⟩:=bnd hF
  refine g_indexI (f:=Page.cs) rfl h24 rfl rfl rfl (runX ?_)
  refine g_eqT (.inr rfl) rfl rfl rfl rfl rfl (fun W=>pageNeq e25 e26 W) (runX ?_)
  refine cS hF rfl (fun hF=>?_) fun hF=>?_
  ·refine rg ?_
   cases hF
   exact rQ
  refine rg ?_
  exact rn (mf2,(w64 (x18+1))) hF (sR [])
 refine rg ?_
 cases hF
 exact rQ
def slices_Equal_string (p0:List ByteArray) (p1:List ByteArray):Option Bool:=
 if (!decide ((p0.length:Int)=(p1.length:Int))) then
  (some false:Option Bool)
 else
 fixN 9223372036854775808 (fun f2 (x18:Int)=>
  if (decide (x18<(p0.length:Int))) then
   (atI p0 x18).bind fun e25=>
   (atI p1 x18).bind fun e26=>
   if (!decide (e25=e26)) then
    (some false:Option Bool)
   else
   f2 (w64 (x18+1))
  else
  (some true:Option Bool)) 0
theorem slices_Equal_string_c (p0:List ByteArray) (p1:List ByteArray) (r:Bool) (hF:slices_Equal_string p0 p1=some r):Contract0 Tryz.prog 55 [.sl (List.map csS p0),.sl (List.map csS p1)] (.bool r):=by
 refine cF (fun r=>.bool r) hF mix Tryz.func55 fun r hF=>?_
 unfold slices_Equal_string at hF
 refine runX ?_
 refine rg ?_
 refine rg ?_
 refine g_lenM rfl (M:=p0) (f:=csS) rfl (runX ?_)
 refine g_lenM rfl (M:=p1) (f:=csS) rfl (runX ?_)
 refine cS hF rfl (fun hF=>?_) fun hF=>?_
 ·refine rg ?_
  cases hF
  exact rQ
 refine rg ?_
 refine g_lenM rfl (M:=p0) (f:=csS) rfl (runX ?_)
 refine bl ?_
 refine fix_elim hF fun f2 mf2 hf2 hF=>?_
 refine pws_loop (α:=Nat×Int) (fun a _=>mkS [(0,.sl (List.map csS p0)),(1,.sl (List.map csS p1)),(12,.int .i64 (p0.length:Int)),(13,.int .i64 a.2)] [] 2) (fun a=>fixN a.1 f2 a.2=some r) (fun a=>a.1) (mf2,0) 2 hF (sR []) (fun a _ hF=>?_)
 obtain ⟨mf2,x18⟩:=a
 obtain ⟨mf2,rfl,hF⟩:=fix_step hf2 hF
 dsimp only at hF ⊢
 refine runX ?_
 refine rg ?_
 refine cS hF rfl (fun hF=>?_) fun hF=>?_
 ·refine bl ?_
  refine rg ?_
  refine rg ?_
  obtain ⟨e25,h23,hF⟩:=bnd hF
  refine g_indexI (f:=csS) rfl h23 rfl rfl rfl (runX ?_)
  obtain ⟨e26,h24,hF⟩:=bnd hF
  refine g_indexI (f:=csS) rfl h24 rfl rfl rfl (runX ?_)
  refine cS hF rfl (fun hF=>?_) fun hF=>?_
  ·refine rg ?_
   cases hF
   exact rQ
  refine rg ?_
  exact rn (mf2,(w64 (x18+1))) hF (sR [])
 refine rg ?_
 cases hF
 exact rQ
def slices_Equal_Rule (p0:List Rule) (p1:List Rule):Option Bool:=
 if (!decide ((p0.length:Int)=(p1.length:Int))) then
  (some false:Option Bool)
 else
 fixN 9223372036854775808 (fun f2 (x18:Int)=>
  if (decide (x18<(p0.length:Int))) then
   (atI p0 x18).bind fun e25=>
   (atI p1 x18).bind fun e26=>
   if (!decide (e25=e26)) then
    (some false:Option Bool)
   else
   f2 (w64 (x18+1))
  else
  (some true:Option Bool)) 0
theorem slices_Equal_Rule_c (p0:List Rule) (p1:List Rule) (r:Bool) (hF:slices_Equal_Rule p0 p1=some r):Contract0 Tryz.prog 95 [.sl (List.map Rule.cs p0),.sl (List.map Rule.cs p1)] (.bool r):=by
 refine cF (fun r=>.bool r) hF mix Tryz.func95 fun r hF=>?_
 unfold slices_Equal_Rule at hF
 refine runX ?_
 refine rg ?_
 refine rg ?_
 refine g_lenM rfl (M:=p0) (f:=Rule.cs) rfl (runX ?_)
 refine g_lenM rfl (M:=p1) (f:=Rule.cs) rfl (runX ?_)
 refine cS hF rfl (fun hF=>?_) fun hF=>?_
 ·refine rg ?_
  cases hF
  exact rQ
 refine rg ?_
 refine g_lenM rfl (M:=p0) (f:=Rule.cs) rfl (runX ?_)
 refine bl ?_
 refine fix_elim hF fun f2 mf2 hf2 hF=>?_
 refine pws_loop (α:=Nat×Int) (fun a _=>mkS [(0,.sl (List.map Rule.cs p0)),(1,.sl (List.map Rule.cs p1)),(12,.int .i64 (p0.length:Int)),(13,.int .i64 a.2)] [] 2) (fun a=>fixN a.1 f2 a.2=some r) (fun a=>a.1) (mf2,0) 2 hF (sR []) (fun a _ hF=>?_)
 obtain ⟨mf2,x18⟩:=a
 obtain ⟨mf2,rfl,hF⟩:=fix_step hf2 hF
 dsimp only at hF ⊢
 refine runX ?_
 refine rg ?_
 refine cS hF rfl (fun hF=>?_) fun hF=>?_
 ·refine bl ?_
  refine rg ?_
  refine rg ?_
  obtain ⟨e25,h23,hF⟩:=bnd hF
  refine g_indexI (f:=Rule.cs) rfl h23 rfl rfl rfl (runX ?_)
  obtain ⟨e26,h24,hF⟩:=bnd hF
  refine g_indexI (f:=Rule.cs) rfl h24 rfl rfl rfl (runX ?_)
  refine g_eqT (.inr rfl) rfl rfl rfl rfl rfl (fun W=>ruleNeq e25 e26 W) (runX ?_)
  refine cS hF rfl (fun hF=>?_) fun hF=>?_
  ·refine rg ?_
   cases hF
   exact rQ
  refine rg ?_
  exact rn (mf2,(w64 (x18+1))) hF (sR [])
 refine rg ?_
 cases hF
 exact rQ
end Go.Proofs.YtphibahplgmgfaaGreatDoor
set_option linter.unusedVariables false
set_option maxHeartbeats 4000000
set_option maxRecDepth 100000
namespace Go.Proofs.YtphibahplgmgfaaGreatDoor
open VL
def slices_Equal_Guard (p0:List Guard) (p1:List Guard):Option Bool:=
 if (!decide ((p0.length:Int)=(p1.length:Int))) then
  (some false:Option Bool)
 else
 fixN 9223372036854775808 (fun f2 (x18:Int)=>
  if (decide (x18<(p0.length:Int))) then
   (atI p0 x18).bind fun e25=>
   (atI p1 x18).bind fun e26=>
   if (!decide (e25=e26)) then
    (some false:Option Bool)
   else
   f2 (w64 (x18+1))
  else
  (some true:Option Bool)) 0
theorem slices_Equal_Guard_c (p0:List Guard) (p1:List Guard) (r:Bool) (hF:slices_Equal_Guard p0 p1=some r):Contract0 Tryz.prog 96 [.sl (List.map Guard.cs p0),.sl (List.map Guard.cs p1)] (.bool r):=by
 refine cF (fun r=>.bool r) hF mix Tryz.func96 fun r hF=>?_
 unfold slices_Equal_Guard at hF
 refine runX ?_
 refine rg ?_
 refine rg ?_
 refine g_lenM rfl (M:=p0) (f:=Guard.cs) rfl (runX ?_)
 refine g_lenM rfl (M:=p1) (f:=Guard.cs) rfl (runX ?_)
 refine cS hF rfl (fun hF=>?_) fun hF=>?_
 ·refine rg ?_
  cases hF
  exact rQ
 refine rg ?_
 refine g_lenM rfl (M:=p0) (f:=Guard.cs) rfl (runX ?_)
 refine bl ?_
 refine fix_elim hF fun f2 mf2 hf2 hF=>?_
 refine pws_loop (α:=Nat×Int) (fun a _=>mkS [(0,.sl (List.map Guard.cs p0)),(1,.sl (List.map Guard.cs p1)),(12,.int .i64 (p0.length:Int)),(13,.int .i64 a.2)] [] 2) (fun a=>fixN a.1 f2 a.2=some r) (fun a=>a.1) (mf2,0) 2 hF (sR []) (fun a _ hF=>?_)
 obtain ⟨mf2,x18⟩:=a
 obtain ⟨mf2,rfl,hF⟩:=fix_step hf2 hF
 dsimp only at hF ⊢
 refine runX ?_
 refine rg ?_
 refine cS hF rfl (fun hF=>?_) fun hF=>?_
 ·refine bl ?_
  refine rg ?_
  refine rg ?_
  obtain ⟨e25,h23,hF⟩:=bnd hF
  refine g_indexI (f:=Guard.cs) rfl h23 rfl rfl rfl (runX ?_)
  obtain ⟨e26,h24,hF⟩:=bnd hF
  refine g_indexI (f:=Guard.cs) rfl h24 rfl rfl rfl (runX ?_)
  refine g_eqT (.inr rfl) rfl rfl rfl rfl rfl (fun W=>guardNeq e25 e26 W) (runX ?_)
  refine cS hF rfl (fun hF=>?_) fun hF=>?_
  ·refine rg ?_
   cases hF
   exact rQ
  refine rg ?_
  exact rn (mf2,(w64 (x18+1))) hF (sR [])
 refine rg ?_
 cases hF
 exact rQ
def slices_Equal_Asked (p0:List Asked) (p1:List Asked):Option Bool:=
 if (!decide ((p0.length:Int)=(p1.length:Int))) then
  (some false:Option Bool)
 else
 fixN 9223372036854775808 (fun f2 (x18:Int)=>
  if (decide (x18<(p0.length:Int))) then
   (atI p0 x18).bind fun e25=>
   (atI p1 x18).bind fun e26=>
   if (!decide (e25=e26)) then
    (some false:Option Bool)
   else
   f2 (w64 (x18+1))
  else
  (some true:Option Bool)) 0
theorem slices_Equal_Asked_c (p0:List Asked) (p1:List Asked) (r:Bool) (hF:slices_Equal_Asked p0 p1=some r):Contract0 Tryz.prog 56 [.sl (List.map Asked.cs p0),.sl (List.map Asked.cs p1)] (.bool r):=by
 refine cF (fun r=>.bool r) hF mix Tryz.func56 fun r hF=>?_
 unfold slices_Equal_Asked at hF
 refine runX ?_
 refine rg ?_
 refine rg ?_
 refine g_lenM rfl (M:=p0) (f:=Asked.cs) rfl (runX ?_)
 refine g_lenM rfl (M:=p1) (f:=Asked.cs) rfl (runX ?_)
 refine cS hF rfl (fun hF=>?_) fun hF=>?_
 ·refine rg ?_
  cases hF
  exact rQ
 refine rg ?_
 refine g_lenM rfl (M:=p0) (f:=Asked.cs) rfl (runX ?_)
 refine bl ?_
 refine fix_elim hF fun f2 mf2 hf2 hF=>?_
 refine pws_loop (α:=Nat×Int) (fun a _=>mkS [(0,.sl (List.map Asked.cs p0)),(1,.sl (List.map Asked.cs p1)),(12,.int .i64 (p0.length:Int)),(13,.int .i64 a.2)] [] 2) (fun a=>fixN a.1 f2 a.2=some r) (fun a=>a.1) (mf2,0) 2 hF (sR []) (fun a _ hF=>?_)
 obtain ⟨mf2,x18⟩:=a
 obtain ⟨mf2,rfl,hF⟩:=fix_step hf2 hF
 dsimp only at hF ⊢
 refine runX ?_
 refine rg ?_
 refine cS hF rfl (fun hF=>?_) fun hF=>?_
 ·refine bl ?_
  refine rg ?_
  refine rg ?_
  obtain ⟨e25,h23,hF⟩:=bnd hF
  refine g_indexI (f:=Asked.cs) rfl h23 rfl rfl rfl (runX ?_)
  obtain ⟨e26,h24,hF⟩:=bnd hF
  refine g_indexI (f:=Asked.cs) rfl h24 rfl rfl rfl (runX ?_)
  refine g_eqT (.inr rfl) rfl rfl rfl rfl rfl (fun W=>askedNeq e25 e26 W) (runX ?_)
  refine cS hF rfl (fun hF=>?_) fun hF=>?_
  ·refine rg ?_
   cases hF
   exact rQ
  refine rg ?_
  exact rn (mf2,(w64 (x18+1))) hF (sR [])
 refine rg ?_
 cases hF
 exact rQ
end Go.Proofs.YtphibahplgmgfaaGreatDoor
set_option linter.unusedVariables false
set_option maxHeartbeats 4000000
set_option maxRecDepth 100000
namespace Go.Proofs.YtphibahplgmgfaaGreatDoor
open VL
def slices_EqualFunc_Group (p0:List Group) (p1:List Group) (qf2:Group→Group→Option Bool):Option Bool:=
 if (!decide ((p0.length:Int)=(p1.length:Int))) then
  (some false:Option Bool)
 else
 fixN 9223372036854775808 (fun f2 (x26:Int)=>
  if (decide (x26<(p0.length:Int))) then
   (atI p0 x26).bind fun e36=>
   (atI p1 x26).bind fun e37=>
   (qf2 e36 e37).bind fun r38=>
   if (!r38) then
    (some false:Option Bool)
   else
   f2 (w64 (x26+1))
  else
  (some true:Option Bool)) 0
theorem slices_EqualFunc_Group_c (p0:List Group) (p1:List Group) (qf2:Group→Group→Option Bool) (fv2:Nat) (Lv2:List (List PV)) (hq2:∀ (y0:Group) (y1:Group) (r:Bool),qf2 y0 y1=some r→Contract0 Tryz.prog fv2 ([y0.pv,y1.pv]++Lv2.map .cel) (.bool r)) (r:Bool) (hF:slices_EqualFunc_Group p0 p1 qf2=some r):Contract0 Tryz.prog 93 [.sl (List.map Group.cs p0),.sl (List.map Group.cs p1),.fn fv2 (Lv2.map .cel)] (.bool r):=by
 refine cF (fun r=>.bool r) hF mix Tryz.func93 fun r hF=>?_
 unfold slices_EqualFunc_Group at hF
 refine runX ?_
 refine rg ?_
 refine rg ?_
 refine g_lenM rfl (M:=p0) (f:=Group.cs) rfl (runX ?_)
 refine g_lenM rfl (M:=p1) (f:=Group.cs) rfl (runX ?_)
 refine cS hF rfl (fun hF=>?_) fun hF=>?_
 ·refine rg ?_
  cases hF
  exact rQ
 refine rg ?_
 refine g_lenM rfl (M:=p0) (f:=Group.cs) rfl (runX ?_)
 refine bl ?_
 refine fix_elim hF fun f2 mf2 hf2 hF=>?_
 refine pws_loop (α:=Nat×Int) (fun a _=>mkS [(1,.sl (List.map Group.cs p1)),(2,.fn fv2 (Lv2.map .cel)),(15,.sl (List.map Group.cs p0)),(16,.int .i64 (p0.length:Int)),(17,.int .i64 a.2)] [] 2) (fun a=>fixN a.1 f2 a.2=some r) (fun a=>a.1) (mf2,0) 2 hF (shift_renF [] ⟨rfl,renF_cels _ _ _,rfl,rfl,rfl,trivial⟩ trivial rfl) (fun a _ hF=>?_)
 obtain ⟨mf2,x26⟩:=a
 obtain ⟨mf2,rfl,hF⟩:=fix_step hf2 hF
 dsimp only at hF ⊢
 refine runX ?_
 refine rg ?_
 refine cS hF rfl (fun hF=>?_) fun hF=>?_
 ·refine bl ?_
  refine rg ?_
  obtain ⟨e36,h34,hF⟩:=bnd hF
  refine g_indexI (f:=Group.cs) rfl h34 rfl rfl rfl (runX ?_)
  refine rg ?_
  obtain ⟨e37,h35,hF⟩:=bnd hF
  refine g_indexI (f:=Group.cs) rfl h35 rfl rfl rfl (runX ?_)
  refine rg ?_
  obtain ⟨r38,h36,hF⟩:=bnd hF
  refine g_callFC (args1:=[e36.pv,e37.pv]) (hq2 e36 e37 _ h36) rfl rfl rfl rfl (runX ?_)
  refine cS hF rfl (fun hF=>?_) fun hF=>?_
  ·refine rg ?_
   cases hF
   exact rQ
  refine rg ?_
  exact rn (mf2,(w64 (x26+1))) hF (shift_renF [] ⟨rfl,renF_cels _ _ _,rfl,rfl,rfl,trivial⟩ trivial rfl)
 refine rg ?_
 cases hF
 exact rQ
end Go.Proofs.YtphibahplgmgfaaGreatDoor
set_option linter.unusedVariables false
set_option maxHeartbeats 4000000
set_option maxRecDepth 100000
namespace Go.Proofs.YtphibahplgmgfaaGreatDoor
open VL
def project_sameGroup (p0:Group) (p1:Group):Option Bool:=
 letk (fun (x2:Bool)=>
  (some x2:Option Bool)) fun k1=>
 if (decide (p0.name=p1.name)) then
  (slices_Equal_string p0.members p1.members).bind fun r3=>
  k1 r3
 else
 k1 false
theorem project_sameGroup_c (p0:Group) (p1:Group) (r:Bool) (hF:project_sameGroup p0 p1=some r):Contract0 Tryz.prog 94 [p0.pv,p1.pv] (.bool r):=by
 refine cF (fun r=>.bool r) hF mix Tryz.func94 fun r hF=>?_
 unfold project_sameGroup at hF
 refine runX ?_
 refine rg ?_
 refine jL hF (fun x2=>mkS [(4,.bool x2)] [] 2) (fun k1 hF=>?_) fun x2 hF=>?_
 ·refine rg ?_
  refine kS 10 hF rfl (fun hF=>?_) fun hF=>?_
  ·obtain ⟨r3,h2,hF⟩:=bnd hF
   refine g_call (slices_Equal_string_c _ _ _ h2) rfl rfl (runX ?_)
   exact jn r3 hF (sR [])
  iterate 5 refine g_skip rfl (runX ?_)
  exact jn false hF (sR [])
 cases hF
 exact rQ
def project_samePolicy (p0:Policy) (p1:Policy):Option Bool:=
 letk (fun (x4:Bool)=>
  (some x4:Option Bool)) fun k1=>
 (slices_EqualFunc_Group p0.groups p1.groups (fun y0 y1=>project_sameGroup y0 y1)).bind fun r5=>
 if r5 then
  (slices_Equal_Rule p0.rules p1.rules).bind fun r6=>
  if r6 then
   (slices_Equal_Guard p0.guards p1.guards).bind fun r7=>
   k1 r7
  else
  k1 false
 else
 k1 false
theorem project_samePolicy_c (p0:Policy) (p1:Policy) (r:Bool) (hF:project_samePolicy p0 p1=some r):Contract0 Tryz.prog 54 [p0.pv,p1.pv] (.bool r):=by
 refine cF (fun r=>.bool r) hF mix Tryz.func54 fun r hF=>?_
 unfold project_samePolicy at hF
 refine runX ?_
 refine rg ?_
 refine jL hF (fun x4=>mkS [(4,.bool x4)] [] 2) (fun k1 hF=>?_) fun x4 hF=>?_
 ·refine rg ?_
  obtain ⟨r5,h4,hF⟩:=bnd hF
  refine g_look (slices_EqualFunc_Group_c _ _ (fun y0 y1=>project_sameGroup y0 y1) 94 [] (fun y0 y1 r h=>project_sameGroup_c y0 y1 r h) _ h4) rfl rfl rfl (runX ?_)
  refine kS 10 hF rfl (fun hF=>?_) fun hF=>?_
  ·obtain ⟨r6,h5,hF⟩:=bnd hF
   refine g_call (slices_Equal_Rule_c _ _ _ h5) rfl rfl (runX ?_)
   refine kS 17 hF rfl (fun hF=>?_) fun hF=>?_
   ·obtain ⟨r7,h6,hF⟩:=bnd hF
    refine g_call (slices_Equal_Guard_c _ _ _ h6) rfl rfl (runX ?_)
    exact jn r7 hF (sR [])
   iterate 5 refine g_skip rfl (runX ?_)
   exact jn false hF (sR [])
  iterate 10 refine g_skip rfl (runX ?_)
  exact jn false hF (sR [])
 cases hF
 exact rQ
def project_Same (p0:View) (p1:View):Option Bool:=
 letk (fun (x5:Bool)=>
  (some x5:Option Bool)) fun k1=>
 (slices_Equal_Page p0.pages p1.pages).bind fun r6=>
 if r6 then
  (project_samePolicy p0.policy p1.policy).bind fun r7=>
  if r7 then
   (slices_Equal_string p0.groups p1.groups).bind fun r8=>
   if r8 then
    if (decide (p0.clock=p1.clock)) then
     (slices_Equal_Asked p0.fixed p1.fixed).bind fun r9=>
     k1 r9
    else
    k1 false
   else
   k1 false
  else
  k1 false
 else
 k1 false
theorem project_Same_c (p0:View) (p1:View) (r:Bool) (hF:project_Same p0 p1=some r):Contract0 Tryz.prog 23 [p0.pv,p1.pv] (.bool r):=by
 refine cF (fun r=>.bool r) hF mix Tryz.func23 fun r hF=>?_
 unfold project_Same at hF
 refine runX ?_
 refine rg ?_
 refine jL hF (fun x5=>mkS [(4,.bool x5)] [] 2) (fun k1 hF=>?_) fun x5 hF=>?_
 ·refine rg ?_
  obtain ⟨r6,h5,hF⟩:=bnd hF
  refine g_call (slices_Equal_Page_c _ _ _ h5) rfl rfl (runX ?_)
  refine kS 10 hF rfl (fun hF=>?_) fun hF=>?_
  ·obtain ⟨r7,h6,hF⟩:=bnd hF
   refine g_call (project_samePolicy_c _ _ _ h6) rfl rfl (runX ?_)
   refine kS 17 hF rfl (fun hF=>?_) fun hF=>?_
   ·obtain ⟨r8,h7,hF⟩:=bnd hF
    refine g_call (slices_Equal_string_c _ _ _ h7) rfl rfl (runX ?_)
    refine kS 24 hF rfl (fun hF=>?_) fun hF=>?_
    ·refine kS 31 hF rfl (fun hF=>?_) fun hF=>?_
     ·obtain ⟨r9,h8,hF⟩:=bnd hF
      refine g_call (slices_Equal_Asked_c _ _ _ h8) rfl rfl (runX ?_)
      exact jn r9 hF (sR [])
     iterate 5 refine g_skip rfl (runX ?_)
     exact jn false hF (sR [])
    iterate 10 refine g_skip rfl (runX ?_)
    exact jn false hF (sR [])
   iterate 15 refine g_skip rfl (runX ?_)
   exact jn false hF (sR [])
  iterate 20 refine g_skip rfl (runX ?_)
  exact jn false hF (sR [])
 cases hF
 exact rQ
end Go.Proofs.YtphibahplgmgfaaGreatDoor
set_option linter.unusedVariables false
set_option maxHeartbeats 4000000
set_option maxRecDepth 100000
namespace Go.Proofs.YtphibahplgmgfaaGreatDoor
open VL
def g2_Same_string (p0:List ByteArray) (p1:List ByteArray):Option Bool:=
 if (!decide ((p0.length:Int)=(p1.length:Int))) then
  (some false:Option Bool)
 else
 fixN 9223372036854775808 (fun f2 (x18:Int)=>
  if (decide (x18<(p0.length:Int))) then
   (atI p0 x18).bind fun e25=>
   (atI p1 x18).bind fun e26=>
   if (!decide (e25=e26)) then
    (some false:Option Bool)
   else
   f2 (w64 (x18+1))
  else
  (some true:Option Bool)) 0
theorem g2_Same_string_c (p0:List ByteArray) (p1:List ByteArray) (r:Bool) (hF:g2_Same_string p0 p1=some r):Contract0 Tryz.prog 26 [.sl (List.map csS p0),.sl (List.map csS p1)] (.bool r):=by
 refine cF (fun r=>.bool r) hF mix Tryz.func26 fun r hF=>?_
 unfold g2_Same_string at hF
 refine runX ?_
 refine rg ?_
 refine rg ?_
 refine g_lenM rfl (M:=p0) (f:=csS) rfl (runX ?_)
 refine g_lenM rfl (M:=p1) (f:=csS) rfl (runX ?_)
 refine cS hF rfl (fun hF=>?_) fun hF=>?_
 ·refine rg ?_
  cases hF
  exact rQ
 refine rg ?_
 refine bl ?_
 refine fix_elim hF fun f2 mf2 hf2 hF=>?_
 refine pws_loop (α:=Nat×Int) (fun a _=>mkS [(0,.sl (List.map csS p0)),(1,.sl (List.map csS p1)),(5,.int .i64 a.2)] [] 2) (fun a=>fixN a.1 f2 a.2=some r) (fun a=>a.1) (mf2,0) 2 hF (sR []) (fun a _ hF=>?_)
 obtain ⟨mf2,x18⟩:=a
 obtain ⟨mf2,rfl,hF⟩:=fix_step hf2 hF
 dsimp only at hF ⊢
 refine runX ?_
 refine rg ?_
 refine g_lenM rfl (M:=p0) (f:=csS) rfl (runX ?_)
 refine cS hF rfl (fun hF=>?_) fun hF=>?_
 ·refine bl ?_
  refine rg ?_
  obtain ⟨e25,h23,hF⟩:=bnd hF
  refine g_indexI (f:=csS) rfl h23 rfl rfl rfl (runX ?_)
  obtain ⟨e26,h24,hF⟩:=bnd hF
  refine g_indexI (f:=csS) rfl h24 rfl rfl rfl (runX ?_)
  refine cS hF rfl (fun hF=>?_) fun hF=>?_
  ·refine rg ?_
   cases hF
   exact rQ
  refine rg ?_
  exact rn (mf2,(w64 (x18+1))) hF (sR [])
 refine rg ?_
 cases hF
 exact rQ
end Go.Proofs.YtphibahplgmgfaaGreatDoor
