/- Functions of the program as Lean functions. Written by fxgen.py. | Functions of the program as Lean functions. Written by fxgen.py. | Functions of the program as Lean functions. Written by fxgen.py. -/
import Derived.Test.YtphibahplgmgfaaGreatDoorCS12
import Derived.Test.YtphibahplgmgfaaGreatDoorCS08
import Derived.Test.YtphibahplgmgfaaGreatDoorCS03
import Derived.Test.YtphibahplgmgfaaGreatDoorCS24
set_option linter.unusedVariables false
set_option maxHeartbeats 4000000
set_option maxRecDepth 100000
namespace Go.Proofs.YtphibahplgmgfaaGreatDoor
open VL
def g2_SamePolicy (p0:Policy) (p1:Policy):Option Bool:=
 if (!decide ((p0.groups.length:Int)=(p1.groups.length:Int))) then
  (some false:Option Bool)
 else
 fixN 9223372036854775808 (fun f12 (x90:Int)=>
  if (decide (x90<(p0.groups.length:Int))) then
   letk (fun (x129:Bool)=>
    if x129 then
     (some false:Option Bool)
    else
    f12 (w64 (x90+1))) fun k14=>
   (atI p0.groups x90).bind fun e130=>
   (atI p1.groups x90).bind fun e131=>
   if (!decide (e130.name=e131.name)) then
    k14 true
   else
   (atI p0.groups x90).bind fun e132=>
   (atI p1.groups x90).bind fun e133=>
   (g2_Same_string e132.members e133.members).bind fun r134=>
   k14 (!r134)
  else
  letk (fun (x137:Bool)=>
   (some x137:Option Bool)) fun k15=>
  (g2_Same_Rule p0.rules p1.rules).bind fun r138=>
  if r138 then
   (g2_Same_Guard p0.guards p1.guards).bind fun r139=>
   k15 r139
  else
  k15 false) 0
theorem g2_SamePolicy_c (p0:Policy) (p1:Policy) (r:Bool) (hF:g2_SamePolicy p0 p1=some r):Contract0 Tryz.prog 45 [p0.pv,p1.pv] (.bool r):=by
 refine cF (fun r=>.bool r) hF mix Tryz.func45 fun r hF=>?_
 unfold g2_SamePolicy at hF
 refine runX ?_
 refine rg ?_
 refine rg ?_
 refine g_lenM rfl (M:=p0.groups) (f:=Group.cs) rfl (runX ?_)
 refine g_lenM rfl (M:=p1.groups) (f:=Group.cs) rfl (runX ?_)
 refine cS hF rfl (fun hF=>?_) fun hF=>?_
 ·refine rg ?_
  cases hF
  exact rQ
 refine rg ?_
 refine bl ?_
 refine fix_elim hF fun f12 mf12 hf12 hF=>?_
 refine pws_loop (α:=Nat×Int) (fun a _=>mkS [(2,.ptr 2 (1,2) 0),(3,.ptr 3 (1,3) 0),(5,.int .i64 a.2)] [(2,some ((1,2),.box [.sl (List.map Group.cs p0.groups),.sl (List.map Rule.cs p0.rules),.sl (List.map Guard.cs p0.guards)])),(3,some ((1,3),.box [.sl (List.map Group.cs p1.groups),.sl (List.map Rule.cs p1.rules),.sl (List.map Guard.cs p1.guards)]))] 2) (fun a=>fixN a.1 f12 a.2=some r) (fun a=>a.1) (mf12,0) 2 hF (sR [(2,1,0),(3,1,1)]) (fun a _ hF=>?_)
 obtain ⟨mf12,x90⟩:=a
 obtain ⟨mf12,rfl,hF⟩:=fix_step hf12 hF
 dsimp only at hF ⊢
 refine runX ?_
 refine rg ?_
 refine g_lenM rfl (M:=p0.groups) (f:=Group.cs) rfl (runX ?_)
 refine cS hF rfl (fun hF=>?_) fun hF=>?_
 ·refine bl ?_
  refine jL hF (fun x129=>mkS [(2,.ptr 2 (1,2) 0),(3,.ptr 3 (1,3) 0),(5,.int .i64 x90),(48,.bool x129)] [(2,some ((1,2),.box [.sl (List.map Group.cs p0.groups),.sl (List.map Rule.cs p0.rules),.sl (List.map Guard.cs p0.guards)])),(3,some ((1,3),.box [.sl (List.map Group.cs p1.groups),.sl (List.map Rule.cs p1.rules),.sl (List.map Guard.cs p1.guards)]))] 2) (fun k14 hF=>?_) fun x129 hF=>?_
  ·refine rg ?_
   obtain ⟨e130,h116,hF⟩:=bnd hF
   refine g_indexI (f:=Group.cs) rfl h116 rfl rfl rfl (runX ?_)
   obtain ⟨e131,h117,hF⟩:=bnd hF
   refine g_indexI (f:=Group.cs) rfl h117 rfl rfl rfl (runX ?_)
   refine kS 33 hF rfl (fun hF=>?_) fun hF=>?_
   ·iterate 14 refine g_skip rfl (runX ?_)
    exact jn true hF (sR [(2,1,2),(3,1,3)])
   obtain ⟨e132,h118,hF⟩:=bnd hF
   refine g_indexI (f:=Group.cs) rfl h118 rfl rfl rfl (runX ?_)
   obtain ⟨e133,h119,hF⟩:=bnd hF
   refine g_indexI (f:=Group.cs) rfl h119 rfl rfl rfl (runX ?_)
   obtain ⟨r134,h120,hF⟩:=bnd hF
   refine g_call (g2_Same_string_c _ _ _ h120) rfl rfl (runX ?_)
   exact jn (!r134) hF (sR [(2,1,2),(3,1,3)])
  refine cS hF rfl (fun hF=>?_) fun hF=>?_
  ·refine rg ?_
   cases hF
   exact rQ
  refine rg ?_
  exact rn (mf12,(w64 (x90+1))) hF (sR [(2,1,2),(3,1,3)])
 refine jL hF (fun x137=>mkS [(4,.bool x137)] [] 2) (fun k15 hF=>?_) fun x137 hF=>?_
 ·refine rg ?_
  obtain ⟨r138,h123,hF⟩:=bnd hF
  refine g_call (g2_Same_Rule_c _ _ _ h123) rfl rfl (runX ?_)
  refine kS 54 hF rfl (fun hF=>?_) fun hF=>?_
  ·obtain ⟨r139,h124,hF⟩:=bnd hF
   refine g_call (g2_Same_Guard_c _ _ _ h124) rfl rfl (runX ?_)
   exact jn r139 hF (sR [])
  iterate 5 refine g_skip rfl (runX ?_)
  exact jn false hF (sR [])
 cases hF
 exact rQ
def g2_SameView (p0:View) (p1:View):Option Bool:=
 letk (fun (x5:Bool)=>
  (some x5:Option Bool)) fun k1=>
 (g2_Same_Page p0.pages p1.pages).bind fun r6=>
 if r6 then
  (g2_SamePolicy p0.policy p1.policy).bind fun r7=>
  if r7 then
   (g2_Same_string p0.groups p1.groups).bind fun r8=>
   if r8 then
    if (decide (p0.clock=p1.clock)) then
     (g2_Same_Asked p0.fixed p1.fixed).bind fun r9=>
     k1 r9
    else
    k1 false
   else
   k1 false
  else
  k1 false
 else
 k1 false
theorem g2_SameView_c (p0:View) (p1:View) (r:Bool) (hF:g2_SameView p0 p1=some r):Contract0 Tryz.prog 16 [p0.pv,p1.pv] (.bool r):=by
 refine cF (fun r=>.bool r) hF mix Tryz.func16 fun r hF=>?_
 unfold g2_SameView at hF
 refine runX ?_
 refine rg ?_
 refine jL hF (fun x5=>mkS [(4,.bool x5)] [] 2) (fun k1 hF=>?_) fun x5 hF=>?_
 ·refine rg ?_
  obtain ⟨r6,h5,hF⟩:=bnd hF
  refine g_call (g2_Same_Page_c _ _ _ h5) rfl rfl (runX ?_)
  refine kS 10 hF rfl (fun hF=>?_) fun hF=>?_
  ·obtain ⟨r7,h6,hF⟩:=bnd hF
   refine g_call (g2_SamePolicy_c _ _ _ h6) rfl rfl (runX ?_)
   refine kS 17 hF rfl (fun hF=>?_) fun hF=>?_
   ·obtain ⟨r8,h7,hF⟩:=bnd hF
    refine g_call (g2_Same_string_c _ _ _ h7) rfl rfl (runX ?_)
    refine kS 24 hF rfl (fun hF=>?_) fun hF=>?_
    ·refine kS 31 hF rfl (fun hF=>?_) fun hF=>?_
     ·obtain ⟨r9,h8,hF⟩:=bnd hF
      refine g_call (g2_Same_Asked_c _ _ _ h8) rfl rfl (runX ?_)
      exact jn r9 hF (sR [])
     iterate 5 refine g_skip rfl (runX ?_)
     exact jn false hF (sR [])
    iterate 10 refine g_skip rfl (runX ?_)
    exact jn false hF (sR [])
   iterate 15 refine g_skip rfl (runX ?_)
   exact jn false hF (sR [])
  iterate 20 refine g_skip rfl (runX ?_)
  exact jn false hF (sR [])
 cases hF
 exact rQ
end Go.Proofs.YtphibahplgmgfaaGreatDoor
set_option linter.unusedVariables false
set_option maxHeartbeats 4000000
set_option maxRecDepth 100000
namespace Go.Proofs.YtphibahplgmgfaaGreatDoor
open VL
def g2_SmallView (p0:View):Option Bool:=
 letk (fun (x1:Bool)=>
  if x1 then
   (some false:Option Bool)
  else
  fixN bigN (fun f13 (x43:Int)=>
   if (decide (x43<(p0.pages.length:Int))) then
    letk (fun (x61:Bool)=>
     if x61 then
      (some false:Option Bool)
     else
     f13 (w64 (x43+1))) fun k15=>
    (atI p0.pages x43).bind fun e62=>
    if (decide (300<(e62.text.size:Int))) then
     k15 true
    else
    (atI p0.pages x43).bind fun e63=>
    k15 (decide (200<(e63.title.name.size:Int)))
   else
   (some true:Option Bool)) 0) fun k1=>
 if (decide (10<(p0.pages.length:Int))) then
  k1 true
 else
 if (decide (20<(p0.fixed.length:Int))) then
  k1 true
 else
 if (decide (20<(p0.groups.length:Int))) then
  k1 true
 else
 if (decide (10<(p0.policy.groups.length:Int))) then
  k1 true
 else
 if (decide (20<(p0.policy.rules.length:Int))) then
  k1 true
 else
 k1 (decide (10<(p0.policy.guards.length:Int)))
theorem g2_SmallView_c (p0:View) (r:Bool) (hF:g2_SmallView p0=some r):Contract0 Tryz.prog 21 [p0.pv] (.bool r):=by
 refine cF (fun r=>.bool r) hF mix Tryz.func21 fun r hF=>?_
 unfold g2_SmallView at hF
 refine runX ?_
 refine rg ?_
 refine jL hF (fun x1=>mkS [(1,.ptr 1 (1,1) 0),(40,.bool x1)] [(1,some ((1,1),.box [.sl (List.map Page.cs p0.pages),.sl (List.map Group.cs p0.policy.groups),.sl (List.map Rule.cs p0.policy.rules),.sl (List.map Guard.cs p0.policy.guards),.sl (List.map csS p0.groups),.int .i64 p0.clock,.sl (List.map Asked.cs p0.fixed)]))] 2) (fun k1 hF=>?_) fun x1 hF=>?_
 ·refine rg ?_
  refine g_lenM rfl (M:=p0.pages) (f:=Page.cs) rfl (runX ?_)
  refine kS 8 hF rfl (fun hF=>?_) fun hF=>?_
  ·iterate 23 refine g_skip rfl (runX ?_)
   exact jn true hF (sR [(1,1,0)])
  refine g_lenM rfl (M:=p0.fixed) (f:=Asked.cs) rfl (runX ?_)
  refine kS 14 hF rfl (fun hF=>?_) fun hF=>?_
  ·iterate 19 refine g_skip rfl (runX ?_)
   exact jn true hF (sR [(1,1,0)])
  refine g_lenM rfl (M:=p0.groups) (f:=csS) rfl (runX ?_)
  refine kS 20 hF rfl (fun hF=>?_) fun hF=>?_
  ·iterate 15 refine g_skip rfl (runX ?_)
   exact jn true hF (sR [(1,1,0)])
  refine g_lenM rfl (M:=p0.policy.groups) (f:=Group.cs) rfl (runX ?_)
  refine kS 27 hF rfl (fun hF=>?_) fun hF=>?_
  ·iterate 10 refine g_skip rfl (runX ?_)
   exact jn true hF (sR [(1,1,0)])
  refine g_lenM rfl (M:=p0.policy.rules) (f:=Rule.cs) rfl (runX ?_)
  refine kS 34 hF rfl (fun hF=>?_) fun hF=>?_
  ·iterate 5 refine g_skip rfl (runX ?_)
   exact jn true hF (sR [(1,1,0)])
  refine g_lenM rfl (M:=p0.policy.guards) (f:=Guard.cs) rfl (runX ?_)
  exact jn (decide (10<(p0.policy.guards.length:Int))) hF (sR [(1,1,0)])
 refine cS hF rfl (fun hF=>?_) fun hF=>?_
 ·refine rg ?_
  cases hF
  exact rQ
 refine rg ?_
 refine bl ?_
 refine fix_elim hF fun f13 mf13 hf13 hF=>?_
 refine pws_loop (α:=Nat×Int) (fun a _=>mkS [(1,.ptr 1 (1,1) 0),(3,.int .i64 a.2)] [(1,some ((1,1),.box [.sl (List.map Page.cs p0.pages),.sl (List.map Group.cs p0.policy.groups),.sl (List.map Rule.cs p0.policy.rules),.sl (List.map Guard.cs p0.policy.guards),.sl (List.map csS p0.groups),.int .i64 p0.clock,.sl (List.map Asked.cs p0.fixed)]))] 2) (fun a=>fixN a.1 f13 a.2=some r) (fun a=>a.1) (mf13,0) 2 hF (sR [(1,1,1)]) (fun a _ hF=>?_)
 obtain ⟨mf13,x43⟩:=a
 obtain ⟨mf13,rfl,hF⟩:=fix_step hf13 hF
 dsimp only at hF ⊢
 refine runX ?_
 refine rg ?_
 refine g_lenM rfl (M:=p0.pages) (f:=Page.cs) rfl (runX ?_)
 refine cS hF rfl (fun hF=>?_) fun hF=>?_
 ·refine bl ?_
  refine jL hF (fun x61=>mkS [(1,.ptr 1 (1,1) 0),(3,.int .i64 x43),(66,.bool x61)] [(1,some ((1,1),.box [.sl (List.map Page.cs p0.pages),.sl (List.map Group.cs p0.policy.groups),.sl (List.map Rule.cs p0.policy.rules),.sl (List.map Guard.cs p0.policy.guards),.sl (List.map csS p0.groups),.int .i64 p0.clock,.sl (List.map Asked.cs p0.fixed)]))] 2) (fun k15 hF=>?_) fun x61 hF=>?_
  ·refine rg ?_
   obtain ⟨e62,h47,hF⟩:=bnd hF
   refine g_indexI (f:=Page.cs) rfl h47 rfl rfl rfl (runX ?_)
   refine kS 56 hF rfl (fun hF=>?_) fun hF=>?_
   ·iterate 9 refine g_skip rfl (runX ?_)
    exact jn true hF (sR [(1,1,1)])
   obtain ⟨e63,h48,hF⟩:=bnd hF
   refine g_indexI (f:=Page.cs) rfl h48 rfl rfl rfl (runX ?_)
   exact jn (decide (200<(e63.title.name.size:Int))) hF (sR [(1,1,1)])
  refine cS hF rfl (fun hF=>?_) fun hF=>?_
  ·refine rg ?_
   cases hF
   exact rQ
  refine rg ?_
  exact rn (mf13,(w64 (x43+1))) hF (sR [(1,1,1)])
 refine rg ?_
 cases hF
 exact rQ
end Go.Proofs.YtphibahplgmgfaaGreatDoor
set_option linter.unusedVariables false
set_option maxHeartbeats 4000000
set_option maxRecDepth 100000
namespace Go.Proofs.YtphibahplgmgfaaGreatDoor
open VL
def w31_altered (p0:View) (p1:Int) (p2:Int):Option View:=
 (appL 48 [] p0.pages).bind fun l1=>
 (g2_Round p2 (if 1 > (l1.length:Int) then 1 else (l1.length:Int))).bind fun r2=>
 (g2_Round p1 8).bind fun r3=>
 letk (fun (x28:List Page) (x29:List Rule) (x30:List Guard) (x31:List ByteArray) (x32:Int) (x33:List Asked)=>
  (some (⟨x28,(⟨p0.policy.groups,x29,x30⟩:Policy),x31,x32,x33⟩:View):Option View)) fun k1=>
 if (decide (r3=0)) then
  if (decide (r2<(l1.length:Int))) then
   (atI l1 r2).bind fun e34=>
   (g2_Round p2 2).bind fun r35=>
   (atI ([(⟨#[]⟩:ByteArray),(⟨#[33]⟩:ByteArray)]:List ByteArray) r35).bind fun c36=>
   (catS e34.text c36).bind fun s37=>
   (atI l1 r2).bind fun e38=>
   k1 (setI l1 r2 (⟨e38.title,s37,e38.revision⟩:Page)) p0.policy.rules p0.policy.guards p0.groups p0.clock p0.fixed
  else
  k1 l1 p0.policy.rules p0.policy.guards p0.groups p0.clock p0.fixed
 else
 if (decide (r3=1)) then
  if (decide (r2<(l1.length:Int))) then
   (atI l1 r2).bind fun e39=>
   (g2_Round p2 2).bind fun r40=>
   (atI l1 r2).bind fun e41=>
   k1 (setI l1 r2 (⟨e41.title,e41.text,(w64 (e39.revision+r40))⟩:Page)) p0.policy.rules p0.policy.guards p0.groups p0.clock p0.fixed
  else
  k1 l1 p0.policy.rules p0.policy.guards p0.groups p0.clock p0.fixed
 else
 if (decide (r3=2)) then
  (subL l1 0 r2).bind fun l42=>
  k1 l42 p0.policy.rules p0.policy.guards p0.groups p0.clock p0.fixed
 else
 if (decide (r3=3)) then
  (g2_Round p2 2).bind fun r43=>
  k1 l1 p0.policy.rules p0.policy.guards p0.groups (w64 (p0.clock+r43)) p0.fixed
 else
 if (decide (r3=4)) then
  (appL 16 [] p0.groups).bind fun l44=>
  (g2_Round p2 2).bind fun r45=>
  (atI ([(⟨#[97,108,108]⟩:ByteArray),(⟨#[115,116,97,102,102]⟩:ByteArray)]:List ByteArray) r45).bind fun c46=>
  (appL 16 l44 [c46]).bind fun l47=>
  k1 l1 p0.policy.rules p0.policy.guards l47 p0.clock p0.fixed
 else
 if (decide (r3=5)) then
  (appL 72 [] p0.fixed).bind fun l48=>
  (g2_Round p2 5).bind fun r49=>
  (appL 72 l48 [(⟨(⟨5,(⟨0,(⟨#[]⟩:ByteArray)⟩:Title),(w64 (1+r49))⟩:Key),(⟨false,(⟨#[]⟩:ByteArray),0⟩:Answer)⟩:Asked)]).bind fun l50=>
  k1 l1 p0.policy.rules p0.policy.guards p0.groups p0.clock l50
 else
 if (decide (r3=6)) then
  (appL 64 [] p0.policy.rules).bind fun l51=>
  if (decide (0<(l51.length:Int))) then
   (g2_Round p2 (l51.length:Int)).bind fun r52=>
   (quoI .i64 p2 (l51.length:Int)).bind fun q53=>
   (g2_Round q53 2).bind fun r54=>
   (atI l51 r52).bind fun e55=>
   k1 l1 (setI l51 r52 (⟨(decide (r54=0)),e55.right,e55.group,e55.scope⟩:Rule)) p0.policy.guards p0.groups p0.clock p0.fixed
  else
  k1 l1 l51 p0.policy.guards p0.groups p0.clock p0.fixed
 else
 (appL 64 [] p0.policy.guards).bind fun l56=>
 (appL 64 l56 [(⟨false,(⟨#[97,108,108]⟩:ByteArray),(⟨0,(⟨#[65]⟩:ByteArray)⟩:Title),(⟨#[]⟩:ByteArray)⟩:Guard)]).bind fun l57=>
 k1 l1 p0.policy.rules l57 p0.groups p0.clock p0.fixed
theorem w31_altered_c (p0:View) (p1:Int) (p2:Int) (r:View) (hF:w31_altered p0 p1 p2=some r):Contract0 Tryz.prog 22 [p0.pv,.int .i64 p1,.int .i64 p2] (r.pv):=by
 refine cF (fun r=>r.pv) hF mix Tryz.func22 fun r hF=>?_
 unfold w31_altered at hF
 refine runX ?_
 refine rg ?_
 refine rg ?_
 obtain ⟨l1,h1,hF⟩:=bnd hF
 refine g_appN (f:=Page.cs) rfl h1 (fun _=>rfl) rfl rfl rfl (runX ?_)
 refine rg ?_
 refine g_lenM rfl (M:=l1) (f:=Page.cs) rfl (runX ?_)
 refine g_max rfl rfl rfl (runX ?_)
 obtain ⟨r2,h2,hF⟩:=bnd hF
 refine g_call (g2_Round_c _ _ _ h2) rfl rfl (runX ?_)
 refine rg ?_
 obtain ⟨r3,h3,hF⟩:=bnd hF
 refine g_call (g2_Round_c _ _ _ h3) rfl rfl (runX ?_)
 refine letk_elim hF fun k1 hk1 hF=>?_
 refine pws_join (α:=(List Page)×(List Rule)×(List Guard)×(List ByteArray)×Int×(List Asked)) (fun a _=>mkS [(3,.ptr 3 (1,3) 0),(6,.ptr 6 (1,6) 0)] [(3,some ((1,3),.box [.sl (List.map Page.cs a.1),.sl (List.map Group.cs p0.policy.groups),.sl (List.map Rule.cs a.2.1),.sl (List.map Guard.cs a.2.2.1),.sl (List.map csS a.2.2.2.1),.int .i64 a.2.2.2.2.1,.sl (List.map Asked.cs a.2.2.2.2.2)])),(6,some ((1,6),.box [.nil,.nil,.nil,.nil,.nil,.int .i64 0,.nil]))] 2) (fun a=>k1 a.1 a.2.1 a.2.2.1 a.2.2.2.1 a.2.2.2.2.1 a.2.2.2.2.2=some r) (runX ?_) (fun a _ hF=>?_)
 ·refine bl ?_
  refine rg ?_
  refine cS hF rfl (fun hF=>?_) fun hF=>?_
  ·refine rg ?_
   refine g_lenM rfl (M:=l1) (f:=Page.cs) rfl (runX ?_)
   refine cS hF rfl (fun hF=>?_) fun hF=>?_
   ·refine rg ?_
    obtain ⟨e34,h28,hF⟩:=bnd hF
    refine g_indexR rfl h28 rfl rfl rfl (runX ?_)
    refine g_loadR rfl h28 rfl rfl rfl (runX ?_)
    obtain ⟨r35,h29,hF⟩:=bnd hF
    refine g_call (g2_Round_c _ _ _ h29) rfl rfl (runX ?_)
    obtain ⟨c36,h30,hF⟩:=bnd hF
    refine g_ixI (p:=PV.str) rfl h30 rfl rfl rfl rfl rfl (runX ?_)
    obtain ⟨s37,h31,hF⟩:=bnd hF
    refine g_catI rfl h31 rfl rfl (runX ?_)
    obtain ⟨e38,h32,hF⟩:=bnd hF
    refine g_indexR rfl h32 rfl rfl rfl (runX ?_)
    refine g_storeR (e':=(⟨e38.title,s37,e38.revision⟩:Page)) rfl h32 rfl rfl rfl rfl rfl rfl (Nat.le_of_ble_eq_true rfl) rfl rfl (runX ?_)
    exact jn ((setI l1 r2 (⟨e38.title,s37,e38.revision⟩:Page)),p0.policy.rules,p0.policy.guards,p0.groups,p0.clock,p0.fixed) hF (Shift.trans (shift_B 3 rfl rfl) (sR [(3,1,0),(6,1,1)]))
   exact jn (l1,p0.policy.rules,p0.policy.guards,p0.groups,p0.clock,p0.fixed) hF (Shift.trans (shift_B 3 rfl rfl) (sR [(3,1,0),(6,1,1)]))
  refine rg ?_
  refine cS hF rfl (fun hF=>?_) fun hF=>?_
  ·refine rg ?_
   refine g_lenM rfl (M:=l1) (f:=Page.cs) rfl (runX ?_)
   refine cS hF rfl (fun hF=>?_) fun hF=>?_
   ·refine rg ?_
    obtain ⟨e39,h33,hF⟩:=bnd hF
    refine g_indexR rfl h33 rfl rfl rfl (runX ?_)
    refine g_loadR rfl h33 rfl rfl rfl (runX ?_)
    obtain ⟨r40,h34,hF⟩:=bnd hF
    refine g_call (g2_Round_c _ _ _ h34) rfl rfl (runX ?_)
    obtain ⟨e41,h35,hF⟩:=bnd hF
    refine g_indexR rfl h35 rfl rfl rfl (runX ?_)
    refine g_storeR (e':=(⟨e41.title,e41.text,(w64 (e39.revision+r40))⟩:Page)) rfl h35 rfl rfl rfl rfl rfl rfl (Nat.le_of_ble_eq_true rfl) rfl rfl (runX ?_)
    exact jn ((setI l1 r2 (⟨e41.title,e41.text,(w64 (e39.revision+r40))⟩:Page)),p0.policy.rules,p0.policy.guards,p0.groups,p0.clock,p0.fixed) hF (Shift.trans (shift_B 3 rfl rfl) (sR [(3,1,0),(6,1,1)]))
   exact jn (l1,p0.policy.rules,p0.policy.guards,p0.groups,p0.clock,p0.fixed) hF (Shift.trans (shift_B 3 rfl rfl) (sR [(3,1,0),(6,1,1)]))
  refine rg ?_
  refine cS hF rfl (fun hF=>?_) fun hF=>?_
  ·refine rg ?_
   obtain ⟨l42,h36,hF⟩:=bnd hF
   refine g_sliceM (f:=Page.cs) rfl h36 (fun _=>rfl) rfl rfl rfl rfl (runX ?_)
   exact jn (l42,p0.policy.rules,p0.policy.guards,p0.groups,p0.clock,p0.fixed) hF (sR [(3,1,0),(6,1,1)])
  refine rg ?_
  refine cS hF rfl (fun hF=>?_) fun hF=>?_
  ·refine rg ?_
   obtain ⟨r43,h37,hF⟩:=bnd hF
   refine g_call (g2_Round_c _ _ _ h37) rfl rfl (runX ?_)
   exact jn (l1,p0.policy.rules,p0.policy.guards,p0.groups,(w64 (p0.clock+r43)),p0.fixed) hF (Shift.trans (shift_B 3 rfl rfl) (sR [(3,1,0),(6,1,1)]))
  refine rg ?_
  refine cS hF rfl (fun hF=>?_) fun hF=>?_
  ·refine rg ?_
   obtain ⟨l44,h38,hF⟩:=bnd hF
   refine g_appN (f:=csS) rfl h38 (fun _=>rfl) rfl rfl rfl (runX ?_)
   obtain ⟨r45,h39,hF⟩:=bnd hF
   refine g_call (g2_Round_c _ _ _ h39) rfl rfl (runX ?_)
   obtain ⟨c46,h40,hF⟩:=bnd hF
   refine g_ixI (p:=PV.str) rfl h40 rfl rfl rfl rfl rfl (runX ?_)
   refine g_buildM (M:=([c46]:List ByteArray)) (f:=csS) rfl rfl rfl rfl (Nat.le_of_ble_eq_true rfl) rfl (runX ?_)
   obtain ⟨l47,h41,hF⟩:=bnd hF
   refine g_appR (f:=csS) rfl h41 (fun _=>rfl) rfl rfl rfl rfl (runX ?_)
   exact jn (l1,p0.policy.rules,p0.policy.guards,l47,p0.clock,p0.fixed) hF (Shift.trans (shift_B 3 rfl rfl) (Shift.trans (shift_B 3 rfl rfl) (sR [(3,1,0),(6,1,1)])))
  refine rg ?_
  refine cS hF rfl (fun hF=>?_) fun hF=>?_
  ·refine rg ?_
   obtain ⟨l48,h42,hF⟩:=bnd hF
   refine g_appN (f:=Asked.cs) rfl h42 (fun _=>rfl) rfl rfl rfl (runX ?_)
   obtain ⟨r49,h43,hF⟩:=bnd hF
   refine g_call (g2_Round_c _ _ _ h43) rfl rfl (runX ?_)
   refine g_buildM (M:=([(⟨(⟨5,(⟨0,(⟨#[]⟩:ByteArray)⟩:Title),(w64 (1+r49))⟩:Key),(⟨false,(⟨#[]⟩:ByteArray),0⟩:Answer)⟩:Asked)]:List Asked)) (f:=Asked.cs) rfl rfl rfl rfl (Nat.le_of_ble_eq_true rfl) rfl (runX ?_)
   obtain ⟨l50,h44,hF⟩:=bnd hF
   refine g_appR (f:=Asked.cs) rfl h44 (fun _=>rfl) rfl rfl rfl rfl (runX ?_)
   exact jn (l1,p0.policy.rules,p0.policy.guards,p0.groups,p0.clock,l50) hF (Shift.trans (shift_B 3 rfl rfl) (Shift.trans (shift_B 3 rfl rfl) (sR [(3,1,0),(6,1,1)])))
  refine rg ?_
  refine cS hF rfl (fun hF=>?_) fun hF=>?_
  ·refine rg ?_
   obtain ⟨l51,h45,hF⟩:=bnd hF
   refine g_appN (f:=Rule.cs) rfl h45 (fun _=>rfl) rfl rfl rfl (runX ?_)
   refine rg ?_
   refine g_lenM rfl (M:=l51) (f:=Rule.cs) rfl (runX ?_)
   refine rg ?_
   refine cS hF rfl (fun hF=>?_) fun hF=>?_
   ·refine rg ?_
    obtain ⟨r52,h46,hF⟩:=bnd hF
    refine g_call (g2_Round_c _ _ _ h46) rfl rfl (runX ?_)
    obtain ⟨q53,h47,hF⟩:=bnd hF
    refine g_quoI rfl h47 rfl rfl (runX ?_)
    obtain ⟨r54,h48,hF⟩:=bnd hF
    refine g_call (g2_Round_c _ _ _ h48) rfl rfl (runX ?_)
    obtain ⟨e55,h49,hF⟩:=bnd hF
    refine g_indexR rfl h49 rfl rfl rfl (runX ?_)
    refine g_storeR (e':=(⟨(decide (r54=0)),e55.right,e55.group,e55.scope⟩:Rule)) rfl h49 rfl rfl rfl rfl rfl rfl (Nat.le_of_ble_eq_true rfl) rfl rfl (runX ?_)
    exact jn (l1,(setI l51 r52 (⟨(decide (r54=0)),e55.right,e55.group,e55.scope⟩:Rule)),p0.policy.guards,p0.groups,p0.clock,p0.fixed) hF (Shift.trans (shift_B 3 rfl rfl) (Shift.trans (shift_B 3 rfl rfl) (sR [(3,1,0),(6,1,1)])))
   exact jn (l1,l51,p0.policy.guards,p0.groups,p0.clock,p0.fixed) hF (Shift.trans (shift_B 3 rfl rfl) (Shift.trans (shift_B 3 rfl rfl) (sR [(3,1,0),(6,1,1)])))
  refine rg ?_
  obtain ⟨l56,h50,hF⟩:=bnd hF
  refine g_appN (f:=Guard.cs) rfl h50 (fun _=>rfl) rfl rfl rfl (runX ?_)
  refine g_buildM (M:=([(⟨false,(⟨#[97,108,108]⟩:ByteArray),(⟨0,(⟨#[65]⟩:ByteArray)⟩:Title),(⟨#[]⟩:ByteArray)⟩:Guard)]:List Guard)) (f:=Guard.cs) rfl rfl rfl rfl (Nat.le_of_ble_eq_true rfl) rfl (runX ?_)
  obtain ⟨l57,h51,hF⟩:=bnd hF
  refine g_appR (f:=Guard.cs) rfl h51 (fun _=>rfl) rfl rfl rfl rfl (runX ?_)
  exact jn (l1,p0.policy.rules,l57,p0.groups,p0.clock,p0.fixed) hF (Shift.trans (shift_B 3 rfl rfl) (Shift.trans (shift_B 3 rfl rfl) (sR [(3,1,0),(6,1,1)])))
 obtain ⟨x28,x29,x30,x31,x32,x33⟩:=a
 subst hk1
 dsimp only at hF ⊢
 refine runX ?_
 refine rg ?_
 cases hF
 exact rQ
end Go.Proofs.YtphibahplgmgfaaGreatDoor
