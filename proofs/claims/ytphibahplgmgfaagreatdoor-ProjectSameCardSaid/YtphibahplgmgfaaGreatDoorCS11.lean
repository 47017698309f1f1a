/- Functions of the program as Lean functions. Written by fxgen.py. | Functions of the program as Lean functions. Written by fxgen.py. | Functions of the program as Lean functions. Written by fxgen.py. | Functions of the program as Lean functions. Written by fxgen.py. | Functions of the program as Lean functions. Written by fxgen.py. | Functions of the program as Lean functions. Written by fxgen.py. -/
import Derived.Test.YtphibahplgmgfaaGreatDoorCS10
import Derived.Test.YtphibahplgmgfaaGreatDoorCS08
import Derived.Test.YtphibahplgmgfaaGreatDoorCS03
set_option linter.unusedVariables false
set_option maxHeartbeats 4000000
set_option maxRecDepth 100000
namespace Go.Proofs.YtphibahplgmgfaaGreatDoor
open VL
def policy_Validate (p0:Policy):Option Int:=
 letk (fun (x1:Bool)=>
  if x1 then
   (some 3:Option Int)
  else
  fixN bigN (fun f3 (x11:Int)=>
   if (decide (x11<(p0.groups.length:Int))) then
    (policy_checkGroup p0 x11).bind fun r15=>
    if (!decide (r15=0)) then
     (some r15:Option Int)
    else
    f3 (w64 (x11+1))
   else
   fixN bigN (fun f5 (x33:Int)=>
    if (decide (x33<(p0.rules.length:Int))) then
     (atI p0.rules x33).bind fun e40=>
     (policy_checkRule p0 e40).bind fun r41=>
     if (!decide (r41=0)) then
      (some r41:Option Int)
     else
     f5 (w64 (x33+1))
    else
    fixN bigN (fun f7 (x59:Int)=>
     if (decide (x59<(p0.guards.length:Int))) then
      (atI p0.guards x59).bind fun e66=>
      (policy_checkGuard p0 e66).bind fun r67=>
      if (!decide (r67=0)) then
       (some r67:Option Int)
      else
      f7 (w64 (x59+1))
     else
     (some 0:Option Int)) 0) 0) 0) fun k1=>
 if (decide (24<(p0.groups.length:Int))) then
  k1 true
 else
 if (decide (64<(p0.rules.length:Int))) then
  k1 true
 else
 k1 (decide (64<(p0.guards.length:Int)))
theorem policy_Validate_c (p0:Policy) (r:Int) (hF:policy_Validate p0=some r):Contract0 Tryz.prog 123 [p0.pv] (.int .i64 r):=by
 refine cF (fun r=>.int .i64 r) hF mix Tryz.func123 fun r hF=>?_
 unfold policy_Validate at hF
 refine runX ?_
 refine rg ?_
 refine jL hF (fun x1=>mkS [(1,.ptr 1 (1,1) 0),(26,.bool x1)] [(1,some ((1,1),.box [.sl (List.map Group.cs p0.groups),.sl (List.map Rule.cs p0.rules),.sl (List.map Guard.cs p0.guards)]))] 2) (fun k1 hF=>?_) fun x1 hF=>?_
 ·refine rg ?_
  refine g_lenM rfl (M:=p0.groups) (f:=Group.cs) rfl (runX ?_)
  refine kS 15 hF rfl (fun hF=>?_) fun hF=>?_
  ·iterate 8 refine g_skip rfl (runX ?_)
   exact jn true hF (sR [(1,1,0)])
  refine g_lenM rfl (M:=p0.rules) (f:=Rule.cs) rfl (runX ?_)
  refine kS 21 hF rfl (fun hF=>?_) fun hF=>?_
  ·iterate 4 refine g_skip rfl (runX ?_)
   exact jn true hF (sR [(1,1,0)])
  refine g_lenM rfl (M:=p0.guards) (f:=Guard.cs) rfl (runX ?_)
  exact jn (decide (64<(p0.guards.length:Int))) hF (sR [(1,1,0)])
 refine cS hF rfl (fun hF=>?_) fun hF=>?_
 ·refine rg ?_
  cases hF
  exact rQ
 refine rg ?_
 refine g_lenM rfl (M:=p0.groups) (f:=Group.cs) rfl (runX ?_)
 refine bl ?_
 refine fix_elim hF fun f3 mf3 hf3 hF=>?_
 refine pws_loop (α:=Nat×Int) (fun a _=>mkS [(1,.ptr 1 (1,1) 0),(29,.int .i64 (p0.groups.length:Int)),(30,.int .i64 a.2)] [(1,some ((1,1),.box [.sl (List.map Group.cs p0.groups),.sl (List.map Rule.cs p0.rules),.sl (List.map Guard.cs p0.guards)]))] 2) (fun a=>fixN a.1 f3 a.2=some r) (fun a=>a.1) (mf3,0) 2 hF (sR [(1,1,1)]) (fun a _ hF=>?_)
 obtain ⟨mf3,x11⟩:=a
 obtain ⟨mf3,rfl,hF⟩:=fix_step hf3 hF
 dsimp only at hF ⊢
 refine runX ?_
 refine rg ?_
 refine cS hF rfl (fun hF=>?_) fun hF=>?_
 ·refine bl ?_
  refine rg ?_
  refine rg ?_
  obtain ⟨r15,h12,hF⟩:=bnd hF
  refine g_call (policy_checkGroup_c _ _ _ h12) rfl rfl (runX ?_)
  refine rg ?_
  refine cS hF rfl (fun hF=>?_) fun hF=>?_
  ·refine rg ?_
   cases hF
   exact rQ
  refine rg ?_
  exact rn (mf3,(w64 (x11+1))) hF (sR [(1,1,1)])
 refine rg ?_
 refine g_lenM rfl (M:=p0.rules) (f:=Rule.cs) rfl (runX ?_)
 refine bl ?_
 refine fix_elim hF fun f5 mf5 hf5 hF=>?_
 refine pws_loop (α:=Nat×Int) (fun a _=>mkS [(1,.ptr 1 (1,1) 0),(41,.sl (List.map Rule.cs p0.rules)),(42,.int .i64 (p0.rules.length:Int)),(43,.int .i64 a.2)] [(1,some ((1,1),.box [.sl (List.map Group.cs p0.groups),.sl (List.map Rule.cs p0.rules),.sl (List.map Guard.cs p0.guards)]))] 2) (fun a=>fixN a.1 f5 a.2=some r) (fun a=>a.1) (mf5,0) 2 hF (sR [(1,1,1)]) (fun a _ hF=>?_)
 obtain ⟨mf5,x33⟩:=a
 obtain ⟨mf5,rfl,hF⟩:=fix_step hf5 hF
 dsimp only at hF ⊢
 refine runX ?_
 refine rg ?_
 refine cS hF rfl (fun hF=>?_) fun hF=>?_
 ·refine bl ?_
  refine rg ?_
  obtain ⟨e40,h35,hF⟩:=bnd hF
  refine g_indexI (f:=Rule.cs) rfl h35 rfl rfl rfl (runX ?_)
  refine rg ?_
  obtain ⟨r41,h36,hF⟩:=bnd hF
  refine g_call (policy_checkRule_c _ _ _ h36) rfl rfl (runX ?_)
  refine rg ?_
  refine cS hF rfl (fun hF=>?_) fun hF=>?_
  ·refine rg ?_
   cases hF
   exact rQ
  refine rg ?_
  exact rn (mf5,(w64 (x33+1))) hF (sR [(1,1,1)])
 refine rg ?_
 refine g_lenM rfl (M:=p0.guards) (f:=Guard.cs) rfl (runX ?_)
 refine bl ?_
 refine fix_elim hF fun f7 mf7 hf7 hF=>?_
 refine pws_loop (α:=Nat×Int) (fun a _=>mkS [(1,.ptr 1 (1,1) 0),(55,.sl (List.map Guard.cs p0.guards)),(56,.int .i64 (p0.guards.length:Int)),(57,.int .i64 a.2)] [(1,some ((1,1),.box [.sl (List.map Group.cs p0.groups),.sl (List.map Rule.cs p0.rules),.sl (List.map Guard.cs p0.guards)]))] 2) (fun a=>fixN a.1 f7 a.2=some r) (fun a=>a.1) (mf7,0) 2 hF (sR [(1,1,1)]) (fun a _ hF=>?_)
 obtain ⟨mf7,x59⟩:=a
 obtain ⟨mf7,rfl,hF⟩:=fix_step hf7 hF
 dsimp only at hF ⊢
 refine runX ?_
 refine rg ?_
 refine cS hF rfl (fun hF=>?_) fun hF=>?_
 ·refine bl ?_
  refine rg ?_
  obtain ⟨e66,h59,hF⟩:=bnd hF
  refine g_indexI (f:=Guard.cs) rfl h59 rfl rfl rfl (runX ?_)
  refine rg ?_
  obtain ⟨r67,h60,hF⟩:=bnd hF
  refine g_call (policy_checkGuard_c _ _ _ h60) rfl rfl (runX ?_)
  refine rg ?_
  refine cS hF rfl (fun hF=>?_) fun hF=>?_
  ·refine rg ?_
   cases hF
   exact rQ
  refine rg ?_
  exact rn (mf7,(w64 (x59+1))) hF (sR [(1,1,1)])
 refine rg ?_
 cases hF
 exact rQ
end Go.Proofs.YtphibahplgmgfaaGreatDoor
set_option linter.unusedVariables false
set_option maxHeartbeats 4000000
set_option maxRecDepth 100000
namespace Go.Proofs.YtphibahplgmgfaaGreatDoor
open VL
def policy_Parse (p0:ByteArray):Option (Policy×Int×Int):=
 if (decide (8192<(p0.size:Int))) then
  (some ((⟨[],[],[]⟩:Policy),0,3):Option (Policy×Int×Int))
 else
 (strings_Split p0 (⟨#[10]⟩:ByteArray)).bind fun r1=>
 fixN bigN (fun f2 ((x22,x23,x24,x25):Int×(List Group)×(List Rule)×(List Guard))=>
  if (decide (x22<(r1.length:Int))) then
   (atI r1 x22).bind fun e32=>
   (policy_statement (⟨x23,x24,x25⟩:Policy) e32).bind fun r33=>
   if (!r33.1) then
    (some ((⟨[],[],[]⟩:Policy),(w64 (x22+1)),1):Option (Policy×Int×Int))
   else
   f2 ((w64 (x22+1)),r33.2.groups,r33.2.rules,r33.2.guards)
  else
  (policy_Validate (⟨x23,x24,x25⟩:Policy)).bind fun r34=>
  if (!decide (r34=0)) then
   (some ((⟨[],[],[]⟩:Policy),0,r34):Option (Policy×Int×Int))
  else
  (some ((⟨x23,x24,x25⟩:Policy),0,0):Option (Policy×Int×Int))) (0,([]:List Group),([]:List Rule),([]:List Guard))
theorem policy_Parse_c (p0:ByteArray) (r:Policy×Int×Int) (hF:policy_Parse p0=some r):Contract0 Tryz.prog 80 [.str p0] (.tup [r.1.pv,.int .i64 r.2.1,.int .i64 r.2.2]):=by
 refine cF (fun r=>.tup [r.1.pv,.int .i64 r.2.1,.int .i64 r.2.2]) hF mix Tryz.func80 fun r hF=>?_
 unfold policy_Parse at hF
 refine runX ?_
 refine rg ?_
 refine rg ?_
 refine cS hF rfl (fun hF=>?_) fun hF=>?_
 ·refine rg ?_
  cases hF
  exact rQ
 refine rg ?_
 refine rg ?_
 obtain ⟨r1,h1,hF⟩:=bnd hF
 refine g_callN (strings_Split_c _ _ _ h1) rfl rfl (runX ?_)
 refine g_lenM rfl (M:=r1) (f:=csS) rfl (runX ?_)
 refine bl ?_
 refine fix_elim hF fun f2 mf2 hf2 hF=>?_
 refine pws_loop (α:=Nat×(Int×(List Group)×(List Rule)×(List Guard))) (fun a _=>mkS [(2,.ptr 2 (1,2) 0),(5,.ptr 5 (1,5) 0),(14,.row 14 (1,14)),(15,.int .i64 (r1.length:Int)),(16,.int .i64 a.2.1)] [(2,some ((1,2),.box [.nil,.nil,.nil])),(5,some ((1,5),.box [.row 1500 (1,1500),.row 1501 (1,1501),.row 1502 (1,1502)])),(14,some ((1,14),.row 9 1 false (List.map csS r1))),(1500,some ((1,1500),.row 119 2 false (List.map Group.cs a.2.2.1))),(1501,some ((1,1501),.row 105 6 false (List.map Rule.cs a.2.2.2.1))),(1502,some ((1,1502),.row 107 5 false (List.map Guard.cs a.2.2.2.2)))] 2) (fun a=>fixN a.1 f2 a.2=some r) (fun a=>a.1) (mf2,0,([]:List Group),([]:List Rule),([]:List Guard)) 2 hF (Shift.trans (shift_rB 5 1500 0 119 2 rfl rfl rfl) (Shift.trans (shift_rB 5 1501 1 105 6 rfl rfl rfl) (Shift.trans (shift_rB 5 1502 2 107 5 rfl rfl rfl) (sR [(2,1,0),(5,3,0),(14,4,1),(1500,5,0),(1501,6,0),(1502,7,0)])))) (fun a _ hF=>?_)
 obtain ⟨mf2,x22,x23,x24,x25⟩:=a
 obtain ⟨mf2,rfl,hF⟩:=fix_step hf2 hF
 dsimp only at hF ⊢
 refine runX ?_
 refine rg ?_
 refine cS hF rfl (fun hF=>?_) fun hF=>?_
 ·refine bl ?_
  refine rg ?_
  obtain ⟨e32,h24,hF⟩:=bnd hF
  refine g_indexR rfl h24 rfl rfl rfl (runX ?_)
  refine g_loadR rfl h24 rfl rfl rfl (runX ?_)
  refine rg ?_
  obtain ⟨r33,h25,hF⟩:=bnd hF
  refine g_callP (policy_statement_c _ _ _ h25) rfl rfl rfl rfl rfl rfl rfl rfl (runX ?_)
  refine cS hF rfl (fun hF=>?_) fun hF=>?_
  ·refine rg ?_
   cases hF
   exact rQ
  refine rg ?_
  exact rn (mf2,(w64 (x22+1)),r33.2.groups,r33.2.rules,r33.2.guards) hF (sR [(2,1,2),(5,1,5),(14,1,14),(1500,4,1000001),(1501,4,2000001),(1502,4,3000001)])
 refine rg ?_
 obtain ⟨r34,h26,hF⟩:=bnd hF
 refine g_look (policy_Validate_c _ _ h26) rfl rfl rfl (runX ?_)
 refine rg ?_
 refine cS hF rfl (fun hF=>?_) fun hF=>?_
 ·refine rg ?_
  cases hF
  exact rQ
 refine rg ?_
 cases hF
 exact rQ
end Go.Proofs.YtphibahplgmgfaaGreatDoor
set_option linter.unusedVariables false
set_option maxHeartbeats 4000000
set_option maxRecDepth 100000
namespace Go.Proofs.YtphibahplgmgfaaGreatDoor
open VL
def slices_Clone_Revision (p0:List Revision):Option (List Revision):=
 (neL p0).bind fun u1=>
 (appL 72 [] p0).bind fun l2=>
 (some l2:Option (List Revision))
theorem slices_Clone_Revision_c (p0:List Revision) (r:List Revision) (hF:slices_Clone_Revision p0=some r):Contract0 Tryz.prog 133 [.sl (List.map Revision.cs p0)] (.sl (List.map Revision.cs r)):=by
 refine cF (fun r=>.sl (List.map Revision.cs r)) hF mix Tryz.func133 fun r hF=>?_
 unfold slices_Clone_Revision at hF
 refine runX ?_
 refine rg ?_
 refine rg ?_
 obtain ⟨u1,h1,hF⟩:=bnd hF
 refine g_eqNil rfl h1 rfl (runX ?_)
 refine pws_condF rfl rfl (runX ?_)
 refine rg ?_
 refine g_buildM (M:=([]:List Revision)) (f:=Revision.cs) rfl rfl rfl rfl (Nat.le_of_ble_eq_true rfl) rfl (runX ?_)
 obtain ⟨l2,h2,hF⟩:=bnd hF
 refine g_appR (f:=Revision.cs) rfl h2 (fun _=>rfl) rfl rfl rfl rfl (runX ?_)
 cases hF
 exact rQ
def state_ownPage (p0:Stored):Option Stored:=
 (slices_Clone_Revision p0.history).bind fun r1=>
 (some (⟨p0.title,r1⟩:Stored):Option Stored)
theorem state_ownPage_c (p0:Stored) (r:Stored) (hF:state_ownPage p0=some r):Contract0 Tryz.prog 92 [p0.pv] (r.pv):=by
 refine cF (fun r=>r.pv) hF mix Tryz.func92 fun r hF=>?_
 unfold state_ownPage at hF
 refine runX ?_
 refine rg ?_
 refine rg ?_
 obtain ⟨r1,h1,hF⟩:=bnd hF
 refine g_call (slices_Clone_Revision_c _ _ h1) rfl rfl (runX ?_)
 refine rg ?_
 cases hF
 exact rQ
def state_Page (p0:State) (p1:Title):Option (Stored×Bool):=
 fixN bigN (fun f2 (x18:Int)=>
  if (decide (x18<(p0.pages.length:Int))) then
   (atI p0.pages x18).bind fun e25=>
   if (decide (e25.title=p1)) then
    (state_ownPage e25).bind fun r26=>
    (some (r26,true):Option (Stored×Bool))
   else
   f2 (w64 (x18+1))
  else
  (some ((⟨(⟨0,(⟨#[]⟩:ByteArray)⟩:Title),[]⟩:Stored),false):Option (Stored×Bool))) 0
theorem state_Page_c (p0:State) (p1:Title) (r:Stored×Bool) (hF:state_Page p0 p1=some r):Contract0 Tryz.prog 52 [p0.pv,p1.pv] (.tup [r.1.pv,.bool r.2]):=by
 refine cF (fun r=>.tup [r.1.pv,.bool r.2]) hF mix Tryz.func52 fun r hF=>?_
 unfold state_Page at hF
 refine runX ?_
 refine rg ?_
 refine rg ?_
 refine g_lenM rfl (M:=p0.pages) (f:=Stored.cs) rfl (runX ?_)
 refine bl ?_
 refine fix_elim hF fun f2 mf2 hf2 hF=>?_
 refine pws_loop (α:=Nat×Int) (fun a _=>mkS [(3,.ptr 3 (1,3) 0),(4,.ptr 4 (1,4) 0),(9,.sl (List.map Stored.cs p0.pages)),(10,.int .i64 (p0.pages.length:Int)),(11,.int .i64 a.2)] [(3,some ((1,3),.box [.int .i64 p1.space,.str p1.name])),(4,some ((1,4),.box [.int .i64 0,.str (⟨#[]⟩:ByteArray),.nil]))] 2) (fun a=>fixN a.1 f2 a.2=some r) (fun a=>a.1) (mf2,0) 2 hF (sR [(3,1,1),(4,1,2)]) (fun a _ hF=>?_)
 obtain ⟨mf2,x18⟩:=a
 obtain ⟨mf2,rfl,hF⟩:=fix_step hf2 hF
 dsimp only at hF ⊢
 refine runX ?_
 refine rg ?_
 refine cS hF rfl (fun hF=>?_) fun hF=>?_
 ·refine bl ?_
  refine rg ?_
  obtain ⟨e25,h23,hF⟩:=bnd hF
  refine g_indexI (f:=Stored.cs) rfl h23 rfl rfl rfl (runX ?_)
  refine rg ?_
  refine g_eqT (.inl rfl) rfl rfl rfl rfl rfl (fun W=>titleEql e25.title p1 W) (runX ?_)
  refine cS hF rfl (fun hF=>?_) fun hF=>?_
  ·refine rg ?_
   obtain ⟨r26,h24,hF⟩:=bnd hF
   refine g_call (state_ownPage_c _ _ h24) rfl rfl (runX ?_)
   cases hF
   exact rQ
  refine rg ?_
  exact rn (mf2,(w64 (x18+1))) hF (sR [(3,1,3),(4,1,4)])
 refine rg ?_
 cases hF
 exact rQ
def state_Current (p0:Stored):Option Revision:=
 if (decide ((p0.history.length:Int)=0)) then
  (some (⟨0,(⟨#[]⟩:ByteArray),(⟨#[]⟩:ByteArray),(⟨#[]⟩:ByteArray),0,0⟩:Revision):Option Revision)
 else
 (atI p0.history (w64 ((p0.history.length:Int) - 1))).bind fun e1=>
 (some e1:Option Revision)
theorem state_Current_c (p0:Stored) (r:Revision) (hF:state_Current p0=some r):Contract0 Tryz.prog 50 [p0.pv] (r.pv):=by
 refine cF (fun r=>r.pv) hF mix Tryz.func50 fun r hF=>?_
 unfold state_Current at hF
 refine runX ?_
 refine rg ?_
 refine rg ?_
 refine g_lenM rfl (M:=p0.history) (f:=Revision.cs) rfl (runX ?_)
 refine cS hF rfl (fun hF=>?_) fun hF=>?_
 ·refine rg ?_
  cases hF
  exact rQ
 refine rg ?_
 refine g_lenM rfl (M:=p0.history) (f:=Revision.cs) rfl (runX ?_)
 obtain ⟨e1,h1,hF⟩:=bnd hF
 refine g_indexI (f:=Revision.cs) rfl h1 rfl rfl rfl (runX ?_)
 cases hF
 exact rQ
end Go.Proofs.YtphibahplgmgfaaGreatDoor
set_option linter.unusedVariables false
set_option maxHeartbeats 4000000
set_option maxRecDepth 100000
namespace Go.Proofs.YtphibahplgmgfaaGreatDoor
open VL
def edit_PolicyOf (p0:State):Option Policy:=
 (state_Page p0 (⟨5,(⟨#[80,111,108,105,99,121]⟩:ByteArray)⟩:Title)).bind fun r1=>
 if (!r1.2) then
  (some (⟨[],[],[]⟩:Policy):Option Policy)
 else
 (state_Current r1.1).bind fun r2=>
 (policy_Parse r2.text).bind fun r3=>
 if (!decide (r3.2.2=0)) then
  (some (⟨[],[],[]⟩:Policy):Option Policy)
 else
 (some r3.1:Option Policy)
theorem edit_PolicyOf_c (p0:State) (r:Policy) (hF:edit_PolicyOf p0=some r):Contract0 Tryz.prog 47 [p0.pv] (r.pv):=by
 refine cF (fun r=>r.pv) hF mix Tryz.func47 fun r hF=>?_
 unfold edit_PolicyOf at hF
 refine runX ?_
 refine rg ?_
 refine rg ?_
 refine g_loadG rfl rfl (runX ?_)
 obtain ⟨r1,h1,hF⟩:=bnd hF
 refine g_call (state_Page_c _ _ _ h1) rfl rfl (runX ?_)
 refine rg ?_
 refine cS hF rfl (fun hF=>?_) fun hF=>?_
 ·refine rg ?_
  cases hF
  exact rQ
 refine rg ?_
 obtain ⟨r2,h2,hF⟩:=bnd hF
 refine g_call (state_Current_c _ _ h2) rfl rfl (runX ?_)
 obtain ⟨r3,h3,hF⟩:=bnd hF
 refine g_call (policy_Parse_c _ _ h3) rfl rfl (runX ?_)
 refine rg ?_
 refine cS hF rfl (fun hF=>?_) fun hF=>?_
 ·refine rg ?_
  cases hF
  exact rQ
 refine rg ?_
 cases hF
 exact rQ
end Go.Proofs.YtphibahplgmgfaaGreatDoor
set_option linter.unusedVariables false
set_option maxHeartbeats 4000000
set_option maxRecDepth 100000
namespace Go.Proofs.YtphibahplgmgfaaGreatDoor
open VL
def access_Groups_1 (p0:ByteArray) (p1:Bool) (p2:ByteArray) (p3:List ByteArray):Option Bool:=
 letk (fun (x7:Bool)=>
  (some x7:Option Bool)) fun k1=>
 if p1 then
  if (decide (p0=p2)) then
   k1 true
  else
  if (decide (0<(p0.size:Int))) then
   (atS p0 0).bind fun c8=>
   if (decide (c8=64)) then
    (subS p0 1 (p0.size:Int)).bind fun l9=>
    (slices_Contains_string p3 l9).bind fun r10=>
    k1 r10
   else
   k1 false
  else
  k1 false
 else
 if (decide (0<(p0.size:Int))) then
  (atS p0 0).bind fun c11=>
  if (decide (c11=64)) then
   (subS p0 1 (p0.size:Int)).bind fun l12=>
   (slices_Contains_string p3 l12).bind fun r13=>
   k1 r13
  else
  k1 false
 else
 k1 false
theorem access_Groups_1_c (p0:ByteArray) (p1:Bool) (p2:ByteArray) (p3:List ByteArray) (r:Bool) (hF:access_Groups_1 p0 p1 p2 p3=some r):Contract0 Tryz.prog 84 [.str p0,.cel [.bool p1],.cel [.str p2],.cel [.sl (List.map csS p3)]] (.bool r):=by
 refine cF (fun r=>.bool r) hF mix Tryz.func84 fun r hF=>?_
 unfold access_Groups_1 at hF
 refine runX ?_
 refine rg ?_
 refine jL hF (fun x7=>mkS [(5,.bool x7)] [] 2) (fun k1 hF=>?_) fun x7 hF=>?_
 ·refine rg ?_
  refine kS 7 hF rfl (fun hF=>?_) fun hF=>?_
  ·refine kS 12 hF rfl (fun hF=>?_) fun hF=>?_
   ·iterate 14 refine g_skip rfl (runX ?_)
    exact jn true hF (sR [])
   refine kS 16 hF rfl (fun hF=>?_) fun hF=>?_
   ·obtain ⟨c8,h7,hF⟩:=bnd hF
    refine g_indexSI StrT.eq rfl h7 rfl rfl (runX ?_)
    refine kS 21 hF rfl (fun hF=>?_) fun hF=>?_
    ·obtain ⟨l9,h8,hF⟩:=bnd hF
     refine g_sliceSI StrT.eq rfl h8 rfl rfl rfl (runX ?_)
     obtain ⟨r10,h9,hF⟩:=bnd hF
     refine g_call (slices_Contains_string_c _ _ _ h9) rfl rfl (runX ?_)
     exact jn r10 hF (sR [])
    iterate 4 refine g_skip rfl (runX ?_)
    exact jn false hF (sR [])
   iterate 7 refine g_skip rfl (runX ?_)
   exact jn false hF (sR [])
  iterate 3 refine g_skip rfl (runX ?_)
  refine kS 16 hF rfl (fun hF=>?_) fun hF=>?_
  ·obtain ⟨c11,h10,hF⟩:=bnd hF
   refine g_indexSI StrT.eq rfl h10 rfl rfl (runX ?_)
   refine kS 21 hF rfl (fun hF=>?_) fun hF=>?_
   ·obtain ⟨l12,h11,hF⟩:=bnd hF
    refine g_sliceSI StrT.eq rfl h11 rfl rfl rfl (runX ?_)
    obtain ⟨r13,h12,hF⟩:=bnd hF
    refine g_call (slices_Contains_string_c _ _ _ h12) rfl rfl (runX ?_)
    exact jn r13 hF (sR [])
   iterate 4 refine g_skip rfl (runX ?_)
   exact jn false hF (sR [])
  iterate 7 refine g_skip rfl (runX ?_)
  exact jn false hF (sR [])
 cases hF
 exact rQ
def access_Groups (p0:Policy) (p1:ByteArray):Option (List ByteArray):=
 (policy_IsName p1).bind fun r1=>
 letk (fun (x3:List ByteArray)=>
  fixN bigN (fun f23 ((x138,x139):Bool×(List ByteArray))=>
   if x138 then
    fixN bigN (fun f26 ((x183,x184,x185):Bool×Int×(List ByteArray))=>
     if (decide (x184<(p0.groups.length:Int))) then
      letk (fun (x200:Bool) (x201:List ByteArray)=>
       f26 (x200,(w64 (x184+1)),x201)) fun k27=>
      (atI p0.groups x184).bind fun e202=>
      (slices_Contains_string x185 e202.name).bind fun r203=>
      if r203 then
       k27 x183 x185
      else
      (slices_ContainsFunc_string e202.members (fun y0=>access_Groups_1 y0 r1 p1 x185)).bind fun r204=>
      if r204 then
       (appL 16 x185 [e202.name]).bind fun l205=>
       k27 true l205
      else
      k27 x183 x185
     else
     f23 (x183,x185)) (false,0,x139)
   else
   (slices_Sort_string x139).bind fun r206=>
   (some r206:Option (List ByteArray))) (true,x3)) fun k1=>
 if r1 then
  (appL 16 [(⟨#[97,108,108]⟩:ByteArray)] [(⟨#[117,115,101,114,115]⟩:ByteArray)]).bind fun l207=>
  k1 l207
 else
 k1 [(⟨#[97,108,108]⟩:ByteArray)]
theorem access_Groups_c (p0:Policy) (p1:ByteArray) (r:List ByteArray) (hF:access_Groups p0 p1=some r):Contract0 Tryz.prog 48 [p0.pv,.str p1] (.sl (List.map csS r)):=by
 refine cF (fun r=>.sl (List.map csS r)) hF mix Tryz.func48 fun r hF=>?_
 unfold access_Groups at hF
 refine runX ?_
 refine rg ?_
 refine rg ?_
 refine g_buildM (M:=([(⟨#[97,108,108]⟩:ByteArray)]:List ByteArray)) (f:=csS) rfl rfl rfl rfl (Nat.le_of_ble_eq_true rfl) rfl (runX ?_)
 refine rg ?_
 obtain ⟨r1,h1,hF⟩:=bnd hF
 refine g_call (policy_IsName_c _ _ h1) rfl rfl (runX ?_)
 refine rg ?_
 refine jL hF (fun x3=>mkS [(2,.ptr 2 (1,2) 0),(3,.ptr 3 (1,3) 0),(5,.ptr 5 (1,5) 0),(6,.ptr 6 (1,6) 0)] [(2,some ((1,2),.box [.sl (List.map Group.cs p0.groups),.sl (List.map Rule.cs p0.rules),.sl (List.map Guard.cs p0.guards)])),(3,some ((1,3),.box [.str p1])),(5,some ((1,5),.box [.row 10 (1,10)])),(6,some ((1,6),.box [.bool r1])),(10,some ((1,10),.row 9 1 false (List.map csS x3)))] 2) (fun k1 hF=>?_) fun x3 hF=>?_
 ·refine cS hF rfl (fun hF=>?_) fun hF=>?_
  ·refine rg ?_
   refine g_buildM (M:=([(⟨#[117,115,101,114,115]⟩:ByteArray)]:List ByteArray)) (f:=csS) rfl rfl rfl rfl (Nat.le_of_ble_eq_true rfl) rfl (runX ?_)
   obtain ⟨l207,h148,hF⟩:=bnd hF
   refine g_appR (f:=csS) rfl h148 (fun _=>rfl) rfl rfl rfl rfl (runX ?_)
   exact jn l207 hF (sR [(2,1,0),(3,1,1),(5,2,1),(6,3,2),(10,5,2)])
  exact jn [(⟨#[97,108,108]⟩:ByteArray)] hF (sR [(2,1,0),(3,1,1),(5,2,1),(6,3,2),(10,2,0)])
 refine rg ?_
 refine bl ?_
 refine fix_elim hF fun f23 mf23 hf23 hF=>?_
 refine pws_loop (α:=Nat×(Bool×(List ByteArray))) (fun a _=>mkS [(2,.ptr 2 (1,2) 0),(3,.ptr 3 (1,3) 0),(5,.ptr 5 (1,5) 0),(6,.ptr 6 (1,6) 0),(7,.bool a.2.1)] [(2,some ((1,2),.box [.sl (List.map Group.cs p0.groups),.sl (List.map Rule.cs p0.rules),.sl (List.map Guard.cs p0.guards)])),(3,some ((1,3),.box [.str p1])),(5,some ((1,5),.box [.row 10 (1,10)])),(6,some ((1,6),.box [.bool r1])),(10,some ((1,10),.row 9 1 false (List.map csS a.2.2)))] 2) (fun a=>fixN a.1 f23 a.2=some r) (fun a=>a.1) (mf23,true,x3) 2 hF (sR [(2,1,2),(3,1,3),(5,1,5),(6,1,6),(10,1,10)]) (fun a _ hF=>?_)
 obtain ⟨mf23,x138,x139⟩:=a
 obtain ⟨mf23,rfl,hF⟩:=fix_step hf23 hF
 dsimp only at hF ⊢
 refine runX ?_
 refine rg ?_
 refine cS hF rfl (fun hF=>?_) fun hF=>?_
 ·refine bl ?_
  refine rg ?_
  refine rg ?_
  refine g_lenM rfl (M:=p0.groups) (f:=Group.cs) rfl (runX ?_)
  refine bl ?_
  refine fix_elim hF fun f26 mf26 hf26 hF=>?_
  refine pws_loop (α:=Nat×(Bool×Int×(List ByteArray))) (fun a _=>mkS [(2,.ptr 2 (1,2) 0),(3,.ptr 3 (1,3) 0),(5,.ptr 5 (1,5) 0),(6,.ptr 6 (1,6) 0),(7,.bool a.2.1),(19,.sl (List.map Group.cs p0.groups)),(20,.int .i64 (p0.groups.length:Int)),(21,.int .i64 a.2.2.1)] [(2,some ((1,2),.box [.sl (List.map Group.cs p0.groups),.sl (List.map Rule.cs p0.rules),.sl (List.map Guard.cs p0.guards)])),(3,some ((1,3),.box [.str p1])),(5,some ((1,5),.box [.row 10 (1,10)])),(6,some ((1,6),.box [.bool r1])),(10,some ((1,10),.row 9 1 false (List.map csS a.2.2.2)))] 2) (fun a=>fixN a.1 f26 a.2=some r) (fun a=>a.1) (mf26,false,0,x139) 2 hF (sR [(2,1,2),(3,1,3),(5,1,5),(6,1,6),(10,1,10)]) (fun a _ hF=>?_)
  obtain ⟨mf26,x183,x184,x185⟩:=a
  obtain ⟨mf26,rfl,hF⟩:=fix_step hf26 hF
  dsimp only at hF ⊢
  refine runX ?_
  refine rg ?_
  refine cS hF rfl (fun hF=>?_) fun hF=>?_
  ·refine letk_elim hF fun k27 hk27 hF=>?_
   refine pws_join (α:=Bool×(List ByteArray)) (fun a _=>mkS [(2,.ptr 2 (1,2) 0),(3,.ptr 3 (1,3) 0),(5,.ptr 5 (1,5) 0),(6,.ptr 6 (1,6) 0),(7,.bool a.1),(19,.sl (List.map Group.cs p0.groups)),(20,.int .i64 (p0.groups.length:Int)),(21,.int .i64 x184)] [(2,some ((1,2),.box [.sl (List.map Group.cs p0.groups),.sl (List.map Rule.cs p0.rules),.sl (List.map Guard.cs p0.guards)])),(3,some ((1,3),.box [.str p1])),(5,some ((1,5),.box [.row 10 (1,10)])),(6,some ((1,6),.box [.bool r1])),(10,some ((1,10),.row 9 1 false (List.map csS a.2)))] 2) (fun a=>k27 a.1 a.2=some r) (runX ?_) (fun a _ hF=>?_)
   ·refine bl ?_
    refine rg ?_
    obtain ⟨e202,h143,hF⟩:=bnd hF
    refine g_indexI (f:=Group.cs) rfl h143 rfl rfl rfl (runX ?_)
    refine rg ?_
    obtain ⟨r203,h144,hF⟩:=bnd hF
    refine g_look (slices_Contains_string_c _ _ _ h144) rfl rfl rfl (runX ?_)
    refine cS hF rfl (fun hF=>?_) fun hF=>?_
    ·exact jn (x183,x185) hF (sR [(2,1,2),(3,1,3),(5,1,5),(6,1,6),(10,1,10)])
    refine rg ?_
    refine g_makeFunc rfl rfl (runX ?_)
    obtain ⟨r204,h145,hF⟩:=bnd hF
    refine g_look (slices_ContainsFunc_string_c _ (fun y0=>access_Groups_1 y0 r1 p1 x185) 84 [[.bool r1],[.str p1],[.sl (List.map csS x185)]] (fun y0 r h=>access_Groups_1_c y0 r1 p1 x185 r h) _ h145) rfl rfl rfl (runX ?_)
    refine cS hF rfl (fun hF=>?_) fun hF=>?_
    ·refine rg ?_
     refine g_buildM (M:=([e202.name]:List ByteArray)) (f:=csS) rfl rfl rfl rfl (Nat.le_of_ble_eq_true rfl) rfl (runX ?_)
     obtain ⟨l205,h146,hF⟩:=bnd hF
     refine g_appR (f:=csS) rfl h146 (fun _=>rfl) rfl rfl rfl rfl (runX ?_)
     refine rg ?_
     exact jn (true,l205) hF (sR [(2,1,2),(3,1,3),(5,1,5),(6,1,6),(10,6,4)])
    exact jn (x183,x185) hF (sR [(2,1,2),(3,1,3),(5,1,5),(6,1,6),(10,1,10)])
   obtain ⟨x200,x201⟩:=a
   subst hk27
   dsimp only at hF ⊢
   refine runX ?_
   refine rg ?_
   exact rn (mf26,x200,(w64 (x184+1)),x201) hF (sR [(2,1,2),(3,1,3),(5,1,5),(6,1,6),(10,1,10)])
  exact rn (mf23,x183,x185) hF (sR [(2,1,2),(3,1,3),(5,1,5),(6,1,6),(10,1,10)])
 refine rg ?_
 obtain ⟨r206,h147,hF⟩:=bnd hF
 refine g_callM (slices_Sort_string_c _ _ h147) rfl rfl rfl (runX ?_)
 refine rg ?_
 cases hF
 exact rQ
end Go.Proofs.YtphibahplgmgfaaGreatDoor
set_option linter.unusedVariables false
set_option maxHeartbeats 4000000
set_option maxRecDepth 100000
namespace Go.Proofs.YtphibahplgmgfaaGreatDoor
open VL
def project_View (p0:State) (p1:ByteArray):Option View:=
 (edit_PolicyOf p0).bind fun r1=>
 (access_Groups r1 p1).bind fun r2=>
 fixN bigN (fun f7 ((x41,x42):Int×(List Page))=>
  if (decide (x41<(p0.pages.length:Int))) then
   letk (fun (x56:List Page)=>
    f7 ((w64 (x41+1)),x56)) fun k8=>
   (atI p0.pages x41).bind fun e57=>
   (access_May r1 r2 1 e57.title).bind fun r58=>
   if r58 then
    (state_Current e57).bind fun r59=>
    (appL 48 x42 [(⟨e57.title,r59.text,r59.number⟩:Page)]).bind fun l60=>
    k8 l60
   else
   k8 x42
  else
  (some (⟨x42,r1,r2,p0.clock,[]⟩:View):Option View)) (0,([]:List Page))
theorem project_View_c (p0:State) (p1:ByteArray) (r:View) (hF:project_View p0 p1=some r):Contract0 Tryz.prog 17 [p0.pv,.str p1] (r.pv):=by
 refine cF (fun r=>r.pv) hF mix Tryz.func17 fun r hF=>?_
 unfold project_View at hF
 refine runX ?_
 refine rg ?_
 refine rg ?_
 obtain ⟨r1,h1,hF⟩:=bnd hF
 refine g_call (edit_PolicyOf_c _ _ h1) rfl rfl (runX ?_)
 refine rg ?_
 obtain ⟨r2,h2,hF⟩:=bnd hF
 refine g_call (access_Groups_c _ _ _ h2) rfl rfl (runX ?_)
 refine rg ?_
 refine g_lenM rfl (M:=p0.pages) (f:=Stored.cs) rfl (runX ?_)
 refine bl ?_
 refine fix_elim hF fun f7 mf7 hf7 hF=>?_
 refine pws_loop (α:=Nat×(Int×(List Page))) (fun a _=>mkS [(4,.ptr 4 (1,4) 0),(5,.ptr 5 (1,5) 0),(6,.ptr 6 (1,6) 0),(20,.sl (List.map Stored.cs p0.pages)),(21,.int .i64 (p0.pages.length:Int)),(22,.int .i64 a.2.1)] [(4,some ((1,4),.box [.nil,.nil,.nil,.nil,.nil,.int .i64 0,.nil])),(5,some ((1,5),.box [.sl (List.map Group.cs r1.groups),.sl (List.map Rule.cs r1.rules),.sl (List.map Guard.cs r1.guards)])),(6,some ((1,6),.box [.row 1600 (1,1600),.sl (List.map Group.cs r1.groups),.sl (List.map Rule.cs r1.rules),.sl (List.map Guard.cs r1.guards),.sl (List.map csS r2),.int .i64 p0.clock,.nil])),(1600,some ((1,1600),.row 69 4 false (List.map Page.cs a.2.2)))] 2) (fun a=>fixN a.1 f7 a.2=some r) (fun a=>a.1) (mf7,0,([]:List Page)) 2 hF (Shift.trans (shift_rB 6 1600 0 69 4 rfl rfl rfl) (sR [(4,1,1),(5,2,2),(6,3,7),(1600,5,0)])) (fun a _ hF=>?_)
 obtain ⟨mf7,x41,x42⟩:=a
 obtain ⟨mf7,rfl,hF⟩:=fix_step hf7 hF
 dsimp only at hF ⊢
 refine runX ?_
 refine rg ?_
 refine cS hF rfl (fun hF=>?_) fun hF=>?_
 ·refine jL hF (fun x56=>mkS [(4,.ptr 4 (1,4) 0),(5,.ptr 5 (1,5) 0),(6,.ptr 6 (1,6) 0),(20,.sl (List.map Stored.cs p0.pages)),(21,.int .i64 (p0.pages.length:Int)),(22,.int .i64 x41)] [(4,some ((1,4),.box [.nil,.nil,.nil,.nil,.nil,.int .i64 0,.nil])),(5,some ((1,5),.box [.sl (List.map Group.cs r1.groups),.sl (List.map Rule.cs r1.rules),.sl (List.map Guard.cs r1.guards)])),(6,some ((1,6),.box [.row 1600 (1,1600),.sl (List.map Group.cs r1.groups),.sl (List.map Rule.cs r1.rules),.sl (List.map Guard.cs r1.guards),.sl (List.map csS r2),.int .i64 p0.clock,.nil])),(1600,some ((1,1600),.row 69 4 false (List.map Page.cs x56)))] 2) (fun k8 hF=>?_) fun x56 hF=>?_
  ·refine bl ?_
   refine rg ?_
   obtain ⟨e57,h47,hF⟩:=bnd hF
   refine g_indexI (f:=Stored.cs) rfl h47 rfl rfl rfl (runX ?_)
   refine rg ?_
   obtain ⟨r58,h48,hF⟩:=bnd hF
   refine g_call (access_May_c _ _ _ _ _ h48) rfl rfl (runX ?_)
   refine cS hF rfl (fun hF=>?_) fun hF=>?_
   ·refine rg ?_
    obtain ⟨r59,h49,hF⟩:=bnd hF
    refine g_call (state_Current_c _ _ h49) rfl rfl (runX ?_)
    refine rg ?_
    refine g_buildM (M:=([(⟨e57.title,r59.text,r59.number⟩:Page)]:List Page)) (f:=Page.cs) rfl rfl rfl rfl (Nat.le_of_ble_eq_true rfl) rfl (runX ?_)
    obtain ⟨l60,h50,hF⟩:=bnd hF
    refine g_appR (f:=Page.cs) rfl h50 (fun _=>rfl) rfl rfl rfl rfl (runX ?_)
    exact jn l60 hF (sR [(4,1,4),(5,1,5),(6,1,6),(1600,6,10)])
   exact jn x42 hF (sR [(4,1,4),(5,1,5),(6,1,6),(1600,1,1600)])
  refine rg ?_
  exact rn (mf7,(w64 (x41+1)),x56) hF (sR [(4,1,4),(5,1,5),(6,1,6),(1600,1,1600)])
 refine rg ?_
 cases hF
 exact rQ
def project_Readable (p0:State) (p1:ByteArray) (p2:Title):Option Bool:=
 (edit_PolicyOf p0).bind fun r1=>
 (state_Page p0 p2).bind fun r2=>
 letk (fun (x5:Bool)=>
  (some x5:Option Bool)) fun k1=>
 if r2.2 then
  (access_Groups r1 p1).bind fun r6=>
  (access_May r1 r6 1 p2).bind fun r7=>
  k1 r7
 else
 k1 false
theorem project_Readable_c (p0:State) (p1:ByteArray) (p2:Title) (r:Bool) (hF:project_Readable p0 p1 p2=some r):Contract0 Tryz.prog 19 [p0.pv,.str p1,p2.pv] (.bool r):=by
 refine cF (fun r=>.bool r) hF mix Tryz.func19 fun r hF=>?_
 unfold project_Readable at hF
 refine runX ?_
 refine rg ?_
 refine rg ?_
 obtain ⟨r1,h1,hF⟩:=bnd hF
 refine g_call (edit_PolicyOf_c _ _ h1) rfl rfl (runX ?_)
 refine rg ?_
 obtain ⟨r2,h2,hF⟩:=bnd hF
 refine g_call (state_Page_c _ _ _ h2) rfl rfl (runX ?_)
 refine jL hF (fun x5=>mkS [(6,.bool x5)] [] 2) (fun k1 hF=>?_) fun x5 hF=>?_
 ·refine rg ?_
  refine kS 19 hF rfl (fun hF=>?_) fun hF=>?_
  ·obtain ⟨r6,h5,hF⟩:=bnd hF
   refine g_call (access_Groups_c _ _ _ h5) rfl rfl (runX ?_)
   obtain ⟨r7,h6,hF⟩:=bnd hF
   refine g_call (access_May_c _ _ _ _ _ h6) rfl rfl (runX ?_)
   exact jn r7 hF (sR [])
  iterate 6 refine g_skip rfl (runX ?_)
  exact jn false hF (sR [])
 cases hF
 exact rQ
end Go.Proofs.YtphibahplgmgfaaGreatDoor
