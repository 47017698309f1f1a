/- Functions of the program as Lean functions. Written by fxgen.py. | Functions of the program as Lean functions. Written by fxgen.py. -/
import Derived.Test.YtphibahplgmgfaaGreatDoorPB10
import Derived.Test.YtphibahplgmgfaaGreatDoorPB08
set_option linter.unusedVariables false
set_option maxHeartbeats 4000000
set_option maxRecDepth 100000
namespace Go.Proofs.YtphibahplgmgfaaGreatDoor
open VL
def policy_Validate (p0:Policy):Option Int:=
 letk (fun (x1:Bool)=>
  if x1 then
   (some 3:Option Int)
  else
  fixN bigN (fun f3 (x11:Int)=>
   if (decide (x11<(p0.groups.length:Int))) then
    (policy_checkGroup p0 x11).bind fun r15=>
    if (!decide (r15=0)) then
     (some r15:Option Int)
    else
    f3 (w64 (x11+1))
   else
   fixN bigN (fun f5 (x33:Int)=>
    if (decide (x33<(p0.rules.length:Int))) then
     (atI p0.rules x33).bind fun e40=>
     (policy_checkRule p0 e40).bind fun r41=>
     if (!decide (r41=0)) then
      (some r41:Option Int)
     else
     f5 (w64 (x33+1))
    else
    fixN bigN (fun f7 (x59:Int)=>
     if (decide (x59<(p0.guards.length:Int))) then
      (atI p0.guards x59).bind fun e66=>
      (policy_checkGuard p0 e66).bind fun r67=>
      if (!decide (r67=0)) then
       (some r67:Option Int)
      else
      f7 (w64 (x59+1))
     else
     (some 0:Option Int)) 0) 0) 0) fun k1=>
 if (decide (24<(p0.groups.length:Int))) then
  k1 true
 else
 if (decide (64<(p0.rules.length:Int))) then
  k1 true
 else
 k1 (decide (64<(p0.guards.length:Int)))
theorem policy_Validate_c (p0:Policy) (r:Int) (hF:policy_Validate p0=some r):Contract0 Tryz.prog 123 [p0.pv] (.int .i64 r):=by
 refine cF (fun r=>.int .i64 r) hF mix Tryz.func123 fun r hF=>?_
 unfold policy_Validate at hF
 refine runX ?_
 refine rg ?_
 refine jL hF (fun x1=>mkS [(1,.ptr 1 (1,1) 0),(26,.bool x1)] [(1,some ((1,1),.box [.sl (List.map Group.cs p0.groups),.sl (List.map Rule.cs p0.rules),.sl (List.map Guard.cs p0.guards)]))] 2) (fun k1 hF=>?_) fun x1 hF=>?_
 ·refine rg ?_
  refine g_lenM rfl (M:=p0.groups) (f:=Group.cs) rfl (runX ?_)
  refine kS 15 hF rfl (fun hF=>?_) fun hF=>?_
  ·iterate 8 refine g_skip rfl (runX ?_)
   exact jn true hF (sR [(1,1,0)])
  refine g_lenM rfl (M:=p0.rules) (f:=Rule.cs) rfl (runX ?_)
  refine kS 21 hF rfl (fun hF=>?_) fun hF=>?_
  ·iterate 4 refine g_skip rfl (runX ?_)
   exact jn true hF (sR [(1,1,0)])
  refine g_lenM rfl (M:=p0.guards) (f:=Guard.cs) rfl (runX ?_)
  exact jn (decide (64<(p0.guards.length:Int))) hF (sR [(1,1,0)])
 refine cS hF rfl (fun hF=>?_) fun hF=>?_
 ·refine rg ?_
  cases hF
  exact rQ
 refine rg ?_
 refine g_lenM rfl (M:=p0.groups) (f:=Group.cs) rfl (runX ?_)
 refine bl ?_
 refine fix_elim hF fun f3 mf3 hf3 hF=>?_
 refine pws_loop (α:=Nat×Int) (fun a _=>mkS [(1,.ptr 1 (1,1) 0),(29,.int .i64 (p0.groups.length:Int)),(30,.int .i64 a.2)] [(1,some ((1,1),.box [.sl (List.map Group.cs p0.groups),.sl (List.map Rule.cs p0.rules),.sl (List.map Guard.cs p0.guards)]))] 2) (fun a=>fixN a.1 f3 a.2=some r) (fun a=>a.1) (mf3,0) 2 hF (sR [(1,1,1)]) (fun a _ hF=>?_)
 obtain ⟨mf3,x11⟩:=a
 obtain ⟨mf3,rfl,hF⟩:=fix_step hf3 hF
 dsimp only at hF ⊢
 refine runX ?_
 refine rg ?_
 refine cS hF rfl (fun hF=>?_) fun hF=>?_
 ·refine bl ?_
  refine rg ?_
  refine rg ?_
  obtain ⟨r15,h12,hF⟩:=bnd hF
  refine g_call (policy_checkGroup_c _ _ _ h12) rfl rfl (runX ?_)
  refine rg ?_
  refine cS hF rfl (fun hF=>?_) fun hF=>?_
  ·refine rg ?_
   cases hF
   exact rQ
  refine rg ?_
  exact rn (mf3,(w64 (x11+1))) hF (sR [(1,1,1)])
 refine rg ?_
 refine g_lenM rfl (M:=p0.rules) (f:=Rule.cs) rfl (runX ?_)
 refine bl ?_
 refine fix_elim hF fun f5 mf5 hf5 hF=>?_
 refine pws_loop (α:=Nat×Int) (fun a _=>mkS [(1,.ptr 1 (1,1) 0),(41,.sl (List.map Rule.cs p0.rules)),(42,.int .i64 (p0.rules.length:Int)),(43,.int .i64 a.2)] [(1,some ((1,1),.box [.sl (List.map Group.cs p0.groups),.sl (List.map Rule.cs p0.rules),.sl (List.map Guard.cs p0.guards)]))] 2) (fun a=>fixN a.1 f5 a.2=some r) (fun a=>a.1) (mf5,0) 2 hF (sR [(1,1,1)]) (fun a _ hF=>?_)
 obtain ⟨mf5,x33⟩:=a
 obtain ⟨mf5,rfl,hF⟩:=fix_step hf5 hF
 dsimp only at hF ⊢
 refine runX ?_
 refine rg ?_
 refine cS hF rfl (fun hF=>?_) fun hF=>?_
 ·refine bl ?_
  refine rg ?_
  obtain ⟨e40,h35,hF⟩:=bnd hF
  refine g_indexI (f:=Rule.cs) rfl h35 rfl rfl rfl (runX ?_)
  refine rg ?_
  obtain ⟨r41,h36,hF⟩:=bnd hF
  refine g_call (policy_checkRule_c _ _ _ h36) rfl rfl (runX ?_)
  refine rg ?_
  refine cS hF rfl (fun hF=>?_) fun hF=>?_
  ·refine rg ?_
   cases hF
   exact rQ
  refine rg ?_
  exact rn (mf5,(w64 (x33+1))) hF (sR [(1,1,1)])
 refine rg ?_
 refine g_lenM rfl (M:=p0.guards) (f:=Guard.cs) rfl (runX ?_)
 refine bl ?_
 refine fix_elim hF fun f7 mf7 hf7 hF=>?_
 refine pws_loop (α:=Nat×Int) (fun a _=>mkS [(1,.ptr 1 (1,1) 0),(55,.sl (List.map Guard.cs p0.guards)),(56,.int .i64 (p0.guards.length:Int)),(57,.int .i64 a.2)] [(1,some ((1,1),.box [.sl (List.map Group.cs p0.groups),.sl (List.map Rule.cs p0.rules),.sl (List.map Guard.cs p0.guards)]))] 2) (fun a=>fixN a.1 f7 a.2=some r) (fun a=>a.1) (mf7,0) 2 hF (sR [(1,1,1)]) (fun a _ hF=>?_)
 obtain ⟨mf7,x59⟩:=a
 obtain ⟨mf7,rfl,hF⟩:=fix_step hf7 hF
 dsimp only at hF ⊢
 refine runX ?_
 refine rg ?_
 refine cS hF rfl (fun hF=>?_) fun hF=>?_
 ·refine bl ?_
  refine rg ?_
  obtain ⟨e66,h59,hF⟩:=bnd hF
  refine g_indexI (f:=Guard.cs) rfl h59 rfl rfl rfl (runX ?_)
  refine rg ?_
  obtain ⟨r67,h60,hF⟩:=bnd hF
  refine g_call (policy_checkGuard_c _ _ _ h60) rfl rfl (runX ?_)
  refine rg ?_
  refine cS hF rfl (fun hF=>?_) fun hF=>?_
  ·refine rg ?_
   cases hF
   exact rQ
  refine rg ?_
  exact rn (mf7,(w64 (x59+1))) hF (sR [(1,1,1)])
 refine rg ?_
 cases hF
 exact rQ
end Go.Proofs.YtphibahplgmgfaaGreatDoor
set_option linter.unusedVariables false
set_option maxHeartbeats 4000000
set_option maxRecDepth 100000
namespace Go.Proofs.YtphibahplgmgfaaGreatDoor
open VL
def policy_Parse (p0:ByteArray):Option (Policy×Int×Int):=
 if (decide (8192<(p0.size:Int))) then
  (some ((⟨[],[],[]⟩:Policy),0,3):Option (Policy×Int×Int))
 else
 (strings_Split p0 (⟨#[10]⟩:ByteArray)).bind fun r1=>
 fixN bigN (fun f2 ((x22,x23,x24,x25):Int×(List Group)×(List Rule)×(List Guard))=>
  if (decide (x22<(r1.length:Int))) then
   (atI r1 x22).bind fun e32=>
   (policy_statement (⟨x23,x24,x25⟩:Policy) e32).bind fun r33=>
   if (!r33.1) then
    (some ((⟨[],[],[]⟩:Policy),(w64 (x22+1)),1):Option (Policy×Int×Int))
   else
   f2 ((w64 (x22+1)),r33.2.groups,r33.2.rules,r33.2.guards)
  else
  (policy_Validate (⟨x23,x24,x25⟩:Policy)).bind fun r34=>
  if (!decide (r34=0)) then
   (some ((⟨[],[],[]⟩:Policy),0,r34):Option (Policy×Int×Int))
  else
  (some ((⟨x23,x24,x25⟩:Policy),0,0):Option (Policy×Int×Int))) (0,([]:List Group),([]:List Rule),([]:List Guard))
theorem policy_Parse_c (p0:ByteArray) (r:Policy×Int×Int) (hF:policy_Parse p0=some r):Contract0 Tryz.prog 80 [.str p0] (.tup [r.1.pv,.int .i64 r.2.1,.int .i64 r.2.2]):=by
 refine cF (fun r=>.tup [r.1.pv,.int .i64 r.2.1,.int .i64 r.2.2]) hF mix Tryz.func80 fun r hF=>?_
 unfold policy_Parse at hF
 refine runX ?_
 refine rg ?_
 refine rg ?_
 refine cS hF rfl (fun hF=>?_) fun hF=>?_
 ·refine rg ?_
  cases hF
  exact rQ
 refine rg ?_
 refine rg ?_
 obtain ⟨r1,h1,hF⟩:=bnd hF
 refine g_callN (strings_Split_c _ _ _ h1) rfl rfl (runX ?_)
 refine g_lenM rfl (M:=r1) (f:=csS) rfl (runX ?_)
 refine bl ?_
 refine fix_elim hF fun f2 mf2 hf2 hF=>?_
 refine pws_loop (α:=Nat×(Int×(List Group)×(List Rule)×(List Guard))) (fun a _=>mkS [(2,.ptr 2 (1,2) 0),(5,.ptr 5 (1,5) 0),(14,.row 14 (1,14)),(15,.int .i64 (r1.length:Int)),(16,.int .i64 a.2.1)] [(2,some ((1,2),.box [.nil,.nil,.nil])),(5,some ((1,5),.box [.row 1500 (1,1500),.row 1501 (1,1501),.row 1502 (1,1502)])),(14,some ((1,14),.row 9 1 false (List.map csS r1))),(1500,some ((1,1500),.row 119 2 false (List.map Group.cs a.2.2.1))),(1501,some ((1,1501),.row 105 6 false (List.map Rule.cs a.2.2.2.1))),(1502,some ((1,1502),.row 107 5 false (List.map Guard.cs a.2.2.2.2)))] 2) (fun a=>fixN a.1 f2 a.2=some r) (fun a=>a.1) (mf2,0,([]:List Group),([]:List Rule),([]:List Guard)) 2 hF (Shift.trans (shift_rB 5 1500 0 119 2 rfl rfl rfl) (Shift.trans (shift_rB 5 1501 1 105 6 rfl rfl rfl) (Shift.trans (shift_rB 5 1502 2 107 5 rfl rfl rfl) (sR [(2,1,0),(5,3,0),(14,4,1),(1500,5,0),(1501,6,0),(1502,7,0)])))) (fun a _ hF=>?_)
 obtain ⟨mf2,x22,x23,x24,x25⟩:=a
 obtain ⟨mf2,rfl,hF⟩:=fix_step hf2 hF
 dsimp only at hF ⊢
 refine runX ?_
 refine rg ?_
 refine cS hF rfl (fun hF=>?_) fun hF=>?_
 ·refine bl ?_
  refine rg ?_
  obtain ⟨e32,h24,hF⟩:=bnd hF
  refine g_indexR rfl h24 rfl rfl rfl (runX ?_)
  refine g_loadR rfl h24 rfl rfl rfl (runX ?_)
  refine rg ?_
  obtain ⟨r33,h25,hF⟩:=bnd hF
  refine g_callP (policy_statement_c _ _ _ h25) rfl rfl rfl rfl rfl rfl rfl rfl (runX ?_)
  refine cS hF rfl (fun hF=>?_) fun hF=>?_
  ·refine rg ?_
   cases hF
   exact rQ
  refine rg ?_
  exact rn (mf2,(w64 (x22+1)),r33.2.groups,r33.2.rules,r33.2.guards) hF (sR [(2,1,2),(5,1,5),(14,1,14),(1500,4,1000001),(1501,4,2000001),(1502,4,3000001)])
 refine rg ?_
 obtain ⟨r34,h26,hF⟩:=bnd hF
 refine g_look (policy_Validate_c _ _ h26) rfl rfl rfl (runX ?_)
 refine rg ?_
 refine cS hF rfl (fun hF=>?_) fun hF=>?_
 ·refine rg ?_
  cases hF
  exact rQ
 refine rg ?_
 cases hF
 exact rQ
end Go.Proofs.YtphibahplgmgfaaGreatDoor
