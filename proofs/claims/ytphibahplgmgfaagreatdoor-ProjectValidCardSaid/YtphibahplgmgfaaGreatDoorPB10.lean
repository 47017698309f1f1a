/- Functions of the program as Lean functions. Written by fxgen.py. | Functions of the program as Lean functions. Written by fxgen.py. | Functions of the program as Lean functions. Written by fxgen.py. -/
import Derived.Test.YtphibahplgmgfaaGreatDoorPB09
import Derived.Test.YtphibahplgmgfaaGreatDoorPB08
set_option linter.unusedVariables false
set_option maxHeartbeats 4000000
set_option maxRecDepth 100000
namespace Go.Proofs.YtphibahplgmgfaaGreatDoor
open VL
def internal_stringslite_CutPrefix (p0:ByteArray) (p1:ByteArray):Option (ByteArray×Bool):=
 (internal_stringslite_HasPrefix p0 p1).bind fun r1=>
 if (!r1) then
  (some (p0,false):Option (ByteArray×Bool))
 else
 (subS p0 (p1.size:Int) (p0.size:Int)).bind fun l2=>
 (some (l2,true):Option (ByteArray×Bool))
theorem internal_stringslite_CutPrefix_c (p0:ByteArray) (p1:ByteArray) (r:ByteArray×Bool) (hF:internal_stringslite_CutPrefix p0 p1=some r):Contract0 Tryz.prog 227 [.str p0,.str p1] (.tup [.str r.1,.bool r.2]):=by
 refine cF (fun r=>.tup [.str r.1,.bool r.2]) hF mix Tryz.func227 fun r hF=>?_
 unfold internal_stringslite_CutPrefix at hF
 refine runX ?_
 refine rg ?_
 refine rg ?_
 obtain ⟨r1,h1,hF⟩:=bnd hF
 refine g_call (internal_stringslite_HasPrefix_c _ _ _ h1) rfl rfl (runX ?_)
 refine cS hF rfl (fun hF=>?_) fun hF=>?_
 ·refine rg ?_
  cases hF
  exact rQ
 refine rg ?_
 obtain ⟨l2,h2,hF⟩:=bnd hF
 refine g_sliceSI StrT.eq rfl h2 rfl rfl rfl (runX ?_)
 cases hF
 exact rQ
def strings_CutPrefix (p0:ByteArray) (p1:ByteArray):Option (ByteArray×Bool):=
 (internal_stringslite_CutPrefix p0 p1).bind fun r1=>
 (some (r1.1,r1.2):Option (ByteArray×Bool))
theorem strings_CutPrefix_c (p0:ByteArray) (p1:ByteArray) (r:ByteArray×Bool) (hF:strings_CutPrefix p0 p1=some r):Contract0 Tryz.prog 193 [.str p0,.str p1] (.tup [.str r.1,.bool r.2]):=by
 refine cF (fun r=>.tup [.str r.1,.bool r.2]) hF mix Tryz.func193 fun r hF=>?_
 unfold strings_CutPrefix at hF
 refine runX ?_
 refine rg ?_
 refine rg ?_
 obtain ⟨r1,h1,hF⟩:=bnd hF
 refine g_call (internal_stringslite_CutPrefix_c _ _ _ h1) rfl rfl (runX ?_)
 cases hF
 exact rQ
def policy_next (p0:ByteArray):Option (ByteArray×ByteArray):=
 (strings_Trim p0 (⟨#[32,9]⟩:ByteArray)).bind fun r1=>
 (strings_IndexAny r1 (⟨#[32,9]⟩:ByteArray)).bind fun r2=>
 if (decide (r2<0)) then
  (some (r1,(⟨#[]⟩:ByteArray)):Option (ByteArray×ByteArray))
 else
 (subS r1 0 r2).bind fun l3=>
 (subS r1 r2 (r1.size:Int)).bind fun l4=>
 (strings_Trim l4 (⟨#[32,9]⟩:ByteArray)).bind fun r5=>
 (some (l3,r5):Option (ByteArray×ByteArray))
theorem policy_next_c (p0:ByteArray) (r:ByteArray×ByteArray) (hF:policy_next p0=some r):Contract0 Tryz.prog 153 [.str p0] (.tup [.str r.1,.str r.2]):=by
 refine cF (fun r=>.tup [.str r.1,.str r.2]) hF mix Tryz.func153 fun r hF=>?_
 unfold policy_next at hF
 refine runX ?_
 refine rg ?_
 refine rg ?_
 obtain ⟨r1,h1,hF⟩:=bnd hF
 refine g_call (strings_Trim_c _ _ _ h1) rfl rfl (runX ?_)
 refine rg ?_
 obtain ⟨r2,h2,hF⟩:=bnd hF
 refine g_call (strings_IndexAny_c _ _ _ h2) rfl rfl (runX ?_)
 refine rg ?_
 refine cS hF rfl (fun hF=>?_) fun hF=>?_
 ·refine rg ?_
  cases hF
  exact rQ
 refine rg ?_
 obtain ⟨l3,h3,hF⟩:=bnd hF
 refine g_sliceSI StrT.eq rfl h3 rfl rfl rfl (runX ?_)
 obtain ⟨l4,h4,hF⟩:=bnd hF
 refine g_sliceSI StrT.eq rfl h4 rfl rfl rfl (runX ?_)
 obtain ⟨r5,h5,hF⟩:=bnd hF
 refine g_call (strings_Trim_c _ _ _ h5) rfl rfl (runX ?_)
 cases hF
 exact rQ
def policy_group (p0:Policy) (p1:ByteArray):Option (Bool×Policy):=
 (policy_next p1).bind fun r1=>
 (strings_FieldsFunc r1.2).bind fun r2=>
 (appL 40 p0.groups [(⟨r1.1,r2⟩:Group)]).bind fun l3=>
 (some ((!decide (r1.1=(⟨#[]⟩:ByteArray))),(⟨l3,p0.rules,p0.guards⟩:Policy)):Option (Bool×Policy))
theorem policy_group_c (p0:Policy) (p1:ByteArray) (r:Bool×Policy) (hF:policy_group p0 p1=some r):ContractP Tryz.prog 154 [.ptr 0 (0,0) 0,.str p1] 0 [.row 119 2 false (List.map Group.cs p0.groups),.row 105 6 false (List.map Rule.cs p0.rules),.row 107 5 false (List.map Guard.cs p0.guards)] (.bool r.1) [.row 119 2 false (List.map Group.cs r.2.groups),.row 105 6 false (List.map Rule.cs r.2.rules),.row 107 5 false (List.map Guard.cs r.2.guards)]:=by
 refine contract_FP (R:=fun r=>.bool r.1) (O:=fun r=>[.row 119 2 false (List.map Group.cs r.2.groups),.row 105 6 false (List.map Rule.cs r.2.rules),.row 107 5 false (List.map Guard.cs r.2.guards)]) hF mix Tryz.func154 (by kernel_rfl) rfl (by kernel_rfl) rfl fun r hF=>?_
 unfold policy_group at hF
 refine runX ?_
 refine rg ?_
 refine rg ?_
 obtain ⟨r1,h1,hF⟩:=bnd hF
 refine g_call (policy_next_c _ _ h1) rfl rfl (runX ?_)
 refine rg ?_
 obtain ⟨r2,h2,hF⟩:=bnd hF
 refine g_callN0 (strings_FieldsFunc_c _ _ h2) rfl rfl rfl (runX ?_)
 refine rg ?_
 refine g_buildM (M:=([(⟨r1.1,r2⟩:Group)]:List Group)) (f:=Group.cs) rfl rfl rfl rfl (Nat.le_of_ble_eq_true rfl) rfl (runX ?_)
 obtain ⟨l3,h3,hF⟩:=bnd hF
 refine g_appR (f:=Group.cs) rfl h3 (fun _=>rfl) rfl rfl rfl rfl (runX ?_)
 refine rg ?_
 cases hF
 exact rp_ret rfl rfl rfl rfl rfl rfl
def policy_checkGroup (p0:Policy) (p1:Int):Option Int:=
 (atI p0.groups p1).bind fun e1=>
 (policy_IsName e1.name).bind fun r2=>
 if (!r2) then
  (some 1:Option Int)
 else
 letk (fun (x6:Bool)=>
  if x6 then
   (some 5:Option Int)
  else
  if (decide (24<(e1.members.length:Int))) then
   (some 3:Option Int)
  else
  fixN bigN (fun f13 (x56:Int)=>
   if (decide (x56<(e1.members.length:Int))) then
    (atI e1.members x56).bind fun e75=>
    (strings_CutPrefix e75 (⟨#[64]⟩:ByteArray)).bind fun r76=>
    (policy_IsName r76.1).bind fun r77=>
    if (!r77) then
     (some 1:Option Int)
    else
    letk (fun (x79:Bool)=>
     if x79 then
      (some 4:Option Int)
     else
     f13 (w64 (x56+1))) fun k15=>
    if r76.2 then
     (policy_exists p0 r76.1).bind fun r80=>
     k15 (!r80)
    else
    k15 false
   else
   (some 0:Option Int)) 0) fun k1=>
 (policy_builtIn e1.name).bind fun r81=>
 if r81 then
  k1 true
 else
 (subL p0.groups 0 p1).bind fun l82=>
 (slices_ContainsFunc_Group l82 (fun y0=>policy_checkGroup_1 y0 e1)).bind fun r83=>
 k1 r83
theorem policy_checkGroup_c (p0:Policy) (p1:Int) (r:Int) (hF:policy_checkGroup p0 p1=some r):Contract0 Tryz.prog 157 [p0.pv,.int .i64 p1] (.int .i64 r):=by
 refine cF (fun r=>.int .i64 r) hF mix Tryz.func157 fun r hF=>?_
 unfold policy_checkGroup at hF
 refine runX ?_
 refine rg ?_
 refine rg ?_
 obtain ⟨e1,h1,hF⟩:=bnd hF
 refine g_indexI (f:=Group.cs) rfl h1 rfl rfl rfl (runX ?_)
 refine rg ?_
 obtain ⟨r2,h2,hF⟩:=bnd hF
 refine g_call (policy_IsName_c _ _ h2) rfl rfl (runX ?_)
 refine cS hF rfl (fun hF=>?_) fun hF=>?_
 ·refine rg ?_
  cases hF
  exact rQ
 refine jL hF (fun x6=>mkS [(2,.ptr 2 (1,2) 0),(5,.ptr 5 (1,5) 0),(29,.bool x6)] [(2,some ((1,2),.box [.sl (List.map Group.cs p0.groups),.sl (List.map Rule.cs p0.rules),.sl (List.map Guard.cs p0.guards)])),(5,some ((1,5),.box [.str e1.name,.sl (List.map csS e1.members)]))] 2) (fun k1 hF=>?_) fun x6 hF=>?_
 ·refine rg ?_
  obtain ⟨r81,h66,hF⟩:=bnd hF
  refine g_call (policy_builtIn_c _ _ h66) rfl rfl (runX ?_)
  refine kS 22 hF rfl (fun hF=>?_) fun hF=>?_
  ·iterate 6 refine g_skip rfl (runX ?_)
   exact jn true hF (sR [(2,1,0),(5,2,5)])
  obtain ⟨l82,h67,hF⟩:=bnd hF
  refine g_sliceM (f:=Group.cs) rfl h67 (fun _=>rfl) rfl rfl rfl rfl (runX ?_)
  refine g_makeFunc rfl rfl (runX ?_)
  obtain ⟨r83,h68,hF⟩:=bnd hF
  refine g_look (slices_ContainsFunc_Group_c _ (fun y0=>policy_checkGroup_1 y0 e1) 192 [[.str e1.name,.sl (List.map csS e1.members)]] (fun y0 r h=>policy_checkGroup_1_c y0 e1 r h) _ h68) rfl rfl rfl (runX ?_)
  exact jn r83 hF (sR [(2,1,0),(5,2,5)])
 refine cS hF rfl (fun hF=>?_) fun hF=>?_
 ·refine rg ?_
  cases hF
  exact rQ
 refine rg ?_
 refine g_lenM rfl (M:=e1.members) (f:=csS) rfl (runX ?_)
 refine cS hF rfl (fun hF=>?_) fun hF=>?_
 ·refine rg ?_
  cases hF
  exact rQ
 refine rg ?_
 refine g_lenM rfl (M:=e1.members) (f:=csS) rfl (runX ?_)
 refine bl ?_
 refine fix_elim hF fun f13 mf13 hf13 hF=>?_
 refine pws_loop (α:=Nat×Int) (fun a _=>mkS [(2,.ptr 2 (1,2) 0),(35,.sl (List.map csS e1.members)),(36,.int .i64 (e1.members.length:Int)),(37,.int .i64 a.2)] [(2,some ((1,2),.box [.sl (List.map Group.cs p0.groups),.sl (List.map Rule.cs p0.rules),.sl (List.map Guard.cs p0.guards)]))] 2) (fun a=>fixN a.1 f13 a.2=some r) (fun a=>a.1) (mf13,0) 2 hF (sR [(2,1,2)]) (fun a _ hF=>?_)
 obtain ⟨mf13,x56⟩:=a
 obtain ⟨mf13,rfl,hF⟩:=fix_step hf13 hF
 dsimp only at hF ⊢
 refine runX ?_
 refine rg ?_
 refine cS hF rfl (fun hF=>?_) fun hF=>?_
 ·refine bl ?_
  refine rg ?_
  obtain ⟨e75,h61,hF⟩:=bnd hF
  refine g_indexI (f:=csS) rfl h61 rfl rfl rfl (runX ?_)
  refine rg ?_
  obtain ⟨r76,h62,hF⟩:=bnd hF
  refine g_call (strings_CutPrefix_c _ _ _ h62) rfl rfl (runX ?_)
  refine rg ?_
  obtain ⟨r77,h63,hF⟩:=bnd hF
  refine g_call (policy_IsName_c _ _ h63) rfl rfl (runX ?_)
  refine cS hF rfl (fun hF=>?_) fun hF=>?_
  ·refine rg ?_
   cases hF
   exact rQ
  refine jL hF (fun x79=>mkS [(2,.ptr 2 (1,2) 0),(35,.sl (List.map csS e1.members)),(36,.int .i64 (e1.members.length:Int)),(37,.int .i64 x56),(55,.bool x79)] [(2,some ((1,2),.box [.sl (List.map Group.cs p0.groups),.sl (List.map Rule.cs p0.rules),.sl (List.map Guard.cs p0.guards)]))] 2) (fun k15 hF=>?_) fun x79 hF=>?_
  ·refine rg ?_
   refine kS 50 hF rfl (fun hF=>?_) fun hF=>?_
   ·obtain ⟨r80,h65,hF⟩:=bnd hF
    refine g_call (policy_exists_c _ _ _ h65) rfl rfl (runX ?_)
    exact jn (!r80) hF (sR [(2,1,2)])
   iterate 4 refine g_skip rfl (runX ?_)
   exact jn false hF (sR [(2,1,2)])
  refine cS hF rfl (fun hF=>?_) fun hF=>?_
  ·refine rg ?_
   cases hF
   exact rQ
  refine rg ?_
  exact rn (mf13,(w64 (x56+1))) hF (sR [(2,1,2)])
 refine rg ?_
 cases hF
 exact rQ
end Go.Proofs.YtphibahplgmgfaaGreatDoor
set_option linter.unusedVariables false
set_option maxHeartbeats 4000000
set_option maxRecDepth 100000
namespace Go.Proofs.YtphibahplgmgfaaGreatDoor
open VL
def policy_rule (p0:Policy) (p1:ByteArray) (p2:Bool):Option (Bool×Policy):=
 (policy_next p1).bind fun r1=>
 (policy_next r1.2).bind fun r2=>
 (policy_rights).bind fun r3=>
 (slices_Index_string r3 r1.1).bind fun r4=>
 if (decide ((w64 (r4+1))=0)) then
  (some (false,p0):Option (Bool×Policy))
 else
 letk (fun (x8:Int) (x9:Int) (x10:ByteArray)=>
  (appL 64 p0.rules [(⟨p2,(w64 (r4+1)),r2.1,(⟨x8,(⟨x9,x10⟩:Title)⟩:Scope)⟩:Rule)]).bind fun l11=>
  (some (true,(⟨p0.groups,l11,p0.guards⟩:Policy)):Option (Bool×Policy))) fun k1=>
 if (decide (r2.2=(⟨#[60,97,108,108,62]⟩:ByteArray))) then
  k1 1 0 (⟨#[]⟩:ByteArray)
 else
 (policy_spaces).bind fun r12=>
 (slices_Index_string r12 r2.2).bind fun r13=>
 if (decide (0≤r13)) then
  k1 2 r13 (⟨#[]⟩:ByteArray)
 else
 (title_Parse r2.2).bind fun r14=>
 if (!decide (r14.2=0)) then
  (some (false,p0):Option (Bool×Policy))
 else
 k1 3 r14.1.space r14.1.name
theorem policy_rule_c (p0:Policy) (p1:ByteArray) (p2:Bool) (r:Bool×Policy) (hF:policy_rule p0 p1 p2=some r):ContractP Tryz.prog 155 [.ptr 0 (0,0) 0,.str p1,.bool p2] 0 [.row 119 2 false (List.map Group.cs p0.groups),.row 105 6 false (List.map Rule.cs p0.rules),.row 107 5 false (List.map Guard.cs p0.guards)] (.bool r.1) [.row 119 2 false (List.map Group.cs r.2.groups),.row 105 6 false (List.map Rule.cs r.2.rules),.row 107 5 false (List.map Guard.cs r.2.guards)]:=by
 refine contract_FP (R:=fun r=>.bool r.1) (O:=fun r=>[.row 119 2 false (List.map Group.cs r.2.groups),.row 105 6 false (List.map Rule.cs r.2.rules),.row 107 5 false (List.map Guard.cs r.2.guards)]) hF mix Tryz.func155 (by kernel_rfl) rfl (by kernel_rfl) rfl fun r hF=>?_
 unfold policy_rule at hF
 refine runX ?_
 refine rg ?_
 refine rg ?_
 obtain ⟨r1,h1,hF⟩:=bnd hF
 refine g_call (policy_next_c _ _ h1) rfl rfl (runX ?_)
 refine rg ?_
 obtain ⟨r2,h2,hF⟩:=bnd hF
 refine g_call (policy_next_c _ _ h2) rfl rfl (runX ?_)
 refine rg ?_
 obtain ⟨r3,h3,hF⟩:=bnd hF
 refine g_call (policy_rights_c _ h3) rfl rfl (runX ?_)
 obtain ⟨r4,h4,hF⟩:=bnd hF
 refine g_call (slices_Index_string_c _ _ _ h4) rfl rfl (runX ?_)
 refine rg ?_
 refine cS hF rfl (fun hF=>?_) fun hF=>?_
 ·refine rg ?_
  cases hF
  exact rp_ret rfl rfl rfl rfl rfl rfl
 refine rg ?_
 refine letk_elim hF fun k1 hk1 hF=>?_
 refine pws_join (α:=Int×Int×ByteArray) (fun a _=>mkS [(0,.ptr 0 (0,0) 0),(10,.ptr 10 (1,10) 0)] [(0,some ((0,0),.box [.row 1000 (1,1000),.row 1001 (1,1001),.row 1002 (1,1002)])),(10,some ((1,10),.box [.bool p2,.int .i64 (w64 (r4+1)),.str r2.1,.int .i64 a.1,.int .i64 a.2.1,.str a.2.2])),(1000,some ((1,1000),.row 119 2 false (List.map Group.cs p0.groups))),(1001,some ((1,1001),.row 105 6 false (List.map Rule.cs p0.rules))),(1002,some ((1,1002),.row 107 5 false (List.map Guard.cs p0.guards)))] 2) (fun a=>k1 a.1 a.2.1 a.2.2=some r) (runX ?_) (fun a _ hF=>?_)
 ·refine cS hF rfl (fun hF=>?_) fun hF=>?_
  ·refine rg ?_
   exact jn (1,0,(⟨#[]⟩:ByteArray)) hF (sR [(10,4,7),(1000,0,1000),(1001,0,1001),(1002,0,1002)])
  refine rg ?_
  obtain ⟨r12,h9,hF⟩:=bnd hF
  refine g_call (policy_spaces_c _ h9) rfl rfl (runX ?_)
  obtain ⟨r13,h10,hF⟩:=bnd hF
  refine g_call (slices_Index_string_c _ _ _ h10) rfl rfl (runX ?_)
  refine rg ?_
  refine cS hF rfl (fun hF=>?_) fun hF=>?_
  ·refine rg ?_
   exact jn (2,r13,(⟨#[]⟩:ByteArray)) hF (sR [(10,4,7),(1000,0,1000),(1001,0,1001),(1002,0,1002)])
  refine rg ?_
  obtain ⟨r14,h11,hF⟩:=bnd hF
  refine g_call (title_Parse_c _ _ h11) rfl rfl (runX ?_)
  refine rg ?_
  refine cS hF rfl (fun hF=>?_) fun hF=>?_
  ·refine rg ?_
   cases hF
   exact rp_ret rfl rfl rfl rfl rfl rfl
  refine rg ?_
  exact jn (3,r14.1.space,r14.1.name) hF (sR [(10,4,7),(1000,0,1000),(1001,0,1001),(1002,0,1002)])
 obtain ⟨x8,x9,x10⟩:=a
 subst hk1
 dsimp only at hF ⊢
 refine runX ?_
 refine rg ?_
 refine g_buildM (M:=([(⟨p2,(w64 (r4+1)),r2.1,(⟨x8,(⟨x9,x10⟩:Title)⟩:Scope)⟩:Rule)]:List Rule)) (f:=Rule.cs) rfl rfl rfl rfl (Nat.le_of_ble_eq_true rfl) rfl (runX ?_)
 obtain ⟨l11,h8,hF⟩:=bnd hF
 refine g_appR (f:=Rule.cs) rfl h8 (fun _=>rfl) rfl rfl rfl rfl (runX ?_)
 refine rg ?_
 cases hF
 exact rp_ret rfl rfl rfl rfl rfl rfl
def policy_guard (p0:Policy) (p1:ByteArray) (p2:Bool):Option (Bool×Policy):=
 (policy_next p1).bind fun r1=>
 (strings_Cut r1.2 (⟨#[124]⟩:ByteArray)).bind fun r2=>
 (strings_Trim r2.2.1 (⟨#[32,9]⟩:ByteArray)).bind fun r3=>
 (strings_Trim r2.1 (⟨#[32,9]⟩:ByteArray)).bind fun r4=>
 (title_Parse r4).bind fun r5=>
 letk (fun (x6:Bool)=>
  if x6 then
   (some (false,p0):Option (Bool×Policy))
  else
  (appL 64 p0.guards [(⟨p2,r1.1,r5.1,r3⟩:Guard)]).bind fun l7=>
  (some (true,(⟨p0.groups,p0.rules,l7⟩:Policy)):Option (Bool×Policy))) fun k1=>
 if (!decide (r5.2=0)) then
  k1 true
 else
 if r2.2.2 then
  k1 (decide (r3=(⟨#[]⟩:ByteArray)))
 else
 k1 false
theorem policy_guard_c (p0:Policy) (p1:ByteArray) (p2:Bool) (r:Bool×Policy) (hF:policy_guard p0 p1 p2=some r):ContractP Tryz.prog 156 [.ptr 0 (0,0) 0,.str p1,.bool p2] 0 [.row 119 2 false (List.map Group.cs p0.groups),.row 105 6 false (List.map Rule.cs p0.rules),.row 107 5 false (List.map Guard.cs p0.guards)] (.bool r.1) [.row 119 2 false (List.map Group.cs r.2.groups),.row 105 6 false (List.map Rule.cs r.2.rules),.row 107 5 false (List.map Guard.cs r.2.guards)]:=by
 refine contract_FP (R:=fun r=>.bool r.1) (O:=fun r=>[.row 119 2 false (List.map Group.cs r.2.groups),.row 105 6 false (List.map Rule.cs r.2.rules),.row 107 5 false (List.map Guard.cs r.2.guards)]) hF mix Tryz.func156 (by kernel_rfl) rfl (by kernel_rfl) rfl fun r hF=>?_
 unfold policy_guard at hF
 refine runX ?_
 refine rg ?_
 refine rg ?_
 obtain ⟨r1,h1,hF⟩:=bnd hF
 refine g_call (policy_next_c _ _ h1) rfl rfl (runX ?_)
 refine rg ?_
 obtain ⟨r2,h2,hF⟩:=bnd hF
 refine g_call (strings_Cut_c _ _ _ h2) rfl rfl (runX ?_)
 refine rg ?_
 obtain ⟨r3,h3,hF⟩:=bnd hF
 refine g_call (strings_Trim_c _ _ _ h3) rfl rfl (runX ?_)
 refine rg ?_
 obtain ⟨r4,h4,hF⟩:=bnd hF
 refine g_call (strings_Trim_c _ _ _ h4) rfl rfl (runX ?_)
 obtain ⟨r5,h5,hF⟩:=bnd hF
 refine g_call (title_Parse_c _ _ h5) rfl rfl (runX ?_)
 refine jL hF (fun x6=>mkS [(0,.ptr 0 (0,0) 0),(2,.bool p2),(7,.str r1.1),(9,.str r3),(11,.ptr 11 (1,11) 0),(40,.bool x6)] [(0,some ((0,0),.box [.row 1000 (1,1000),.row 1001 (1,1001),.row 1002 (1,1002)])),(11,some ((1,11),.box [.int .i64 r5.1.space,.str r5.1.name])),(1000,some ((1,1000),.row 119 2 false (List.map Group.cs p0.groups))),(1001,some ((1,1001),.row 105 6 false (List.map Rule.cs p0.rules))),(1002,some ((1,1002),.row 107 5 false (List.map Guard.cs p0.guards)))] 2) (fun k1 hF=>?_) fun x6 hF=>?_
 ·refine rg ?_
  refine kS 34 hF rfl (fun hF=>?_) fun hF=>?_
  ·iterate 5 refine g_skip rfl (runX ?_)
   exact jn true hF (sR [(11,5,6),(1000,0,1000),(1001,0,1001),(1002,0,1002)])
  refine kS 36 hF rfl (fun hF=>?_) fun hF=>?_
  ·exact jn (decide (r3=(⟨#[]⟩:ByteArray))) hF (sR [(11,5,6),(1000,0,1000),(1001,0,1001),(1002,0,1002)])
  iterate 2 refine g_skip rfl (runX ?_)
  exact jn false hF (sR [(11,5,6),(1000,0,1000),(1001,0,1001),(1002,0,1002)])
 refine cS hF rfl (fun hF=>?_) fun hF=>?_
 ·refine rg ?_
  cases hF
  exact rp_ret rfl rfl rfl rfl rfl rfl
 refine rg ?_
 refine g_buildM (M:=([(⟨p2,r1.1,r5.1,r3⟩:Guard)]:List Guard)) (f:=Guard.cs) rfl rfl rfl rfl (Nat.le_of_ble_eq_true rfl) rfl (runX ?_)
 obtain ⟨l7,h6,hF⟩:=bnd hF
 refine g_appR (f:=Guard.cs) rfl h6 (fun _=>rfl) rfl rfl rfl rfl (runX ?_)
 refine rg ?_
 cases hF
 exact rp_ret rfl rfl rfl rfl rfl rfl
def policy_statement (p0:Policy) (p1:ByteArray):Option (Bool×Policy):=
 (policy_next p1).bind fun r1=>
 letk (fun (x11:Bool)=>
  if x11 then
   (some (true,p0):Option (Bool×Policy))
  else
  if (decide (r1.1=(⟨#[103,114,111,117,112]⟩:ByteArray))) then
   (policy_group p0 r1.2).bind fun r12=>
   (some (r12.1,r12.2):Option (Bool×Policy))
  else
  letk (fun (x13:Bool)=>
   if x13 then
    (policy_rule p0 r1.2 (decide (r1.1=(⟨#[97,108,108,111,119]⟩:ByteArray)))).bind fun r14=>
    (some (r14.1,r14.2):Option (Bool×Policy))
   else
   letk (fun (x15:Bool)=>
    if x15 then
     (policy_guard p0 r1.2 (decide (r1.1=(⟨#[115,116,114,105,99,116]⟩:ByteArray)))).bind fun r16=>
     (some (r16.1,r16.2):Option (Bool×Policy))
    else
    (some (false,p0):Option (Bool×Policy))) fun k6=>
   if (decide (r1.1=(⟨#[103,117,97,114,100]⟩:ByteArray))) then
    k6 true
   else
   k6 (decide (r1.1=(⟨#[115,116,114,105,99,116]⟩:ByteArray)))) fun k5=>
  if (decide (r1.1=(⟨#[97,108,108,111,119]⟩:ByteArray))) then
   k5 true
  else
  k5 (decide (r1.1=(⟨#[100,101,110,121]⟩:ByteArray)))) fun k4=>
 if (decide (r1.1=(⟨#[]⟩:ByteArray))) then
  k4 true
 else
 (atS r1.1 0).bind fun c17=>
 k4 (decide (c17=35))
theorem policy_statement_c (p0:Policy) (p1:ByteArray) (r:Bool×Policy) (hF:policy_statement p0 p1=some r):ContractP Tryz.prog 122 [.ptr 0 (0,0) 0,.str p1] 0 [.row 119 2 false (List.map Group.cs p0.groups),.row 105 6 false (List.map Rule.cs p0.rules),.row 107 5 false (List.map Guard.cs p0.guards)] (.bool r.1) [.row 119 2 false (List.map Group.cs r.2.groups),.row 105 6 false (List.map Rule.cs r.2.rules),.row 107 5 false (List.map Guard.cs r.2.guards)]:=by
 refine contract_FP (R:=fun r=>.bool r.1) (O:=fun r=>[.row 119 2 false (List.map Group.cs r.2.groups),.row 105 6 false (List.map Rule.cs r.2.rules),.row 107 5 false (List.map Guard.cs r.2.guards)]) hF mix Tryz.func122 (by kernel_rfl) rfl (by kernel_rfl) rfl fun r hF=>?_
 unfold policy_statement at hF
 refine runX ?_
 refine rg ?_
 refine rg ?_
 obtain ⟨r1,h1,hF⟩:=bnd hF
 refine g_call (policy_next_c _ _ h1) rfl rfl (runX ?_)
 refine bl ?_
 refine jL hF (fun x11=>mkS [(0,.ptr 0 (0,0) 0),(5,.str r1.1),(6,.str r1.2),(12,.bool x11)] [(0,some ((0,0),.box [.row 1000 (1,1000),.row 1001 (1,1001),.row 1002 (1,1002)])),(1000,some ((1,1000),.row 119 2 false (List.map Group.cs p0.groups))),(1001,some ((1,1001),.row 105 6 false (List.map Rule.cs p0.rules))),(1002,some ((1,1002),.row 107 5 false (List.map Guard.cs p0.guards)))] 2) (fun k4 hF=>?_) fun x11 hF=>?_
 ·refine rg ?_
  refine kS 15 hF rfl (fun hF=>?_) fun hF=>?_
  ·iterate 3 refine g_skip rfl (runX ?_)
   exact jn true hF (sR [(1000,0,1000),(1001,0,1001),(1002,0,1002)])
  obtain ⟨c17,h11,hF⟩:=bnd hF
  refine g_indexSI StrT.eq rfl h11 rfl rfl (runX ?_)
  exact jn (decide (c17=35)) hF (sR [(1000,0,1000),(1001,0,1001),(1002,0,1002)])
 refine cS hF rfl (fun hF=>?_) fun hF=>?_
 ·refine rg ?_
  cases hF
  exact rp_ret rfl rfl rfl rfl rfl rfl
 refine rg ?_
 refine cS hF rfl (fun hF=>?_) fun hF=>?_
 ·refine rg ?_
  obtain ⟨r12,h8,hF⟩:=bnd hF
  refine g_callP (policy_group_c _ _ _ h8) rfl rfl rfl rfl rfl rfl rfl rfl (runX ?_)
  cases hF
  exact rp_ret rfl rfl rfl rfl rfl rfl
 refine jL hF (fun x13=>mkS [(0,.ptr 0 (0,0) 0),(5,.str r1.1),(6,.str r1.2),(26,.bool x13)] [(0,some ((0,0),.box [.row 1000 (1,1000),.row 1001 (1,1001),.row 1002 (1,1002)])),(1000,some ((1,1000),.row 119 2 false (List.map Group.cs p0.groups))),(1001,some ((1,1001),.row 105 6 false (List.map Rule.cs p0.rules))),(1002,some ((1,1002),.row 107 5 false (List.map Guard.cs p0.guards)))] 2) (fun k5 hF=>?_) fun x13 hF=>?_
 ·refine rg ?_
  refine kS 29 hF rfl (fun hF=>?_) fun hF=>?_
  ·iterate 2 refine g_skip rfl (runX ?_)
   exact jn true hF (sR [(1000,1,1000),(1001,1,1001),(1002,1,1002)])
  exact jn (decide (r1.1=(⟨#[100,101,110,121]⟩:ByteArray))) hF (sR [(1000,1,1000),(1001,1,1001),(1002,1,1002)])
 refine cS hF rfl (fun hF=>?_) fun hF=>?_
 ·refine rg ?_
  obtain ⟨r14,h9,hF⟩:=bnd hF
  refine g_callP (policy_rule_c _ _ _ _ h9) rfl rfl rfl rfl rfl rfl rfl rfl (runX ?_)
  cases hF
  exact rp_ret rfl rfl rfl rfl rfl rfl
 refine jL hF (fun x15=>mkS [(0,.ptr 0 (0,0) 0),(5,.str r1.1),(6,.str r1.2),(38,.bool x15)] [(0,some ((0,0),.box [.row 1000 (1,1000),.row 1001 (1,1001),.row 1002 (1,1002)])),(1000,some ((1,1000),.row 119 2 false (List.map Group.cs p0.groups))),(1001,some ((1,1001),.row 105 6 false (List.map Rule.cs p0.rules))),(1002,some ((1,1002),.row 107 5 false (List.map Guard.cs p0.guards)))] 2) (fun k6 hF=>?_) fun x15 hF=>?_
 ·refine rg ?_
  refine kS 41 hF rfl (fun hF=>?_) fun hF=>?_
  ·iterate 2 refine g_skip rfl (runX ?_)
   exact jn true hF (sR [(1000,1,1000),(1001,1,1001),(1002,1,1002)])
  exact jn (decide (r1.1=(⟨#[115,116,114,105,99,116]⟩:ByteArray))) hF (sR [(1000,1,1000),(1001,1,1001),(1002,1,1002)])
 refine cS hF rfl (fun hF=>?_) fun hF=>?_
 ·refine rg ?_
  obtain ⟨r16,h10,hF⟩:=bnd hF
  refine g_callP (policy_guard_c _ _ _ _ h10) rfl rfl rfl rfl rfl rfl rfl rfl (runX ?_)
  cases hF
  exact rp_ret rfl rfl rfl rfl rfl rfl
 refine rg ?_
 cases hF
 exact rp_ret rfl rfl rfl rfl rfl rfl
end Go.Proofs.YtphibahplgmgfaaGreatDoor
set_option linter.unusedVariables false
set_option maxHeartbeats 4000000
set_option maxRecDepth 100000
namespace Go.Proofs.YtphibahplgmgfaaGreatDoor
open VL
def policy_checkRule (p0:Policy) (p1:Rule):Option Int:=
 letk (fun (x1:Bool)=>
  if x1 then
   (some 2:Option Int)
  else
  (policy_exists p0 p1.group).bind fun r2=>
  if (!r2) then
   (some 4:Option Int)
  else
  letk (fun (x4:Bool)=>
   if (!x4) then
    (some 7:Option Int)
   else
   (some 0:Option Int)) fun k2=>
  if (decide (p1.scope.kind=1)) then
   k2 (decide (p1.scope.title=(⟨0,(⟨#[]⟩:ByteArray)⟩:Title)))
  else
  if (decide (p1.scope.kind=2)) then
   if (decide (0≤p1.scope.title.space)) then
    if (decide (p1.scope.title.space<6)) then
     k2 (decide (p1.scope.title.name=(⟨#[]⟩:ByteArray)))
    else
    k2 false
   else
   k2 false
  else
  if (decide (p1.scope.kind=3)) then
   (title_Valid p1.scope.title).bind fun r5=>
   k2 r5
  else
  k2 false) fun k1=>
 if (decide (p1.right<1)) then
  k1 true
 else
 k1 (decide (5<p1.right))
theorem policy_checkRule_c (p0:Policy) (p1:Rule) (r:Int) (hF:policy_checkRule p0 p1=some r):Contract0 Tryz.prog 158 [p0.pv,p1.pv] (.int .i64 r):=by
 refine cF (fun r=>.int .i64 r) hF mix Tryz.func158 fun r hF=>?_
 unfold policy_checkRule at hF
 refine runX ?_
 refine rg ?_
 refine jL hF (fun x1=>mkS [(2,.ptr 2 (1,2) 0),(3,.ptr 3 (1,3) 0),(14,.bool x1)] [(2,some ((1,2),.box [.sl (List.map Group.cs p0.groups),.sl (List.map Rule.cs p0.rules),.sl (List.map Guard.cs p0.guards)])),(3,some ((1,3),.box [.bool p1.allow,.int .i64 p1.right,.str p1.group,.int .i64 p1.scope.kind,.int .i64 p1.scope.title.space,.str p1.scope.title.name]))] 2) (fun k1 hF=>?_) fun x1 hF=>?_
 ·refine rg ?_
  refine kS 10 hF rfl (fun hF=>?_) fun hF=>?_
  ·iterate 3 refine g_skip rfl (runX ?_)
   exact jn true hF (sR [(2,1,0),(3,1,1)])
  exact jn (decide (5<p1.right)) hF (sR [(2,1,0),(3,1,1)])
 refine cS hF rfl (fun hF=>?_) fun hF=>?_
 ·refine rg ?_
  cases hF
  exact rQ
 refine rg ?_
 obtain ⟨r2,h1,hF⟩:=bnd hF
 refine g_call (policy_exists_c _ _ _ h1) rfl rfl (runX ?_)
 refine cS hF rfl (fun hF=>?_) fun hF=>?_
 ·refine rg ?_
  cases hF
  exact rQ
 refine rg ?_
 refine rg ?_
 refine rg ?_
 refine jL hF (fun x4=>mkS [(6,.bool x4)] [] 2) (fun k2 hF=>?_) fun x4 hF=>?_
 ·refine bl ?_
  refine rg ?_
  refine cS hF rfl (fun hF=>?_) fun hF=>?_
  ·refine rg ?_
   refine g_eqT (.inl rfl) rfl rfl rfl rfl rfl (fun W=>titleEql p1.scope.title (⟨0,(⟨#[]⟩:ByteArray)⟩:Title) W) (runX ?_)
   exact jn (decide (p1.scope.title=(⟨0,(⟨#[]⟩:ByteArray)⟩:Title))) hF (sR [])
  refine rg ?_
  refine cS hF rfl (fun hF=>?_) fun hF=>?_
  ·refine rg ?_
   refine kS 36 hF rfl (fun hF=>?_) fun hF=>?_
   ·refine kS 41 hF rfl (fun hF=>?_) fun hF=>?_
    ·exact jn (decide (p1.scope.title.name=(⟨#[]⟩:ByteArray))) hF (sR [])
    iterate 3 refine g_skip rfl (runX ?_)
    exact jn false hF (sR [])
   iterate 6 refine g_skip rfl (runX ?_)
   exact jn false hF (sR [])
  refine rg ?_
  refine cS hF rfl (fun hF=>?_) fun hF=>?_
  ·refine rg ?_
   obtain ⟨r5,h3,hF⟩:=bnd hF
   refine g_call (title_Valid_c _ _ h3) rfl rfl (runX ?_)
   exact jn r5 hF (sR [])
  exact jn false hF (sR [])
 refine rg ?_
 refine cS hF rfl (fun hF=>?_) fun hF=>?_
 ·refine rg ?_
  cases hF
  exact rQ
 refine rg ?_
 cases hF
 exact rQ
def policy_checkGuard (p0:Policy) (p1:Guard):Option Int:=
 (policy_exists p0 p1.group).bind fun r1=>
 if (!r1) then
  (some 4:Option Int)
 else
 letk (fun (x5:Bool)=>
  if x5 then
   (some 7:Option Int)
  else
  (some 0:Option Int)) fun k1=>
 (title_Valid p1.title).bind fun r6=>
 if (!r6) then
  k1 true
 else
 if (decide (100<(p1.section_.size:Int))) then
  k1 true
 else
 (strings_ContainsAny p1.section_ (⟨#[10,124]⟩:ByteArray)).bind fun r7=>
 if r7 then
  k1 true
 else
 (strings_Trim p1.section_ (⟨#[32,9]⟩:ByteArray)).bind fun r8=>
 k1 (!decide (r8=p1.section_))
theorem policy_checkGuard_c (p0:Policy) (p1:Guard) (r:Int) (hF:policy_checkGuard p0 p1=some r):Contract0 Tryz.prog 159 [p0.pv,p1.pv] (.int .i64 r):=by
 refine cF (fun r=>.int .i64 r) hF mix Tryz.func159 fun r hF=>?_
 unfold policy_checkGuard at hF
 refine runX ?_
 refine rg ?_
 refine rg ?_
 obtain ⟨r1,h1,hF⟩:=bnd hF
 refine g_call (policy_exists_c _ _ _ h1) rfl rfl (runX ?_)
 refine cS hF rfl (fun hF=>?_) fun hF=>?_
 ·refine rg ?_
  cases hF
  exact rQ
 refine jL hF (fun x5=>mkS [(32,.bool x5)] [] 2) (fun k1 hF=>?_) fun x5 hF=>?_
 ·refine rg ?_
  obtain ⟨r6,h5,hF⟩:=bnd hF
  refine g_call (title_Valid_c _ _ h5) rfl rfl (runX ?_)
  refine kS 14 hF rfl (fun hF=>?_) fun hF=>?_
  ·iterate 13 refine g_skip rfl (runX ?_)
   exact jn true hF (sR [])
  refine kS 20 hF rfl (fun hF=>?_) fun hF=>?_
  ·iterate 9 refine g_skip rfl (runX ?_)
   exact jn true hF (sR [])
  obtain ⟨r7,h6,hF⟩:=bnd hF
  refine g_call (strings_ContainsAny_c _ _ _ h6) rfl rfl (runX ?_)
  refine kS 25 hF rfl (fun hF=>?_) fun hF=>?_
  ·iterate 6 refine g_skip rfl (runX ?_)
   exact jn true hF (sR [])
  obtain ⟨r8,h7,hF⟩:=bnd hF
  refine g_call (strings_Trim_c _ _ _ h7) rfl rfl (runX ?_)
  exact jn (!decide (r8=p1.section_)) hF (sR [])
 refine cS hF rfl (fun hF=>?_) fun hF=>?_
 ·refine rg ?_
  cases hF
  exact rQ
 refine rg ?_
 cases hF
 exact rQ
end Go.Proofs.YtphibahplgmgfaaGreatDoor
