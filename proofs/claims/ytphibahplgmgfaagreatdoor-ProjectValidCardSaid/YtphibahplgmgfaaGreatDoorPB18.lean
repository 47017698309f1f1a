/- Functions of the program as Lean functions. Written by fxgen.py. | Functions of the program as Lean functions. Written by fxgen.py. -/
import Derived.Test.YtphibahplgmgfaaGreatDoorPB17
import Derived.Test.YtphibahplgmgfaaGreatDoorPB08
import Derived.Test.YtphibahplgmgfaaGreatDoorPB13
import Derived.Test.YtphibahplgmgfaaGreatDoorPB14
set_option linter.unusedVariables false
set_option maxHeartbeats 4000000
set_option maxRecDepth 100000
namespace Go.Proofs.YtphibahplgmgfaaGreatDoor
open VL
def r12_statement (p0:Policy) (p1:ByteArray):Option (Policy×Bool):=
 (r12_Words p1).bind fun r1=>
 letk (fun (x4:Bool)=>
  if x4 then
   (some (p0,true):Option (Policy×Bool))
  else
  (atI r1 0).bind fun e5=>
  if (decide (e5=(⟨#[103,114,111,117,112]⟩:ByteArray))) then
   if (decide ((r1.length:Int)<2)) then
    (some (p0,false):Option (Policy×Bool))
   else
   (appL 40 [] p0.groups).bind fun l32=>
   (atI r1 1).bind fun e33=>
   (subL r1 2 (r1.length:Int)).bind fun l34=>
   (appL 16 [] l34).bind fun l35=>
   (appL 40 l32 [(⟨e33,l35⟩:Group)]).bind fun l36=>
   (some ((⟨l36,p0.rules,p0.guards⟩:Policy),true):Option (Policy×Bool))
  else
  letk (fun (x37:Bool)=>
   if x37 then
    letk (fun (x40:Bool)=>
     if x40 then
      (some (p0,false):Option (Policy×Bool))
     else
     (r12_rest p1 3).bind fun r41=>
     (r12_readScope r41).bind fun r42=>
     (appL 64 [] p0.rules).bind fun l43=>
     (atI r1 0).bind fun e44=>
     (atI r1 1).bind fun e45=>
     (r12_RightOf e45).bind fun r46=>
     (atI r1 2).bind fun e47=>
     (appL 64 l43 [(⟨(decide (e44=(⟨#[97,108,108,111,119]⟩:ByteArray))),r46,e47,r42.1⟩:Rule)]).bind fun l48=>
     (some ((⟨p0.groups,l48,p0.guards⟩:Policy),r42.2):Option (Policy×Bool))) fun k6=>
    if (decide ((r1.length:Int)<4)) then
     k6 true
    else
    (atI r1 1).bind fun e49=>
    (r12_RightOf e49).bind fun r50=>
    k6 (decide (r50=0))
   else
   letk (fun (x51:Bool)=>
    if x51 then
     if (decide ((r1.length:Int)<3)) then
      (some (p0,false):Option (Policy×Bool))
     else
     (r12_rest p1 2).bind fun r52=>
     (r12_readGuard r52).bind fun r53=>
     (appL 64 [] p0.guards).bind fun l54=>
     (atI r1 0).bind fun e55=>
     (atI r1 1).bind fun e56=>
     (appL 64 l54 [(⟨(decide (e55=(⟨#[115,116,114,105,99,116]⟩:ByteArray))),e56,r53.1,r53.2.1⟩:Guard)]).bind fun l57=>
     (some ((⟨p0.groups,p0.rules,l57⟩:Policy),r53.2.2):Option (Policy×Bool))
    else
    (some (p0,false):Option (Policy×Bool))) fun k7=>
   if (decide (e5=(⟨#[103,117,97,114,100]⟩:ByteArray))) then
    k7 (decide (e5=(⟨#[103,117,97,114,100]⟩:ByteArray)))
   else
   k7 (decide (e5=(⟨#[115,116,114,105,99,116]⟩:ByteArray)))) fun k5=>
  if (decide (e5=(⟨#[97,108,108,111,119]⟩:ByteArray))) then
   k5 (decide (e5=(⟨#[97,108,108,111,119]⟩:ByteArray)))
  else
  k5 (decide (e5=(⟨#[100,101,110,121]⟩:ByteArray)))) fun k1=>
 if (decide ((r1.length:Int)=0)) then
  k1 true
 else
 (atI r1 0).bind fun e58=>
 (atS e58 0).bind fun c59=>
 k1 (decide (c59=35))
theorem r12_statement_c (p0:Policy) (p1:ByteArray) (r:Policy×Bool) (hF:r12_statement p0 p1=some r):Contract0 Tryz.prog 103 [p0.pv,.str p1] (.tup [r.1.pv,.bool r.2]):=by
 refine cF (fun r=>.tup [r.1.pv,.bool r.2]) hF mix Tryz.func103 fun r hF=>?_
 unfold r12_statement at hF
 refine runX ?_
 refine rg ?_
 refine rg ?_
 obtain ⟨r1,h1,hF⟩:=bnd hF
 refine g_call (r12_Words_c _ _ h1) rfl rfl (runX ?_)
 refine jL hF (fun x4=>mkS [(1,.str p1),(2,.ptr 2 (1,2) 0),(4,.ptr 4 (1,4) 0),(6,.sl (List.map csS r1)),(23,.bool x4)] [(2,some ((1,2),.box [.sl (List.map Group.cs p0.groups),.sl (List.map Rule.cs p0.rules),.sl (List.map Guard.cs p0.guards)])),(4,some ((1,4),.box [.nil,.nil,.nil]))] 2) (fun k1 hF=>?_) fun x4 hF=>?_
 ·refine rg ?_
  refine g_lenM rfl (M:=r1) (f:=csS) rfl (runX ?_)
  refine kS 17 hF rfl (fun hF=>?_) fun hF=>?_
  ·iterate 5 refine g_skip rfl (runX ?_)
   exact jn true hF (sR [(2,1,0),(4,1,1)])
  obtain ⟨e58,h51,hF⟩:=bnd hF
  refine g_indexI (f:=csS) rfl h51 rfl rfl rfl (runX ?_)
  obtain ⟨c59,h52,hF⟩:=bnd hF
  refine g_indexSI StrT.eq rfl h52 rfl rfl (runX ?_)
  exact jn (decide (c59=35)) hF (sR [(2,1,0),(4,1,1)])
 refine cS hF rfl (fun hF=>?_) fun hF=>?_
 ·refine rg ?_
  cases hF
  exact rQ
 refine rg ?_
 obtain ⟨e5,h4,hF⟩:=bnd hF
 refine g_indexI (f:=csS) rfl h4 rfl rfl rfl (runX ?_)
 refine bl ?_
 refine rg ?_
 refine cS hF rfl (fun hF=>?_) fun hF=>?_
 ·refine rg ?_
  refine g_lenM rfl (M:=r1) (f:=csS) rfl (runX ?_)
  refine cS hF rfl (fun hF=>?_) fun hF=>?_
  ·refine rg ?_
   cases hF
   exact rQ
  refine rg ?_
  obtain ⟨l32,h28,hF⟩:=bnd hF
  refine g_appN (f:=Group.cs) rfl h28 (fun _=>rfl) rfl rfl rfl (runX ?_)
  obtain ⟨e33,h29,hF⟩:=bnd hF
  refine g_indexI (f:=csS) rfl h29 rfl rfl rfl (runX ?_)
  obtain ⟨l34,h30,hF⟩:=bnd hF
  refine g_sliceM (f:=csS) rfl h30 (fun _=>rfl) rfl rfl rfl rfl (runX ?_)
  obtain ⟨l35,h31,hF⟩:=bnd hF
  refine g_appN (f:=csS) rfl h31 (fun _=>rfl) rfl rfl rfl (runX ?_)
  refine g_buildM (M:=([(⟨e33,l35⟩:Group)]:List Group)) (f:=Group.cs) rfl rfl rfl rfl (Nat.le_of_ble_eq_true rfl) rfl (runX ?_)
  obtain ⟨l36,h32,hF⟩:=bnd hF
  refine g_appR (f:=Group.cs) rfl h32 (fun _=>rfl) rfl rfl rfl rfl (runX ?_)
  refine rg ?_
  cases hF
  exact rQ
 refine rg ?_
 refine jL hF (fun x37=>mkS [(1,.str p1),(2,.ptr 2 (1,2) 0),(4,.ptr 4 (1,4) 0),(6,.sl (List.map csS r1)),(27,.str e5),(48,.bool x37)] [(2,some ((1,2),.box [.sl (List.map Group.cs p0.groups),.sl (List.map Rule.cs p0.rules),.sl (List.map Guard.cs p0.guards)])),(4,some ((1,4),.box [.nil,.nil,.nil]))] 2) (fun k5 hF=>?_) fun x37 hF=>?_
 ·refine cS hF rfl (fun hF=>?_) fun hF=>?_
  ·exact jn (decide (e5=(⟨#[97,108,108,111,119]⟩:ByteArray))) hF (sR [(2,1,2),(4,1,4)])
  refine rg ?_
  exact jn (decide (e5=(⟨#[100,101,110,121]⟩:ByteArray))) hF (sR [(2,1,2),(4,1,4)])
 refine cS hF rfl (fun hF=>?_) fun hF=>?_
 ·refine jL hF (fun x40=>mkS [(1,.str p1),(2,.ptr 2 (1,2) 0),(4,.ptr 4 (1,4) 0),(6,.sl (List.map csS r1)),(60,.bool x40)] [(2,some ((1,2),.box [.sl (List.map Group.cs p0.groups),.sl (List.map Rule.cs p0.rules),.sl (List.map Guard.cs p0.guards)])),(4,some ((1,4),.box [.nil,.nil,.nil]))] 2) (fun k6 hF=>?_) fun x40 hF=>?_
  ·refine rg ?_
   refine g_lenM rfl (M:=r1) (f:=csS) rfl (runX ?_)
   refine kS 54 hF rfl (fun hF=>?_) fun hF=>?_
   ·iterate 5 refine g_skip rfl (runX ?_)
    exact jn true hF (sR [(2,1,2),(4,1,4)])
   obtain ⟨e49,h43,hF⟩:=bnd hF
   refine g_indexI (f:=csS) rfl h43 rfl rfl rfl (runX ?_)
   obtain ⟨r50,h44,hF⟩:=bnd hF
   refine g_call (r12_RightOf_c _ _ h44) rfl rfl (runX ?_)
   exact jn (decide (r50=0)) hF (sR [(2,1,2),(4,1,4)])
  refine cS hF rfl (fun hF=>?_) fun hF=>?_
  ·refine rg ?_
   cases hF
   exact rQ
  refine rg ?_
  obtain ⟨r41,h35,hF⟩:=bnd hF
  refine g_call (r12_rest_c _ _ _ h35) rfl rfl (runX ?_)
  obtain ⟨r42,h36,hF⟩:=bnd hF
  refine g_call (r12_readScope_c _ _ h36) rfl rfl (runX ?_)
  refine rg ?_
  obtain ⟨l43,h37,hF⟩:=bnd hF
  refine g_appN (f:=Rule.cs) rfl h37 (fun _=>rfl) rfl rfl rfl (runX ?_)
  obtain ⟨e44,h38,hF⟩:=bnd hF
  refine g_indexI (f:=csS) rfl h38 rfl rfl rfl (runX ?_)
  obtain ⟨e45,h39,hF⟩:=bnd hF
  refine g_indexI (f:=csS) rfl h39 rfl rfl rfl (runX ?_)
  obtain ⟨r46,h40,hF⟩:=bnd hF
  refine g_call (r12_RightOf_c _ _ h40) rfl rfl (runX ?_)
  obtain ⟨e47,h41,hF⟩:=bnd hF
  refine g_indexI (f:=csS) rfl h41 rfl rfl rfl (runX ?_)
  refine g_buildM (M:=([(⟨(decide (e44=(⟨#[97,108,108,111,119]⟩:ByteArray))),r46,e47,r42.1⟩:Rule)]:List Rule)) (f:=Rule.cs) rfl rfl rfl rfl (Nat.le_of_ble_eq_true rfl) rfl (runX ?_)
  obtain ⟨l48,h42,hF⟩:=bnd hF
  refine g_appR (f:=Rule.cs) rfl h42 (fun _=>rfl) rfl rfl rfl rfl (runX ?_)
  refine rg ?_
  cases hF
  exact rQ
 refine rg ?_
 refine jL hF (fun x51=>mkS [(1,.str p1),(2,.ptr 2 (1,2) 0),(4,.ptr 4 (1,4) 0),(6,.sl (List.map csS r1)),(89,.bool x51)] [(2,some ((1,2),.box [.sl (List.map Group.cs p0.groups),.sl (List.map Rule.cs p0.rules),.sl (List.map Guard.cs p0.guards)])),(4,some ((1,4),.box [.nil,.nil,.nil]))] 2) (fun k7 hF=>?_) fun x51 hF=>?_
 ·refine cS hF rfl (fun hF=>?_) fun hF=>?_
  ·exact jn (decide (e5=(⟨#[103,117,97,114,100]⟩:ByteArray))) hF (sR [(2,1,2),(4,1,4)])
  refine rg ?_
  exact jn (decide (e5=(⟨#[115,116,114,105,99,116]⟩:ByteArray))) hF (sR [(2,1,2),(4,1,4)])
 refine cS hF rfl (fun hF=>?_) fun hF=>?_
 ·refine rg ?_
  refine g_lenM rfl (M:=r1) (f:=csS) rfl (runX ?_)
  refine cS hF rfl (fun hF=>?_) fun hF=>?_
  ·refine rg ?_
   cases hF
   exact rQ
  refine rg ?_
  obtain ⟨r52,h45,hF⟩:=bnd hF
  refine g_call (r12_rest_c _ _ _ h45) rfl rfl (runX ?_)
  obtain ⟨r53,h46,hF⟩:=bnd hF
  refine g_call (r12_readGuard_c _ _ h46) rfl rfl (runX ?_)
  refine rg ?_
  obtain ⟨l54,h47,hF⟩:=bnd hF
  refine g_appN (f:=Guard.cs) rfl h47 (fun _=>rfl) rfl rfl rfl (runX ?_)
  obtain ⟨e55,h48,hF⟩:=bnd hF
  refine g_indexI (f:=csS) rfl h48 rfl rfl rfl (runX ?_)
  obtain ⟨e56,h49,hF⟩:=bnd hF
  refine g_indexI (f:=csS) rfl h49 rfl rfl rfl (runX ?_)
  refine g_buildM (M:=([(⟨(decide (e55=(⟨#[115,116,114,105,99,116]⟩:ByteArray))),e56,r53.1,r53.2.1⟩:Guard)]:List Guard)) (f:=Guard.cs) rfl rfl rfl rfl (Nat.le_of_ble_eq_true rfl) rfl (runX ?_)
  obtain ⟨l57,h50,hF⟩:=bnd hF
  refine g_appR (f:=Guard.cs) rfl h50 (fun _=>rfl) rfl rfl rfl rfl (runX ?_)
  refine rg ?_
  cases hF
  exact rQ
 refine rg ?_
 cases hF
 exact rQ
def r12_Parse (p0:ByteArray):Option (Policy×Int×Int):=
 if (decide (8192<(p0.size:Int))) then
  (some ((⟨[],[],[]⟩:Policy),0,3):Option (Policy×Int×Int))
 else
 (r12_Lines p0).bind fun r1=>
 fixN bigN (fun f2 ((x22,x23,x24,x25):Int×(List Group)×(List Rule)×(List Guard))=>
  if (decide (x22<(r1.length:Int))) then
   (atI r1 x22).bind fun e32=>
   (r12_statement (⟨x23,x24,x25⟩:Policy) e32).bind fun r33=>
   if (!r33.2) then
    (some ((⟨[],[],[]⟩:Policy),(w64 (x22+1)),1):Option (Policy×Int×Int))
   else
   f2 ((w64 (x22+1)),r33.1.groups,r33.1.rules,r33.1.guards)
  else
  (r12_Validate (⟨x23,x24,x25⟩:Policy)).bind fun r34=>
  if (!decide (r34=0)) then
   (some ((⟨[],[],[]⟩:Policy),0,r34):Option (Policy×Int×Int))
  else
  (some ((⟨x23,x24,x25⟩:Policy),0,0):Option (Policy×Int×Int))) (0,[],[],[])
theorem r12_Parse_c (p0:ByteArray) (r:Policy×Int×Int) (hF:r12_Parse p0=some r):Contract0 Tryz.prog 69 [.str p0] (.tup [r.1.pv,.int .i64 r.2.1,.int .i64 r.2.2]):=by
 refine cF (fun r=>.tup [r.1.pv,.int .i64 r.2.1,.int .i64 r.2.2]) hF mix Tryz.func69 fun r hF=>?_
 unfold r12_Parse at hF
 refine runX ?_
 refine rg ?_
 refine rg ?_
 refine cS hF rfl (fun hF=>?_) fun hF=>?_
 ·refine rg ?_
  cases hF
  exact rQ
 refine rg ?_
 refine rg ?_
 obtain ⟨r1,h1,hF⟩:=bnd hF
 refine g_call (r12_Lines_c _ _ h1) rfl rfl (runX ?_)
 refine rg ?_
 refine bl ?_
 refine fix_elim hF fun f2 mf2 hf2 hF=>?_
 refine pws_loop (α:=Nat×(Int×(List Group)×(List Rule)×(List Guard))) (fun a _=>mkS [(2,.ptr 2 (1,2) 0),(5,.ptr 5 (1,5) 0),(6,.sl (List.map csS r1)),(7,.int .i64 a.2.1)] [(2,some ((1,2),.box [.nil,.nil,.nil])),(5,some ((1,5),.box [.sl (List.map Group.cs a.2.2.1),.sl (List.map Rule.cs a.2.2.2.1),.sl (List.map Guard.cs a.2.2.2.2)]))] 2) (fun a=>fixN a.1 f2 a.2=some r) (fun a=>a.1) (mf2,0,[],[],[]) 2 hF (Shift.trans (shift_B 5 rfl rfl) (Shift.trans (shift_B 5 rfl rfl) (Shift.trans (shift_B 5 rfl rfl) (sR [(2,1,0),(5,3,0)])))) (fun a _ hF=>?_)
 obtain ⟨mf2,x22,x23,x24,x25⟩:=a
 obtain ⟨mf2,rfl,hF⟩:=fix_step hf2 hF
 dsimp only at hF ⊢
 refine runX ?_
 refine rg ?_
 refine g_lenM rfl (M:=r1) (f:=csS) rfl (runX ?_)
 refine cS hF rfl (fun hF=>?_) fun hF=>?_
 ·refine bl ?_
  refine rg ?_
  obtain ⟨e32,h24,hF⟩:=bnd hF
  refine g_indexI (f:=csS) rfl h24 rfl rfl rfl (runX ?_)
  obtain ⟨r33,h25,hF⟩:=bnd hF
  refine g_call (r12_statement_c _ _ _ h25) rfl rfl (runX ?_)
  refine rg ?_
  refine cS hF rfl (fun hF=>?_) fun hF=>?_
  ·refine rg ?_
   cases hF
   exact rQ
  refine rg ?_
  refine rg ?_
  exact rn (mf2,(w64 (x22+1)),r33.1.groups,r33.1.rules,r33.1.guards) hF (sR [(2,1,2),(5,1,5)])
 refine rg ?_
 obtain ⟨r34,h26,hF⟩:=bnd hF
 refine g_call (r12_Validate_c _ _ h26) rfl rfl (runX ?_)
 refine rg ?_
 refine cS hF rfl (fun hF=>?_) fun hF=>?_
 ·refine rg ?_
  cases hF
  exact rQ
 refine rg ?_
 cases hF
 exact rQ
end Go.Proofs.YtphibahplgmgfaaGreatDoor
set_option linter.unusedVariables false
set_option maxHeartbeats 4000000
set_option maxRecDepth 100000
namespace Go.Proofs.YtphibahplgmgfaaGreatDoor
open VL
def r27_pages (p0:State):Option Bool:=
 letk (fun (x1:Bool)=>
  if x1 then
   (some false:Option Bool)
  else
  fixN bigN (fun f13 (x67:Int)=>
   if (decide (x67<(p0.pages.length:Int))) then
    (atI p0.pages x67).bind fun e98=>
    letk (fun (x103:Bool)=>
     if x103 then
      (some false:Option Bool)
     else
     f13 (w64 (x67+1))) fun k15=>
    (r1_Valid e98.title).bind fun r104=>
    if (!r104) then
     k15 true
    else
    (r27_history p0 e98.history).bind fun r105=>
    if (!r105) then
     k15 true
    else
    if (decide (0<x67)) then
     (atI p0.pages (w64 (x67 - 1))).bind fun e106=>
     (r1_Compare e106.title e98.title).bind fun r107=>
     k15 (decide (0≤r107))
    else
    k15 false
   else
   fixN bigN (fun f27 (x181:Int)=>
    if (decide (x181<(p0.gone.length:Int))) then
     letk (fun (x213:Bool)=>
      if x213 then
       (some false:Option Bool)
      else
      f27 (w64 (x181+1))) fun k29=>
     (atI p0.gone x181).bind fun e214=>
     (r1_Valid e214.title).bind fun r215=>
     if (!r215) then
      k29 true
     else
     (atI p0.gone x181).bind fun e216=>
     (r27_history p0 e216.history).bind fun r217=>
     k29 (!r217)
    else
    (r27_policy).bind fun r218=>
    (r27_Page p0 r218).bind fun r219=>
    if r219.2 then
     (r27_Current r219.1).bind fun r222=>
     (r12_Parse r222.text).bind fun r223=>
     (some (decide (r223.2.2=0)):Option Bool)
    else
    (some true:Option Bool)) 0) 0) fun k1=>
 if (decide (200<(p0.pages.length:Int))) then
  k1 true
 else
 k1 (decide (100<(p0.gone.length:Int)))
theorem r27_pages_c (p0:State) (r:Bool) (hF:r27_pages p0=some r):Contract0 Tryz.prog 107 [p0.pv] (.bool r):=by
 refine cF (fun r=>.bool r) hF mix Tryz.func107 fun r hF=>?_
 unfold r27_pages at hF
 refine runX ?_
 refine rg ?_
 refine jL hF (fun x1=>mkS [(1,.ptr 1 (1,1) 0),(20,.bool x1)] [(1,some ((1,1),.box [.int .i64 p0.seq,.int .i64 p0.clock,.sl (List.map Stored.cs p0.pages),.sl (List.map Stored.cs p0.gone),.sl (List.map Proposal.cs p0.proposals),.int .i64 p0.proposed,.sl (List.map Watch.cs p0.watches),.sl (List.map Last.cs p0.lasts)]))] 2) (fun k1 hF=>?_) fun x1 hF=>?_
 ·refine rg ?_
  refine g_lenM rfl (M:=p0.pages) (f:=Stored.cs) rfl (runX ?_)
  refine kS 15 hF rfl (fun hF=>?_) fun hF=>?_
  ·iterate 4 refine g_skip rfl (runX ?_)
   exact jn true hF (sR [(1,1,0)])
  refine g_lenM rfl (M:=p0.gone) (f:=Stored.cs) rfl (runX ?_)
  exact jn (decide (100<(p0.gone.length:Int))) hF (sR [(1,1,0)])
 refine cS hF rfl (fun hF=>?_) fun hF=>?_
 ·refine rg ?_
  cases hF
  exact rQ
 refine rg ?_
 refine bl ?_
 refine fix_elim hF fun f13 mf13 hf13 hF=>?_
 refine pws_loop (α:=Nat×Int) (fun a _=>mkS [(1,.ptr 1 (1,1) 0),(3,.int .i64 a.2)] [(1,some ((1,1),.box [.int .i64 p0.seq,.int .i64 p0.clock,.sl (List.map Stored.cs p0.pages),.sl (List.map Stored.cs p0.gone),.sl (List.map Proposal.cs p0.proposals),.int .i64 p0.proposed,.sl (List.map Watch.cs p0.watches),.sl (List.map Last.cs p0.lasts)]))] 2) (fun a=>fixN a.1 f13 a.2=some r) (fun a=>a.1) (mf13,0) 2 hF (sR [(1,1,1)]) (fun a _ hF=>?_)
 obtain ⟨mf13,x67⟩:=a
 obtain ⟨mf13,rfl,hF⟩:=fix_step hf13 hF
 dsimp only at hF ⊢
 refine runX ?_
 refine rg ?_
 refine g_lenM rfl (M:=p0.pages) (f:=Stored.cs) rfl (runX ?_)
 refine cS hF rfl (fun hF=>?_) fun hF=>?_
 ·refine bl ?_
  refine rg ?_
  obtain ⟨e98,h84,hF⟩:=bnd hF
  refine g_indexI (f:=Stored.cs) rfl h84 rfl rfl rfl (runX ?_)
  refine jL hF (fun x103=>mkS [(1,.ptr 1 (1,1) 0),(3,.int .i64 x67),(60,.bool x103)] [(1,some ((1,1),.box [.int .i64 p0.seq,.int .i64 p0.clock,.sl (List.map Stored.cs p0.pages),.sl (List.map Stored.cs p0.gone),.sl (List.map Proposal.cs p0.proposals),.int .i64 p0.proposed,.sl (List.map Watch.cs p0.watches),.sl (List.map Last.cs p0.lasts)]))] 2) (fun k15 hF=>?_) fun x103 hF=>?_
  ·refine rg ?_
   obtain ⟨r104,h89,hF⟩:=bnd hF
   refine g_call (r1_Valid_c _ _ h89) rfl rfl (runX ?_)
   refine kS 37 hF rfl (fun hF=>?_) fun hF=>?_
   ·iterate 20 refine g_skip rfl (runX ?_)
    exact jn true hF (sR [(1,1,1)])
   obtain ⟨r105,h90,hF⟩:=bnd hF
   refine g_call (r27_history_c _ _ _ h90) rfl rfl (runX ?_)
   refine kS 44 hF rfl (fun hF=>?_) fun hF=>?_
   ·iterate 15 refine g_skip rfl (runX ?_)
    exact jn true hF (sR [(1,1,1)])
   refine kS 47 hF rfl (fun hF=>?_) fun hF=>?_
   ·obtain ⟨e106,h91,hF⟩:=bnd hF
    refine g_indexI (f:=Stored.cs) rfl h91 rfl rfl rfl (runX ?_)
    obtain ⟨r107,h92,hF⟩:=bnd hF
    refine g_call (r1_Compare_c _ _ _ h92) rfl rfl (runX ?_)
    exact jn (decide (0≤r107)) hF (sR [(1,1,1)])
   iterate 11 refine g_skip rfl (runX ?_)
   exact jn false hF (sR [(1,1,1)])
  refine cS hF rfl (fun hF=>?_) fun hF=>?_
  ·refine rg ?_
   cases hF
   exact rQ
  refine rg ?_
  exact rn (mf13,(w64 (x67+1))) hF (sR [(1,1,1)])
 refine rg ?_
 refine bl ?_
 refine fix_elim hF fun f27 mf27 hf27 hF=>?_
 refine pws_loop (α:=Nat×Int) (fun a _=>mkS [(1,.ptr 1 (1,1) 0),(5,.int .i64 a.2)] [(1,some ((1,1),.box [.int .i64 p0.seq,.int .i64 p0.clock,.sl (List.map Stored.cs p0.pages),.sl (List.map Stored.cs p0.gone),.sl (List.map Proposal.cs p0.proposals),.int .i64 p0.proposed,.sl (List.map Watch.cs p0.watches),.sl (List.map Last.cs p0.lasts)]))] 2) (fun a=>fixN a.1 f27 a.2=some r) (fun a=>a.1) (mf27,0) 2 hF (sR [(1,1,1)]) (fun a _ hF=>?_)
 obtain ⟨mf27,x181⟩:=a
 obtain ⟨mf27,rfl,hF⟩:=fix_step hf27 hF
 dsimp only at hF ⊢
 refine runX ?_
 refine rg ?_
 refine g_lenM rfl (M:=p0.gone) (f:=Stored.cs) rfl (runX ?_)
 refine cS hF rfl (fun hF=>?_) fun hF=>?_
 ·refine bl ?_
  refine jL hF (fun x213=>mkS [(1,.ptr 1 (1,1) 0),(5,.int .i64 x181),(86,.bool x213)] [(1,some ((1,1),.box [.int .i64 p0.seq,.int .i64 p0.clock,.sl (List.map Stored.cs p0.pages),.sl (List.map Stored.cs p0.gone),.sl (List.map Proposal.cs p0.proposals),.int .i64 p0.proposed,.sl (List.map Watch.cs p0.watches),.sl (List.map Last.cs p0.lasts)]))] 2) (fun k29 hF=>?_) fun x213 hF=>?_
  ·refine rg ?_
   obtain ⟨e214,h185,hF⟩:=bnd hF
   refine g_indexI (f:=Stored.cs) rfl h185 rfl rfl rfl (runX ?_)
   obtain ⟨r215,h186,hF⟩:=bnd hF
   refine g_call (r1_Valid_c _ _ h186) rfl rfl (runX ?_)
   refine kS 76 hF rfl (fun hF=>?_) fun hF=>?_
   ·iterate 9 refine g_skip rfl (runX ?_)
    exact jn true hF (sR [(1,1,1)])
   obtain ⟨e216,h187,hF⟩:=bnd hF
   refine g_indexI (f:=Stored.cs) rfl h187 rfl rfl rfl (runX ?_)
   obtain ⟨r217,h188,hF⟩:=bnd hF
   refine g_call (r27_history_c _ _ _ h188) rfl rfl (runX ?_)
   exact jn (!r217) hF (sR [(1,1,1)])
  refine cS hF rfl (fun hF=>?_) fun hF=>?_
  ·refine rg ?_
   cases hF
   exact rQ
  refine rg ?_
  exact rn (mf27,(w64 (x181+1))) hF (sR [(1,1,1)])
 refine rg ?_
 obtain ⟨r218,h189,hF⟩:=bnd hF
 refine g_call (r27_policy_c _ h189) rfl rfl (runX ?_)
 obtain ⟨r219,h190,hF⟩:=bnd hF
 refine g_call (r27_Page_c _ _ _ h190) rfl rfl (runX ?_)
 refine rg ?_
 refine cS hF rfl (fun hF=>?_) fun hF=>?_
 ·refine rg ?_
  obtain ⟨r222,h193,hF⟩:=bnd hF
  refine g_call (r27_Current_c _ _ h193) rfl rfl (runX ?_)
  obtain ⟨r223,h194,hF⟩:=bnd hF
  refine g_call (r12_Parse_c _ _ h194) rfl rfl (runX ?_)
  refine rg ?_
  cases hF
  exact rQ
 refine rg ?_
 cases hF
 exact rQ
def r27_Valid (p0:State):Option Bool:=
 letk (fun (x1:Bool)=>
  if x1 then
   (some false:Option Bool)
  else
  letk (fun (x5:Bool)=>
   (some x5:Option Bool)) fun k2=>
  (r27_pages p0).bind fun r6=>
  if r6 then
   (r27_proposals p0).bind fun r7=>
   if r7 then
    (r27_lists p0).bind fun r8=>
    k2 r8
   else
   k2 false
  else
  k2 false) fun k1=>
 if (decide (p0.seq<0)) then
  k1 true
 else
 if (decide (1073741824<p0.seq)) then
  k1 true
 else
 if (decide (p0.clock<0)) then
  k1 true
 else
 k1 (decide (52595999<p0.clock))
theorem r27_Valid_c (p0:State) (r:Bool) (hF:r27_Valid p0=some r):Contract0 Tryz.prog 72 [p0.pv] (.bool r):=by
 refine cF (fun r=>.bool r) hF mix Tryz.func72 fun r hF=>?_
 unfold r27_Valid at hF
 refine runX ?_
 refine rg ?_
 refine jL hF (fun x1=>mkS [(1,.ptr 1 (1,1) 0),(20,.bool x1)] [(1,some ((1,1),.box [.int .i64 p0.seq,.int .i64 p0.clock,.sl (List.map Stored.cs p0.pages),.sl (List.map Stored.cs p0.gone),.sl (List.map Proposal.cs p0.proposals),.int .i64 p0.proposed,.sl (List.map Watch.cs p0.watches),.sl (List.map Last.cs p0.lasts)]))] 2) (fun k1 hF=>?_) fun x1 hF=>?_
 ·refine rg ?_
  refine kS 6 hF rfl (fun hF=>?_) fun hF=>?_
  ·iterate 9 refine g_skip rfl (runX ?_)
   exact jn true hF (sR [(1,1,0)])
  refine kS 11 hF rfl (fun hF=>?_) fun hF=>?_
  ·iterate 6 refine g_skip rfl (runX ?_)
   exact jn true hF (sR [(1,1,0)])
  refine kS 16 hF rfl (fun hF=>?_) fun hF=>?_
  ·iterate 3 refine g_skip rfl (runX ?_)
   exact jn true hF (sR [(1,1,0)])
  exact jn (decide (52595999<p0.clock)) hF (sR [(1,1,0)])
 refine cS hF rfl (fun hF=>?_) fun hF=>?_
 ·refine rg ?_
  cases hF
  exact rQ
 refine jL hF (fun x5=>mkS [(2,.bool x5)] [] 2) (fun k2 hF=>?_) fun x5 hF=>?_
 ·refine rg ?_
  obtain ⟨r6,h4,hF⟩:=bnd hF
  refine g_call (r27_pages_c _ _ h4) rfl rfl (runX ?_)
  refine kS 23 hF rfl (fun hF=>?_) fun hF=>?_
  ·obtain ⟨r7,h5,hF⟩:=bnd hF
   refine g_call (r27_proposals_c _ _ h5) rfl rfl (runX ?_)
   refine kS 27 hF rfl (fun hF=>?_) fun hF=>?_
   ·obtain ⟨r8,h6,hF⟩:=bnd hF
    refine g_call (r27_lists_c _ _ h6) rfl rfl (runX ?_)
    exact jn r8 hF (sR [])
   iterate 2 refine g_skip rfl (runX ?_)
   exact jn false hF (sR [])
  iterate 4 refine g_skip rfl (runX ?_)
  exact jn false hF (sR [])
 cases hF
 exact rQ
end Go.Proofs.YtphibahplgmgfaaGreatDoor
