/- Functions of the program as Lean functions. Written by fxgen.py. | Functions of the program as Lean functions. Written by fxgen.py. | Functions of the program as Lean functions. Written by fxgen.py. | The lines of the made policies, by the reference. No program is named. | The lines of the made policies, by the reference. No program is named. | The lines of the made policies, by the reference. No program is named. | The made policies, parsed by the reference. No program is named. | trcgen2.State returns a valid state. No program is named. | The views of made states. No program is named. -/
import Derived.Test.YtphibahplgmgfaaGreatDoorPB08
import Derived.Test.YtphibahplgmgfaaGreatDoorPB26
import Derived.Test.YtphibahplgmgfaaGreatDoorPB23
import Derived.Test.YtphibahplgmgfaaGreatDoorPB24
set_option linter.unusedVariables false
set_option maxHeartbeats 4000000
set_option maxRecDepth 100000
namespace Go.Proofs.YtphibahplgmgfaaGreatDoor
open VL
def access_Groups_1 (p0:ByteArray) (p1:Bool) (p2:ByteArray) (p3:List ByteArray):Option Bool:=
 letk (fun (x7:Bool)=>
  (some x7:Option Bool)) fun k1=>
 if p1 then
  if (decide (p0=p2)) then
   k1 true
  else
  if (decide (0<(p0.size:Int))) then
   (atS p0 0).bind fun c8=>
   if (decide (c8=64)) then
    (subS p0 1 (p0.size:Int)).bind fun l9=>
    (slices_Contains_string p3 l9).bind fun r10=>
    k1 r10
   else
   k1 false
  else
  k1 false
 else
 if (decide (0<(p0.size:Int))) then
  (atS p0 0).bind fun c11=>
  if (decide (c11=64)) then
   (subS p0 1 (p0.size:Int)).bind fun l12=>
   (slices_Contains_string p3 l12).bind fun r13=>
   k1 r13
  else
  k1 false
 else
 k1 false
theorem access_Groups_1_c (p0:ByteArray) (p1:Bool) (p2:ByteArray) (p3:List ByteArray) (r:Bool) (hF:access_Groups_1 p0 p1 p2 p3=some r):Contract0 Tryz.prog 84 [.str p0,.cel [.bool p1],.cel [.str p2],.cel [.sl (List.map csS p3)]] (.bool r):=by
 refine cF (fun r=>.bool r) hF mix Tryz.func84 fun r hF=>?_
 unfold access_Groups_1 at hF
 refine runX ?_
 refine rg ?_
 refine jL hF (fun x7=>mkS [(5,.bool x7)] [] 2) (fun k1 hF=>?_) fun x7 hF=>?_
 ·refine rg ?_
  refine kS 7 hF rfl (fun hF=>?_) fun hF=>?_
  ·refine kS 12 hF rfl (fun hF=>?_) fun hF=>?_
   ·iterate 14 refine g_skip rfl (runX ?_)
    exact jn true hF (sR [])
   refine kS 16 hF rfl (fun hF=>?_) fun hF=>?_
   ·obtain ⟨c8,h7,hF⟩:=bnd hF
    refine g_indexSI StrT.eq rfl h7 rfl rfl (runX ?_)
    refine kS 21 hF rfl (fun hF=>?_) fun hF=>?_
    ·obtain ⟨l9,h8,hF⟩:=bnd hF
     refine g_sliceSI StrT.eq rfl h8 rfl rfl rfl (runX ?_)
     obtain ⟨r10,h9,hF⟩:=bnd hF
     refine g_call (slices_Contains_string_c _ _ _ h9) rfl rfl (runX ?_)
     exact jn r10 hF (sR [])
    iterate 4 refine g_skip rfl (runX ?_)
    exact jn false hF (sR [])
   iterate 7 refine g_skip rfl (runX ?_)
   exact jn false hF (sR [])
  iterate 3 refine g_skip rfl (runX ?_)
  refine kS 16 hF rfl (fun hF=>?_) fun hF=>?_
  ·obtain ⟨c11,h10,hF⟩:=bnd hF
   refine g_indexSI StrT.eq rfl h10 rfl rfl (runX ?_)
   refine kS 21 hF rfl (fun hF=>?_) fun hF=>?_
   ·obtain ⟨l12,h11,hF⟩:=bnd hF
    refine g_sliceSI StrT.eq rfl h11 rfl rfl rfl (runX ?_)
    obtain ⟨r13,h12,hF⟩:=bnd hF
    refine g_call (slices_Contains_string_c _ _ _ h12) rfl rfl (runX ?_)
    exact jn r13 hF (sR [])
   iterate 4 refine g_skip rfl (runX ?_)
   exact jn false hF (sR [])
  iterate 7 refine g_skip rfl (runX ?_)
  exact jn false hF (sR [])
 cases hF
 exact rQ
def access_Groups (p0:Policy) (p1:ByteArray):Option (List ByteArray):=
 (policy_IsName p1).bind fun r1=>
 letk (fun (x3:List ByteArray)=>
  fixN bigN (fun f23 ((x138,x139):Bool×(List ByteArray))=>
   if x138 then
    fixN bigN (fun f26 ((x183,x184,x185):Bool×Int×(List ByteArray))=>
     if (decide (x184<(p0.groups.length:Int))) then
      letk (fun (x200:Bool) (x201:List ByteArray)=>
       f26 (x200,(w64 (x184+1)),x201)) fun k27=>
      (atI p0.groups x184).bind fun e202=>
      (slices_Contains_string x185 e202.name).bind fun r203=>
      if r203 then
       k27 x183 x185
      else
      (slices_ContainsFunc_string e202.members (fun y0=>access_Groups_1 y0 r1 p1 x185)).bind fun r204=>
      if r204 then
       (appL 16 x185 [e202.name]).bind fun l205=>
       k27 true l205
      else
      k27 x183 x185
     else
     f23 (x183,x185)) (false,0,x139)
   else
   (slices_Sort_string x139).bind fun r206=>
   (some r206:Option (List ByteArray))) (true,x3)) fun k1=>
 if r1 then
  (appL 16 [(⟨#[97,108,108]⟩:ByteArray)] [(⟨#[117,115,101,114,115]⟩:ByteArray)]).bind fun l207=>
  k1 l207
 else
 k1 [(⟨#[97,108,108]⟩:ByteArray)]
theorem access_Groups_c (p0:Policy) (p1:ByteArray) (r:List ByteArray) (hF:access_Groups p0 p1=some r):Contract0 Tryz.prog 48 [p0.pv,.str p1] (.sl (List.map csS r)):=by
 refine cF (fun r=>.sl (List.map csS r)) hF mix Tryz.func48 fun r hF=>?_
 unfold access_Groups at hF
 refine runX ?_
 refine rg ?_
 refine rg ?_
 refine g_buildM (M:=([(⟨#[97,108,108]⟩:ByteArray)]:List ByteArray)) (f:=csS) rfl rfl rfl rfl (Nat.le_of_ble_eq_true rfl) rfl (runX ?_)
 refine rg ?_
 obtain ⟨r1,h1,hF⟩:=bnd hF
 refine g_call (policy_IsName_c _ _ h1) rfl rfl (runX ?_)
 refine rg ?_
 refine jL hF (fun x3=>mkS [(2,.ptr 2 (1,2) 0),(3,.ptr 3 (1,3) 0),(5,.ptr 5 (1,5) 0),(6,.ptr 6 (1,6) 0)] [(2,some ((1,2),.box [.sl (List.map Group.cs p0.groups),.sl (List.map Rule.cs p0.rules),.sl (List.map Guard.cs p0.guards)])),(3,some ((1,3),.box [.str p1])),(5,some ((1,5),.box [.row 10 (1,10)])),(6,some ((1,6),.box [.bool r1])),(10,some ((1,10),.row 9 1 false (List.map csS x3)))] 2) (fun k1 hF=>?_) fun x3 hF=>?_
 ·refine cS hF rfl (fun hF=>?_) fun hF=>?_
  ·refine rg ?_
   refine g_buildM (M:=([(⟨#[117,115,101,114,115]⟩:ByteArray)]:List ByteArray)) (f:=csS) rfl rfl rfl rfl (Nat.le_of_ble_eq_true rfl) rfl (runX ?_)
   obtain ⟨l207,h148,hF⟩:=bnd hF
   refine g_appR (f:=csS) rfl h148 (fun _=>rfl) rfl rfl rfl rfl (runX ?_)
   exact jn l207 hF (sR [(2,1,0),(3,1,1),(5,2,1),(6,3,2),(10,5,2)])
  exact jn [(⟨#[97,108,108]⟩:ByteArray)] hF (sR [(2,1,0),(3,1,1),(5,2,1),(6,3,2),(10,2,0)])
 refine rg ?_
 refine bl ?_
 refine fix_elim hF fun f23 mf23 hf23 hF=>?_
 refine pws_loop (α:=Nat×(Bool×(List ByteArray))) (fun a _=>mkS [(2,.ptr 2 (1,2) 0),(3,.ptr 3 (1,3) 0),(5,.ptr 5 (1,5) 0),(6,.ptr 6 (1,6) 0),(7,.bool a.2.1)] [(2,some ((1,2),.box [.sl (List.map Group.cs p0.groups),.sl (List.map Rule.cs p0.rules),.sl (List.map Guard.cs p0.guards)])),(3,some ((1,3),.box [.str p1])),(5,some ((1,5),.box [.row 10 (1,10)])),(6,some ((1,6),.box [.bool r1])),(10,some ((1,10),.row 9 1 false (List.map csS a.2.2)))] 2) (fun a=>fixN a.1 f23 a.2=some r) (fun a=>a.1) (mf23,true,x3) 2 hF (sR [(2,1,2),(3,1,3),(5,1,5),(6,1,6),(10,1,10)]) (fun a _ hF=>?_)
 obtain ⟨mf23,x138,x139⟩:=a
 obtain ⟨mf23,rfl,hF⟩:=fix_step hf23 hF
 dsimp only at hF ⊢
 refine runX ?_
 refine rg ?_
 refine cS hF rfl (fun hF=>?_) fun hF=>?_
 ·refine bl ?_
  refine rg ?_
  refine rg ?_
  refine g_lenM rfl (M:=p0.groups) (f:=Group.cs) rfl (runX ?_)
  refine bl ?_
  refine fix_elim hF fun f26 mf26 hf26 hF=>?_
  refine pws_loop (α:=Nat×(Bool×Int×(List ByteArray))) (fun a _=>mkS [(2,.ptr 2 (1,2) 0),(3,.ptr 3 (1,3) 0),(5,.ptr 5 (1,5) 0),(6,.ptr 6 (1,6) 0),(7,.bool a.2.1),(19,.sl (List.map Group.cs p0.groups)),(20,.int .i64 (p0.groups.length:Int)),(21,.int .i64 a.2.2.1)] [(2,some ((1,2),.box [.sl (List.map Group.cs p0.groups),.sl (List.map Rule.cs p0.rules),.sl (List.map Guard.cs p0.guards)])),(3,some ((1,3),.box [.str p1])),(5,some ((1,5),.box [.row 10 (1,10)])),(6,some ((1,6),.box [.bool r1])),(10,some ((1,10),.row 9 1 false (List.map csS a.2.2.2)))] 2) (fun a=>fixN a.1 f26 a.2=some r) (fun a=>a.1) (mf26,false,0,x139) 2 hF (sR [(2,1,2),(3,1,3),(5,1,5),(6,1,6),(10,1,10)]) (fun a _ hF=>?_)
  obtain ⟨mf26,x183,x184,x185⟩:=a
  obtain ⟨mf26,rfl,hF⟩:=fix_step hf26 hF
  dsimp only at hF ⊢
  refine runX ?_
  refine rg ?_
  refine cS hF rfl (fun hF=>?_) fun hF=>?_
  ·refine letk_elim hF fun k27 hk27 hF=>?_
   refine pws_join (α:=Bool×(List ByteArray)) (fun a _=>mkS [(2,.ptr 2 (1,2) 0),(3,.ptr 3 (1,3) 0),(5,.ptr 5 (1,5) 0),(6,.ptr 6 (1,6) 0),(7,.bool a.1),(19,.sl (List.map Group.cs p0.groups)),(20,.int .i64 (p0.groups.length:Int)),(21,.int .i64 x184)] [(2,some ((1,2),.box [.sl (List.map Group.cs p0.groups),.sl (List.map Rule.cs p0.rules),.sl (List.map Guard.cs p0.guards)])),(3,some ((1,3),.box [.str p1])),(5,some ((1,5),.box [.row 10 (1,10)])),(6,some ((1,6),.box [.bool r1])),(10,some ((1,10),.row 9 1 false (List.map csS a.2)))] 2) (fun a=>k27 a.1 a.2=some r) (runX ?_) (fun a _ hF=>?_)
   ·refine bl ?_
    refine rg ?_
    obtain ⟨e202,h143,hF⟩:=bnd hF
    refine g_indexI (f:=Group.cs) rfl h143 rfl rfl rfl (runX ?_)
    refine rg ?_
    obtain ⟨r203,h144,hF⟩:=bnd hF
    refine g_look (slices_Contains_string_c _ _ _ h144) rfl rfl rfl (runX ?_)
    refine cS hF rfl (fun hF=>?_) fun hF=>?_
    ·exact jn (x183,x185) hF (sR [(2,1,2),(3,1,3),(5,1,5),(6,1,6),(10,1,10)])
    refine rg ?_
    refine g_makeFunc rfl rfl (runX ?_)
    obtain ⟨r204,h145,hF⟩:=bnd hF
    refine g_look (slices_ContainsFunc_string_c _ (fun y0=>access_Groups_1 y0 r1 p1 x185) 84 [[.bool r1],[.str p1],[.sl (List.map csS x185)]] (fun y0 r h=>access_Groups_1_c y0 r1 p1 x185 r h) _ h145) rfl rfl rfl (runX ?_)
    refine cS hF rfl (fun hF=>?_) fun hF=>?_
    ·refine rg ?_
     refine g_buildM (M:=([e202.name]:List ByteArray)) (f:=csS) rfl rfl rfl rfl (Nat.le_of_ble_eq_true rfl) rfl (runX ?_)
     obtain ⟨l205,h146,hF⟩:=bnd hF
     refine g_appR (f:=csS) rfl h146 (fun _=>rfl) rfl rfl rfl rfl (runX ?_)
     refine rg ?_
     exact jn (true,l205) hF (sR [(2,1,2),(3,1,3),(5,1,5),(6,1,6),(10,6,4)])
    exact jn (x183,x185) hF (sR [(2,1,2),(3,1,3),(5,1,5),(6,1,6),(10,1,10)])
   obtain ⟨x200,x201⟩:=a
   subst hk27
   dsimp only at hF ⊢
   refine runX ?_
   refine rg ?_
   exact rn (mf26,x200,(w64 (x184+1)),x201) hF (sR [(2,1,2),(3,1,3),(5,1,5),(6,1,6),(10,1,10)])
  exact rn (mf23,x183,x185) hF (sR [(2,1,2),(3,1,3),(5,1,5),(6,1,6),(10,1,10)])
 refine rg ?_
 obtain ⟨r206,h147,hF⟩:=bnd hF
 refine g_callM (slices_Sort_string_c _ _ h147) rfl rfl rfl (runX ?_)
 refine rg ?_
 cases hF
 exact rQ
end Go.Proofs.YtphibahplgmgfaaGreatDoor
set_option linter.unusedVariables false
set_option maxHeartbeats 4000000
set_option maxRecDepth 100000
namespace Go.Proofs.YtphibahplgmgfaaGreatDoor
open VL
def project_View (p0:State) (p1:ByteArray):Option View:=
 (edit_PolicyOf p0).bind fun r1=>
 (access_Groups r1 p1).bind fun r2=>
 fixN bigN (fun f7 ((x41,x42):Int×(List Page))=>
  if (decide (x41<(p0.pages.length:Int))) then
   letk (fun (x56:List Page)=>
    f7 ((w64 (x41+1)),x56)) fun k8=>
   (atI p0.pages x41).bind fun e57=>
   (access_May r1 r2 1 e57.title).bind fun r58=>
   if r58 then
    (state_Current e57).bind fun r59=>
    (appL 48 x42 [(⟨e57.title,r59.text,r59.number⟩:Page)]).bind fun l60=>
    k8 l60
   else
   k8 x42
  else
  (some (⟨x42,r1,r2,p0.clock,[]⟩:View):Option View)) (0,([]:List Page))
theorem project_View_c (p0:State) (p1:ByteArray) (r:View) (hF:project_View p0 p1=some r):Contract0 Tryz.prog 17 [p0.pv,.str p1] (r.pv):=by
 refine cF (fun r=>r.pv) hF mix Tryz.func17 fun r hF=>?_
 unfold project_View at hF
 refine runX ?_
 refine rg ?_
 refine rg ?_
 obtain ⟨r1,h1,hF⟩:=bnd hF
 refine g_call (edit_PolicyOf_c _ _ h1) rfl rfl (runX ?_)
 refine rg ?_
 obtain ⟨r2,h2,hF⟩:=bnd hF
 refine g_call (access_Groups_c _ _ _ h2) rfl rfl (runX ?_)
 refine rg ?_
 refine g_lenM rfl (M:=p0.pages) (f:=Stored.cs) rfl (runX ?_)
 refine bl ?_
 refine fix_elim hF fun f7 mf7 hf7 hF=>?_
 refine pws_loop (α:=Nat×(Int×(List Page))) (fun a _=>mkS [(4,.ptr 4 (1,4) 0),(5,.ptr 5 (1,5) 0),(6,.ptr 6 (1,6) 0),(20,.sl (List.map Stored.cs p0.pages)),(21,.int .i64 (p0.pages.length:Int)),(22,.int .i64 a.2.1)] [(4,some ((1,4),.box [.nil,.nil,.nil,.nil,.nil,.int .i64 0,.nil])),(5,some ((1,5),.box [.sl (List.map Group.cs r1.groups),.sl (List.map Rule.cs r1.rules),.sl (List.map Guard.cs r1.guards)])),(6,some ((1,6),.box [.row 1600 (1,1600),.sl (List.map Group.cs r1.groups),.sl (List.map Rule.cs r1.rules),.sl (List.map Guard.cs r1.guards),.sl (List.map csS r2),.int .i64 p0.clock,.nil])),(1600,some ((1,1600),.row 69 4 false (List.map Page.cs a.2.2)))] 2) (fun a=>fixN a.1 f7 a.2=some r) (fun a=>a.1) (mf7,0,([]:List Page)) 2 hF (Shift.trans (shift_rB 6 1600 0 69 4 rfl rfl rfl) (sR [(4,1,1),(5,2,2),(6,3,7),(1600,5,0)])) (fun a _ hF=>?_)
 obtain ⟨mf7,x41,x42⟩:=a
 obtain ⟨mf7,rfl,hF⟩:=fix_step hf7 hF
 dsimp only at hF ⊢
 refine runX ?_
 refine rg ?_
 refine cS hF rfl (fun hF=>?_) fun hF=>?_
 ·refine jL hF (fun x56=>mkS [(4,.ptr 4 (1,4) 0),(5,.ptr 5 (1,5) 0),(6,.ptr 6 (1,6) 0),(20,.sl (List.map Stored.cs p0.pages)),(21,.int .i64 (p0.pages.length:Int)),(22,.int .i64 x41)] [(4,some ((1,4),.box [.nil,.nil,.nil,.nil,.nil,.int .i64 0,.nil])),(5,some ((1,5),.box [.sl (List.map Group.cs r1.groups),.sl (List.map Rule.cs r1.rules),.sl (List.map Guard.cs r1.guards)])),(6,some ((1,6),.box [.row 1600 (1,1600),.sl (List.map Group.cs r1.groups),.sl (List.map Rule.cs r1.rules),.sl (List.map Guard.cs r1.guards),.sl (List.map csS r2),.int .i64 p0.clock,.nil])),(1600,some ((1,1600),.row 69 4 false (List.map Page.cs x56)))] 2) (fun k8 hF=>?_) fun x56 hF=>?_
  ·refine bl ?_
   refine rg ?_
   obtain ⟨e57,h47,hF⟩:=bnd hF
   refine g_indexI (f:=Stored.cs) rfl h47 rfl rfl rfl (runX ?_)
   refine rg ?_
   obtain ⟨r58,h48,hF⟩:=bnd hF
   refine g_call (access_May_c _ _ _ _ _ h48) rfl rfl (runX ?_)
   refine cS hF rfl (fun hF=>?_) fun hF=>?_
   ·refine rg ?_
    obtain ⟨r59,h49,hF⟩:=bnd hF
    refine g_call (state_Current_c _ _ h49) rfl rfl (runX ?_)
    refine rg ?_
    refine g_buildM (M:=([(⟨e57.title,r59.text,r59.number⟩:Page)]:List Page)) (f:=Page.cs) rfl rfl rfl rfl (Nat.le_of_ble_eq_true rfl) rfl (runX ?_)
    obtain ⟨l60,h50,hF⟩:=bnd hF
    refine g_appR (f:=Page.cs) rfl h50 (fun _=>rfl) rfl rfl rfl rfl (runX ?_)
    exact jn l60 hF (sR [(4,1,4),(5,1,5),(6,1,6),(1600,6,10)])
   exact jn x42 hF (sR [(4,1,4),(5,1,5),(6,1,6),(1600,1,1600)])
  refine rg ?_
  exact rn (mf7,(w64 (x41+1)),x56) hF (sR [(4,1,4),(5,1,5),(6,1,6),(1600,1,1600)])
 refine rg ?_
 cases hF
 exact rQ
def project_Readable (p0:State) (p1:ByteArray) (p2:Title):Option Bool:=
 (edit_PolicyOf p0).bind fun r1=>
 (state_Page p0 p2).bind fun r2=>
 letk (fun (x5:Bool)=>
  (some x5:Option Bool)) fun k1=>
 if r2.2 then
  (access_Groups r1 p1).bind fun r6=>
  (access_May r1 r6 1 p2).bind fun r7=>
  k1 r7
 else
 k1 false
theorem project_Readable_c (p0:State) (p1:ByteArray) (p2:Title) (r:Bool) (hF:project_Readable p0 p1 p2=some r):Contract0 Tryz.prog 19 [p0.pv,.str p1,p2.pv] (.bool r):=by
 refine cF (fun r=>.bool r) hF mix Tryz.func19 fun r hF=>?_
 unfold project_Readable at hF
 refine runX ?_
 refine rg ?_
 refine rg ?_
 obtain ⟨r1,h1,hF⟩:=bnd hF
 refine g_call (edit_PolicyOf_c _ _ h1) rfl rfl (runX ?_)
 refine rg ?_
 obtain ⟨r2,h2,hF⟩:=bnd hF
 refine g_call (state_Page_c _ _ _ h2) rfl rfl (runX ?_)
 refine jL hF (fun x5=>mkS [(6,.bool x5)] [] 2) (fun k1 hF=>?_) fun x5 hF=>?_
 ·refine rg ?_
  refine kS 19 hF rfl (fun hF=>?_) fun hF=>?_
  ·obtain ⟨r6,h5,hF⟩:=bnd hF
   refine g_call (access_Groups_c _ _ _ h5) rfl rfl (runX ?_)
   obtain ⟨r7,h6,hF⟩:=bnd hF
   refine g_call (access_May_c _ _ _ _ _ h6) rfl rfl (runX ?_)
   exact jn r7 hF (sR [])
  iterate 6 refine g_skip rfl (runX ?_)
  exact jn false hF (sR [])
 cases hF
 exact rQ
end Go.Proofs.YtphibahplgmgfaaGreatDoor
set_option linter.unusedVariables false
set_option maxHeartbeats 4000000
set_option maxRecDepth 100000
namespace Go.Proofs.YtphibahplgmgfaaGreatDoor
set_option maxRecDepth 100000 in
theorem refL0:r12_statement polS0 ⟨#[97,108,108,111,119,32,114,101,97,100,32,97,108,108,32,60,97,108,108,62]⟩=some (polS1,true):=by kernel_rfl
set_option maxRecDepth 100000 in
theorem refL3:r12_statement polS3 ⟨#[97,108,108,111,119,32,100,101,108,101,116,101,32,97,108,108,32,60,97,108,108,62]⟩=some (polS4,true):=by kernel_rfl
set_option maxRecDepth 100000 in
theorem refL6:r12_statement polS5 ⟨#[103,114,111,117,112,32,115,116,97,102,102,32,97,110,110]⟩=some (polS6,true):=by kernel_rfl
set_option maxRecDepth 100000 in
theorem refL9:r12_statement polS8 ⟨#[]⟩=some (polS8,true):=by kernel_rfl
set_option maxRecDepth 100000 in
theorem refL12:r12_statement polS10 ⟨#[103,117,97,114,100,32,115,116,97,102,102,32,66]⟩=some (polS11,true):=by kernel_rfl
set_option maxRecDepth 100000 in
theorem refL15:r12_statement polS12 ⟨#[103,114,111,117,112,32,109,111,114,101,32,98,111,98]⟩=some (polS13,true):=by kernel_rfl
set_option maxRecDepth 100000 in
theorem refL18:r12_statement polS15 ⟨#[97,108,108,111,119,32,114,101,97,100,32,97,108,108,32,60,67,97,116,101,103,111,114,121,62]⟩=some (polS16,true):=by kernel_rfl
set_option maxRecDepth 100000 in
theorem refL21:r12_statement polS18 ⟨#[97,108,108,111,119,32,114,101,118,105,101,119,32,115,116,97,102,102,32,60,97,108,108,62]⟩=some (polS19,true):=by kernel_rfl
set_option maxRecDepth 100000 in
theorem refL24:r12_statement polS21 ⟨#[97,108,108,111,119,32,114,101,97,100,32,115,116,97,102,102,32,60,97,108,108,62]⟩=some (polS22,true):=by kernel_rfl
set_option maxRecDepth 100000 in
theorem refL27:r12_statement polS5 ⟨#[100,101,110,121,32,114,101,97,100,32,97,108,108,32,66]⟩=some (polS24,true):=by kernel_rfl
set_option maxRecDepth 100000 in
theorem refL30:r12_statement polS5 ⟨#[100,101,110,121,32,101,100,105,116,32,97,108,108,32,66]⟩=some (polS26,true):=by kernel_rfl
set_option maxRecDepth 100000 in
theorem refL33:r12_statement polS6 ⟨#[100,101,110,121,32,114,101,118,105,101,119,32,97,108,108,32,60,97,108,108,62]⟩=some (polS28,true):=by kernel_rfl
set_option maxRecDepth 100000 in
theorem refL36:r12_statement polS30 ⟨#[103,117,97,114,100,32,115,116,97,102,102,32,68]⟩=some (polS31,true):=by kernel_rfl
end Go.Proofs.YtphibahplgmgfaaGreatDoor
namespace Go.Proofs.YtphibahplgmgfaaGreatDoor
set_option maxRecDepth 100000 in
theorem refL1:r12_statement polS1 ⟨#[97,108,108,111,119,32,101,100,105,116,32,97,108,108,32,60,97,108,108,62]⟩=some (polS2,true):=by kernel_rfl
set_option maxRecDepth 100000 in
theorem refL4:r12_statement polS4 ⟨#[97,108,108,111,119,32,114,101,118,105,101,119,32,97,108,108,32,60,97,108,108,62]⟩=some (polS5,true):=by kernel_rfl
set_option maxRecDepth 100000 in
theorem refL7:r12_statement polS6 ⟨#[100,101,110,121,32,114,101,97,100,32,97,108,108,32,65]⟩=some (polS7,true):=by kernel_rfl
set_option maxRecDepth 100000 in
theorem refL10:r12_statement polS6 ⟨#[103,117,97,114,100,32,115,116,97,102,102,32,65,32,124,32,83]⟩=some (polS9,true):=by kernel_rfl
set_option maxRecDepth 100000 in
theorem refL13:r12_statement polS11 ⟨#[]⟩=some (polS11,true):=by kernel_rfl
set_option maxRecDepth 100000 in
theorem refL16:r12_statement polS13 ⟨#[97,108,108,111,119,32,114,101,97,100,32,97,108,108,32,60,77,97,105,110,62]⟩=some (polS14,true):=by kernel_rfl
set_option maxRecDepth 100000 in
theorem refL19:r12_statement polS16 ⟨#[97,108,108,111,119,32,101,100,105,116,32,117,115,101,114,115,32,60,77,97,105,110,62]⟩=some (polS17,true):=by kernel_rfl
set_option maxRecDepth 100000 in
theorem refL22:r12_statement polS19 ⟨#[97,108,108,111,119,32,109,111,118,101,32,115,116,97,102,102,32,60,97,108,108,62]⟩=some (polS20,true):=by kernel_rfl
set_option maxRecDepth 100000 in
theorem refL25:r12_statement polS22 ⟨#[97,108,108,111,119,32,101,100,105,116,32,115,116,97,102,102,32,60,97,108,108,62]⟩=some (polS23,true):=by kernel_rfl
set_option maxRecDepth 100000 in
theorem refL28:r12_statement polS24 ⟨#[100,101,110,121,32,114,101,97,100,32,97,108,108,32,67,97,116,101,103,111,114,121,58,89]⟩=some (polS25,true):=by kernel_rfl
set_option maxRecDepth 100000 in
theorem refL31:r12_statement polS26 ⟨#[100,101,110,121,32,114,101,97,100,32,117,115,101,114,115,32,68]⟩=some (polS27,true):=by kernel_rfl
set_option maxRecDepth 100000 in
theorem refL34:r12_statement polS28 ⟨#[97,108,108,111,119,32,114,101,118,105,101,119,32,115,116,97,102,102,32,60,77,97,105,110,62]⟩=some (polS29,true):=by kernel_rfl
set_option maxRecDepth 100000 in
theorem refL37:r12_statement polS31 ⟨#[]⟩=some (polS31,true):=by kernel_rfl
end Go.Proofs.YtphibahplgmgfaaGreatDoor
namespace Go.Proofs.YtphibahplgmgfaaGreatDoor
set_option maxRecDepth 100000 in
theorem refL2:r12_statement polS2 ⟨#[97,108,108,111,119,32,109,111,118,101,32,97,108,108,32,60,97,108,108,62]⟩=some (polS3,true):=by kernel_rfl
set_option maxRecDepth 100000 in
theorem refL5:r12_statement polS5 ⟨#[]⟩=some (polS5,true):=by kernel_rfl
set_option maxRecDepth 100000 in
theorem refL8:r12_statement polS7 ⟨#[97,108,108,111,119,32,114,101,97,100,32,115,116,97,102,102,32,65,47,67]⟩=some (polS8,true):=by kernel_rfl
set_option maxRecDepth 100000 in
theorem refL11:r12_statement polS9 ⟨#[115,116,114,105,99,116,32,115,116,97,102,102,32,84,101,109,112,108,97,116,101,58,84]⟩=some (polS10,true):=by kernel_rfl
set_option maxRecDepth 100000 in
theorem refL14:r12_statement polS0 ⟨#[103,114,111,117,112,32,115,116,97,102,102,32,97,110,110,32,64,109,111,114,101]⟩=some (polS12,true):=by kernel_rfl
set_option maxRecDepth 100000 in
theorem refL17:r12_statement polS14 ⟨#[97,108,108,111,119,32,114,101,97,100,32,97,108,108,32,60,84,101,109,112,108,97,116,101,62]⟩=some (polS15,true):=by kernel_rfl
set_option maxRecDepth 100000 in
theorem refL20:r12_statement polS17 ⟨#[97,108,108,111,119,32,101,100,105,116,32,115,116,97,102,102,32,60,67,97,116,101,103,111,114,121,62]⟩=some (polS18,true):=by kernel_rfl
set_option maxRecDepth 100000 in
theorem refL23:r12_statement polS20 ⟨#[97,108,108,111,119,32,100,101,108,101,116,101,32,115,116,97,102,102,32,60,97,108,108,62]⟩=some (polS21,true):=by kernel_rfl
set_option maxRecDepth 100000 in
theorem refL26:r12_statement polS23 ⟨#[]⟩=some (polS23,true):=by kernel_rfl
set_option maxRecDepth 100000 in
theorem refL29:r12_statement polS25 ⟨#[]⟩=some (polS25,true):=by kernel_rfl
set_option maxRecDepth 100000 in
theorem refL32:r12_statement polS27 ⟨#[]⟩=some (polS27,true):=by kernel_rfl
set_option maxRecDepth 100000 in
theorem refL35:r12_statement polS29 ⟨#[103,117,97,114,100,32,115,116,97,102,102,32,65]⟩=some (polS30,true):=by kernel_rfl
end Go.Proofs.YtphibahplgmgfaaGreatDoor
namespace Go.Proofs.YtphibahplgmgfaaGreatDoor
set_option maxRecDepth 100000 in
theorem refPol0:r12_Parse ⟨#[97,108,108,111,119,32,114,101,97,100,32,97,108,108,32,60,97,108,108,62,10,97,108,108,111,119,32,101,100,105,116,32,97,108,108,32,60,97,108,108,62,10,97,108,108,111,119,32,109,111,118,101,32,97,108,108,32,60,97,108,108,62,10,97,108,108,111,119,32,100,101,108,101,116,101,32,97,108,108,32,60,97,108,108,62,10,97,108,108,111,119,32,114,101,118,105,101,119,32,97,108,108,32,60,97,108,108,62,10]⟩=some (polS5,0,0):=parse_of (lines:=[⟨#[97,108,108,111,119,32,114,101,97,100,32,97,108,108,32,60,97,108,108,62]⟩,⟨#[97,108,108,111,119,32,101,100,105,116,32,97,108,108,32,60,97,108,108,62]⟩,⟨#[97,108,108,111,119,32,109,111,118,101,32,97,108,108,32,60,97,108,108,62]⟩,⟨#[97,108,108,111,119,32,100,101,108,101,116,101,32,97,108,108,32,60,97,108,108,62]⟩,⟨#[97,108,108,111,119,32,114,101,118,105,101,119,32,97,108,108,32,60,97,108,108,62]⟩,⟨#[]⟩]) (by kernel_rfl) (by kernel_rfl) (by kernel_rfl) (.cons refL0 (.cons refL1 (.cons refL2 (.cons refL3 (.cons refL4 (.cons refL5 .nil)))))) (by kernel_rfl)
set_option maxRecDepth 100000 in
theorem refPol1:r12_Parse ⟨#[97,108,108,111,119,32,114,101,97,100,32,97,108,108,32,60,97,108,108,62,10,97,108,108,111,119,32,101,100,105,116,32,97,108,108,32,60,97,108,108,62,10,97,108,108,111,119,32,109,111,118,101,32,97,108,108,32,60,97,108,108,62,10,97,108,108,111,119,32,100,101,108,101,116,101,32,97,108,108,32,60,97,108,108,62,10,97,108,108,111,119,32,114,101,118,105,101,119,32,97,108,108,32,60,97,108,108,62,10,103,114,111,117,112,32,115,116,97,102,102,32,97,110,110,10,100,101,110,121,32,114,101,97,100,32,97,108,108,32,65,10,97,108,108,111,119,32,114,101,97,100,32,115,116,97,102,102,32,65,47,67,10]⟩=some (polS8,0,0):=parse_of (lines:=[⟨#[97,108,108,111,119,32,114,101,97,100,32,97,108,108,32,60,97,108,108,62]⟩,⟨#[97,108,108,111,119,32,101,100,105,116,32,97,108,108,32,60,97,108,108,62]⟩,⟨#[97,108,108,111,119,32,109,111,118,101,32,97,108,108,32,60,97,108,108,62]⟩,⟨#[97,108,108,111,119,32,100,101,108,101,116,101,32,97,108,108,32,60,97,108,108,62]⟩,⟨#[97,108,108,111,119,32,114,101,118,105,101,119,32,97,108,108,32,60,97,108,108,62]⟩,⟨#[103,114,111,117,112,32,115,116,97,102,102,32,97,110,110]⟩,⟨#[100,101,110,121,32,114,101,97,100,32,97,108,108,32,65]⟩,⟨#[97,108,108,111,119,32,114,101,97,100,32,115,116,97,102,102,32,65,47,67]⟩,⟨#[]⟩]) (by kernel_rfl) (by kernel_rfl) (by kernel_rfl) (.cons refL0 (.cons refL1 (.cons refL2 (.cons refL3 (.cons refL4 (.cons refL6 (.cons refL7 (.cons refL8 (.cons refL9 .nil))))))))) (by kernel_rfl)
set_option maxRecDepth 100000 in
theorem refPol2:r12_Parse ⟨#[97,108,108,111,119,32,114,101,97,100,32,97,108,108,32,60,97,108,108,62,10,97,108,108,111,119,32,101,100,105,116,32,97,108,108,32,60,97,108,108,62,10,97,108,108,111,119,32,109,111,118,101,32,97,108,108,32,60,97,108,108,62,10,97,108,108,111,119,32,100,101,108,101,116,101,32,97,108,108,32,60,97,108,108,62,10,97,108,108,111,119,32,114,101,118,105,101,119,32,97,108,108,32,60,97,108,108,62,10,103,114,111,117,112,32,115,116,97,102,102,32,97,110,110,10,103,117,97,114,100,32,115,116,97,102,102,32,65,32,124,32,83,10,115,116,114,105,99,116,32,115,116,97,102,102,32,84,101,109,112,108,97,116,101,58,84,10,103,117,97,114,100,32,115,116,97,102,102,32,66,10]⟩=some (polS11,0,0):=parse_of (lines:=[⟨#[97,108,108,111,119,32,114,101,97,100,32,97,108,108,32,60,97,108,108,62]⟩,⟨#[97,108,108,111,119,32,101,100,105,116,32,97,108,108,32,60,97,108,108,62]⟩,⟨#[97,108,108,111,119,32,109,111,118,101,32,97,108,108,32,60,97,108,108,62]⟩,⟨#[97,108,108,111,119,32,100,101,108,101,116,101,32,97,108,108,32,60,97,108,108,62]⟩,⟨#[97,108,108,111,119,32,114,101,118,105,101,119,32,97,108,108,32,60,97,108,108,62]⟩,⟨#[103,114,111,117,112,32,115,116,97,102,102,32,97,110,110]⟩,⟨#[103,117,97,114,100,32,115,116,97,102,102,32,65,32,124,32,83]⟩,⟨#[115,116,114,105,99,116,32,115,116,97,102,102,32,84,101,109,112,108,97,116,101,58,84]⟩,⟨#[103,117,97,114,100,32,115,116,97,102,102,32,66]⟩,⟨#[]⟩]) (by kernel_rfl) (by kernel_rfl) (by kernel_rfl) (.cons refL0 (.cons refL1 (.cons refL2 (.cons refL3 (.cons refL4 (.cons refL6 (.cons refL10 (.cons refL11 (.cons refL12 (.cons refL13 .nil)))))))))) (by kernel_rfl)
set_option maxRecDepth 100000 in
theorem refPol3:r12_Parse ⟨#[103,114,111,117,112,32,115,116,97,102,102,32,97,110,110,32,64,109,111,114,101,10,103,114,111,117,112,32,109,111,114,101,32,98,111,98,10,97,108,108,111,119,32,114,101,97,100,32,97,108,108,32,60,77,97,105,110,62,10,97,108,108,111,119,32,114,101,97,100,32,97,108,108,32,60,84,101,109,112,108,97,116,101,62,10,97,108,108,111,119,32,114,101,97,100,32,97,108,108,32,60,67,97,116,101,103,111,114,121,62,10,97,108,108,111,119,32,101,100,105,116,32,117,115,101,114,115,32,60,77,97,105,110,62,10,97,108,108,111,119,32,101,100,105,116,32,115,116,97,102,102,32,60,67,97,116,101,103,111,114,121,62,10,97,108,108,111,119,32,114,101,118,105,101,119,32,115,116,97,102,102,32,60,97,108,108,62,10,97,108,108,111,119,32,109,111,118,101,32,115,116,97,102,102,32,60,97,108,108,62,10,97,108,108,111,119,32,100,101,108,101,116,101,32,115,116,97,102,102,32,60,97,108,108,62,10,97,108,108,111,119,32,114,101,97,100,32,115,116,97,102,102,32,60,97,108,108,62,10,97,108,108,111,119,32,101,100,105,116,32,115,116,97,102,102,32,60,97,108,108,62,10]⟩=some (polS23,0,0):=parse_of (lines:=[⟨#[103,114,111,117,112,32,115,116,97,102,102,32,97,110,110,32,64,109,111,114,101]⟩,⟨#[103,114,111,117,112,32,109,111,114,101,32,98,111,98]⟩,⟨#[97,108,108,111,119,32,114,101,97,100,32,97,108,108,32,60,77,97,105,110,62]⟩,⟨#[97,108,108,111,119,32,114,101,97,100,32,97,108,108,32,60,84,101,109,112,108,97,116,101,62]⟩,⟨#[97,108,108,111,119,32,114,101,97,100,32,97,108,108,32,60,67,97,116,101,103,111,114,121,62]⟩,⟨#[97,108,108,111,119,32,101,100,105,116,32,117,115,101,114,115,32,60,77,97,105,110,62]⟩,⟨#[97,108,108,111,119,32,101,100,105,116,32,115,116,97,102,102,32,60,67,97,116,101,103,111,114,121,62]⟩,⟨#[97,108,108,111,119,32,114,101,118,105,101,119,32,115,116,97,102,102,32,60,97,108,108,62]⟩,⟨#[97,108,108,111,119,32,109,111,118,101,32,115,116,97,102,102,32,60,97,108,108,62]⟩,⟨#[97,108,108,111,119,32,100,101,108,101,116,101,32,115,116,97,102,102,32,60,97,108,108,62]⟩,⟨#[97,108,108,111,119,32,114,101,97,100,32,115,116,97,102,102,32,60,97,108,108,62]⟩,⟨#[97,108,108,111,119,32,101,100,105,116,32,115,116,97,102,102,32,60,97,108,108,62]⟩,⟨#[]⟩]) (by kernel_rfl) (by kernel_rfl) (by kernel_rfl) (.cons refL14 (.cons refL15 (.cons refL16 (.cons refL17 (.cons refL18 (.cons refL19 (.cons refL20 (.cons refL21 (.cons refL22 (.cons refL23 (.cons refL24 (.cons refL25 (.cons refL26 .nil))))))))))))) (by kernel_rfl)
set_option maxRecDepth 100000 in
theorem refPol4:r12_Parse ⟨#[97,108,108,111,119,32,114,101,97,100,32,97,108,108,32,60,97,108,108,62,10,97,108,108,111,119,32,101,100,105,116,32,97,108,108,32,60,97,108,108,62,10,97,108,108,111,119,32,109,111,118,101,32,97,108,108,32,60,97,108,108,62,10,97,108,108,111,119,32,100,101,108,101,116,101,32,97,108,108,32,60,97,108,108,62,10,97,108,108,111,119,32,114,101,118,105,101,119,32,97,108,108,32,60,97,108,108,62,10,100,101,110,121,32,114,101,97,100,32,97,108,108,32,66,10,100,101,110,121,32,114,101,97,100,32,97,108,108,32,67,97,116,101,103,111,114,121,58,89,10]⟩=some (polS25,0,0):=parse_of (lines:=[⟨#[97,108,108,111,119,32,114,101,97,100,32,97,108,108,32,60,97,108,108,62]⟩,⟨#[97,108,108,111,119,32,101,100,105,116,32,97,108,108,32,60,97,108,108,62]⟩,⟨#[97,108,108,111,119,32,109,111,118,101,32,97,108,108,32,60,97,108,108,62]⟩,⟨#[97,108,108,111,119,32,100,101,108,101,116,101,32,97,108,108,32,60,97,108,108,62]⟩,⟨#[97,108,108,111,119,32,114,101,118,105,101,119,32,97,108,108,32,60,97,108,108,62]⟩,⟨#[100,101,110,121,32,114,101,97,100,32,97,108,108,32,66]⟩,⟨#[100,101,110,121,32,114,101,97,100,32,97,108,108,32,67,97,116,101,103,111,114,121,58,89]⟩,⟨#[]⟩]) (by kernel_rfl) (by kernel_rfl) (by kernel_rfl) (.cons refL0 (.cons refL1 (.cons refL2 (.cons refL3 (.cons refL4 (.cons refL27 (.cons refL28 (.cons refL29 .nil)))))))) (by kernel_rfl)
set_option maxRecDepth 100000 in
theorem refPol5:r12_Parse ⟨#[97,108,108,111,119,32,114,101,97,100,32,97,108,108,32,60,97,108,108,62,10,97,108,108,111,119,32,101,100,105,116,32,97,108,108,32,60,97,108,108,62,10,97,108,108,111,119,32,109,111,118,101,32,97,108,108,32,60,97,108,108,62,10,97,108,108,111,119,32,100,101,108,101,116,101,32,97,108,108,32,60,97,108,108,62,10,97,108,108,111,119,32,114,101,118,105,101,119,32,97,108,108,32,60,97,108,108,62,10,100,101,110,121,32,101,100,105,116,32,97,108,108,32,66,10,100,101,110,121,32,114,101,97,100,32,117,115,101,114,115,32,68,10]⟩=some (polS27,0,0):=parse_of (lines:=[⟨#[97,108,108,111,119,32,114,101,97,100,32,97,108,108,32,60,97,108,108,62]⟩,⟨#[97,108,108,111,119,32,101,100,105,116,32,97,108,108,32,60,97,108,108,62]⟩,⟨#[97,108,108,111,119,32,109,111,118,101,32,97,108,108,32,60,97,108,108,62]⟩,⟨#[97,108,108,111,119,32,100,101,108,101,116,101,32,97,108,108,32,60,97,108,108,62]⟩,⟨#[97,108,108,111,119,32,114,101,118,105,101,119,32,97,108,108,32,60,97,108,108,62]⟩,⟨#[100,101,110,121,32,101,100,105,116,32,97,108,108,32,66]⟩,⟨#[100,101,110,121,32,114,101,97,100,32,117,115,101,114,115,32,68]⟩,⟨#[]⟩]) (by kernel_rfl) (by kernel_rfl) (by kernel_rfl) (.cons refL0 (.cons refL1 (.cons refL2 (.cons refL3 (.cons refL4 (.cons refL30 (.cons refL31 (.cons refL32 .nil)))))))) (by kernel_rfl)
set_option maxRecDepth 100000 in
theorem refPol6:r12_Parse ⟨#[97,108,108,111,119,32,114,101,97,100,32,97,108,108,32,60,97,108,108,62,10,97,108,108,111,119,32,101,100,105,116,32,97,108,108,32,60,97,108,108,62,10,97,108,108,111,119,32,109,111,118,101,32,97,108,108,32,60,97,108,108,62,10,97,108,108,111,119,32,100,101,108,101,116,101,32,97,108,108,32,60,97,108,108,62,10,97,108,108,111,119,32,114,101,118,105,101,119,32,97,108,108,32,60,97,108,108,62,10]⟩=some (polS5,0,0):=parse_of (lines:=[⟨#[97,108,108,111,119,32,114,101,97,100,32,97,108,108,32,60,97,108,108,62]⟩,⟨#[97,108,108,111,119,32,101,100,105,116,32,97,108,108,32,60,97,108,108,62]⟩,⟨#[97,108,108,111,119,32,109,111,118,101,32,97,108,108,32,60,97,108,108,62]⟩,⟨#[97,108,108,111,119,32,100,101,108,101,116,101,32,97,108,108,32,60,97,108,108,62]⟩,⟨#[97,108,108,111,119,32,114,101,118,105,101,119,32,97,108,108,32,60,97,108,108,62]⟩,⟨#[]⟩]) (by kernel_rfl) (by kernel_rfl) (by kernel_rfl) (.cons refL0 (.cons refL1 (.cons refL2 (.cons refL3 (.cons refL4 (.cons refL5 .nil)))))) (by kernel_rfl)
set_option maxRecDepth 100000 in
theorem refPol7:r12_Parse ⟨#[97,108,108,111,119,32,114,101,97,100,32,97,108,108,32,60,97,108,108,62,10,97,108,108,111,119,32,101,100,105,116,32,97,108,108,32,60,97,108,108,62,10,97,108,108,111,119,32,109,111,118,101,32,97,108,108,32,60,97,108,108,62,10,97,108,108,111,119,32,100,101,108,101,116,101,32,97,108,108,32,60,97,108,108,62,10,97,108,108,111,119,32,114,101,118,105,101,119,32,97,108,108,32,60,97,108,108,62,10,103,114,111,117,112,32,115,116,97,102,102,32,97,110,110,10,100,101,110,121,32,114,101,118,105,101,119,32,97,108,108,32,60,97,108,108,62,10,97,108,108,111,119,32,114,101,118,105,101,119,32,115,116,97,102,102,32,60,77,97,105,110,62,10,103,117,97,114,100,32,115,116,97,102,102,32,65,10,103,117,97,114,100,32,115,116,97,102,102,32,68,10]⟩=some (polS31,0,0):=parse_of (lines:=[⟨#[97,108,108,111,119,32,114,101,97,100,32,97,108,108,32,60,97,108,108,62]⟩,⟨#[97,108,108,111,119,32,101,100,105,116,32,97,108,108,32,60,97,108,108,62]⟩,⟨#[97,108,108,111,119,32,109,111,118,101,32,97,108,108,32,60,97,108,108,62]⟩,⟨#[97,108,108,111,119,32,100,101,108,101,116,101,32,97,108,108,32,60,97,108,108,62]⟩,⟨#[97,108,108,111,119,32,114,101,118,105,101,119,32,97,108,108,32,60,97,108,108,62]⟩,⟨#[103,114,111,117,112,32,115,116,97,102,102,32,97,110,110]⟩,⟨#[100,101,110,121,32,114,101,118,105,101,119,32,97,108,108,32,60,97,108,108,62]⟩,⟨#[97,108,108,111,119,32,114,101,118,105,101,119,32,115,116,97,102,102,32,60,77,97,105,110,62]⟩,⟨#[103,117,97,114,100,32,115,116,97,102,102,32,65]⟩,⟨#[103,117,97,114,100,32,115,116,97,102,102,32,68]⟩,⟨#[]⟩]) (by kernel_rfl) (by kernel_rfl) (by kernel_rfl) (.cons refL0 (.cons refL1 (.cons refL2 (.cons refL3 (.cons refL4 (.cons refL6 (.cons refL33 (.cons refL34 (.cons refL35 (.cons refL36 (.cons refL37 .nil))))))))))) (by kernel_rfl)
end Go.Proofs.YtphibahplgmgfaaGreatDoor
namespace Go.Proofs.YtphibahplgmgfaaGreatDoor
open VL
set_option linter.unusedVariables false
set_option maxRecDepth 100000 in
theorem policy_ok:∀ t ∈ policyG,∃ p,r12_Parse t=some (p,0,0):=by
 intro t ht
 unfold policyG at ht
 rcases List.mem_cons.1 ht with e | ht
 ·exact ⟨_,e ▸ refPol0⟩
 rcases List.mem_cons.1 ht with e | ht
 ·exact ⟨_,e ▸ refPol1⟩
 rcases List.mem_cons.1 ht with e | ht
 ·exact ⟨_,e ▸ refPol2⟩
 rcases List.mem_cons.1 ht with e | ht
 ·exact ⟨_,e ▸ refPol3⟩
 rcases List.mem_cons.1 ht with e | ht
 ·exact ⟨_,e ▸ refPol4⟩
 rcases List.mem_cons.1 ht with e | ht
 ·exact ⟨_,e ▸ refPol5⟩
 rcases List.mem_cons.1 ht with e | ht
 ·exact ⟨_,e ▸ refPol6⟩
 rcases List.mem_cons.1 ht with e | ht
 ·exact ⟨_,e ▸ refPol7⟩
 cases ht
set_option maxRecDepth 100000 in
theorem policy_le_all:policyG.all (fun t=>decide (t.size≤8192))=true:=by kernel_rfl
theorem policy_le (t:ByteArray) (h:t ∈ policyG):t.size≤8192:=of_decide_eq_true (List.all_eq_true.1 policy_le_all t h)
def begun (t:ByteArray):State:=⟨1,0,[⟨policyT,[⟨1,⟨#[]⟩,⟨#[]⟩,t,0,1⟩]⟩],[],[],0,[],[]⟩
def zeroState:State:=⟨0,0,[],[],[],0,[],[]⟩
def putPol (t:ByteArray):Change:=⟨1,⟨#[]⟩,⟨#[]⟩,policyT,⟨0,⟨#[]⟩⟩,t,0,[]⟩
set_option maxRecDepth 100000 in
theorem zero_valid:r27_Valid zeroState=some true:=by kernel_rfl
set_option maxRecDepth 100000 in
theorem policyT_valid:policyT.valid=true:=by kernel_rfl
theorem fixN_one {α β:Type} (F:(α→Option β)→α→Option β) (a:α):fixN bigN F a=F (fixN 4611686018427387903 F) a:=rfl
theorem fixN_two {α β:Type} (F:(α→Option β)→α→Option β) (a:α):fixN 4611686018427387903 F a=F (fixN 4611686018427387902 F) a:=rfl
theorem putPol_cv (t:ByteArray) (ht:t.size≤8192):r26_Valid (putPol t)=some 0:=by
 refine tot_eq ?_
 unfold r26_Valid
 refine tot_bindE (v:=true) ?_ ?_
 ·rfl
 refine tot_ifF rfl ?_
 refine tot_bindE (v:=true) ?_ ?_
 ·refine tot_eq ?_
  unfold r26_within
  refine tot_let0 ?_
  refine tot_ifN (fun _=>?_) fun h=>absurd (show (1:Int)=6 from h) (by decide)
  refine tot_ifN (fun _=>?_) fun h=>absurd (show (1:Int)=10 from h) (by decide)
  refine tot_bindE (v:=true) (by show some policyT.valid=_;rw [policyT_valid]) ?_
  refine tot_ifF rfl ?_
  refine tot_bindE (isUser26_e _) ?_
  exact tot_some rfl
 refine tot_ifF rfl ?_
 refine tot_let0 ?_
 refine tot_ifD (fun h=>absurd h (by show ¬ 8192<(t.size:Int);omega)) fun _=>?_
 refine tot_ifF rfl ?_
 exact tot_some rfl
theorem begin_e (t:ByteArray) (ht:t.size≤8192) (hp:∃ p n,r12_Parse t=some (p,n,0)):g2_Begin t=some (begun t):=by
 obtain ⟨p,n,hp⟩:=hp
 refine tot_eq ?_
 unfold g2_Begin
 refine tot_bindE (v:=policyT) rfl ?_
 refine tot_bindE (v:=(begun t,0)) ?_ (tot_some rfl)
 refine tot_eq ?_
 unfold r27_Apply
 refine tot_bindE zero_valid ?_
 refine tot_ifF rfl ?_
 refine tot_let0 ?_
 refine tot_ifD (fun h=>absurd (show (1:Int)<1 from h) (by decide)) fun _=>?_
 refine tot_ifF rfl ?_
 rw [fixN_one]
 dsimp only
 refine tot_ifT rfl ?_
 refine tot_bindE (v:=putPol t) rfl ?_
 refine tot_bindE (putPol_cv t ht) ?_
 refine tot_ifF rfl ?_
 refine tot_bindE (v:=putPol t) rfl ?_
 refine tot_bindE (v:=(⟨0,0,[⟨policyT,[⟨1,⟨#[]⟩,⟨#[]⟩,t,0,1⟩]⟩],[],[],0,[],[]⟩,0)) rfl ?_
 refine tot_ifF rfl ?_
 refine tot_bindE (v:=putPol t) rfl ?_
 refine tot_bindE (v:=false) ?_ ?_
 ·refine tot_eq ?_
  unfold r27_forbidden
  refine tot_ifT rfl ?_
  refine tot_bindE (v:=policyT) rfl ?_
  refine tot_ifN (fun h=>absurd rfl h) fun _=>?_
  refine tot_bindE hp ?_
  exact tot_some rfl
 refine tot_ifF rfl ?_
 refine tot_bindE (v:=putPol t) rfl ?_
 refine tot_bindE (v:=(⟨0,0,[⟨policyT,[⟨1,⟨#[]⟩,⟨#[]⟩,t,0,1⟩]⟩],[],[],0,[],[]⟩,0)) rfl ?_
 refine tot_ifF rfl ?_
 rw [fixN_two]
 exact tot_some rfl
theorem begun_vs (t:ByteArray) (ht:t.size≤8192):VS t 1 (begun t):=by
 refine ⟨by show (0:Int)≤1;decide,by show (0:Int)≤0;decide,by show (0:Int)≤52595999;decide,by simp [begun],by simp [begun],fun p hp=>?_,fun p hp=>by simp [begun] at hp,List.pairwise_singleton ..,fun p hp _=>?_,by simp [begun],by show (0:Int)≤0;decide,by show (0:Int)≤1073741824;decide,(fun p hp=>by simp [begun] at hp),(fun p hp=>by simp [begun] at hp),List.Pairwise.nil,by simp [begun],fun p hp=>by simp [begun] at hp,List.Pairwise.nil,by simp [begun],fun p hp=>by simp [begun] at hp,List.Pairwise.nil⟩
 ·simp [begun] at hp
  subst hp
  refine ⟨policyT_valid,by simp,by simp,fun i r hr=>?_,fun r hr=>?_,List.pairwise_singleton ..⟩
  ·cases i with
   | zero=>injection hr with hr;subst hr;rfl
   | succ i=>simp at hr
  ·simp at hr
   subst hr
   exact ⟨ht,Nat.zero_le _,rfl,Int.le_refl _,Int.le_refl _,Int.le_refl _,Int.le_refl _⟩
 ·simp [begun] at hp
  subst hp
  rfl
structure Made (s:State) (m:Int):Prop where
 ex:∃ t ∈ policyG,VS t s.seq s
 seq:s.seq≤m
 clock:s.clock≤4000 * m
theorem apply_made {s:State} {m:Int} {l:List Change} (h:Made s m) (hm:m≤1000) (hl:∀ c ∈ l,c.tame) (hn:l.length≤2):Tot (r27_Apply s l) fun r=>r.2=0→Made r.1 (m+1):=by
 obtain ⟨⟨t,ht,hv⟩,h1,h2⟩:=h
 obtain ⟨p,hp⟩:=policy_ok t ht
 have hs:s.seq<1073741824:=by omega
 refine (apply_t hv hs ⟨p,0,hp⟩ hl (by omega)).mono fun r hr h0=>?_
 obtain ⟨k1,k2,k3,k4⟩:=hr h0
 exact ⟨⟨t,ht,k1⟩,by omega,by omega⟩
theorem Made.mono {s:State} {m m':Int} (h:Made s m) (hm:m≤m'):Made s m':=⟨h.ex,Int.le_trans h.seq hm,by have:=h.clock;omega⟩
theorem after_t (s:State) (r:SrcF) (n m:Int) (h:Made s m) (hr:r.ok) (hn:0≤n) (hm:m+n≤1000):Tot (g2_After s r n) fun q=>Made q.1 (m+n):=by
 have m0:0≤m:=by obtain ⟨t,ht,hv⟩:=h.ex;have:=hv.seq0;have:=h.seq;omega
 unfold g2_After
 refine tot_loop (fun a:Int×List Int×Int×Int×Int×Int×List Stored×List Stored×List Proposal×Int×List Watch×List Last=>(0≤a.1∧a.1≤n)∧(⟨a.2.1,a.2.2.1,a.2.2.2.1⟩:SrcF).ok∧Made ⟨a.2.2.2.2.1,a.2.2.2.2.2.1,a.2.2.2.2.2.2.1,a.2.2.2.2.2.2.2.1,a.2.2.2.2.2.2.2.2.1,a.2.2.2.2.2.2.2.2.2.1,a.2.2.2.2.2.2.2.2.2.2.1,a.2.2.2.2.2.2.2.2.2.2.2⟩ (m+n - a.1)) (fun a=>a.1.toNat) ⟨⟨hn,Int.le_refl _⟩,hr,h.mono (by dsimp only;omega)⟩ (by dsimp only;omega) ?_
 rintro ⟨i,l,p,sd,sq,cl,pg,gn,pr,pd,wt,ls⟩ rec ⟨⟨h1,h2⟩,h3,h4⟩ ih
 dsimp only at h1 h2 h3 h4
 refine tot_ifD (fun hlt=>?_) fun hlt=>?_
 ·refine tot_let0 ?_
  refine tot_bind (changes_t _ cl h3) fun c hc=>?_
  rw [w64_of (by omega) (by omega)]
  refine tot_bind (apply_made h4 (by omega) hc.1 hc.2.1) fun r hr=>?_
  refine tot_ifD (fun h0=>?_) fun _=>?_
  ·refine ih _ ⟨⟨by dsimp only;omega,by dsimp only;omega⟩,hc.2.2,(hr h0).mono (by dsimp only;omega)⟩ (by first | omega | (dsimp only;omega))
  ·refine ih _ ⟨⟨by dsimp only;omega,by dsimp only;omega⟩,hc.2.2,h4.mono (by dsimp only;omega)⟩ (by first | omega | (dsimp only;omega))
 ·exact tot_some (h4.mono (by omega))
theorem state_t (l:List Int) (hl:l.length≤9223372036854775807):Tot (g2_State l) fun s=>Made s 20:=by
 unfold g2_State
 refine tot_bind (from_t l hl) fun s hs=>?_
 refine tot_bind (policy_t s hs) fun r hr=>?_
 obtain ⟨p,hp⟩:=policy_ok r.1 hr.1
 have hsz:=policy_le r.1 hr.1
 refine tot_bindE (begin_e r.1 hsz ⟨p,0,hp⟩) ?_
 have hb:Made (begun r.1) 1:=⟨⟨r.1,hr.1,begun_vs r.1 hsz⟩,Int.le_refl _,by show (0:Int)≤4000 * 1;decide⟩
 refine tot_bind (next_t _ 5 hr.2 (by omega) (by omega)) fun q hq=>?_
 rw [w64_of (by omega) (by omega)]
 refine tot_loop (fun a:Int×Int×Int×List Stored×List Stored×List Proposal×Int×List Watch×List Last×List Int×Int×Int=>(0≤a.1∧a.1≤3+q.1)∧(⟨a.2.2.2.2.2.2.2.2.2.1,a.2.2.2.2.2.2.2.2.2.2.1,a.2.2.2.2.2.2.2.2.2.2.2⟩:SrcF).ok∧Made ⟨a.2.1,a.2.2.1,a.2.2.2.1,a.2.2.2.2.1,a.2.2.2.2.2.1,a.2.2.2.2.2.2.1,a.2.2.2.2.2.2.2.1,a.2.2.2.2.2.2.2.2.1⟩ (1+a.1)) (fun a=>(3+q.1 - a.1).toNat) ⟨⟨by dsimp only;omega,by dsimp only;omega⟩,hq.2,hb⟩ (by dsimp only;omega) ?_
 rintro ⟨i,sq,cl,pg,gn,pr,pd,wt,ls,li,ps,sd⟩ rec ⟨⟨h1,h2⟩,h3,h4⟩ ih
 dsimp only at h1 h2 h3 h4
 refine tot_ifD (fun hlt=>?_) fun hlt=>?_
 ·refine tot_let0 ?_
  refine tot_bind (user_t _ h3) fun u hu=>?_
  refine tot_bindE (v:=titleG) rfl ?_
  refine tot_atI h1 (by show i<8;omega) fun e he _=>?_
  refine tot_bind (text_t _ hu.2) fun x hx=>?_
  rw [w64_of (by omega) (by omega)]
  refine tot_bind (apply_made h4 (by omega) (fun c hc=>?_) (by simp)) fun r hr=>?_
  ·simp at hc
   subst hc
   exact ⟨titles_ne e he,zero_ne,by simp,by simp,by simp,hx.1⟩
  refine tot_ifD (fun h0=>?_) fun _=>?_
  ·exact ih _ ⟨⟨by dsimp only;omega,by dsimp only;omega⟩,hx.2,(hr h0).mono (by dsimp only;omega)⟩ (by first | omega | (dsimp only;omega))
  ·exact ih _ ⟨⟨by dsimp only;omega,by dsimp only;omega⟩,hx.2,h4.mono (by dsimp only;omega)⟩ (by first | omega | (dsimp only;omega))
 ·refine tot_bind (next_t _ 7 h3 (by omega) (by omega)) fun a ha=>?_
  refine tot_bind (after_t _ _ _ (1+i) h4 ha.2 ha.1.1 (by omega)) fun r hr=>?_
  exact tot_some (hr.mono (by omega))
end Go.Proofs.YtphibahplgmgfaaGreatDoor
namespace Go.Proofs.YtphibahplgmgfaaGreatDoor
open VL
set_option linter.unusedVariables false
def polsG:List Policy:=[polS0,polS5,polS8,polS11,polS23,polS25,polS27,polS31]
theorem polsG0:polS0 ∈ polsG:=.head _
set_option maxRecDepth 100000 in
theorem polsG_le_all:polsG.all (fun p=>decide (p.rules.length≤100)&&decide (p.guards.length≤100)&&decide (p.groups.length≤100)&&p.groups.all (fun g=>decide (g.members.length≤100)))=true:=by kernel_rfl
theorem polsG_le (p:Policy) (h:p ∈ polsG):p.rules.length≤100∧p.guards.length≤100∧p.groups.length≤100∧∀ g ∈ p.groups,g.members.length≤100:=by
 have:=List.all_eq_true.1 polsG_le_all p h
 simp only [Bool.and_eq_true,decide_eq_true_eq,List.all_eq_true] at this
 exact ⟨this.1.1.1,this.1.1.2,this.1.2,this.2⟩
theorem page2_t (s:State) (t:Title) (hl:s.pages.length≤1000000):Tot (r27_Page s t) fun r=>(r=(⟨⟨0,⟨#[]⟩⟩,[]⟩,false)∧∀ p ∈ s.pages,p.title≠t)∨(r.2=true∧r.1 ∈ s.pages∧r.1.title=t):=by
 unfold r27_Page
 refine tot_bind (find_t s.pages t hl) fun r hr=>?_
 rcases hr with ⟨rfl,h⟩ | ⟨n,p,rfl,h1,h2⟩
 ·exact tot_ifD (fun _=>tot_some (.inl ⟨rfl,h⟩)) fun c=>absurd (by omega) c
 ·refine tot_ifD (fun c=>absurd c (by omega)) fun _=>?_
  have:=(List.getElem?_eq_some_iff.1 h1).1
  refine tot_atI (by omega) (by omega) fun e he hg=>tot_some (.inr ⟨rfl,he,?_⟩)
  rw [Int.toNat_natCast,h1] at hg
  injection hg with hg
  rw [← hg]
  exact h2
def curOf (p:Stored):Revision:=p.history.getLast?.getD ⟨0,⟨#[]⟩,⟨#[]⟩,⟨#[]⟩,0,0⟩
def pageOf (p:Stored):Page:=⟨p.title,(curOf p).text,(curOf p).number⟩
def viewPg (P:Policy) (G:List ByteArray) (l:List Stored):List Page:=(l.filter fun p=>mayB P G 1 p.title).map pageOf
def viewOf (P:Policy) (G:List ByteArray) (s:State):View:=⟨viewPg P G s.pages,P,G,s.clock,[]⟩
theorem viewPg_snoc {P:Policy} {G:List ByteArray} {l:List Stored} {n:Nat} {e:Stored} (h:l[n]? = some e):viewPg P G (l.take (n+1))=viewPg P G (l.take n)++(if mayB P G 1 e.title=true then [pageOf e] else []):=by
 unfold viewPg
 rw [List.take_add_one,h,List.filter_append,List.map_append]
 congr 1
 by_cases hm:mayB P G 1 e.title=true<;>simp [hm]
theorem viewPg_len {P:Policy} {G:List ByteArray} {l:List Stored}:(viewPg P G l).length≤l.length:=by
 unfold viewPg
 rw [List.length_map]
 exact List.length_filter_le _ _
theorem viewPg_take {P:Policy} {G:List ByteArray} {l:List Stored} {n:Nat}:(viewPg P G (l.take n)).length≤l.length:=Nat.le_trans viewPg_len (by rw [List.length_take];omega)
theorem current_is (p:Stored) (h0:1≤p.history.length) (hl:p.history.length≤1000000):r27_Current p=some (curOf p):=by
 obtain ⟨r,h1,h2⟩:=current_e p h0 hl
 rw [h2]
 unfold curOf
 rw [h1]
 rfl
theorem scurrent_is (p:Stored) (h0:1≤p.history.length) (hl:p.history.length≤1000000):state_Current p=some (curOf p):=by
 rw [← current_is p h0 hl]
 rfl
theorem project_view_e {s:State} {u:ByteArray} {P:Policy} {G:List ByteArray} (hP:edit_PolicyOf s=some P) (hG:access_Groups P u=some G) (hR:P.rules.length≤1000000) (hl:s.pages.length≤1000000) (hh:∀ p ∈ s.pages,1≤p.history.length∧p.history.length≤1000000):project_View s u=some (viewOf P G s):=by
 refine tot_eq ?_
 unfold project_View
 refine tot_bindE hP ?_
 refine tot_bindE hG ?_
 refine tot_loop (fun a:Int×List Page=>(0≤a.1∧a.1≤(s.pages.length:Int))∧a.2=viewPg P G (s.pages.take a.1.toNat)) (fun a=>((s.pages.length:Int) - a.1).toNat) ⟨⟨Int.le_refl _,by dsimp only;omega⟩,rfl⟩ (by dsimp only;omega) ?_
 rintro ⟨i,l⟩ rec ⟨⟨h0,h1⟩,h2⟩ ih
 dsimp only at h0 h1 h2
 subst h2
 refine tot_ifD (fun hlt=>?_) fun hlt=>?_
 ·refine tot_let (fun k=>Tot (k (viewPg P G (s.pages.take (i.toNat+1)))) fun r=>r=viewOf P G s) ?_ fun k hk=>?_
  ·rw [w64_of (by omega) (by omega)]
   exact ih _ ⟨⟨by dsimp only;omega,by dsimp only;omega⟩,by dsimp only;rw [show (i+1).toNat=i.toNat+1 by omega]⟩ (by first | omega | (dsimp only;omega))
  ·refine tot_atI h0 hlt fun e he hg=>?_
   rw [viewPg_snoc hg] at hk
   refine tot_bindE (v:=mayB P G 1 e.title) (by unfold access_May;rw [if_pos hR]) ?_
   by_cases hm:mayB P G 1 e.title=true
   ·rw [if_pos hm] at hk
    refine tot_ifT hm ?_
    refine tot_bindE (scurrent_is e (hh e he).1 (hh e he).2) ?_
    exact tot_appL 1000001 (by have:=viewPg_take (P:=P) (G:=G) (l:=s.pages) (n:=i.toNat);simp only [List.length_cons,List.length_nil];omega) (by omega) (by omega) hk
   ·rw [if_neg hm,List.append_nil] at hk
    exact tot_ifF (by rw [Bool.not_eq_true] at hm;exact hm) hk
 ·refine tot_some ?_
  rw [show i.toNat=s.pages.length by omega,List.take_length]
  rfl
structure VM (v:View):Prop where
 pages:v.pages.length≤200
 text:∀ p ∈ v.pages,p.text.size≤8192
 policy:v.policy ∈ polsG
 groups:v.groups.length≤100
 fixed:v.fixed = []
theorem cur_mem {p:Stored} (h:1≤p.history.length):curOf p ∈ p.history:=by
 unfold curOf
 obtain ⟨r,hr⟩:∃ r,p.history[p.history.length - 1]? = some r:=⟨_,List.getElem?_eq_getElem (by omega)⟩
 rw [List.getLast?_eq_getElem?,hr]
 exact List.mem_of_getElem? hr
end Go.Proofs.YtphibahplgmgfaaGreatDoor
