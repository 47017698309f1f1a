/- Functions of the program as Lean functions. Written by fxgen.py. | ProjectValid: what the law computes is true. No program is named. | ProjectValid in worlds: whatever the list and the text, the law returns true. -/
import Derived.Test.YtphibahplgmgfaaGreatDoorPB29
import Derived.Test.YtphibahplgmgfaaGreatDoorPB26
import Derived.Test.YtphibahplgmgfaaGreatDoorPB08
import Derived.Test.YtphibahplgmgfaaGreatDoorPB30
set_option linter.unusedVariables false
set_option maxHeartbeats 4000000
set_option maxRecDepth 100000
namespace Go.Proofs.YtphibahplgmgfaaGreatDoor
open VL
def r15_Find (p0:List Asked) (p1:Key):Option (Answer×Bool):=
 fixN bigN (fun f2 (x18:Int)=>
  if (decide (x18<(p0.length:Int))) then
   (atI p0 x18).bind fun e25=>
   if (decide (e25.key=p1)) then
    (atI p0 x18).bind fun e26=>
    (some (e26.answer,true):Option (Answer×Bool))
   else
   f2 (w64 (x18+1))
  else
  (some ((⟨false,(⟨#[]⟩:ByteArray),0⟩:Answer),false):Option (Answer×Bool))) 0
theorem r15_Find_c (p0:List Asked) (p1:Key) (r:Answer×Bool) (hF:r15_Find p0 p1=some r):Contract0 Tryz.prog 60 [.sl (List.map Asked.cs p0),p1.pv] (.tup [r.1.pv,.bool r.2]):=by
 refine cF (fun r=>.tup [r.1.pv,.bool r.2]) hF mix Tryz.func60 fun r hF=>?_
 unfold r15_Find at hF
 refine runX ?_
 refine rg ?_
 refine rg ?_
 refine bl ?_
 refine fix_elim hF fun f2 mf2 hf2 hF=>?_
 refine pws_loop (α:=Nat×Int) (fun a _=>mkS [(0,.sl (List.map Asked.cs p0)),(3,.ptr 3 (1,3) 0),(4,.ptr 4 (1,4) 0),(6,.int .i64 a.2)] [(3,some ((1,3),.box [.int .i64 p1.kind,.int .i64 p1.title.space,.str p1.title.name,.int .i64 p1.n])),(4,some ((1,4),.box [.bool false,.str (⟨#[]⟩:ByteArray),.int .i64 0]))] 2) (fun a=>fixN a.1 f2 a.2=some r) (fun a=>a.1) (mf2,0) 2 hF (sR [(3,1,0),(4,1,1)]) (fun a _ hF=>?_)
 obtain ⟨mf2,x18⟩:=a
 obtain ⟨mf2,rfl,hF⟩:=fix_step hf2 hF
 dsimp only at hF ⊢
 refine runX ?_
 refine rg ?_
 refine g_lenM rfl (M:=p0) (f:=Asked.cs) rfl (runX ?_)
 refine cS hF rfl (fun hF=>?_) fun hF=>?_
 ·refine bl ?_
  refine rg ?_
  obtain ⟨e25,h23,hF⟩:=bnd hF
  refine g_indexI (f:=Asked.cs) rfl h23 rfl rfl rfl (runX ?_)
  refine g_eqT (.inl rfl) rfl rfl rfl rfl rfl (fun W=>keyEql e25.key p1 W) (runX ?_)
  refine cS hF rfl (fun hF=>?_) fun hF=>?_
  ·refine rg ?_
   obtain ⟨e26,h24,hF⟩:=bnd hF
   refine g_indexI (f:=Asked.cs) rfl h24 rfl rfl rfl (runX ?_)
   cases hF
   exact rQ
  refine rg ?_
  exact rn (mf2,(w64 (x18+1))) hF (sR [(3,1,3),(4,1,4)])
 refine rg ?_
 cases hF
 exact rQ
def r15_Validate (p0:View):Option Int:=
 letk (fun (x1:Bool)=>
  if x1 then
   (some 3:Option Int)
  else
  fixN bigN (fun f9 (x39:Int)=>
   if (decide (x39<(p0.pages.length:Int))) then
    (atI p0.pages x39).bind fun e61=>
    (r1_Valid e61.title).bind fun r62=>
    if (!r62) then
     (some 1:Option Int)
    else
    letk (fun (x65:Bool)=>
     if x65 then
      (some 6:Option Int)
     else
     if (decide (8192<(e61.text.size:Int))) then
      (some 3:Option Int)
     else
     if (decide (e61.revision<1)) then
      (some 2:Option Int)
     else
     f9 (w64 (x39+1))) fun k11=>
    if (decide (0<x39)) then
     (atI p0.pages (w64 (x39 - 1))).bind fun e66=>
     (r1_Compare e66.title e61.title).bind fun r67=>
     k11 (decide (0≤r67))
    else
    k11 false
   else
   (r12_Validate p0.policy).bind fun r68=>
   if (!decide (r68=0)) then
    (some r68:Option Int)
   else
   fixN bigN (fun f19 (x106:Int)=>
    if (decide (x106<(p0.groups.length:Int))) then
     (atI p0.groups x106).bind fun e128=>
     (r12_IsName e128).bind fun r129=>
     if (!r129) then
      (some 1:Option Int)
     else
     letk (fun (x132:Bool)=>
      if x132 then
       (some 6:Option Int)
      else
      f19 (w64 (x106+1))) fun k21=>
     if (decide (0<x106)) then
      (atI p0.groups x106).bind fun e133=>
      (atI p0.groups (w64 (x106 - 1))).bind fun e134=>
      k21 (ltS e133 e134||decide (e133=e134))
     else
     k21 false
    else
    letk (fun (x135:Bool)=>
     if x135 then
      (some 2:Option Int)
     else
     fixN bigN (fun f24 (x169:Int)=>
      if (decide (x169<(p0.fixed.length:Int))) then
       (subL p0.fixed 0 x169).bind fun l182=>
       (atI p0.fixed x169).bind fun e183=>
       (r15_Find l182 e183.key).bind fun r184=>
       if r184.2 then
        (some 5:Option Int)
       else
       (atI p0.fixed x169).bind fun e185=>
       if (decide (32768<(e185.answer.text.size:Int))) then
        (some 3:Option Int)
       else
       f24 (w64 (x169+1))
      else
      (some 0:Option Int)) 0) fun k22=>
    if (decide (p0.clock<0)) then
     k22 true
    else
    k22 (decide (52596000≤p0.clock))) 0) 0) fun k1=>
 if (decide (200<(p0.pages.length:Int))) then
  k1 true
 else
 if (decide (26<(p0.groups.length:Int))) then
  k1 true
 else
 k1 (decide (20000<(p0.fixed.length:Int)))
theorem r15_Validate_c (p0:View) (r:Int) (hF:r15_Validate p0=some r):Contract0 Tryz.prog 24 [p0.pv] (.int .i64 r):=by
 refine cF (fun r=>.int .i64 r) hF mix Tryz.func24 fun r hF=>?_
 unfold r15_Validate at hF
 refine runX ?_
 refine rg ?_
 refine jL hF (fun x1=>mkS [(1,.ptr 1 (1,1) 0),(25,.bool x1)] [(1,some ((1,1),.box [.sl (List.map Page.cs p0.pages),.sl (List.map Group.cs p0.policy.groups),.sl (List.map Rule.cs p0.policy.rules),.sl (List.map Guard.cs p0.policy.guards),.sl (List.map csS p0.groups),.int .i64 p0.clock,.sl (List.map Asked.cs p0.fixed)]))] 2) (fun k1 hF=>?_) fun x1 hF=>?_
 ·refine rg ?_
  refine g_lenM rfl (M:=p0.pages) (f:=Page.cs) rfl (runX ?_)
  refine kS 14 hF rfl (fun hF=>?_) fun hF=>?_
  ·iterate 8 refine g_skip rfl (runX ?_)
   exact jn true hF (sR [(1,1,0)])
  refine g_lenM rfl (M:=p0.groups) (f:=csS) rfl (runX ?_)
  refine kS 20 hF rfl (fun hF=>?_) fun hF=>?_
  ·iterate 4 refine g_skip rfl (runX ?_)
   exact jn true hF (sR [(1,1,0)])
  refine g_lenM rfl (M:=p0.fixed) (f:=Asked.cs) rfl (runX ?_)
  exact jn (decide (20000<(p0.fixed.length:Int))) hF (sR [(1,1,0)])
 refine cS hF rfl (fun hF=>?_) fun hF=>?_
 ·refine rg ?_
  cases hF
  exact rQ
 refine rg ?_
 refine bl ?_
 refine fix_elim hF fun f9 mf9 hf9 hF=>?_
 refine pws_loop (α:=Nat×Int) (fun a _=>mkS [(1,.ptr 1 (1,1) 0),(3,.int .i64 a.2)] [(1,some ((1,1),.box [.sl (List.map Page.cs p0.pages),.sl (List.map Group.cs p0.policy.groups),.sl (List.map Rule.cs p0.policy.rules),.sl (List.map Guard.cs p0.policy.guards),.sl (List.map csS p0.groups),.int .i64 p0.clock,.sl (List.map Asked.cs p0.fixed)]))] 2) (fun a=>fixN a.1 f9 a.2=some r) (fun a=>a.1) (mf9,0) 2 hF (sR [(1,1,1)]) (fun a _ hF=>?_)
 obtain ⟨mf9,x39⟩:=a
 obtain ⟨mf9,rfl,hF⟩:=fix_step hf9 hF
 dsimp only at hF ⊢
 refine runX ?_
 refine rg ?_
 refine g_lenM rfl (M:=p0.pages) (f:=Page.cs) rfl (runX ?_)
 refine cS hF rfl (fun hF=>?_) fun hF=>?_
 ·refine bl ?_
  refine rg ?_
  obtain ⟨e61,h51,hF⟩:=bnd hF
  refine g_indexI (f:=Page.cs) rfl h51 rfl rfl rfl (runX ?_)
  refine bl ?_
  refine rg ?_
  obtain ⟨r62,h52,hF⟩:=bnd hF
  refine g_call (r1_Valid_c _ _ h52) rfl rfl (runX ?_)
  refine cS hF rfl (fun hF=>?_) fun hF=>?_
  ·refine rg ?_
   cases hF
   exact rQ
  refine jL hF (fun x65=>mkS [(1,.ptr 1 (1,1) 0),(3,.int .i64 x39),(4,.ptr 4 (1,4) 0),(43,.bool x65)] [(1,some ((1,1),.box [.sl (List.map Page.cs p0.pages),.sl (List.map Group.cs p0.policy.groups),.sl (List.map Rule.cs p0.policy.rules),.sl (List.map Guard.cs p0.policy.guards),.sl (List.map csS p0.groups),.int .i64 p0.clock,.sl (List.map Asked.cs p0.fixed)])),(4,some ((1,4),.box [.int .i64 e61.title.space,.str e61.title.name,.str e61.text,.int .i64 e61.revision]))] 2) (fun k11 hF=>?_) fun x65 hF=>?_
  ·refine rg ?_
   refine kS 46 hF rfl (fun hF=>?_) fun hF=>?_
   ·obtain ⟨e66,h55,hF⟩:=bnd hF
    refine g_indexI (f:=Page.cs) rfl h55 rfl rfl rfl (runX ?_)
    obtain ⟨r67,h56,hF⟩:=bnd hF
    refine g_call (r1_Compare_c _ _ _ h56) rfl rfl (runX ?_)
    exact jn (decide (0≤r67)) hF (sR [(1,1,1),(4,3,5)])
   iterate 11 refine g_skip rfl (runX ?_)
   exact jn false hF (sR [(1,1,1),(4,3,5)])
  refine cS hF rfl (fun hF=>?_) fun hF=>?_
  ·refine rg ?_
   cases hF
   exact rQ
  refine rg ?_
  refine cS hF rfl (fun hF=>?_) fun hF=>?_
  ·refine rg ?_
   cases hF
   exact rQ
  refine rg ?_
  refine cS hF rfl (fun hF=>?_) fun hF=>?_
  ·refine rg ?_
   cases hF
   exact rQ
  refine rg ?_
  exact rn (mf9,(w64 (x39+1))) hF (sR [(1,1,1)])
 refine rg ?_
 obtain ⟨r68,h57,hF⟩:=bnd hF
 refine g_call (r12_Validate_c _ _ h57) rfl rfl (runX ?_)
 refine rg ?_
 refine cS hF rfl (fun hF=>?_) fun hF=>?_
 ·refine rg ?_
  cases hF
  exact rQ
 refine rg ?_
 refine bl ?_
 refine fix_elim hF fun f19 mf19 hf19 hF=>?_
 refine pws_loop (α:=Nat×Int) (fun a _=>mkS [(1,.ptr 1 (1,1) 0),(6,.int .i64 a.2)] [(1,some ((1,1),.box [.sl (List.map Page.cs p0.pages),.sl (List.map Group.cs p0.policy.groups),.sl (List.map Rule.cs p0.policy.rules),.sl (List.map Guard.cs p0.policy.guards),.sl (List.map csS p0.groups),.int .i64 p0.clock,.sl (List.map Asked.cs p0.fixed)]))] 2) (fun a=>fixN a.1 f19 a.2=some r) (fun a=>a.1) (mf19,0) 2 hF (sR [(1,1,1)]) (fun a _ hF=>?_)
 obtain ⟨mf19,x106⟩:=a
 obtain ⟨mf19,rfl,hF⟩:=fix_step hf19 hF
 dsimp only at hF ⊢
 refine runX ?_
 refine rg ?_
 refine g_lenM rfl (M:=p0.groups) (f:=csS) rfl (runX ?_)
 refine cS hF rfl (fun hF=>?_) fun hF=>?_
 ·refine bl ?_
  refine rg ?_
  obtain ⟨e128,h108,hF⟩:=bnd hF
  refine g_indexI (f:=csS) rfl h108 rfl rfl rfl (runX ?_)
  obtain ⟨r129,h109,hF⟩:=bnd hF
  refine g_call (r12_IsName_c _ _ h109) rfl rfl (runX ?_)
  refine cS hF rfl (fun hF=>?_) fun hF=>?_
  ·refine rg ?_
   cases hF
   exact rQ
  refine jL hF (fun x132=>mkS [(1,.ptr 1 (1,1) 0),(6,.int .i64 x106),(103,.bool x132)] [(1,some ((1,1),.box [.sl (List.map Page.cs p0.pages),.sl (List.map Group.cs p0.policy.groups),.sl (List.map Rule.cs p0.policy.rules),.sl (List.map Guard.cs p0.policy.guards),.sl (List.map csS p0.groups),.int .i64 p0.clock,.sl (List.map Asked.cs p0.fixed)]))] 2) (fun k21 hF=>?_) fun x132 hF=>?_
  ·refine rg ?_
   refine kS 90 hF rfl (fun hF=>?_) fun hF=>?_
   ·obtain ⟨e133,h112,hF⟩:=bnd hF
    refine g_indexI (f:=csS) rfl h112 rfl rfl rfl (runX ?_)
    obtain ⟨e134,h113,hF⟩:=bnd hF
    refine g_indexI (f:=csS) rfl h113 rfl rfl rfl (runX ?_)
    exact jn (ltS e133 e134||decide (e133=e134)) hF (sR [(1,1,1)])
   iterate 12 refine g_skip rfl (runX ?_)
   exact jn false hF (sR [(1,1,1)])
  refine cS hF rfl (fun hF=>?_) fun hF=>?_
  ·refine rg ?_
   cases hF
   exact rQ
  refine rg ?_
  exact rn (mf19,(w64 (x106+1))) hF (sR [(1,1,1)])
 refine jL hF (fun x135=>mkS [(1,.ptr 1 (1,1) 0),(111,.bool x135)] [(1,some ((1,1),.box [.sl (List.map Page.cs p0.pages),.sl (List.map Group.cs p0.policy.groups),.sl (List.map Rule.cs p0.policy.rules),.sl (List.map Guard.cs p0.policy.guards),.sl (List.map csS p0.groups),.int .i64 p0.clock,.sl (List.map Asked.cs p0.fixed)]))] 2) (fun k22 hF=>?_) fun x135 hF=>?_
 ·refine rg ?_
  refine kS 107 hF rfl (fun hF=>?_) fun hF=>?_
  ·iterate 3 refine g_skip rfl (runX ?_)
   exact jn true hF (sR [(1,1,1)])
  exact jn (decide (52596000≤p0.clock)) hF (sR [(1,1,1)])
 refine cS hF rfl (fun hF=>?_) fun hF=>?_
 ·refine rg ?_
  cases hF
  exact rQ
 refine rg ?_
 refine bl ?_
 refine fix_elim hF fun f24 mf24 hf24 hF=>?_
 refine pws_loop (α:=Nat×Int) (fun a _=>mkS [(1,.ptr 1 (1,1) 0),(7,.int .i64 a.2)] [(1,some ((1,1),.box [.sl (List.map Page.cs p0.pages),.sl (List.map Group.cs p0.policy.groups),.sl (List.map Rule.cs p0.policy.rules),.sl (List.map Guard.cs p0.policy.guards),.sl (List.map csS p0.groups),.int .i64 p0.clock,.sl (List.map Asked.cs p0.fixed)]))] 2) (fun a=>fixN a.1 f24 a.2=some r) (fun a=>a.1) (mf24,0) 2 hF (sR [(1,1,1)]) (fun a _ hF=>?_)
 obtain ⟨mf24,x169⟩:=a
 obtain ⟨mf24,rfl,hF⟩:=fix_step hf24 hF
 dsimp only at hF ⊢
 refine runX ?_
 refine rg ?_
 refine g_lenM rfl (M:=p0.fixed) (f:=Asked.cs) rfl (runX ?_)
 refine cS hF rfl (fun hF=>?_) fun hF=>?_
 ·refine bl ?_
  refine rg ?_
  obtain ⟨l182,h158,hF⟩:=bnd hF
  refine g_sliceM (f:=Asked.cs) rfl h158 (fun _=>rfl) rfl rfl rfl rfl (runX ?_)
  obtain ⟨e183,h159,hF⟩:=bnd hF
  refine g_indexI (f:=Asked.cs) rfl h159 rfl rfl rfl (runX ?_)
  obtain ⟨r184,h160,hF⟩:=bnd hF
  refine g_call (r15_Find_c _ _ _ h160) rfl rfl (runX ?_)
  refine rg ?_
  refine cS hF rfl (fun hF=>?_) fun hF=>?_
  ·refine rg ?_
   cases hF
   exact rQ
  refine rg ?_
  obtain ⟨e185,h161,hF⟩:=bnd hF
  refine g_indexI (f:=Asked.cs) rfl h161 rfl rfl rfl (runX ?_)
  refine cS hF rfl (fun hF=>?_) fun hF=>?_
  ·refine rg ?_
   cases hF
   exact rQ
  refine rg ?_
  exact rn (mf24,(w64 (x169+1))) hF (sR [(1,1,1)])
 refine rg ?_
 cases hF
 exact rQ
def w31_ProjectValid (p0:List Int) (p1:ByteArray):Option Bool:=
 if (decide (50<(p1.size:Int))) then
  (w31_awake).bind fun r2=>
  (some r2:Option Bool)
 else
 (g2_State p0).bind fun r3=>
 (project_View r3 p1).bind fun r4=>
 letk (fun (x11:Bool)=>
  (some x11:Option Bool)) fun k1=>
 (w31_awake).bind fun r12=>
 if r12 then
  (r15_Validate r4).bind fun r13=>
  if (decide (r13=0)) then
   (r12_Validate r4.policy).bind fun r14=>
   if (decide (r14=0)) then
    (r29_PolicyOf r3).bind fun r15=>
    (r13_Groups r15 p1).bind fun r16=>
    (g2_Same_string r4.groups r16).bind fun r17=>
    if r17 then
     if (decide (r4.clock=r3.clock)) then
      k1 (decide ((r4.fixed.length:Int)=0))
     else
     k1 false
    else
    k1 false
   else
   k1 false
  else
  k1 false
 else
 k1 false
theorem w31_ProjectValid_c (p0:List Int) (p1:ByteArray) (r:Bool) (hF:w31_ProjectValid p0 p1=some r):Contract0 Tryz.prog 5 [.sl (List.map csI p0),.str p1] (.bool r):=by
 refine cF (fun r=>.bool r) hF mix Tryz.func5 fun r hF=>?_
 unfold w31_ProjectValid at hF
 refine runX ?_
 refine rg ?_
 refine rg ?_
 refine cS hF rfl (fun hF=>?_) fun hF=>?_
 ·refine rg ?_
  obtain ⟨r2,h2,hF⟩:=bnd hF
  refine g_call (w31_awake_c _ h2) rfl rfl (runX ?_)
  cases hF
  exact rQ
 refine rg ?_
 obtain ⟨r3,h3,hF⟩:=bnd hF
 refine g_call (g2_State_c _ _ h3) rfl rfl (runX ?_)
 refine rg ?_
 obtain ⟨r4,h4,hF⟩:=bnd hF
 refine g_call (project_View_c _ _ _ h4) rfl rfl (runX ?_)
 refine jL hF (fun x11=>mkS [(4,.bool x11)] [] 2) (fun k1 hF=>?_) fun x11 hF=>?_
 ·refine rg ?_
  obtain ⟨r12,h11,hF⟩:=bnd hF
  refine g_call (w31_awake_c _ h11) rfl rfl (runX ?_)
  refine kS 17 hF rfl (fun hF=>?_) fun hF=>?_
  ·obtain ⟨r13,h12,hF⟩:=bnd hF
   refine g_call (r15_Validate_c _ _ h12) rfl rfl (runX ?_)
   refine kS 22 hF rfl (fun hF=>?_) fun hF=>?_
   ·obtain ⟨r14,h13,hF⟩:=bnd hF
    refine g_call (r12_Validate_c _ _ h13) rfl rfl (runX ?_)
    refine kS 28 hF rfl (fun hF=>?_) fun hF=>?_
    ·obtain ⟨r15,h14,hF⟩:=bnd hF
     refine g_call (r29_PolicyOf_c _ _ h14) rfl rfl (runX ?_)
     obtain ⟨r16,h15,hF⟩:=bnd hF
     refine g_call (r13_Groups_c _ _ _ h15) rfl rfl (runX ?_)
     obtain ⟨r17,h16,hF⟩:=bnd hF
     refine g_call (g2_Same_string_c _ _ _ h16) rfl rfl (runX ?_)
     refine kS 37 hF rfl (fun hF=>?_) fun hF=>?_
     ·refine kS 44 hF rfl (fun hF=>?_) fun hF=>?_
      ·refine g_lenM rfl (M:=r4.fixed) (f:=Asked.cs) rfl (runX ?_)
       exact jn (decide ((r4.fixed.length:Int)=0)) hF (sR [])
      iterate 4 refine g_skip rfl (runX ?_)
      exact jn false hF (sR [])
     iterate 9 refine g_skip rfl (runX ?_)
     exact jn false hF (sR [])
    iterate 16 refine g_skip rfl (runX ?_)
    exact jn false hF (sR [])
   iterate 20 refine g_skip rfl (runX ?_)
   exact jn false hF (sR [])
  iterate 23 refine g_skip rfl (runX ?_)
  exact jn false hF (sR [])
 cases hF
 exact rQ
end Go.Proofs.YtphibahplgmgfaaGreatDoor
namespace Go.Proofs.YtphibahplgmgfaaGreatDoor
open VL
set_option linter.unusedVariables false
set_option maxRecDepth 100000
theorem atI_congr {α β:Type} {l:List α} {i:Int} {f g:α→Option β} (h:∀ e ∈ l,f e=g e):(atI l i).bind f=(atI l i).bind g:=by
 cases he:atI l i with
 | none=>rfl
 | some e=>exact h e (List.mem_of_getElem? (atI_get he).2)
theorem fixN_congr {α β:Type} {n:Nat} {F G:(α→Option β)→α→Option β} {a:α} (h:∀ rec x,F rec x=G rec x):fixN n F a=fixN n G a:=by rw [show F=G from funext fun r=>funext (h r)]
theorem bind_congrF {α β:Type} {x:Option α} {f g:α→Option β} (h:∀ v,f v=g v):x.bind f=x.bind g:=by rw [show f=g from funext h]
theorem letk_congr {γ β:Type} {k l:γ} {f:γ→Option β} (h:k=l):letk k f=letk l f:=by rw [h]
theorem index_congr {l:List ByteArray} {q q':ByteArray→Option Bool} (h:∀ y ∈ l,q y=q' y):slices_IndexFunc_string l q=slices_IndexFunc_string l q':=by
 unfold slices_IndexFunc_string
 refine fixN_congr fun rec x=>?_
 refine ite_congr rfl (fun _=>?_) fun _=>rfl
 exact atI_congr fun e he=>by rw [h e he]
theorem contains_congr {l:List ByteArray} {q q':ByteArray→Option Bool} (h:∀ y ∈ l,q y=q' y):slices_ContainsFunc_string l q=slices_ContainsFunc_string l q':=by
 unfold slices_ContainsFunc_string
 rw [index_congr h]
def alike (P:Policy) (u v:ByteArray):Prop:=isName u=isName v∧∀ g ∈ P.groups,∀ m ∈ g.members,decide (m=u)=decide (m=v)
theorem one_alike {u v y:ByteArray} (h:decide (y=u)=decide (y=v)) (b:Bool) (x:List ByteArray):access_Groups_1 y b u x=access_Groups_1 y b v x:=by
 unfold access_Groups_1
 simp only [h]
theorem access_alike {P:Policy} {u v:ByteArray} (h:alike P u v):access_Groups P u=access_Groups P v:=by
 obtain ⟨hn,hm⟩:=h
 have e1:policy_IsName u=policy_IsName v:=by unfold policy_IsName;rw [hn]
 unfold access_Groups
 rw [e1]
 refine bind_congrF fun b=>letk_congr (funext fun x3=>fixN_congr fun rec a=>?_)
 obtain ⟨a,l⟩:=a
 dsimp only
 refine ite_congr rfl (fun _=>?_) fun _=>rfl
 refine fixN_congr fun rec2 a2=>?_
 obtain ⟨a2,i,l2⟩:=a2
 dsimp only
 refine ite_congr rfl (fun _=>?_) fun _=>rfl
 unfold letk
 dsimp only
 refine atI_congr fun e he=>?_
 rw [contains_congr fun y hy=>one_alike (hm e he y hy) b l2]
theorem belongs_alike {g:Group} {u v:ByteArray} (hn:isName u=isName v) (hm:∀ m ∈ g.members,decide (m=u)=decide (m=v)) (l:List ByteArray):r13_belongs g u l=r13_belongs g v l:=by
 have e1:r12_IsName u=r12_IsName v:=by unfold r12_IsName;rw [hn]
 unfold r13_belongs
 rw [e1]
 refine fixN_congr fun rec x=>?_
 refine ite_congr rfl (fun _=>?_) fun _=>rfl
 refine atI_congr fun e he=>?_
 simp only [hm e he]
theorem ref_alike {P:Policy} {u v:ByteArray} (h:alike P u v):r13_Groups P u=r13_Groups P v:=by
 obtain ⟨hn,hm⟩:=h
 have e1:r12_IsName u=r12_IsName v:=by unfold r12_IsName;rw [hn]
 unfold r13_Groups
 rw [e1]
 refine bind_congrF fun b=>letk_congr (funext fun x3=>fixN_congr fun rec a=>?_)
 obtain ⟨l,i⟩:=a
 dsimp only
 refine ite_congr rfl (fun _=>?_) fun _=>rfl
 refine fixN_congr fun rec2 a2=>?_
 obtain ⟨l2,i2⟩:=a2
 dsimp only
 refine ite_congr rfl (fun _=>?_) fun _=>rfl
 unfold letk
 dsimp only
 refine atI_congr fun e he=>?_
 rw [belongs_alike hn (hm e he)]
theorem anon_ref (P:Policy) (u:ByteArray) (h:isName u=false):r13_Groups P u=r13_Groups P ⟨#[]⟩:=by
 have e1:r12_IsName u=some false:=by unfold r12_IsName;rw [h]
 have e2:r12_IsName ⟨#[]⟩=some false:=rfl
 have e3:∀ g l,r13_belongs g u l=r13_belongs g ⟨#[]⟩ l:=fun g l=>by
  unfold r13_belongs
  simp only [e1,e2,Option.bind_some]
  rfl
 unfold r13_Groups
 rw [e1,e2]
 simp only [e3]
def annB:ByteArray:=⟨#[97,110,110]⟩
def bobB:ByteArray:=⟨#[98,111,98]⟩
def moreB:ByteArray:=⟨#[64,109,111,114,101]⟩
def cyB:ByteArray:=⟨#[99,121]⟩
set_option maxRecDepth 100000 in
theorem members_all:polsG.all (fun p=>p.groups.all fun g=>g.members.all fun m=>decide (m=annB)||decide (m=bobB)||decide (m=moreB))=true:=by kernel_rfl
theorem member_of {P:Policy} (hP:P ∈ polsG) {g:Group} (hg:g ∈ P.groups) {m:ByteArray} (hm:m ∈ g.members):m=annB∨m=bobB∨m=moreB:=by
 have:=List.all_eq_true.1 (List.all_eq_true.1 (List.all_eq_true.1 members_all P hP) g hg) m hm
 simp only [Bool.or_eq_true,decide_eq_true_eq] at this
 rcases this with (h | h) | h
 ·exact .inl h
 ·exact .inr (.inl h)
 ·exact .inr (.inr h)
theorem more_name:isName moreB=false:=rfl
theorem cy_name:isName cyB=true:=by decide
theorem user_like (P:Policy) (hP:P ∈ polsG) (u:ByteArray):∃ v ∈ usersG,access_Groups P u=access_Groups P v∧r13_Groups P u=r13_Groups P v:=by
 by_cases hn:isName u=true
 ·by_cases h1:u=annB
  ·exact ⟨annB,.tail _ (.head _),by rw [h1],by rw [h1]⟩
  by_cases h2:u=bobB
  ·exact ⟨bobB,.tail _ (.tail _ (.head _)),by rw [h2],by rw [h2]⟩
  have ha:alike P u cyB:=⟨by rw [hn,cy_name],fun g hg m hm=>by
   have h3:m≠u:=by
    rcases member_of hP hg hm with e | e | e
    ·rw [e];exact fun q=>h1 q.symm
    ·rw [e];exact fun q=>h2 q.symm
    ·intro q
     rw [← q,e,more_name] at hn
     cases hn
   have h4:m≠cyB:=by
    rcases member_of hP hg hm with e | e | e<;>rw [e]<;>decide
   rw [decide_eq_false h3,decide_eq_false h4]⟩
  exact ⟨cyB,.tail _ (.tail _ (.tail _ (.head _))),access_alike ha,ref_alike ha⟩
 ·rw [Bool.not_eq_true] at hn
  exact ⟨⟨#[]⟩,.head _,anon_groups P u hn,anon_ref P u hn⟩
def grpB (x:Option (List ByteArray)):Bool:=match x with | some G=>decide (G.length≤26)&&G.all isName&&(List.range 26).all (fun i=>match G[i]?,G[i+1]? with | some a,some b=>!ltS b a && !decide (b=a) | _,_=>true) | none=>false
set_option maxRecDepth 100000 in
theorem grp_all:polsG.all (fun p=>usersG.all fun u=>grpB (r13_Groups p u))=true:=by kernel_rfl
set_option maxRecDepth 100000 in
theorem pols_valid:polsG.all (fun p=>decide (r12_Validate p=some 0))=true:=by kernel_rfl
theorem view_valid {t0:ByteArray} {q:Int} {s:State} {P:Policy} {G:List ByteArray} (hv:VS t0 q s) (hP:P ∈ polsG) (hG:grpB (some G)=true):r15_Validate (viewOf P G s)=some 0:=by
 simp only [grpB,Bool.and_eq_true,decide_eq_true_eq,List.all_eq_true] at hG
 obtain ⟨⟨g1,g2⟩,g3⟩:=hG
 have hpl:=hv.plen
 have hvl:=viewPg_len (P:=P) (G:=G) (l:=s.pages)
 have hsort:=viewPg_sorted P G hv.sorted
 have e1:(viewOf P G s).pages=viewPg P G s.pages:=rfl
 have e2:(viewOf P G s).groups=G:=rfl
 have e3:(viewOf P G s).clock=s.clock:=rfl
 have e4:(viewOf P G s).fixed = []:=rfl
 have e5:(viewOf P G s).policy=P:=rfl
 have hc0:=hv.clock0
 have hc1:=hv.clock1
 refine tot_eq ?_
 unfold r15_Validate
 rw [e1,e2,e3,e4,e5]
 refine tot_let (fun k=>Tot (k false) fun r=>r=0) ?_ fun k hk=>?_
 ·refine tot_ifF rfl ?_
  refine tot_loop (fun i:Int=>0≤i∧i≤((viewPg P G s.pages).length:Int)) (fun i=>(((viewPg P G s.pages).length:Int) - i).toNat) ⟨Int.le_refl _,by omega⟩ (by omega) ?_
  rintro i rec ⟨h0,h1⟩ ih
  refine tot_ifD (fun hlt=>?_) fun hlt=>?_
  ·refine tot_atI h0 hlt fun e he hge=>?_
   obtain ⟨p,hp,-,rfl⟩:=viewPg_mem he
   have hs:=hv.pages p hp
   refine tot_bindE (v:=true) (by unfold r1_Valid;rw [show (pageOf p).title.valid=true from hs.title]) ?_
   refine tot_ifF rfl ?_
   refine tot_let (fun k=>Tot (k false) fun r=>r=0) ?_ fun k hk2=>?_
   ·refine tot_ifF rfl ?_
    have hx:(curOf p).text.size≤8192:=(hs.hist.all _ (cur_mem hs.hist.len1)).text
    have hy:=cur_number hs.hist
    have hl1:=hs.hist.len1
    refine tot_ifF (decide_eq_false (by show ¬ (8192:Int)<((curOf p).text.size:Int);omega)) ?_
    refine tot_ifF (decide_eq_false (by show ¬ (curOf p).number<1;omega)) ?_
    rw [w64_of (by omega) (by omega)]
    exact ih _ ⟨by omega,by omega⟩ (by omega)
   ·refine tot_ifD (fun hi=>?_) fun _=>hk2
    rw [w64_of (by omega) (by omega)]
    refine tot_atI (by omega) (by omega) fun a _ hga=>?_
    have hlt2:tlt a.title (pageOf p).title:=pw_get hsort (by omega) hga hge
    refine tot_bindE (v:=Title.cmp a.title (pageOf p).title) rfl ?_
    unfold tlt at hlt2
    rw [decide_eq_false (by omega)]
    exact hk2
  ·refine tot_bindE (of_decide_eq_true (List.all_eq_true.1 pols_valid P hP)) ?_
   refine tot_ifF rfl ?_
   refine tot_loop (fun i:Int=>0≤i∧i≤(G.length:Int)) (fun i=>((G.length:Int) - i).toNat) ⟨Int.le_refl _,by omega⟩ (by omega) ?_
   rintro i rec2 ⟨h0,h1⟩ ih2
   refine tot_ifD (fun hlt=>?_) fun hlt=>?_
   ·refine tot_atI h0 hlt fun e he hge=>?_
    refine tot_bindE (v:=true) (by unfold r12_IsName;rw [g2 e he]) ?_
    refine tot_ifF rfl ?_
    refine tot_let (fun k=>Tot (k false) fun r=>r=0) ?_ fun k hk2=>?_
    ·refine tot_ifF rfl ?_
     rw [w64_of (by omega) (by omega)]
     exact ih2 _ ⟨by omega,by omega⟩ (by omega)
    ·refine tot_ifD (fun hi=>?_) fun _=>hk2
     refine tot_atI h0 hlt fun b _ hgb=>?_
     rw [w64_of (by omega) (by omega)]
     refine tot_atI (by omega) (by omega) fun a _ hga=>?_
     have h:=g3 (i - 1).toNat (by rw [List.mem_range];omega)
     rw [hga,show (i - 1).toNat+1=i.toNat by omega,hgb] at h
     simp only [Bool.and_eq_true,Bool.not_eq_true'] at h
     rw [h.1,h.2]
     exact hk2
   ·refine tot_let0 ?_
    refine tot_ifF (decide_eq_false (by omega)) ?_
    refine tot_ifF (decide_eq_false (by omega)) ?_
    exact ⟨0,rfl,rfl⟩
 ·refine tot_ifF (decide_eq_false (by omega)) ?_
  refine tot_ifF (decide_eq_false (by omega)) ?_
  exact hk
theorem law_valid (l:List Int) (u:ByteArray) (hl:l.length≤9223372036854775807):w31_ProjectValid l u=some true:=by
 refine tot_eq ?_
 unfold w31_ProjectValid
 refine tot_ifD (fun _=>tot_bindE awake_e (tot_some rfl)) fun ht=>?_
 refine tot_bind (state_t l hl) fun s hs=>?_
 obtain ⟨t0,ht0,hv⟩:=hs.ex
 obtain ⟨P0,hP0,hr,hp⟩:=policy_both t0 ht0
 have hin:=polAt_in hP0 s.pages
 obtain ⟨v,hvu,ea,er⟩:=user_like _ hin u
 obtain ⟨G,g1,g2,g3⟩:=groups_both _ hin v hvu
 have va:=vs_view (u:=u) hv hP0 hr hp (er.trans g1) (ea.trans g2) g3
 have hgb:=List.all_eq_true.1 (List.all_eq_true.1 grp_all _ hin) v hvu
 rw [g1] at hgb
 refine tot_bindE va.view ?_
 refine tot_let0 ?_
 refine tot_bindE awake_e ?_
 refine tot_ifT rfl ?_
 refine tot_bindE (view_valid hv hin hgb) ?_
 refine tot_ifT rfl ?_
 refine tot_bindE (v:=0) (of_decide_eq_true (List.all_eq_true.1 pols_valid _ hin)) ?_
 refine tot_ifT rfl ?_
 refine tot_bindE va.ref ?_
 refine tot_bindE va.gref ?_
 refine tot_bindE (gsame_string _ _ (.inr (by omega))) ?_
 refine tot_ifT (decide_eq_true rfl) ?_
 refine tot_ifT (decide_eq_true rfl) ?_
 exact tot_some rfl
end Go.Proofs.YtphibahplgmgfaaGreatDoor
namespace Go.Proofs.YtphibahplgmgfaaGreatDoor
open VL Go.RowKit
set_option linter.unusedVariables false
theorem slr_len {α:Type} [Enc α] {w:World} {A:Option Addr} {n c:Nat} {xs:List α} (h:SlR w A n c xs):xs.length≤9223372036854775807:=by
 obtain ⟨h1,h2,h3,h4⟩:=h
 omega
theorem args2s {x:Ctx} {p0 p1:PV} {v0 v1:Value} (h0:Rep x p0 v0) (h1:Rep x p1 v1) (i:Nat) (p:PV) (v:Value)
  (hp : [p0,p1][i]? = some p) (hv : #[v0,v1][i]? = some v):Rep x p v:=by
 match i,hp,hv with
 | 0,hp,hv=>injection hp with hp;injection hv with hv;subst hp hv;exact h0
 | 1,hp,hv=>injection hp with hp;injection hv with hv;subst hp hv;exact h1
 | i+2,hp,_=>simp at hp
theorem projectValid_any {A:Option Addr} {n c:Nat} {l:List Int} (t:ByteArray) (W:World) (hl:SlR W A n c l) (hI:∀ W',Below W.heap.size W W'→WInv.I Tryz.prog W') :
  Calls Tryz.prog 5 #[.slice A n c,.string t] W fun e w'=>e = .returned (.bool true)∧Below W.heap.size W w':=
 calls_bool (w31_ProjectValid_c l t true (law_valid l t (slr_len hl))) rfl (args2s (sl_of_SlR hl) (.str _)) hI
end Go.Proofs.YtphibahplgmgfaaGreatDoor
