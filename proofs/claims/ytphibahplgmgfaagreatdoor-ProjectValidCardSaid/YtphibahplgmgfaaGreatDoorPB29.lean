/- Functions of the program as Lean functions. Written by fxgen.py. | Functions of the program as Lean functions. Written by fxgen.py. | Functions of the program as Lean functions. Written by fxgen.py. | Functions of the program as Lean functions. Written by fxgen.py. -/
import Derived.Test.YtphibahplgmgfaaGreatDoorPB27
import Derived.Test.YtphibahplgmgfaaGreatDoorPB28
import Derived.Test.YtphibahplgmgfaaGreatDoorPB24
import Derived.Test.YtphibahplgmgfaaGreatDoorPB08
import Derived.Test.YtphibahplgmgfaaGreatDoorPB03
import Derived.Test.YtphibahplgmgfaaGreatDoorPB26
set_option linter.unusedVariables false
set_option maxHeartbeats 4000000
set_option maxRecDepth 100000
namespace Go.Proofs.YtphibahplgmgfaaGreatDoor
open VL
def w31_awake:Option Bool:=
 (g2_Begin (⟨#[97,108,108,111,119,32,114,101,97,100,32,97,108,108,32,60,77,97,105,110,62]⟩:ByteArray)).bind fun r1=>
 (r27_Apply r1 [(⟨1,(⟨#[]⟩:ByteArray),(⟨#[]⟩:ByteArray),(⟨0,(⟨#[65]⟩:ByteArray)⟩:Title),(⟨0,(⟨#[]⟩:ByteArray)⟩:Title),(⟨#[120]⟩:ByteArray),0,[]⟩:Change)]).bind fun r2=>
 (project_View r2.1 (⟨#[97,110,110]⟩:ByteArray)).bind fun r3=>
 letk (fun (x10:Bool)=>
  (some x10:Option Bool)) fun k1=>
 if (decide ((r3.pages.length:Int)=1)) then
  (atI r3.pages 0).bind fun e11=>
  if (decide (e11=(⟨(⟨0,(⟨#[65]⟩:ByteArray)⟩:Title),(⟨#[120]⟩:ByteArray),1⟩:Page))) then
   (g2_Same_string r3.groups [(⟨#[97,108,108]⟩:ByteArray),(⟨#[117,115,101,114,115]⟩:ByteArray)]).bind fun r12=>
   if r12 then
    (project_Readable r2.1 (⟨#[]⟩:ByteArray) (⟨0,(⟨#[65]⟩:ByteArray)⟩:Title)).bind fun r13=>
    if r13 then
     (g2_PolicyPage).bind fun r14=>
     (project_Readable r2.1 (⟨#[97,110,110]⟩:ByteArray) r14).bind fun r15=>
     if (!r15) then
      (project_Same r3 r3).bind fun r16=>
      k1 r16
     else
     k1 false
    else
    k1 false
   else
   k1 false
  else
  k1 false
 else
 k1 false
theorem w31_awake_c  (r:Bool) (hF:w31_awake=some r):Contract0 Tryz.prog 11 [] (.bool r):=by
 refine cF (fun r=>.bool r) hF mix Tryz.func11 fun r hF=>?_
 unfold w31_awake at hF
 refine runX ?_
 refine rg ?_
 refine rg ?_
 obtain ⟨r1,h1,hF⟩:=bnd hF
 refine g_call (g2_Begin_c _ _ h1) rfl rfl (runX ?_)
 refine rg ?_
 refine g_buildM (M:=([(⟨1,(⟨#[]⟩:ByteArray),(⟨#[]⟩:ByteArray),(⟨0,(⟨#[65]⟩:ByteArray)⟩:Title),(⟨0,(⟨#[]⟩:ByteArray)⟩:Title),(⟨#[120]⟩:ByteArray),0,[]⟩:Change)]:List Change)) (f:=Change.cs) rfl rfl rfl rfl (Nat.le_of_ble_eq_true rfl) rfl (runX ?_)
 obtain ⟨r2,h2,hF⟩:=bnd hF
 refine g_call (r27_Apply_c _ _ _ h2) rfl rfl (runX ?_)
 refine rg ?_
 obtain ⟨r3,h3,hF⟩:=bnd hF
 refine g_call (project_View_c _ _ _ h3) rfl rfl (runX ?_)
 refine jL hF (fun x10=>mkS [(0,.bool x10)] [] 2) (fun k1 hF=>?_) fun x10 hF=>?_
 ·refine rg ?_
  refine g_lenM rfl (M:=r3.pages) (f:=Page.cs) rfl (runX ?_)
  refine kS 18 hF rfl (fun hF=>?_) fun hF=>?_
  ·obtain ⟨e11,h10,hF⟩:=bnd hF
   refine g_indexI (f:=Page.cs) rfl h10 rfl rfl rfl (runX ?_)
   refine g_eqT (.inl rfl) rfl rfl rfl rfl rfl (fun W=>pageEql e11 (⟨(⟨0,(⟨#[65]⟩:ByteArray)⟩:Title),(⟨#[120]⟩:ByteArray),1⟩:Page) W) (runX ?_)
   refine kS 27 hF rfl (fun hF=>?_) fun hF=>?_
   ·refine g_buildM (M:=([(⟨#[97,108,108]⟩:ByteArray),(⟨#[117,115,101,114,115]⟩:ByteArray)]:List ByteArray)) (f:=csS) rfl rfl rfl rfl (Nat.le_of_ble_eq_true rfl) rfl (runX ?_)
    obtain ⟨r12,h11,hF⟩:=bnd hF
    refine g_look (g2_Same_string_c _ _ _ h11) rfl rfl rfl (runX ?_)
    refine kS 33 hF rfl (fun hF=>?_) fun hF=>?_
    ·obtain ⟨r13,h12,hF⟩:=bnd hF
     refine g_call (project_Readable_c _ _ _ _ h12) rfl rfl (runX ?_)
     refine kS 38 hF rfl (fun hF=>?_) fun hF=>?_
     ·obtain ⟨r14,h13,hF⟩:=bnd hF
      refine g_call (g2_PolicyPage_c _ h13) rfl rfl (runX ?_)
      obtain ⟨r15,h14,hF⟩:=bnd hF
      refine g_call (project_Readable_c _ _ _ _ h14) rfl rfl (runX ?_)
      refine kS 44 hF rfl (fun hF=>?_) fun hF=>?_
      ·obtain ⟨r16,h15,hF⟩:=bnd hF
       refine g_call (project_Same_c _ _ _ h15) rfl rfl (runX ?_)
       exact jn r16 hF (sR [])
      iterate 3 refine g_skip rfl (runX ?_)
      exact jn false hF (sR [])
     iterate 7 refine g_skip rfl (runX ?_)
     exact jn false hF (sR [])
    iterate 10 refine g_skip rfl (runX ?_)
    exact jn false hF (sR [])
   iterate 14 refine g_skip rfl (runX ?_)
   exact jn false hF (sR [])
  iterate 21 refine g_skip rfl (runX ?_)
  exact jn false hF (sR [])
 cases hF
 exact rQ
end Go.Proofs.YtphibahplgmgfaaGreatDoor
set_option linter.unusedVariables false
set_option maxHeartbeats 4000000
set_option maxRecDepth 100000
set_option linter.unusedVariables false
set_option maxHeartbeats 4000000
set_option maxRecDepth 100000
set_option linter.unusedVariables false
set_option maxHeartbeats 4000000
set_option maxRecDepth 100000
