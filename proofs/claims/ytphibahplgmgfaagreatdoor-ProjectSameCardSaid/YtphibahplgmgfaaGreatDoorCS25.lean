/- Functions of the program as Lean functions. Written by fxgen.py. | Functions of the program as Lean functions. Written by fxgen.py. | Functions of the program as Lean functions. Written by fxgen.py. -/
import Derived.Test.YtphibahplgmgfaaGreatDoorCS24
import Derived.Test.YtphibahplgmgfaaGreatDoorCS08
import Derived.Test.YtphibahplgmgfaaGreatDoorCS11
import Derived.Test.YtphibahplgmgfaaGreatDoorCS12
set_option linter.unusedVariables false
set_option maxHeartbeats 4000000
set_option maxRecDepth 100000
namespace Go.Proofs.YtphibahplgmgfaaGreatDoor
open VL
def g2_Revisions (p0:SrcF) (p1:Int):Option ((List Revision)×SrcF):=
 (g2_Source_Next p0 3).bind fun r1=>
 fixN bigN (fun f2 ((x48,x49,x50,x51,x52,x53):Int×Int×(List Int)×Int×Int×(List Revision))=>
  if (decide (0<x49)) then
   (g2_User (⟨x50,x51,x52⟩:SrcF)).bind fun r69=>
   (g2_Note r69.2).bind fun r70=>
   (g2_Text r70.2).bind fun r71=>
   (appL 72 x53 [(⟨(w64 ((x53.length:Int)+1)),r69.1,r70.1,r71.1,x48,0⟩:Revision)]).bind fun l72=>
   (g2_Source_Next r71.2 3).bind fun r73=>
   f2 ((if (w64 (x48+r73.1))<p1 then (w64 (x48+r73.1)) else p1),(w64 (x49 - 1)),r73.2.l,r73.2.pos,r73.2.seed,l72)
  else
  (some (x53,(⟨x50,x51,x52⟩:SrcF)):Option ((List Revision)×SrcF))) (0,(w64 (1+r1.1)),r1.2.l,r1.2.pos,r1.2.seed,([]:List Revision))
theorem g2_Revisions_c (p0:SrcF) (p1:Int) (r:(List Revision)×SrcF) (hF:g2_Revisions p0 p1=some r):Contract Tryz.prog 106 [.ptr 0 (0,0) 0,.int .i64 p1] (some (0,p0.cs)) (.sl (List.map Revision.cs r.1)) (r.2).cs:=by
 refine contract_FO (R:=fun r=>.sl (List.map Revision.cs r.1)) (O:=fun r=>(r.2).cs) hF mix Tryz.func106 (by kernel_rfl) rfl (by kernel_rfl) fun r hF=>?_
 unfold g2_Revisions at hF
 refine runX ?_
 refine rg ?_
 refine rg ?_
 refine rg ?_
 refine rg ?_
 obtain ⟨r1,h1,hF⟩:=bnd hF
 refine g_call1 (g2_Source_Next_c _ _ _ h1) rfl rfl rfl rfl rfl (runX ?_)
 refine bl ?_
 refine fix_elim hF fun f2 mf2 hf2 hF=>?_
 refine pws_loop (α:=Nat×(Int×Int×(List Int)×Int×Int×(List Revision))) (fun a _=>mkS [(0,.ptr 0 (0,0) 0),(1,.int .i64 p1),(5,.row 5 (1,5)),(6,.int .i64 a.2.1),(7,.int .i64 a.2.2.1)] [(0,some ((0,0),.box [.sl (List.map csI a.2.2.2.1),.int .i64 a.2.2.2.2.1,.int .u64 a.2.2.2.2.2.1])),(5,some ((1,5),.row 71 6 false (List.map Revision.cs a.2.2.2.2.2.2)))] 2) (fun a=>fixN a.1 f2 a.2=some r) (fun a=>a.1) (mf2,0,(w64 (1+r1.1)),r1.2.l,r1.2.pos,r1.2.seed,([]:List Revision)) 2 hF (shift_nilR [] 5 71 6 rfl ⟨rfl,rfl,rfl,rfl,rfl,trivial⟩ ⟨⟨rfl,rfl⟩,⟨rfl,rfl⟩,trivial⟩ rfl) (fun a _ hF=>?_)
 obtain ⟨mf2,x48,x49,x50,x51,x52,x53⟩:=a
 obtain ⟨mf2,rfl,hF⟩:=fix_step hf2 hF
 dsimp only at hF ⊢
 refine runX ?_
 refine rg ?_
 refine cS hF rfl (fun hF=>?_) fun hF=>?_
 ·refine bl ?_
  refine rg ?_
  refine g_lenM rfl (M:=x53) (f:=Revision.cs) rfl (runX ?_)
  obtain ⟨r69,h57,hF⟩:=bnd hF
  refine g_call1 (g2_User_c _ _ h57) rfl rfl rfl rfl rfl (runX ?_)
  obtain ⟨r70,h58,hF⟩:=bnd hF
  refine g_call1 (g2_Note_c _ _ h58) rfl rfl rfl rfl rfl (runX ?_)
  obtain ⟨r71,h59,hF⟩:=bnd hF
  refine g_call1 (g2_Text_c _ _ h59) rfl rfl rfl rfl rfl (runX ?_)
  refine g_buildM (M:=([(⟨(w64 ((x53.length:Int)+1)),r69.1,r70.1,r71.1,x48,0⟩:Revision)]:List Revision)) (f:=Revision.cs) rfl rfl rfl rfl (Nat.le_of_ble_eq_true rfl) rfl (runX ?_)
  obtain ⟨l72,h60,hF⟩:=bnd hF
  refine g_appR (f:=Revision.cs) rfl h60 (fun _=>rfl) rfl rfl rfl rfl (runX ?_)
  refine rg ?_
  obtain ⟨r73,h61,hF⟩:=bnd hF
  refine g_call1 (g2_Source_Next_c _ _ _ h61) rfl rfl rfl rfl rfl (runX ?_)
  refine g_min rfl rfl rfl (runX ?_)
  refine rg ?_
  exact rn (mf2,(if (w64 (x48+r73.1))<p1 then (w64 (x48+r73.1)) else p1),(w64 (x49 - 1)),r73.2.l,r73.2.pos,r73.2.seed,l72) hF (sR [(5,3,13)])
 refine rg ?_
 cases hF
 exact ro_ret rfl rfl rfl rfl rfl
def g2_Change (p0:SrcF) (p1:Int):Option (Change×SrcF):=
 (g2_Source_Next p0 14).bind fun r1=>
 (atI ([1,1,1,1,1,2,3,4,5,6,7,8,9,10]:List Int) r1.1).bind fun c2=>
 (g2_User r1.2).bind fun r3=>
 (g2_Title r3.2).bind fun r4=>
 letk (fun (x15:List Int) (x16:Int) (x17:Int) (x18:Int) (x19:ByteArray) (x20:ByteArray) (x21:Int) (x22:ByteArray) (x23:Int) (x24:ByteArray) (x25:ByteArray) (x26:Int) (x27:List Revision)=>
  (some ((⟨x18,x19,x20,(⟨x21,x22⟩:Title),(⟨x23,x24⟩:Title),x25,x26,x27⟩:Change),(⟨x15,x16,x17⟩:SrcF)):Option (Change×SrcF))) fun k3=>
 letk (fun (x28:Bool)=>
  if x28 then
   (g2_Note r4.2).bind fun r29=>
   (g2_Text r29.2).bind fun r30=>
   if (decide (c2=9)) then
    (g2_Source_Next r30.2 3).bind fun r31=>
    k3 r31.2.l r31.2.pos r31.2.seed c2 r3.1 r29.1 r4.1.space r4.1.name 0 (⟨#[]⟩:ByteArray) r30.1 r31.1 []
   else
   k3 r30.2.l r30.2.pos r30.2.seed c2 r3.1 r29.1 r4.1.space r4.1.name 0 (⟨#[]⟩:ByteArray) r30.1 0 []
  else
  if (decide (c2=4)) then
   (g2_Title r4.2).bind fun r32=>
   (g2_Source_Next r32.2 2).bind fun r33=>
   k3 r33.2.l r33.2.pos r33.2.seed c2 r3.1 (⟨#[]⟩:ByteArray) r4.1.space r4.1.name r32.1.space r32.1.name (⟨#[]⟩:ByteArray) r33.1 []
  else
  if (decide (c2=5)) then
   (g2_Revisions r4.2 p1).bind fun r34=>
   k3 r34.2.l r34.2.pos r34.2.seed c2 r3.1 (⟨#[]⟩:ByteArray) r4.1.space r4.1.name 0 (⟨#[]⟩:ByteArray) (⟨#[]⟩:ByteArray) 0 r34.1
  else
  if (decide (c2=6)) then
   (g2_Source_Next r4.2 2000).bind fun r35=>
   k3 r35.2.l r35.2.pos r35.2.seed 6 (⟨#[]⟩:ByteArray) (⟨#[]⟩:ByteArray) 0 (⟨#[]⟩:ByteArray) 0 (⟨#[]⟩:ByteArray) (⟨#[]⟩:ByteArray) (w64 (1+r35.1)) []
  else
  letk (fun (x36:Bool)=>
   if x36 then
    if (decide (r3.1=(⟨#[]⟩:ByteArray))) then
     k3 r4.2.l r4.2.pos r4.2.seed c2 (⟨#[98,111,98]⟩:ByteArray) (⟨#[]⟩:ByteArray) r4.1.space r4.1.name 0 (⟨#[]⟩:ByteArray) (⟨#[]⟩:ByteArray) 0 []
    else
    k3 r4.2.l r4.2.pos r4.2.seed c2 r3.1 (⟨#[]⟩:ByteArray) r4.1.space r4.1.name 0 (⟨#[]⟩:ByteArray) (⟨#[]⟩:ByteArray) 0 []
   else
   if (decide (c2=10)) then
    (g2_Source_Next r4.2 4).bind fun r37=>
    k3 r37.2.l r37.2.pos r37.2.seed c2 r3.1 (⟨#[]⟩:ByteArray) 0 (⟨#[]⟩:ByteArray) 0 (⟨#[]⟩:ByteArray) (⟨#[]⟩:ByteArray) (w64 (1+r37.1)) []
   else
   k3 r4.2.l r4.2.pos r4.2.seed c2 r3.1 (⟨#[]⟩:ByteArray) r4.1.space r4.1.name 0 (⟨#[]⟩:ByteArray) (⟨#[]⟩:ByteArray) 0 []) fun k5=>
  if (decide (c2=7)) then
   k5 (decide (c2=7))
  else
  k5 (decide (c2=8))) fun k4=>
 if (decide (c2=1)) then
  k4 (decide (c2=1))
 else
 k4 (decide (c2=9))
theorem g2_Change_c (p0:SrcF) (p1:Int) (r:Change×SrcF) (hF:g2_Change p0 p1=some r):Contract Tryz.prog 71 [.ptr 0 (0,0) 0,.int .i64 p1] (some (0,p0.cs)) (r.1.pv) (r.2).cs:=by
 refine contract_FO (R:=fun r=>r.1.pv) (O:=fun r=>(r.2).cs) hF mix Tryz.func71 (by kernel_rfl) rfl (by kernel_rfl) fun r hF=>?_
 unfold g2_Change at hF
 refine runY ?_
 refine pws_regionL (runY ?_)
 refine pws_regionL (runY ?_)
 refine g_build_ar (cs:=[.int .i64 1,.int .i64 1,.int .i64 1,.int .i64 1,.int .i64 1,.int .i64 2,.int .i64 3,.int .i64 4,.int .i64 5,.int .i64 6,.int .i64 7,.int .i64 8,.int .i64 9,.int .i64 10]) rfl (by kernel_rfl) (runY ?_)
 obtain ⟨r1,h1,hF⟩:=bnd hF
 refine g_call1 (g2_Source_Next_c _ _ _ h1) rfl rfl rfl rfl rfl (runY ?_)
 obtain ⟨c2,h2,hF⟩:=bnd hF
 refine g_ixI (p:=(PV.int .i64)) rfl h2 rfl rfl rfl rfl rfl (runY ?_)
 obtain ⟨r3,h3,hF⟩:=bnd hF
 refine g_call1 (g2_User_c _ _ h3) rfl rfl rfl rfl rfl (runY ?_)
 obtain ⟨r4,h4,hF⟩:=bnd hF
 refine g_call1 (g2_Title_c _ _ h4) rfl rfl rfl rfl rfl (runY ?_)
 refine pws_regionL (runY ?_)
 refine letk_elim hF fun k3 hk3 hF=>?_
 refine pws_join (α:=(List Int)×Int×Int×Int×ByteArray×ByteArray×Int×ByteArray×Int×ByteArray×ByteArray×Int×(List Revision)) (fun a _=>mkS [(0,.ptr 0 (0,0) 0),(4,.ptr 4 (1,4) 0),(5,.ptr 5 (1,5) 0)] [(0,some ((0,0),.box [.sl (List.map csI a.1),.int .i64 a.2.1,.int .u64 a.2.2.1])),(4,some ((1,4),.box [.int .i64 0,.str (⟨#[]⟩:ByteArray),.str (⟨#[]⟩:ByteArray),.int .i64 0,.str (⟨#[]⟩:ByteArray),.int .i64 0,.str (⟨#[]⟩:ByteArray),.str (⟨#[]⟩:ByteArray),.int .i64 0,.nil])),(5,some ((1,5),.box [.int .i64 a.2.2.2.1,.str a.2.2.2.2.1,.str a.2.2.2.2.2.1,.int .i64 a.2.2.2.2.2.2.1,.str a.2.2.2.2.2.2.2.1,.int .i64 a.2.2.2.2.2.2.2.2.1,.str a.2.2.2.2.2.2.2.2.2.1,.str a.2.2.2.2.2.2.2.2.2.2.1,.int .i64 a.2.2.2.2.2.2.2.2.2.2.2.1,.sl (List.map Revision.cs a.2.2.2.2.2.2.2.2.2.2.2.2)]))] 2) (fun a=>k3 a.1 a.2.1 a.2.2.1 a.2.2.2.1 a.2.2.2.2.1 a.2.2.2.2.2.1 a.2.2.2.2.2.2.1 a.2.2.2.2.2.2.2.1 a.2.2.2.2.2.2.2.2.1 a.2.2.2.2.2.2.2.2.2.1 a.2.2.2.2.2.2.2.2.2.2.1 a.2.2.2.2.2.2.2.2.2.2.2.1 a.2.2.2.2.2.2.2.2.2.2.2.2=some r) (runY ?_) (fun a _ hF=>?_)
 ·refine pws_block (runY ?_)
  refine pws_regionL (runY ?_)
  refine letk_elim hF fun k4 hk4 hF=>?_
  refine pws_join (α:=Bool) (fun x28 _=>mkS [(0,.ptr 0 (0,0) 0),(1,.int .i64 p1),(4,.ptr 4 (1,4) 0),(5,.ptr 5 (1,5) 0),(16,.int .i64 c2),(17,.bool x28)] [(0,some ((0,0),.box [.sl (List.map csI r4.2.l),.int .i64 r4.2.pos,.int .u64 r4.2.seed])),(4,some ((1,4),.box [.int .i64 0,.str (⟨#[]⟩:ByteArray),.str (⟨#[]⟩:ByteArray),.int .i64 0,.str (⟨#[]⟩:ByteArray),.int .i64 0,.str (⟨#[]⟩:ByteArray),.str (⟨#[]⟩:ByteArray),.int .i64 0,.nil])),(5,some ((1,5),.box [.int .i64 c2,.str r3.1,.str (⟨#[]⟩:ByteArray),.int .i64 r4.1.space,.str r4.1.name,.int .i64 0,.str (⟨#[]⟩:ByteArray),.str (⟨#[]⟩:ByteArray),.int .i64 0,.nil]))] 2) (fun x28=>k4 x28=some r) (runY ?_) (fun a _ hF=>?_)
  ·refine pws_condS rfl (fun h=>runY ?_) (fun h=>runY ?_)
   ·replace hF:=ifT h hF
    exact jk_normal (decide (c2=1)) 2 hF (shift_ren [((1,4),(1,0)),((1,5),(2,9))] ⟨rfl,rfl,rfl,rfl,rfl,rfl,trivial⟩ ⟨⟨rfl,rfl⟩,⟨rfl,rfl⟩,⟨rfl,rfl⟩,trivial⟩ rfl)
   replace hF:=ifF h hF
   refine pws_regionL (runY ?_)
   exact jk_normal (decide (c2=9)) 2 hF (shift_ren [((1,4),(1,0)),((1,5),(2,9))] ⟨rfl,rfl,rfl,rfl,rfl,rfl,trivial⟩ ⟨⟨rfl,rfl⟩,⟨rfl,rfl⟩,⟨rfl,rfl⟩,trivial⟩ rfl)
  revert a;intro x28 hF
  subst hk4
  dsimp only at hF ⊢
  refine runY ?_
  refine pws_condS rfl (fun h=>runY ?_) (fun h=>runY ?_)
  ·replace hF:=ifT h hF
   refine pws_regionL (runY ?_)
   obtain ⟨r29,h13,hF⟩:=bnd hF
   refine g_call1 (g2_Note_c _ _ h13) rfl rfl rfl rfl rfl (runY ?_)
   obtain ⟨r30,h14,hF⟩:=bnd hF
   refine g_call1 (g2_Text_c _ _ h14) rfl rfl rfl rfl rfl (runY ?_)
   refine pws_regionL (runY ?_)
   refine pws_condS rfl (fun h=>runY ?_) (fun h=>runY ?_)
   ·replace hF:=ifT h hF
    refine pws_regionL (runY ?_)
    obtain ⟨r31,h15,hF⟩:=bnd hF
    refine g_call1 (g2_Source_Next_c _ _ _ h15) rfl rfl rfl rfl rfl (runY ?_)
    exact jk_normal (r31.2.l,r31.2.pos,r31.2.seed,c2,r3.1,r29.1,r4.1.space,r4.1.name,0,(⟨#[]⟩:ByteArray),r30.1,r31.1,[]) 2 hF (Shift.trans (shift_B 5 rfl rfl) (shift_ren [((1,4),(1,4)),((1,5),(1,5))] ⟨rfl,rfl,rfl,trivial⟩ ⟨⟨rfl,rfl⟩,⟨rfl,rfl⟩,⟨rfl,rfl⟩,trivial⟩ rfl))
   replace hF:=ifF h hF
   exact jk_normal (r30.2.l,r30.2.pos,r30.2.seed,c2,r3.1,r29.1,r4.1.space,r4.1.name,0,(⟨#[]⟩:ByteArray),r30.1,0,[]) 2 hF (Shift.trans (shift_B 5 rfl rfl) (shift_ren [((1,4),(1,4)),((1,5),(1,5))] ⟨rfl,rfl,rfl,trivial⟩ ⟨⟨rfl,rfl⟩,⟨rfl,rfl⟩,⟨rfl,rfl⟩,trivial⟩ rfl))
  replace hF:=ifF h hF
  refine pws_regionL (runY ?_)
  refine pws_condS rfl (fun h=>runY ?_) (fun h=>runY ?_)
  ·replace hF:=ifT h hF
   refine pws_regionL (runY ?_)
   obtain ⟨r32,h16,hF⟩:=bnd hF
   refine g_call1 (g2_Title_c _ _ h16) rfl rfl rfl rfl rfl (runY ?_)
   obtain ⟨r33,h17,hF⟩:=bnd hF
   refine g_call1 (g2_Source_Next_c _ _ _ h17) rfl rfl rfl rfl rfl (runY ?_)
   exact jk_normal (r33.2.l,r33.2.pos,r33.2.seed,c2,r3.1,(⟨#[]⟩:ByteArray),r4.1.space,r4.1.name,r32.1.space,r32.1.name,(⟨#[]⟩:ByteArray),r33.1,[]) 2 hF (Shift.trans (shift_B 5 rfl rfl) (shift_ren [((1,4),(1,4)),((1,5),(1,5))] ⟨rfl,rfl,rfl,trivial⟩ ⟨⟨rfl,rfl⟩,⟨rfl,rfl⟩,⟨rfl,rfl⟩,trivial⟩ rfl))
  replace hF:=ifF h hF
  refine pws_regionL (runY ?_)
  refine pws_condS rfl (fun h=>runY ?_) (fun h=>runY ?_)
  ·replace hF:=ifT h hF
   refine pws_regionL (runY ?_)
   obtain ⟨r34,h18,hF⟩:=bnd hF
   refine g_call1 (g2_Revisions_c _ _ _ h18) rfl rfl rfl rfl rfl (runY ?_)
   exact jk_normal (r34.2.l,r34.2.pos,r34.2.seed,c2,r3.1,(⟨#[]⟩:ByteArray),r4.1.space,r4.1.name,0,(⟨#[]⟩:ByteArray),(⟨#[]⟩:ByteArray),0,r34.1) 2 hF (shift_ren [((1,4),(1,4)),((1,5),(1,5))] ⟨rfl,rfl,rfl,trivial⟩ ⟨⟨rfl,rfl⟩,⟨rfl,rfl⟩,⟨rfl,rfl⟩,trivial⟩ rfl)
  replace hF:=ifF h hF
  refine pws_regionL (runY ?_)
  refine pws_condS rfl (fun h=>runY ?_) (fun h=>runY ?_)
  ·replace hF:=ifT h hF
   refine pws_regionL (runY ?_)
   obtain ⟨r35,h19,hF⟩:=bnd hF
   refine g_call1 (g2_Source_Next_c _ _ _ h19) rfl rfl rfl rfl rfl (runY ?_)
   exact jk_normal (r35.2.l,r35.2.pos,r35.2.seed,6,(⟨#[]⟩:ByteArray),(⟨#[]⟩:ByteArray),0,(⟨#[]⟩:ByteArray),0,(⟨#[]⟩:ByteArray),(⟨#[]⟩:ByteArray),(w64 (1+r35.1)),[]) 2 hF (Shift.trans (shift_B 5 rfl rfl) (shift_ren [((1,4),(1,4)),((1,5),(1,5))] ⟨rfl,rfl,rfl,trivial⟩ ⟨⟨rfl,rfl⟩,⟨rfl,rfl⟩,⟨rfl,rfl⟩,trivial⟩ rfl))
  replace hF:=ifF h hF
  refine pws_regionL (runY ?_)
  refine letk_elim hF fun k5 hk5 hF=>?_
  refine pws_join (α:=Bool) (fun x36 _=>mkS [(0,.ptr 0 (0,0) 0),(4,.ptr 4 (1,4) 0),(5,.ptr 5 (1,5) 0),(16,.int .i64 c2),(52,.bool x36)] [(0,some ((0,0),.box [.sl (List.map csI r4.2.l),.int .i64 r4.2.pos,.int .u64 r4.2.seed])),(4,some ((1,4),.box [.int .i64 0,.str (⟨#[]⟩:ByteArray),.str (⟨#[]⟩:ByteArray),.int .i64 0,.str (⟨#[]⟩:ByteArray),.int .i64 0,.str (⟨#[]⟩:ByteArray),.str (⟨#[]⟩:ByteArray),.int .i64 0,.nil])),(5,some ((1,5),.box [.int .i64 c2,.str r3.1,.str (⟨#[]⟩:ByteArray),.int .i64 r4.1.space,.str r4.1.name,.int .i64 0,.str (⟨#[]⟩:ByteArray),.str (⟨#[]⟩:ByteArray),.int .i64 0,.nil]))] 2) (fun x36=>k5 x36=some r) (runY ?_) (fun a _ hF=>?_)
  ·refine pws_condS rfl (fun h=>runY ?_) (fun h=>runY ?_)
   ·replace hF:=ifT h hF
    exact jk_normal (decide (c2=7)) 2 hF (shift_ren [((1,4),(1,4)),((1,5),(1,5))] ⟨rfl,rfl,rfl,rfl,rfl,trivial⟩ ⟨⟨rfl,rfl⟩,⟨rfl,rfl⟩,⟨rfl,rfl⟩,trivial⟩ rfl)
   replace hF:=ifF h hF
   refine pws_regionL (runY ?_)
   exact jk_normal (decide (c2=8)) 2 hF (shift_ren [((1,4),(1,4)),((1,5),(1,5))] ⟨rfl,rfl,rfl,rfl,rfl,trivial⟩ ⟨⟨rfl,rfl⟩,⟨rfl,rfl⟩,⟨rfl,rfl⟩,trivial⟩ rfl)
  revert a;intro x36 hF
  subst hk5
  dsimp only at hF ⊢
  refine runY ?_
  refine pws_condS rfl (fun h=>runY ?_) (fun h=>runY ?_)
  ·replace hF:=ifT h hF
   refine pws_regionL (runY ?_)
   refine pws_condS rfl (fun h=>runY ?_) (fun h=>runY ?_)
   ·replace hF:=ifT h hF
    refine pws_regionL (runY ?_)
    exact jk_normal (r4.2.l,r4.2.pos,r4.2.seed,c2,(⟨#[98,111,98]⟩:ByteArray),(⟨#[]⟩:ByteArray),r4.1.space,r4.1.name,0,(⟨#[]⟩:ByteArray),(⟨#[]⟩:ByteArray),0,[]) 2 hF (Shift.trans (shift_B 5 rfl rfl) (shift_ren [((1,4),(1,4)),((1,5),(1,5))] ⟨rfl,rfl,rfl,trivial⟩ ⟨⟨rfl,rfl⟩,⟨rfl,rfl⟩,⟨rfl,rfl⟩,trivial⟩ rfl))
   replace hF:=ifF h hF
   exact jk_normal (r4.2.l,r4.2.pos,r4.2.seed,c2,r3.1,(⟨#[]⟩:ByteArray),r4.1.space,r4.1.name,0,(⟨#[]⟩:ByteArray),(⟨#[]⟩:ByteArray),0,[]) 2 hF (Shift.trans (shift_B 5 rfl rfl) (shift_ren [((1,4),(1,4)),((1,5),(1,5))] ⟨rfl,rfl,rfl,trivial⟩ ⟨⟨rfl,rfl⟩,⟨rfl,rfl⟩,⟨rfl,rfl⟩,trivial⟩ rfl))
  replace hF:=ifF h hF
  refine pws_regionL (runY ?_)
  refine pws_condS rfl (fun h=>runY ?_) (fun h=>runY ?_)
  ·replace hF:=ifT h hF
   refine pws_regionL (runY ?_)
   obtain ⟨r37,h20,hF⟩:=bnd hF
   refine g_call1 (g2_Source_Next_c _ _ _ h20) rfl rfl rfl rfl rfl (runY ?_)
   exact jk_normal (r37.2.l,r37.2.pos,r37.2.seed,c2,r3.1,(⟨#[]⟩:ByteArray),0,(⟨#[]⟩:ByteArray),0,(⟨#[]⟩:ByteArray),(⟨#[]⟩:ByteArray),(w64 (1+r37.1)),[]) 2 hF (Shift.trans (shift_B 5 rfl rfl) (shift_ren [((1,4),(1,4)),((1,5),(1,5))] ⟨rfl,rfl,rfl,trivial⟩ ⟨⟨rfl,rfl⟩,⟨rfl,rfl⟩,⟨rfl,rfl⟩,trivial⟩ rfl))
  replace hF:=ifF h hF
  exact jk_normal (r4.2.l,r4.2.pos,r4.2.seed,c2,r3.1,(⟨#[]⟩:ByteArray),r4.1.space,r4.1.name,0,(⟨#[]⟩:ByteArray),(⟨#[]⟩:ByteArray),0,[]) 2 hF (Shift.trans (shift_B 5 rfl rfl) (shift_ren [((1,4),(1,4)),((1,5),(1,5))] ⟨rfl,rfl,rfl,trivial⟩ ⟨⟨rfl,rfl⟩,⟨rfl,rfl⟩,⟨rfl,rfl⟩,trivial⟩ rfl))
 obtain ⟨x15,x16,x17,x18,x19,x20,x21,x22,x23,x24,x25,x26,x27⟩:=a
 subst hk3
 dsimp only at hF ⊢
 refine runY ?_
 refine pws_regionL (runY ?_)
 cases hF
 exact ro_ret rfl rfl rfl rfl rfl
def g2_Changes (p0:SrcF) (p1:Int):Option ((List Change)×SrcF):=
 (g2_Source_Next p0 6).bind fun r1=>
 (quoI .i64 r1.1 3).bind fun q2=>
 fixN bigN (fun f2 ((x24,x25,x26,x27,x28):Int×(List Int)×Int×Int×(List Change))=>
  if (decide (0<x24)) then
   (g2_Change (⟨x25,x26,x27⟩:SrcF) p1).bind fun r35=>
   (appL 136 x28 [r35.1]).bind fun l36=>
   f2 ((w64 (x24 - 1)),r35.2.l,r35.2.pos,r35.2.seed,l36)
  else
  (some (x28,(⟨x25,x26,x27⟩:SrcF)):Option ((List Change)×SrcF))) ((w64 (1+q2)),r1.2.l,r1.2.pos,r1.2.seed,([]:List Change))
theorem g2_Changes_c (p0:SrcF) (p1:Int) (r:(List Change)×SrcF) (hF:g2_Changes p0 p1=some r):Contract Tryz.prog 32 [.ptr 0 (0,0) 0,.int .i64 p1] (some (0,p0.cs)) (.sl (List.map Change.cs r.1)) (r.2).cs:=by
 refine contract_FO (R:=fun r=>.sl (List.map Change.cs r.1)) (O:=fun r=>(r.2).cs) hF mix Tryz.func32 (by kernel_rfl) rfl (by kernel_rfl) fun r hF=>?_
 unfold g2_Changes at hF
 refine runX ?_
 refine rg ?_
 refine rg ?_
 refine rg ?_
 obtain ⟨r1,h1,hF⟩:=bnd hF
 refine g_call1 (g2_Source_Next_c _ _ _ h1) rfl rfl rfl rfl rfl (runX ?_)
 obtain ⟨q2,h2,hF⟩:=bnd hF
 refine g_quoI rfl h2 rfl rfl (runX ?_)
 refine bl ?_
 refine fix_elim hF fun f2 mf2 hf2 hF=>?_
 refine pws_loop (α:=Nat×(Int×(List Int)×Int×Int×(List Change))) (fun a _=>mkS [(0,.ptr 0 (0,0) 0),(1,.int .i64 p1),(5,.row 5 (1,5)),(6,.int .i64 a.2.1)] [(0,some ((0,0),.box [.sl (List.map csI a.2.2.1),.int .i64 a.2.2.2.1,.int .u64 a.2.2.2.2.1])),(5,some ((1,5),.row 79 10 false (List.map Change.cs a.2.2.2.2.2)))] 2) (fun a=>fixN a.1 f2 a.2=some r) (fun a=>a.1) (mf2,(w64 (1+q2)),r1.2.l,r1.2.pos,r1.2.seed,([]:List Change)) 2 hF (shift_nilR [] 5 79 10 rfl ⟨rfl,rfl,rfl,rfl,trivial⟩ ⟨⟨rfl,rfl⟩,⟨rfl,rfl⟩,trivial⟩ rfl) (fun a _ hF=>?_)
 obtain ⟨mf2,x24,x25,x26,x27,x28⟩:=a
 obtain ⟨mf2,rfl,hF⟩:=fix_step hf2 hF
 dsimp only at hF ⊢
 refine runX ?_
 refine rg ?_
 refine cS hF rfl (fun hF=>?_) fun hF=>?_
 ·refine bl ?_
  refine rg ?_
  obtain ⟨r35,h25,hF⟩:=bnd hF
  refine g_call1 (g2_Change_c _ _ _ h25) rfl rfl rfl rfl rfl (runX ?_)
  refine g_buildM (M:=([r35.1]:List Change)) (f:=Change.cs) rfl rfl rfl rfl (Nat.le_of_ble_eq_true rfl) rfl (runX ?_)
  obtain ⟨l36,h26,hF⟩:=bnd hF
  refine g_appR (f:=Change.cs) rfl h26 (fun _=>rfl) rfl rfl rfl rfl (runX ?_)
  refine rg ?_
  exact rn (mf2,(w64 (x24 - 1)),r35.2.l,r35.2.pos,r35.2.seed,l36) hF (sR [(5,3,5)])
 refine rg ?_
 cases hF
 exact ro_ret rfl rfl rfl rfl rfl
end Go.Proofs.YtphibahplgmgfaaGreatDoor
set_option linter.unusedVariables false
set_option maxHeartbeats 4000000
set_option maxRecDepth 100000
namespace Go.Proofs.YtphibahplgmgfaaGreatDoor
open VL
def g2_Begin (p0:ByteArray):Option State:=
 (g2_PolicyPage).bind fun r1=>
 (r27_Apply (⟨0,0,[],[],[],0,[],[]⟩:State) [(⟨1,(⟨#[]⟩:ByteArray),(⟨#[]⟩:ByteArray),r1,(⟨0,(⟨#[]⟩:ByteArray)⟩:Title),p0,0,[]⟩:Change)]).bind fun r2=>
 (some r2.1:Option State)
theorem g2_Begin_c (p0:ByteArray) (r:State) (hF:g2_Begin p0=some r):Contract0 Tryz.prog 37 [.str p0] (r.pv):=by
 refine cF (fun r=>r.pv) hF mix Tryz.func37 fun r hF=>?_
 unfold g2_Begin at hF
 refine runX ?_
 refine rg ?_
 refine rg ?_
 obtain ⟨r1,h1,hF⟩:=bnd hF
 refine g_call (g2_PolicyPage_c _ h1) rfl rfl (runX ?_)
 refine g_buildM (M:=([(⟨1,(⟨#[]⟩:ByteArray),(⟨#[]⟩:ByteArray),r1,(⟨0,(⟨#[]⟩:ByteArray)⟩:Title),p0,0,[]⟩:Change)]:List Change)) (f:=Change.cs) rfl rfl rfl rfl (Nat.le_of_ble_eq_true rfl) rfl (runX ?_)
 obtain ⟨r2,h2,hF⟩:=bnd hF
 refine g_call (r27_Apply_c _ _ _ h2) rfl rfl (runX ?_)
 refine rg ?_
 cases hF
 exact rQ
def g2_After (p0:State) (p1:SrcF) (p2:Int):Option (State×SrcF):=
 fixN bigN (fun f7 ((x73,x74,x75,x76,x77,x78,x79,x80,x81,x82,x83,x84):Int×(List Int)×Int×Int×Int×Int×(List Stored)×(List Stored)×(List Proposal)×Int×(List Watch)×(List Last))=>
  if (decide (0<x73)) then
   letk (fun (x102:List Int) (x103:Int) (x104:Int) (x105:Int) (x106:Int) (x107:List Stored) (x108:List Stored) (x109:List Proposal) (x110:Int) (x111:List Watch) (x112:List Last)=>
    f7 ((w64 (x73 - 1)),x102,x103,x104,x105,x106,x107,x108,x109,x110,x111,x112)) fun k8=>
   (g2_Changes (⟨x74,x75,x76⟩:SrcF) x78).bind fun r113=>
   (r27_Apply (⟨x77,x78,x79,x80,x81,x82,x83,x84⟩:State) r113.1).bind fun r114=>
   if (decide (r114.2=0)) then
    k8 r113.2.l r113.2.pos r113.2.seed r114.1.seq r114.1.clock r114.1.pages r114.1.gone r114.1.proposals r114.1.proposed r114.1.watches r114.1.lasts
   else
   k8 r113.2.l r113.2.pos r113.2.seed x77 x78 x79 x80 x81 x82 x83 x84
  else
  (some ((⟨x77,x78,x79,x80,x81,x82,x83,x84⟩:State),(⟨x74,x75,x76⟩:SrcF)):Option (State×SrcF))) (p2,p1.l,p1.pos,p1.seed,p0.seq,p0.clock,p0.pages,p0.gone,p0.proposals,p0.proposed,p0.watches,p0.lasts)
theorem g2_After_c (p0:State) (p1:SrcF) (p2:Int) (r:State×SrcF) (hF:g2_After p0 p1 p2=some r):Contract Tryz.prog 43 [p0.pv,.ptr 1 (0,1) 0,.int .i64 p2] (some (1,p1.cs)) (r.1.pv) (r.2).cs:=by
 refine contract_FO (R:=fun r=>r.1.pv) (O:=fun r=>(r.2).cs) hF mix Tryz.func43 (by kernel_rfl) rfl (by kernel_rfl) fun r hF=>?_
 unfold g2_After at hF
 refine runX ?_
 refine rg ?_
 refine bl ?_
 refine fix_elim hF fun f7 mf7 hf7 hF=>?_
 refine pws_loop (α:=Nat×(Int×(List Int)×Int×Int×Int×Int×(List Stored)×(List Stored)×(List Proposal)×Int×(List Watch)×(List Last))) (fun a _=>mkS [(1,.ptr 1 (0,1) 0),(2,.int .i64 a.2.1),(3,.ptr 3 (1,3) 0),(6,.ptr 6 (1,6) 0)] [(1,some ((0,1),.box [.sl (List.map csI a.2.2.1),.int .i64 a.2.2.2.1,.int .u64 a.2.2.2.2.1])),(3,some ((1,3),.box [.int .i64 a.2.2.2.2.2.1,.int .i64 a.2.2.2.2.2.2.1,.sl (List.map Stored.cs a.2.2.2.2.2.2.2.1),.sl (List.map Stored.cs a.2.2.2.2.2.2.2.2.1),.sl (List.map Proposal.cs a.2.2.2.2.2.2.2.2.2.1),.int .i64 a.2.2.2.2.2.2.2.2.2.2.1,.sl (List.map Watch.cs a.2.2.2.2.2.2.2.2.2.2.2.1),.sl (List.map Last.cs a.2.2.2.2.2.2.2.2.2.2.2.2)])),(6,some ((1,6),.box [.int .i64 0,.int .i64 0,.nil,.nil,.nil,.int .i64 0,.nil,.nil]))] 2) (fun a=>fixN a.1 f7 a.2=some r) (fun a=>a.1) (mf7,p2,p1.l,p1.pos,p1.seed,p0.seq,p0.clock,p0.pages,p0.gone,p0.proposals,p0.proposed,p0.watches,p0.lasts) 2 hF (sR [(3,1,0),(6,1,1)]) (fun a _ hF=>?_)
 obtain ⟨mf7,x73,x74,x75,x76,x77,x78,x79,x80,x81,x82,x83,x84⟩:=a
 obtain ⟨mf7,rfl,hF⟩:=fix_step hf7 hF
 dsimp only at hF ⊢
 refine runX ?_
 refine rg ?_
 refine cS hF rfl (fun hF=>?_) fun hF=>?_
 ·refine letk_elim hF fun k8 hk8 hF=>?_
  refine pws_join (α:=(List Int)×Int×Int×Int×Int×(List Stored)×(List Stored)×(List Proposal)×Int×(List Watch)×(List Last)) (fun a _=>mkS [(1,.ptr 1 (0,1) 0),(2,.int .i64 x73),(3,.ptr 3 (1,3) 0),(6,.ptr 6 (1,6) 0)] [(1,some ((0,1),.box [.sl (List.map csI a.1),.int .i64 a.2.1,.int .u64 a.2.2.1])),(3,some ((1,3),.box [.int .i64 a.2.2.2.1,.int .i64 a.2.2.2.2.1,.sl (List.map Stored.cs a.2.2.2.2.2.1),.sl (List.map Stored.cs a.2.2.2.2.2.2.1),.sl (List.map Proposal.cs a.2.2.2.2.2.2.2.1),.int .i64 a.2.2.2.2.2.2.2.2.1,.sl (List.map Watch.cs a.2.2.2.2.2.2.2.2.2.1),.sl (List.map Last.cs a.2.2.2.2.2.2.2.2.2.2)])),(6,some ((1,6),.box [.int .i64 0,.int .i64 0,.nil,.nil,.nil,.int .i64 0,.nil,.nil]))] 2) (fun a=>k8 a.1 a.2.1 a.2.2.1 a.2.2.2.1 a.2.2.2.2.1 a.2.2.2.2.2.1 a.2.2.2.2.2.2.1 a.2.2.2.2.2.2.2.1 a.2.2.2.2.2.2.2.2.1 a.2.2.2.2.2.2.2.2.2.1 a.2.2.2.2.2.2.2.2.2.2=some r) (runX ?_) (fun a _ hF=>?_)
  ·refine bl ?_
   refine rg ?_
   obtain ⟨r113,h23,hF⟩:=bnd hF
   refine g_call1 (g2_Changes_c _ _ _ h23) rfl rfl rfl rfl rfl (runX ?_)
   obtain ⟨r114,h24,hF⟩:=bnd hF
   refine g_call (r27_Apply_c _ _ _ h24) rfl rfl (runX ?_)
   refine rg ?_
   refine cS hF rfl (fun hF=>?_) fun hF=>?_
   ·refine rg ?_
    exact jn (r113.2.l,r113.2.pos,r113.2.seed,r114.1.seq,r114.1.clock,r114.1.pages,r114.1.gone,r114.1.proposals,r114.1.proposed,r114.1.watches,r114.1.lasts) hF (sR [(3,1,3),(6,1,6)])
   exact jn (r113.2.l,r113.2.pos,r113.2.seed,x77,x78,x79,x80,x81,x82,x83,x84) hF (sR [(3,1,3),(6,1,6)])
  obtain ⟨x102,x103,x104,x105,x106,x107,x108,x109,x110,x111,x112⟩:=a
  subst hk8
  dsimp only at hF ⊢
  refine runX ?_
  refine rg ?_
  exact rn (mf7,(w64 (x73 - 1)),x102,x103,x104,x105,x106,x107,x108,x109,x110,x111,x112) hF (sR [(3,1,3),(6,1,6)])
 refine rg ?_
 cases hF
 exact ro_ret rfl rfl rfl rfl rfl
def g2_State (p0:List Int):Option State:=
 (g2_From p0).bind fun r1=>
 (g2_Policy r1).bind fun r2=>
 (g2_Begin r2.1).bind fun r3=>
 (g2_Source_Next r2.2 5).bind fun r4=>
 fixN bigN (fun f7 ((x101,x102,x103,x104,x105,x106,x107,x108,x109,x110,x111,x112):Int×Int×Int×(List Stored)×(List Stored)×(List Proposal)×Int×(List Watch)×(List Last)×(List Int)×Int×Int)=>
  if (decide (x101<(w64 (3+r4.1)))) then
   letk (fun (x139:Int) (x140:Int) (x141:List Stored) (x142:List Stored) (x143:List Proposal) (x144:Int) (x145:List Watch) (x146:List Last) (x147:List Int) (x148:Int) (x149:Int)=>
    f7 ((w64 (x101+1)),x139,x140,x141,x142,x143,x144,x145,x146,x147,x148,x149)) fun k8=>
   (g2_User (⟨x110,x111,x112⟩:SrcF)).bind fun r150=>
   (g2_Titles).bind fun r151=>
   (atI r151 x101).bind fun e152=>
   (g2_Text r150.2).bind fun r153=>
   (r27_Apply (⟨x102,x103,x104,x105,x106,x107,x108,x109⟩:State) [(⟨1,r150.1,(⟨#[]⟩:ByteArray),e152,(⟨0,(⟨#[]⟩:ByteArray)⟩:Title),r153.1,0,[]⟩:Change)]).bind fun r154=>
   if (decide (r154.2=0)) then
    k8 r154.1.seq r154.1.clock r154.1.pages r154.1.gone r154.1.proposals r154.1.proposed r154.1.watches r154.1.lasts r153.2.l r153.2.pos r153.2.seed
   else
   k8 x102 x103 x104 x105 x106 x107 x108 x109 r153.2.l r153.2.pos r153.2.seed
  else
  (g2_Source_Next (⟨x110,x111,x112⟩:SrcF) 7).bind fun r155=>
  (g2_After (⟨x102,x103,x104,x105,x106,x107,x108,x109⟩:State) r155.2 r155.1).bind fun r156=>
  (some r156.1:Option State)) (0,r3.seq,r3.clock,r3.pages,r3.gone,r3.proposals,r3.proposed,r3.watches,r3.lasts,r4.2.l,r4.2.pos,r4.2.seed)
theorem g2_State_c (p0:List Int) (r:State) (hF:g2_State p0=some r):Contract0 Tryz.prog 12 [.sl (List.map csI p0)] (r.pv):=by
 refine cF (fun r=>r.pv) hF mix Tryz.func12 fun r hF=>?_
 unfold g2_State at hF
 refine runX ?_
 refine rg ?_
 refine rg ?_
 obtain ⟨r1,h1,hF⟩:=bnd hF
 refine g_callN (g2_From_c _ _ h1) rfl rfl (runX ?_)
 refine rg ?_
 obtain ⟨r2,h2,hF⟩:=bnd hF
 refine g_call1 (g2_Policy_c _ _ h2) rfl rfl rfl rfl rfl (runX ?_)
 obtain ⟨r3,h3,hF⟩:=bnd hF
 refine g_call (g2_Begin_c _ _ h3) rfl rfl (runX ?_)
 refine rg ?_
 obtain ⟨r4,h4,hF⟩:=bnd hF
 refine g_call1 (g2_Source_Next_c _ _ _ h4) rfl rfl rfl rfl rfl (runX ?_)
 refine rg ?_
 refine bl ?_
 refine fix_elim hF fun f7 mf7 hf7 hF=>?_
 refine pws_loop (α:=Nat×(Int×Int×Int×(List Stored)×(List Stored)×(List Proposal)×Int×(List Watch)×(List Last)×(List Int)×Int×Int)) (fun a _=>mkS [(2,.ptr 2 (1,2) 0),(3,.ptr 10 (1,10) 0),(4,.ptr 4 (1,4) 0),(5,.int .i64 (w64 (3+r4.1))),(6,.int .i64 a.2.1)] [(2,some ((1,2),.box [.int .i64 0,.int .i64 0,.nil,.nil,.nil,.int .i64 0,.nil,.nil])),(4,some ((1,4),.box [.int .i64 a.2.2.1,.int .i64 a.2.2.2.1,.sl (List.map Stored.cs a.2.2.2.2.1),.sl (List.map Stored.cs a.2.2.2.2.2.1),.sl (List.map Proposal.cs a.2.2.2.2.2.2.1),.int .i64 a.2.2.2.2.2.2.2.1,.sl (List.map Watch.cs a.2.2.2.2.2.2.2.2.1),.sl (List.map Last.cs a.2.2.2.2.2.2.2.2.2.1)])),(10,some ((1,10),.box [.sl (List.map csI a.2.2.2.2.2.2.2.2.2.2.1),.int .i64 a.2.2.2.2.2.2.2.2.2.2.2.1,.int .u64 a.2.2.2.2.2.2.2.2.2.2.2.2]))] 2) (fun a=>fixN a.1 f7 a.2=some r) (fun a=>a.1) (mf7,0,r3.seq,r3.clock,r3.pages,r3.gone,r3.proposals,r3.proposed,r3.watches,r3.lasts,r4.2.l,r4.2.pos,r4.2.seed) 2 hF (sR [(2,1,0),(4,3,3),(10,2,1)]) (fun a _ hF=>?_)
 obtain ⟨mf7,x101,x102,x103,x104,x105,x106,x107,x108,x109,x110,x111,x112⟩:=a
 obtain ⟨mf7,rfl,hF⟩:=fix_step hf7 hF
 dsimp only at hF ⊢
 refine runX ?_
 refine rg ?_
 refine cS hF rfl (fun hF=>?_) fun hF=>?_
 ·refine letk_elim hF fun k8 hk8 hF=>?_
  refine pws_join (α:=Int×Int×(List Stored)×(List Stored)×(List Proposal)×Int×(List Watch)×(List Last)×(List Int)×Int×Int) (fun a _=>mkS [(2,.ptr 2 (1,2) 0),(3,.ptr 10 (1,10) 0),(4,.ptr 4 (1,4) 0),(5,.int .i64 (w64 (3+r4.1))),(6,.int .i64 x101)] [(2,some ((1,2),.box [.int .i64 0,.int .i64 0,.nil,.nil,.nil,.int .i64 0,.nil,.nil])),(4,some ((1,4),.box [.int .i64 a.1,.int .i64 a.2.1,.sl (List.map Stored.cs a.2.2.1),.sl (List.map Stored.cs a.2.2.2.1),.sl (List.map Proposal.cs a.2.2.2.2.1),.int .i64 a.2.2.2.2.2.1,.sl (List.map Watch.cs a.2.2.2.2.2.2.1),.sl (List.map Last.cs a.2.2.2.2.2.2.2.1)])),(10,some ((1,10),.box [.sl (List.map csI a.2.2.2.2.2.2.2.2.1),.int .i64 a.2.2.2.2.2.2.2.2.2.1,.int .u64 a.2.2.2.2.2.2.2.2.2.2]))] 2) (fun a=>k8 a.1 a.2.1 a.2.2.1 a.2.2.2.1 a.2.2.2.2.1 a.2.2.2.2.2.1 a.2.2.2.2.2.2.1 a.2.2.2.2.2.2.2.1 a.2.2.2.2.2.2.2.2.1 a.2.2.2.2.2.2.2.2.2.1 a.2.2.2.2.2.2.2.2.2.2=some r) (runX ?_) (fun a _ hF=>?_)
  ·refine bl ?_
   refine rg ?_
   obtain ⟨r150,h60,hF⟩:=bnd hF
   refine g_call1 (g2_User_c _ _ h60) rfl rfl rfl rfl rfl (runX ?_)
   obtain ⟨r151,h61,hF⟩:=bnd hF
   refine g_call (g2_Titles_c _ h61) rfl rfl (runX ?_)
   obtain ⟨e152,h62,hF⟩:=bnd hF
   refine g_indexI (f:=Title.cs) rfl h62 rfl rfl rfl (runX ?_)
   obtain ⟨r153,h63,hF⟩:=bnd hF
   refine g_call1 (g2_Text_c _ _ h63) rfl rfl rfl rfl rfl (runX ?_)
   refine g_buildM (M:=([(⟨1,r150.1,(⟨#[]⟩:ByteArray),e152,(⟨0,(⟨#[]⟩:ByteArray)⟩:Title),r153.1,0,[]⟩:Change)]:List Change)) (f:=Change.cs) rfl rfl rfl rfl (Nat.le_of_ble_eq_true rfl) rfl (runX ?_)
   obtain ⟨r154,h64,hF⟩:=bnd hF
   refine g_call (r27_Apply_c _ _ _ h64) rfl rfl (runX ?_)
   refine rg ?_
   refine cS hF rfl (fun hF=>?_) fun hF=>?_
   ·refine rg ?_
    exact jn (r154.1.seq,r154.1.clock,r154.1.pages,r154.1.gone,r154.1.proposals,r154.1.proposed,r154.1.watches,r154.1.lasts,r153.2.l,r153.2.pos,r153.2.seed) hF (sR [(2,1,2),(4,1,4),(10,1,10)])
   exact jn (x102,x103,x104,x105,x106,x107,x108,x109,r153.2.l,r153.2.pos,r153.2.seed) hF (sR [(2,1,2),(4,1,4),(10,1,10)])
  obtain ⟨x139,x140,x141,x142,x143,x144,x145,x146,x147,x148,x149⟩:=a
  subst hk8
  dsimp only at hF ⊢
  refine runX ?_
  refine rg ?_
  exact rn (mf7,(w64 (x101+1)),x139,x140,x141,x142,x143,x144,x145,x146,x147,x148,x149) hF (sR [(2,1,2),(4,1,4),(10,1,10)])
 refine rg ?_
 obtain ⟨r155,h65,hF⟩:=bnd hF
 refine g_call1 (g2_Source_Next_c _ _ _ h65) rfl rfl rfl rfl rfl (runX ?_)
 obtain ⟨r156,h66,hF⟩:=bnd hF
 refine g_callO (pre:=[_]) (pre':=[_]) (g2_After_c _ _ _ _ h66) rfl rfl rfl rfl rfl rfl (runX ?_)
 cases hF
 exact rQ
end Go.Proofs.YtphibahplgmgfaaGreatDoor
set_option linter.unusedVariables false
set_option maxHeartbeats 4000000
set_option maxRecDepth 100000
namespace Go.Proofs.YtphibahplgmgfaaGreatDoor
open VL
def w31_awake:Option Bool:=
 (g2_Begin (⟨#[97,108,108,111,119,32,114,101,97,100,32,97,108,108,32,60,77,97,105,110,62]⟩:ByteArray)).bind fun r1=>
 (r27_Apply r1 [(⟨1,(⟨#[]⟩:ByteArray),(⟨#[]⟩:ByteArray),(⟨0,(⟨#[65]⟩:ByteArray)⟩:Title),(⟨0,(⟨#[]⟩:ByteArray)⟩:Title),(⟨#[120]⟩:ByteArray),0,[]⟩:Change)]).bind fun r2=>
 (project_View r2.1 (⟨#[97,110,110]⟩:ByteArray)).bind fun r3=>
 letk (fun (x10:Bool)=>
  (some x10:Option Bool)) fun k1=>
 if (decide ((r3.pages.length:Int)=1)) then
  (atI r3.pages 0).bind fun e11=>
  if (decide (e11=(⟨(⟨0,(⟨#[65]⟩:ByteArray)⟩:Title),(⟨#[120]⟩:ByteArray),1⟩:Page))) then
   (g2_Same_string r3.groups [(⟨#[97,108,108]⟩:ByteArray),(⟨#[117,115,101,114,115]⟩:ByteArray)]).bind fun r12=>
   if r12 then
    (project_Readable r2.1 (⟨#[]⟩:ByteArray) (⟨0,(⟨#[65]⟩:ByteArray)⟩:Title)).bind fun r13=>
    if r13 then
     (g2_PolicyPage).bind fun r14=>
     (project_Readable r2.1 (⟨#[97,110,110]⟩:ByteArray) r14).bind fun r15=>
     if (!r15) then
      (project_Same r3 r3).bind fun r16=>
      k1 r16
     else
     k1 false
    else
    k1 false
   else
   k1 false
  else
  k1 false
 else
 k1 false
theorem w31_awake_c  (r:Bool) (hF:w31_awake=some r):Contract0 Tryz.prog 11 [] (.bool r):=by
 refine cF (fun r=>.bool r) hF mix Tryz.func11 fun r hF=>?_
 unfold w31_awake at hF
 refine runX ?_
 refine rg ?_
 refine rg ?_
 obtain ⟨r1,h1,hF⟩:=bnd hF
 refine g_call (g2_Begin_c _ _ h1) rfl rfl (runX ?_)
 refine rg ?_
 refine g_buildM (M:=([(⟨1,(⟨#[]⟩:ByteArray),(⟨#[]⟩:ByteArray),(⟨0,(⟨#[65]⟩:ByteArray)⟩:Title),(⟨0,(⟨#[]⟩:ByteArray)⟩:Title),(⟨#[120]⟩:ByteArray),0,[]⟩:Change)]:List Change)) (f:=Change.cs) rfl rfl rfl rfl (Nat.le_of_ble_eq_true rfl) rfl (runX ?_)
 obtain ⟨r2,h2,hF⟩:=bnd hF
 refine g_call (r27_Apply_c _ _ _ h2) rfl rfl (runX ?_)
 refine rg ?_
 obtain ⟨r3,h3,hF⟩:=bnd hF
 refine g_call (project_View_c _ _ _ h3) rfl rfl (runX ?_)
 refine jL hF (fun x10=>mkS [(0,.bool x10)] [] 2) (fun k1 hF=>?_) fun x10 hF=>?_
 ·refine rg ?_
  refine g_lenM rfl (M:=r3.pages) (f:=Page.cs) rfl (runX ?_)
  refine kS 18 hF rfl (fun hF=>?_) fun hF=>?_
  ·obtain ⟨e11,h10,hF⟩:=bnd hF
   refine g_indexI (f:=Page.cs) rfl h10 rfl rfl rfl (runX ?_)
   refine g_eqT (.inl rfl) rfl rfl rfl rfl rfl (fun W=>pageEql e11 (⟨(⟨0,(⟨#[65]⟩:ByteArray)⟩:Title),(⟨#[120]⟩:ByteArray),1⟩:Page) W) (runX ?_)
   refine kS 27 hF rfl (fun hF=>?_) fun hF=>?_
   ·refine g_buildM (M:=([(⟨#[97,108,108]⟩:ByteArray),(⟨#[117,115,101,114,115]⟩:ByteArray)]:List ByteArray)) (f:=csS) rfl rfl rfl rfl (Nat.le_of_ble_eq_true rfl) rfl (runX ?_)
    obtain ⟨r12,h11,hF⟩:=bnd hF
    refine g_look (g2_Same_string_c _ _ _ h11) rfl rfl rfl (runX ?_)
    refine kS 33 hF rfl (fun hF=>?_) fun hF=>?_
    ·obtain ⟨r13,h12,hF⟩:=bnd hF
     refine g_call (project_Readable_c _ _ _ _ h12) rfl rfl (runX ?_)
     refine kS 38 hF rfl (fun hF=>?_) fun hF=>?_
     ·obtain ⟨r14,h13,hF⟩:=bnd hF
      refine g_call (g2_PolicyPage_c _ h13) rfl rfl (runX ?_)
      obtain ⟨r15,h14,hF⟩:=bnd hF
      refine g_call (project_Readable_c _ _ _ _ h14) rfl rfl (runX ?_)
      refine kS 44 hF rfl (fun hF=>?_) fun hF=>?_
      ·obtain ⟨r16,h15,hF⟩:=bnd hF
       refine g_call (project_Same_c _ _ _ h15) rfl rfl (runX ?_)
       exact jn r16 hF (sR [])
      iterate 3 refine g_skip rfl (runX ?_)
      exact jn false hF (sR [])
     iterate 7 refine g_skip rfl (runX ?_)
     exact jn false hF (sR [])
    iterate 10 refine g_skip rfl (runX ?_)
    exact jn false hF (sR [])
   iterate 14 refine g_skip rfl (runX ?_)
   exact jn false hF (sR [])
  iterate 21 refine g_skip rfl (runX ?_)
  exact jn false hF (sR [])
 cases hF
 exact rQ
end Go.Proofs.YtphibahplgmgfaaGreatDoor
