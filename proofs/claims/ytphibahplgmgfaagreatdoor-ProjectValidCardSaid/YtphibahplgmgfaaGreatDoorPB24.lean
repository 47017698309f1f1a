/- Functions of the program as Lean functions. Written by fxgen.py. | Functions of the program as Lean functions. Written by fxgen.py. | The makers of inputs as Lean functions: they return, and what. No program is named. | The makers of changes as Lean functions: they return, and what. No program is named. | Orders of titles and strings; sorted lists. No program is named. | Valid states, and that trcref27.Valid says so. No program is named. | What the functions of chapter 27 on lists do. No program is named. | Changes that trcref26.Valid accepts. No program is named. | Each kind of change keeps a state valid. No program is named. | Watch lists, users' last transactions, proposals, ticks: a state stays valid. No program is named. | The made policies' states, line by line; how a text is parsed when its lines are. No program is named. | How a text is parsed by the program when its lines are. No program is named. | The lines of the made policies, by the program. No program is named. | The lines of the made policies, by the program. No program is named. | The lines of the made policies, by the program. No program is named. -/
import Derived.Test.YtphibahplgmgfaaGreatDoorPB23
import Derived.Test.YtphibahplgmgfaaGreatDoorPB08
import Derived.Test.YtphibahplgmgfaaGreatDoorPB04
import Derived.Test.YtphibahplgmgfaaGreatDoorPB03
import Derived.Sort.Walk0
import Derived.Test.YtphibahplgmgfaaGreatDoorPB18
import Derived.Test.YtphibahplgmgfaaGreatDoorPB22
import Derived.Test.YtphibahplgmgfaaGreatDoorPB20
import Derived.Test.YtphibahplgmgfaaGreatDoorPB11
set_option linter.unusedVariables false
set_option maxHeartbeats 4000000
set_option maxRecDepth 100000
namespace Go.Proofs.YtphibahplgmgfaaGreatDoor
open VL
def g2_Revisions (p0:SrcF) (p1:Int):Option ((List Revision)×SrcF):=
 (g2_Source_Next p0 3).bind fun r1=>
 fixN bigN (fun f2 ((x48,x49,x50,x51,x52,x53):Int×Int×(List Int)×Int×Int×(List Revision))=>
  if (decide (0<x49)) then
   (g2_User (⟨x50,x51,x52⟩:SrcF)).bind fun r69=>
   (g2_Note r69.2).bind fun r70=>
   (g2_Text r70.2).bind fun r71=>
   (appL 72 x53 [(⟨(w64 ((x53.length:Int)+1)),r69.1,r70.1,r71.1,x48,0⟩:Revision)]).bind fun l72=>
   (g2_Source_Next r71.2 3).bind fun r73=>
   f2 ((if (w64 (x48+r73.1))<p1 then (w64 (x48+r73.1)) else p1),(w64 (x49 - 1)),r73.2.l,r73.2.pos,r73.2.seed,l72)
  else
  (some (x53,(⟨x50,x51,x52⟩:SrcF)):Option ((List Revision)×SrcF))) (0,(w64 (1+r1.1)),r1.2.l,r1.2.pos,r1.2.seed,([]:List Revision))
theorem g2_Revisions_c (p0:SrcF) (p1:Int) (r:(List Revision)×SrcF) (hF:g2_Revisions p0 p1=some r):Contract Tryz.prog 106 [.ptr 0 (0,0) 0,.int .i64 p1] (some (0,p0.cs)) (.sl (List.map Revision.cs r.1)) (r.2).cs:=by
 refine contract_FO (R:=fun r=>.sl (List.map Revision.cs r.1)) (O:=fun r=>(r.2).cs) hF mix Tryz.func106 (by kernel_rfl) rfl (by kernel_rfl) fun r hF=>?_
 unfold g2_Revisions at hF
 refine runX ?_
 refine rg ?_
 refine rg ?_
 refine rg ?_
 refine rg ?_
 obtain ⟨r1,h1,hF⟩:=bnd hF
 refine g_call1 (g2_Source_Next_c _ _ _ h1) rfl rfl rfl rfl rfl (runX ?_)
 refine bl ?_
 refine fix_elim hF fun f2 mf2 hf2 hF=>?_
 refine pws_loop (α:=Nat×(Int×Int×(List Int)×Int×Int×(List Revision))) (fun a _=>mkS [(0,.ptr 0 (0,0) 0),(1,.int .i64 p1),(5,.row 5 (1,5)),(6,.int .i64 a.2.1),(7,.int .i64 a.2.2.1)] [(0,some ((0,0),.box [.sl (List.map csI a.2.2.2.1),.int .i64 a.2.2.2.2.1,.int .u64 a.2.2.2.2.2.1])),(5,some ((1,5),.row 71 6 false (List.map Revision.cs a.2.2.2.2.2.2)))] 2) (fun a=>fixN a.1 f2 a.2=some r) (fun a=>a.1) (mf2,0,(w64 (1+r1.1)),r1.2.l,r1.2.pos,r1.2.seed,([]:List Revision)) 2 hF (shift_nilR [] 5 71 6 rfl ⟨rfl,rfl,rfl,rfl,rfl,trivial⟩ ⟨⟨rfl,rfl⟩,⟨rfl,rfl⟩,trivial⟩ rfl) (fun a _ hF=>?_)
 obtain ⟨mf2,x48,x49,x50,x51,x52,x53⟩:=a
 obtain ⟨mf2,rfl,hF⟩:=fix_step hf2 hF
 dsimp only at hF ⊢
 refine runX ?_
 refine rg ?_
 refine cS hF rfl (fun hF=>?_) fun hF=>?_
 ·refine bl ?_
  refine rg ?_
  refine g_lenM rfl (M:=x53) (f:=Revision.cs) rfl (runX ?_)
  obtain ⟨r69,h57,hF⟩:=bnd hF
  refine g_call1 (g2_User_c _ _ h57) rfl rfl rfl rfl rfl (runX ?_)
  obtain ⟨r70,h58,hF⟩:=bnd hF
  refine g_call1 (g2_Note_c _ _ h58) rfl rfl rfl rfl rfl (runX ?_)
  obtain ⟨r71,h59,hF⟩:=bnd hF
  refine g_call1 (g2_Text_c _ _ h59) rfl rfl rfl rfl rfl (runX ?_)
  refine g_buildM (M:=([(⟨(w64 ((x53.length:Int)+1)),r69.1,r70.1,r71.1,x48,0⟩:Revision)]:List Revision)) (f:=Revision.cs) rfl rfl rfl rfl (Nat.le_of_ble_eq_true rfl) rfl (runX ?_)
  obtain ⟨l72,h60,hF⟩:=bnd hF
  refine g_appR (f:=Revision.cs) rfl h60 (fun _=>rfl) rfl rfl rfl rfl (runX ?_)
  refine rg ?_
  obtain ⟨r73,h61,hF⟩:=bnd hF
  refine g_call1 (g2_Source_Next_c _ _ _ h61) rfl rfl rfl rfl rfl (runX ?_)
  refine g_min rfl rfl rfl (runX ?_)
  refine rg ?_
  exact rn (mf2,(if (w64 (x48+r73.1))<p1 then (w64 (x48+r73.1)) else p1),(w64 (x49 - 1)),r73.2.l,r73.2.pos,r73.2.seed,l72) hF (sR [(5,3,13)])
 refine rg ?_
 cases hF
 exact ro_ret rfl rfl rfl rfl rfl
def g2_Change (p0:SrcF) (p1:Int):Option (Change×SrcF):=
 (g2_Source_Next p0 14).bind fun r1=>
 (atI ([1,1,1,1,1,2,3,4,5,6,7,8,9,10]:List Int) r1.1).bind fun c2=>
 (g2_User r1.2).bind fun r3=>
 (g2_Title r3.2).bind fun r4=>
 letk (fun (x15:List Int) (x16:Int) (x17:Int) (x18:Int) (x19:ByteArray) (x20:ByteArray) (x21:Int) (x22:ByteArray) (x23:Int) (x24:ByteArray) (x25:ByteArray) (x26:Int) (x27:List Revision)=>
  (some ((⟨x18,x19,x20,(⟨x21,x22⟩:Title),(⟨x23,x24⟩:Title),x25,x26,x27⟩:Change),(⟨x15,x16,x17⟩:SrcF)):Option (Change×SrcF))) fun k3=>
 letk (fun (x28:Bool)=>
  if x28 then
   (g2_Note r4.2).bind fun r29=>
   (g2_Text r29.2).bind fun r30=>
   if (decide (c2=9)) then
    (g2_Source_Next r30.2 3).bind fun r31=>
    k3 r31.2.l r31.2.pos r31.2.seed c2 r3.1 r29.1 r4.1.space r4.1.name 0 (⟨#[]⟩:ByteArray) r30.1 r31.1 []
   else
   k3 r30.2.l r30.2.pos r30.2.seed c2 r3.1 r29.1 r4.1.space r4.1.name 0 (⟨#[]⟩:ByteArray) r30.1 0 []
  else
  if (decide (c2=4)) then
   (g2_Title r4.2).bind fun r32=>
   (g2_Source_Next r32.2 2).bind fun r33=>
   k3 r33.2.l r33.2.pos r33.2.seed c2 r3.1 (⟨#[]⟩:ByteArray) r4.1.space r4.1.name r32.1.space r32.1.name (⟨#[]⟩:ByteArray) r33.1 []
  else
  if (decide (c2=5)) then
   (g2_Revisions r4.2 p1).bind fun r34=>
   k3 r34.2.l r34.2.pos r34.2.seed c2 r3.1 (⟨#[]⟩:ByteArray) r4.1.space r4.1.name 0 (⟨#[]⟩:ByteArray) (⟨#[]⟩:ByteArray) 0 r34.1
  else
  if (decide (c2=6)) then
   (g2_Source_Next r4.2 2000).bind fun r35=>
   k3 r35.2.l r35.2.pos r35.2.seed 6 (⟨#[]⟩:ByteArray) (⟨#[]⟩:ByteArray) 0 (⟨#[]⟩:ByteArray) 0 (⟨#[]⟩:ByteArray) (⟨#[]⟩:ByteArray) (w64 (1+r35.1)) []
  else
  letk (fun (x36:Bool)=>
   if x36 then
    if (decide (r3.1=(⟨#[]⟩:ByteArray))) then
     k3 r4.2.l r4.2.pos r4.2.seed c2 (⟨#[98,111,98]⟩:ByteArray) (⟨#[]⟩:ByteArray) r4.1.space r4.1.name 0 (⟨#[]⟩:ByteArray) (⟨#[]⟩:ByteArray) 0 []
    else
    k3 r4.2.l r4.2.pos r4.2.seed c2 r3.1 (⟨#[]⟩:ByteArray) r4.1.space r4.1.name 0 (⟨#[]⟩:ByteArray) (⟨#[]⟩:ByteArray) 0 []
   else
   if (decide (c2=10)) then
    (g2_Source_Next r4.2 4).bind fun r37=>
    k3 r37.2.l r37.2.pos r37.2.seed c2 r3.1 (⟨#[]⟩:ByteArray) 0 (⟨#[]⟩:ByteArray) 0 (⟨#[]⟩:ByteArray) (⟨#[]⟩:ByteArray) (w64 (1+r37.1)) []
   else
   k3 r4.2.l r4.2.pos r4.2.seed c2 r3.1 (⟨#[]⟩:ByteArray) r4.1.space r4.1.name 0 (⟨#[]⟩:ByteArray) (⟨#[]⟩:ByteArray) 0 []) fun k5=>
  if (decide (c2=7)) then
   k5 (decide (c2=7))
  else
  k5 (decide (c2=8))) fun k4=>
 if (decide (c2=1)) then
  k4 (decide (c2=1))
 else
 k4 (decide (c2=9))
theorem g2_Change_c (p0:SrcF) (p1:Int) (r:Change×SrcF) (hF:g2_Change p0 p1=some r):Contract Tryz.prog 71 [.ptr 0 (0,0) 0,.int .i64 p1] (some (0,p0.cs)) (r.1.pv) (r.2).cs:=by
 refine contract_FO (R:=fun r=>r.1.pv) (O:=fun r=>(r.2).cs) hF mix Tryz.func71 (by kernel_rfl) rfl (by kernel_rfl) fun r hF=>?_
 unfold g2_Change at hF
 refine runY ?_
 refine pws_regionL (runY ?_)
 refine pws_regionL (runY ?_)
 refine g_build_ar (cs:=[.int .i64 1,.int .i64 1,.int .i64 1,.int .i64 1,.int .i64 1,.int .i64 2,.int .i64 3,.int .i64 4,.int .i64 5,.int .i64 6,.int .i64 7,.int .i64 8,.int .i64 9,.int .i64 10]) rfl (by kernel_rfl) (runY ?_)
 obtain ⟨r1,h1,hF⟩:=bnd hF
 refine g_call1 (g2_Source_Next_c _ _ _ h1) rfl rfl rfl rfl rfl (runY ?_)
 obtain ⟨c2,h2,hF⟩:=bnd hF
 refine g_ixI (p:=(PV.int .i64)) rfl h2 rfl rfl rfl rfl rfl (runY ?_)
 obtain ⟨r3,h3,hF⟩:=bnd hF
 refine g_call1 (g2_User_c _ _ h3) rfl rfl rfl rfl rfl (runY ?_)
 obtain ⟨r4,h4,hF⟩:=bnd hF
 refine g_call1 (g2_Title_c _ _ h4) rfl rfl rfl rfl rfl (runY ?_)
 refine pws_regionL (runY ?_)
 refine letk_elim hF fun k3 hk3 hF=>?_
 refine pws_join (α:=(List Int)×Int×Int×Int×ByteArray×ByteArray×Int×ByteArray×Int×ByteArray×ByteArray×Int×(List Revision)) (fun a _=>mkS [(0,.ptr 0 (0,0) 0),(4,.ptr 4 (1,4) 0),(5,.ptr 5 (1,5) 0)] [(0,some ((0,0),.box [.sl (List.map csI a.1),.int .i64 a.2.1,.int .u64 a.2.2.1])),(4,some ((1,4),.box [.int .i64 0,.str (⟨#[]⟩:ByteArray),.str (⟨#[]⟩:ByteArray),.int .i64 0,.str (⟨#[]⟩:ByteArray),.int .i64 0,.str (⟨#[]⟩:ByteArray),.str (⟨#[]⟩:ByteArray),.int .i64 0,.nil])),(5,some ((1,5),.box [.int .i64 a.2.2.2.1,.str a.2.2.2.2.1,.str a.2.2.2.2.2.1,.int .i64 a.2.2.2.2.2.2.1,.str a.2.2.2.2.2.2.2.1,.int .i64 a.2.2.2.2.2.2.2.2.1,.str a.2.2.2.2.2.2.2.2.2.1,.str a.2.2.2.2.2.2.2.2.2.2.1,.int .i64 a.2.2.2.2.2.2.2.2.2.2.2.1,.sl (List.map Revision.cs a.2.2.2.2.2.2.2.2.2.2.2.2)]))] 2) (fun a=>k3 a.1 a.2.1 a.2.2.1 a.2.2.2.1 a.2.2.2.2.1 a.2.2.2.2.2.1 a.2.2.2.2.2.2.1 a.2.2.2.2.2.2.2.1 a.2.2.2.2.2.2.2.2.1 a.2.2.2.2.2.2.2.2.2.1 a.2.2.2.2.2.2.2.2.2.2.1 a.2.2.2.2.2.2.2.2.2.2.2.1 a.2.2.2.2.2.2.2.2.2.2.2.2=some r) (runY ?_) (fun a _ hF=>?_)
 ·refine pws_block (runY ?_)
  refine pws_regionL (runY ?_)
  refine letk_elim hF fun k4 hk4 hF=>?_
  refine pws_join (α:=Bool) (fun x28 _=>mkS [(0,.ptr 0 (0,0) 0),(1,.int .i64 p1),(4,.ptr 4 (1,4) 0),(5,.ptr 5 (1,5) 0),(16,.int .i64 c2),(17,.bool x28)] [(0,some ((0,0),.box [.sl (List.map csI r4.2.l),.int .i64 r4.2.pos,.int .u64 r4.2.seed])),(4,some ((1,4),.box [.int .i64 0,.str (⟨#[]⟩:ByteArray),.str (⟨#[]⟩:ByteArray),.int .i64 0,.str (⟨#[]⟩:ByteArray),.int .i64 0,.str (⟨#[]⟩:ByteArray),.str (⟨#[]⟩:ByteArray),.int .i64 0,.nil])),(5,some ((1,5),.box [.int .i64 c2,.str r3.1,.str (⟨#[]⟩:ByteArray),.int .i64 r4.1.space,.str r4.1.name,.int .i64 0,.str (⟨#[]⟩:ByteArray),.str (⟨#[]⟩:ByteArray),.int .i64 0,.nil]))] 2) (fun x28=>k4 x28=some r) (runY ?_) (fun a _ hF=>?_)
  ·refine pws_condS rfl (fun h=>runY ?_) (fun h=>runY ?_)
   ·replace hF:=ifT h hF
    exact jk_normal (decide (c2=1)) 2 hF (shift_ren [((1,4),(1,0)),((1,5),(2,9))] ⟨rfl,rfl,rfl,rfl,rfl,rfl,trivial⟩ ⟨⟨rfl,rfl⟩,⟨rfl,rfl⟩,⟨rfl,rfl⟩,trivial⟩ rfl)
   replace hF:=ifF h hF
   refine pws_regionL (runY ?_)
   exact jk_normal (decide (c2=9)) 2 hF (shift_ren [((1,4),(1,0)),((1,5),(2,9))] ⟨rfl,rfl,rfl,rfl,rfl,rfl,trivial⟩ ⟨⟨rfl,rfl⟩,⟨rfl,rfl⟩,⟨rfl,rfl⟩,trivial⟩ rfl)
  revert a;intro x28 hF
  subst hk4
  dsimp only at hF ⊢
  refine runY ?_
  refine pws_condS rfl (fun h=>runY ?_) (fun h=>runY ?_)
  ·replace hF:=ifT h hF
   refine pws_regionL (runY ?_)
   obtain ⟨r29,h13,hF⟩:=bnd hF
   refine g_call1 (g2_Note_c _ _ h13) rfl rfl rfl rfl rfl (runY ?_)
   obtain ⟨r30,h14,hF⟩:=bnd hF
   refine g_call1 (g2_Text_c _ _ h14) rfl rfl rfl rfl rfl (runY ?_)
   refine pws_regionL (runY ?_)
   refine pws_condS rfl (fun h=>runY ?_) (fun h=>runY ?_)
   ·replace hF:=ifT h hF
    refine pws_regionL (runY ?_)
    obtain ⟨r31,h15,hF⟩:=bnd hF
    refine g_call1 (g2_Source_Next_c _ _ _ h15) rfl rfl rfl rfl rfl (runY ?_)
    exact jk_normal (r31.2.l,r31.2.pos,r31.2.seed,c2,r3.1,r29.1,r4.1.space,r4.1.name,0,(⟨#[]⟩:ByteArray),r30.1,r31.1,[]) 2 hF (Shift.trans (shift_B 5 rfl rfl) (shift_ren [((1,4),(1,4)),((1,5),(1,5))] ⟨rfl,rfl,rfl,trivial⟩ ⟨⟨rfl,rfl⟩,⟨rfl,rfl⟩,⟨rfl,rfl⟩,trivial⟩ rfl))
   replace hF:=ifF h hF
   exact jk_normal (r30.2.l,r30.2.pos,r30.2.seed,c2,r3.1,r29.1,r4.1.space,r4.1.name,0,(⟨#[]⟩:ByteArray),r30.1,0,[]) 2 hF (Shift.trans (shift_B 5 rfl rfl) (shift_ren [((1,4),(1,4)),((1,5),(1,5))] ⟨rfl,rfl,rfl,trivial⟩ ⟨⟨rfl,rfl⟩,⟨rfl,rfl⟩,⟨rfl,rfl⟩,trivial⟩ rfl))
  replace hF:=ifF h hF
  refine pws_regionL (runY ?_)
  refine pws_condS rfl (fun h=>runY ?_) (fun h=>runY ?_)
  ·replace hF:=ifT h hF
   refine pws_regionL (runY ?_)
   obtain ⟨r32,h16,hF⟩:=bnd hF
   refine g_call1 (g2_Title_c _ _ h16) rfl rfl rfl rfl rfl (runY ?_)
   obtain ⟨r33,h17,hF⟩:=bnd hF
   refine g_call1 (g2_Source_Next_c _ _ _ h17) rfl rfl rfl rfl rfl (runY ?_)
   exact jk_normal (r33.2.l,r33.2.pos,r33.2.seed,c2,r3.1,(⟨#[]⟩:ByteArray),r4.1.space,r4.1.name,r32.1.space,r32.1.name,(⟨#[]⟩:ByteArray),r33.1,[]) 2 hF (Shift.trans (shift_B 5 rfl rfl) (shift_ren [((1,4),(1,4)),((1,5),(1,5))] ⟨rfl,rfl,rfl,trivial⟩ ⟨⟨rfl,rfl⟩,⟨rfl,rfl⟩,⟨rfl,rfl⟩,trivial⟩ rfl))
  replace hF:=ifF h hF
  refine pws_regionL (runY ?_)
  refine pws_condS rfl (fun h=>runY ?_) (fun h=>runY ?_)
  ·replace hF:=ifT h hF
   refine pws_regionL (runY ?_)
   obtain ⟨r34,h18,hF⟩:=bnd hF
   refine g_call1 (g2_Revisions_c _ _ _ h18) rfl rfl rfl rfl rfl (runY ?_)
   exact jk_normal (r34.2.l,r34.2.pos,r34.2.seed,c2,r3.1,(⟨#[]⟩:ByteArray),r4.1.space,r4.1.name,0,(⟨#[]⟩:ByteArray),(⟨#[]⟩:ByteArray),0,r34.1) 2 hF (shift_ren [((1,4),(1,4)),((1,5),(1,5))] ⟨rfl,rfl,rfl,trivial⟩ ⟨⟨rfl,rfl⟩,⟨rfl,rfl⟩,⟨rfl,rfl⟩,trivial⟩ rfl)
  replace hF:=ifF h hF
  refine pws_regionL (runY ?_)
  refine pws_condS rfl (fun h=>runY ?_) (fun h=>runY ?_)
  ·replace hF:=ifT h hF
   refine pws_regionL (runY ?_)
   obtain ⟨r35,h19,hF⟩:=bnd hF
   refine g_call1 (g2_Source_Next_c _ _ _ h19) rfl rfl rfl rfl rfl (runY ?_)
   exact jk_normal (r35.2.l,r35.2.pos,r35.2.seed,6,(⟨#[]⟩:ByteArray),(⟨#[]⟩:ByteArray),0,(⟨#[]⟩:ByteArray),0,(⟨#[]⟩:ByteArray),(⟨#[]⟩:ByteArray),(w64 (1+r35.1)),[]) 2 hF (Shift.trans (shift_B 5 rfl rfl) (shift_ren [((1,4),(1,4)),((1,5),(1,5))] ⟨rfl,rfl,rfl,trivial⟩ ⟨⟨rfl,rfl⟩,⟨rfl,rfl⟩,⟨rfl,rfl⟩,trivial⟩ rfl))
  replace hF:=ifF h hF
  refine pws_regionL (runY ?_)
  refine letk_elim hF fun k5 hk5 hF=>?_
  refine pws_join (α:=Bool) (fun x36 _=>mkS [(0,.ptr 0 (0,0) 0),(4,.ptr 4 (1,4) 0),(5,.ptr 5 (1,5) 0),(16,.int .i64 c2),(52,.bool x36)] [(0,some ((0,0),.box [.sl (List.map csI r4.2.l),.int .i64 r4.2.pos,.int .u64 r4.2.seed])),(4,some ((1,4),.box [.int .i64 0,.str (⟨#[]⟩:ByteArray),.str (⟨#[]⟩:ByteArray),.int .i64 0,.str (⟨#[]⟩:ByteArray),.int .i64 0,.str (⟨#[]⟩:ByteArray),.str (⟨#[]⟩:ByteArray),.int .i64 0,.nil])),(5,some ((1,5),.box [.int .i64 c2,.str r3.1,.str (⟨#[]⟩:ByteArray),.int .i64 r4.1.space,.str r4.1.name,.int .i64 0,.str (⟨#[]⟩:ByteArray),.str (⟨#[]⟩:ByteArray),.int .i64 0,.nil]))] 2) (fun x36=>k5 x36=some r) (runY ?_) (fun a _ hF=>?_)
  ·refine pws_condS rfl (fun h=>runY ?_) (fun h=>runY ?_)
   ·replace hF:=ifT h hF
    exact jk_normal (decide (c2=7)) 2 hF (shift_ren [((1,4),(1,4)),((1,5),(1,5))] ⟨rfl,rfl,rfl,rfl,rfl,trivial⟩ ⟨⟨rfl,rfl⟩,⟨rfl,rfl⟩,⟨rfl,rfl⟩,trivial⟩ rfl)
   replace hF:=ifF h hF
   refine pws_regionL (runY ?_)
   exact jk_normal (decide (c2=8)) 2 hF (shift_ren [((1,4),(1,4)),((1,5),(1,5))] ⟨rfl,rfl,rfl,rfl,rfl,trivial⟩ ⟨⟨rfl,rfl⟩,⟨rfl,rfl⟩,⟨rfl,rfl⟩,trivial⟩ rfl)
  revert a;intro x36 hF
  subst hk5
  dsimp only at hF ⊢
  refine runY ?_
  refine pws_condS rfl (fun h=>runY ?_) (fun h=>runY ?_)
  ·replace hF:=ifT h hF
   refine pws_regionL (runY ?_)
   refine pws_condS rfl (fun h=>runY ?_) (fun h=>runY ?_)
   ·replace hF:=ifT h hF
    refine pws_regionL (runY ?_)
    exact jk_normal (r4.2.l,r4.2.pos,r4.2.seed,c2,(⟨#[98,111,98]⟩:ByteArray),(⟨#[]⟩:ByteArray),r4.1.space,r4.1.name,0,(⟨#[]⟩:ByteArray),(⟨#[]⟩:ByteArray),0,[]) 2 hF (Shift.trans (shift_B 5 rfl rfl) (shift_ren [((1,4),(1,4)),((1,5),(1,5))] ⟨rfl,rfl,rfl,trivial⟩ ⟨⟨rfl,rfl⟩,⟨rfl,rfl⟩,⟨rfl,rfl⟩,trivial⟩ rfl))
   replace hF:=ifF h hF
   exact jk_normal (r4.2.l,r4.2.pos,r4.2.seed,c2,r3.1,(⟨#[]⟩:ByteArray),r4.1.space,r4.1.name,0,(⟨#[]⟩:ByteArray),(⟨#[]⟩:ByteArray),0,[]) 2 hF (Shift.trans (shift_B 5 rfl rfl) (shift_ren [((1,4),(1,4)),((1,5),(1,5))] ⟨rfl,rfl,rfl,trivial⟩ ⟨⟨rfl,rfl⟩,⟨rfl,rfl⟩,⟨rfl,rfl⟩,trivial⟩ rfl))
  replace hF:=ifF h hF
  refine pws_regionL (runY ?_)
  refine pws_condS rfl (fun h=>runY ?_) (fun h=>runY ?_)
  ·replace hF:=ifT h hF
   refine pws_regionL (runY ?_)
   obtain ⟨r37,h20,hF⟩:=bnd hF
   refine g_call1 (g2_Source_Next_c _ _ _ h20) rfl rfl rfl rfl rfl (runY ?_)
   exact jk_normal (r37.2.l,r37.2.pos,r37.2.seed,c2,r3.1,(⟨#[]⟩:ByteArray),0,(⟨#[]⟩:ByteArray),0,(⟨#[]⟩:ByteArray),(⟨#[]⟩:ByteArray),(w64 (1+r37.1)),[]) 2 hF (Shift.trans (shift_B 5 rfl rfl) (shift_ren [((1,4),(1,4)),((1,5),(1,5))] ⟨rfl,rfl,rfl,trivial⟩ ⟨⟨rfl,rfl⟩,⟨rfl,rfl⟩,⟨rfl,rfl⟩,trivial⟩ rfl))
  replace hF:=ifF h hF
  exact jk_normal (r4.2.l,r4.2.pos,r4.2.seed,c2,r3.1,(⟨#[]⟩:ByteArray),r4.1.space,r4.1.name,0,(⟨#[]⟩:ByteArray),(⟨#[]⟩:ByteArray),0,[]) 2 hF (Shift.trans (shift_B 5 rfl rfl) (shift_ren [((1,4),(1,4)),((1,5),(1,5))] ⟨rfl,rfl,rfl,trivial⟩ ⟨⟨rfl,rfl⟩,⟨rfl,rfl⟩,⟨rfl,rfl⟩,trivial⟩ rfl))
 obtain ⟨x15,x16,x17,x18,x19,x20,x21,x22,x23,x24,x25,x26,x27⟩:=a
 subst hk3
 dsimp only at hF ⊢
 refine runY ?_
 refine pws_regionL (runY ?_)
 cases hF
 exact ro_ret rfl rfl rfl rfl rfl
def g2_Changes (p0:SrcF) (p1:Int):Option ((List Change)×SrcF):=
 (g2_Source_Next p0 6).bind fun r1=>
 (quoI .i64 r1.1 3).bind fun q2=>
 fixN bigN (fun f2 ((x24,x25,x26,x27,x28):Int×(List Int)×Int×Int×(List Change))=>
  if (decide (0<x24)) then
   (g2_Change (⟨x25,x26,x27⟩:SrcF) p1).bind fun r35=>
   (appL 136 x28 [r35.1]).bind fun l36=>
   f2 ((w64 (x24 - 1)),r35.2.l,r35.2.pos,r35.2.seed,l36)
  else
  (some (x28,(⟨x25,x26,x27⟩:SrcF)):Option ((List Change)×SrcF))) ((w64 (1+q2)),r1.2.l,r1.2.pos,r1.2.seed,([]:List Change))
theorem g2_Changes_c (p0:SrcF) (p1:Int) (r:(List Change)×SrcF) (hF:g2_Changes p0 p1=some r):Contract Tryz.prog 32 [.ptr 0 (0,0) 0,.int .i64 p1] (some (0,p0.cs)) (.sl (List.map Change.cs r.1)) (r.2).cs:=by
 refine contract_FO (R:=fun r=>.sl (List.map Change.cs r.1)) (O:=fun r=>(r.2).cs) hF mix Tryz.func32 (by kernel_rfl) rfl (by kernel_rfl) fun r hF=>?_
 unfold g2_Changes at hF
 refine runX ?_
 refine rg ?_
 refine rg ?_
 refine rg ?_
 obtain ⟨r1,h1,hF⟩:=bnd hF
 refine g_call1 (g2_Source_Next_c _ _ _ h1) rfl rfl rfl rfl rfl (runX ?_)
 obtain ⟨q2,h2,hF⟩:=bnd hF
 refine g_quoI rfl h2 rfl rfl (runX ?_)
 refine bl ?_
 refine fix_elim hF fun f2 mf2 hf2 hF=>?_
 refine pws_loop (α:=Nat×(Int×(List Int)×Int×Int×(List Change))) (fun a _=>mkS [(0,.ptr 0 (0,0) 0),(1,.int .i64 p1),(5,.row 5 (1,5)),(6,.int .i64 a.2.1)] [(0,some ((0,0),.box [.sl (List.map csI a.2.2.1),.int .i64 a.2.2.2.1,.int .u64 a.2.2.2.2.1])),(5,some ((1,5),.row 79 10 false (List.map Change.cs a.2.2.2.2.2)))] 2) (fun a=>fixN a.1 f2 a.2=some r) (fun a=>a.1) (mf2,(w64 (1+q2)),r1.2.l,r1.2.pos,r1.2.seed,([]:List Change)) 2 hF (shift_nilR [] 5 79 10 rfl ⟨rfl,rfl,rfl,rfl,trivial⟩ ⟨⟨rfl,rfl⟩,⟨rfl,rfl⟩,trivial⟩ rfl) (fun a _ hF=>?_)
 obtain ⟨mf2,x24,x25,x26,x27,x28⟩:=a
 obtain ⟨mf2,rfl,hF⟩:=fix_step hf2 hF
 dsimp only at hF ⊢
 refine runX ?_
 refine rg ?_
 refine cS hF rfl (fun hF=>?_) fun hF=>?_
 ·refine bl ?_
  refine rg ?_
  obtain ⟨r35,h25,hF⟩:=bnd hF
  refine g_call1 (g2_Change_c _ _ _ h25) rfl rfl rfl rfl rfl (runX ?_)
  refine g_buildM (M:=([r35.1]:List Change)) (f:=Change.cs) rfl rfl rfl rfl (Nat.le_of_ble_eq_true rfl) rfl (runX ?_)
  obtain ⟨l36,h26,hF⟩:=bnd hF
  refine g_appR (f:=Change.cs) rfl h26 (fun _=>rfl) rfl rfl rfl rfl (runX ?_)
  refine rg ?_
  exact rn (mf2,(w64 (x24 - 1)),r35.2.l,r35.2.pos,r35.2.seed,l36) hF (sR [(5,3,5)])
 refine rg ?_
 cases hF
 exact ro_ret rfl rfl rfl rfl rfl
end Go.Proofs.YtphibahplgmgfaaGreatDoor
set_option linter.unusedVariables false
set_option maxHeartbeats 4000000
set_option maxRecDepth 100000
namespace Go.Proofs.YtphibahplgmgfaaGreatDoor
open VL
def g2_Begin (p0:ByteArray):Option State:=
 (g2_PolicyPage).bind fun r1=>
 (r27_Apply (⟨0,0,[],[],[],0,[],[]⟩:State) [(⟨1,(⟨#[]⟩:ByteArray),(⟨#[]⟩:ByteArray),r1,(⟨0,(⟨#[]⟩:ByteArray)⟩:Title),p0,0,[]⟩:Change)]).bind fun r2=>
 (some r2.1:Option State)
theorem g2_Begin_c (p0:ByteArray) (r:State) (hF:g2_Begin p0=some r):Contract0 Tryz.prog 37 [.str p0] (r.pv):=by
 refine cF (fun r=>r.pv) hF mix Tryz.func37 fun r hF=>?_
 unfold g2_Begin at hF
 refine runX ?_
 refine rg ?_
 refine rg ?_
 obtain ⟨r1,h1,hF⟩:=bnd hF
 refine g_call (g2_PolicyPage_c _ h1) rfl rfl (runX ?_)
 refine g_buildM (M:=([(⟨1,(⟨#[]⟩:ByteArray),(⟨#[]⟩:ByteArray),r1,(⟨0,(⟨#[]⟩:ByteArray)⟩:Title),p0,0,[]⟩:Change)]:List Change)) (f:=Change.cs) rfl rfl rfl rfl (Nat.le_of_ble_eq_true rfl) rfl (runX ?_)
 obtain ⟨r2,h2,hF⟩:=bnd hF
 refine g_call (r27_Apply_c _ _ _ h2) rfl rfl (runX ?_)
 refine rg ?_
 cases hF
 exact rQ
def g2_After (p0:State) (p1:SrcF) (p2:Int):Option (State×SrcF):=
 fixN bigN (fun f7 ((x73,x74,x75,x76,x77,x78,x79,x80,x81,x82,x83,x84):Int×(List Int)×Int×Int×Int×Int×(List Stored)×(List Stored)×(List Proposal)×Int×(List Watch)×(List Last))=>
  if (decide (0<x73)) then
   letk (fun (x102:List Int) (x103:Int) (x104:Int) (x105:Int) (x106:Int) (x107:List Stored) (x108:List Stored) (x109:List Proposal) (x110:Int) (x111:List Watch) (x112:List Last)=>
    f7 ((w64 (x73 - 1)),x102,x103,x104,x105,x106,x107,x108,x109,x110,x111,x112)) fun k8=>
   (g2_Changes (⟨x74,x75,x76⟩:SrcF) x78).bind fun r113=>
   (r27_Apply (⟨x77,x78,x79,x80,x81,x82,x83,x84⟩:State) r113.1).bind fun r114=>
   if (decide (r114.2=0)) then
    k8 r113.2.l r113.2.pos r113.2.seed r114.1.seq r114.1.clock r114.1.pages r114.1.gone r114.1.proposals r114.1.proposed r114.1.watches r114.1.lasts
   else
   k8 r113.2.l r113.2.pos r113.2.seed x77 x78 x79 x80 x81 x82 x83 x84
  else
  (some ((⟨x77,x78,x79,x80,x81,x82,x83,x84⟩:State),(⟨x74,x75,x76⟩:SrcF)):Option (State×SrcF))) (p2,p1.l,p1.pos,p1.seed,p0.seq,p0.clock,p0.pages,p0.gone,p0.proposals,p0.proposed,p0.watches,p0.lasts)
theorem g2_After_c (p0:State) (p1:SrcF) (p2:Int) (r:State×SrcF) (hF:g2_After p0 p1 p2=some r):Contract Tryz.prog 43 [p0.pv,.ptr 1 (0,1) 0,.int .i64 p2] (some (1,p1.cs)) (r.1.pv) (r.2).cs:=by
 refine contract_FO (R:=fun r=>r.1.pv) (O:=fun r=>(r.2).cs) hF mix Tryz.func43 (by kernel_rfl) rfl (by kernel_rfl) fun r hF=>?_
 unfold g2_After at hF
 refine runX ?_
 refine rg ?_
 refine bl ?_
 refine fix_elim hF fun f7 mf7 hf7 hF=>?_
 refine pws_loop (α:=Nat×(Int×(List Int)×Int×Int×Int×Int×(List Stored)×(List Stored)×(List Proposal)×Int×(List Watch)×(List Last))) (fun a _=>mkS [(1,.ptr 1 (0,1) 0),(2,.int .i64 a.2.1),(3,.ptr 3 (1,3) 0),(6,.ptr 6 (1,6) 0)] [(1,some ((0,1),.box [.sl (List.map csI a.2.2.1),.int .i64 a.2.2.2.1,.int .u64 a.2.2.2.2.1])),(3,some ((1,3),.box [.int .i64 a.2.2.2.2.2.1,.int .i64 a.2.2.2.2.2.2.1,.sl (List.map Stored.cs a.2.2.2.2.2.2.2.1),.sl (List.map Stored.cs a.2.2.2.2.2.2.2.2.1),.sl (List.map Proposal.cs a.2.2.2.2.2.2.2.2.2.1),.int .i64 a.2.2.2.2.2.2.2.2.2.2.1,.sl (List.map Watch.cs a.2.2.2.2.2.2.2.2.2.2.2.1),.sl (List.map Last.cs a.2.2.2.2.2.2.2.2.2.2.2.2)])),(6,some ((1,6),.box [.int .i64 0,.int .i64 0,.nil,.nil,.nil,.int .i64 0,.nil,.nil]))] 2) (fun a=>fixN a.1 f7 a.2=some r) (fun a=>a.1) (mf7,p2,p1.l,p1.pos,p1.seed,p0.seq,p0.clock,p0.pages,p0.gone,p0.proposals,p0.proposed,p0.watches,p0.lasts) 2 hF (sR [(3,1,0),(6,1,1)]) (fun a _ hF=>?_)
 obtain ⟨mf7,x73,x74,x75,x76,x77,x78,x79,x80,x81,x82,x83,x84⟩:=a
 obtain ⟨mf7,rfl,hF⟩:=fix_step hf7 hF
 dsimp only at hF ⊢
 refine runX ?_
 refine rg ?_
 refine cS hF rfl (fun hF=>?_) fun hF=>?_
 ·refine letk_elim hF fun k8 hk8 hF=>?_
  refine pws_join (α:=(List Int)×Int×Int×Int×Int×(List Stored)×(List Stored)×(List Proposal)×Int×(List Watch)×(List Last)) (fun a _=>mkS [(1,.ptr 1 (0,1) 0),(2,.int .i64 x73),(3,.ptr 3 (1,3) 0),(6,.ptr 6 (1,6) 0)] [(1,some ((0,1),.box [.sl (List.map csI a.1),.int .i64 a.2.1,.int .u64 a.2.2.1])),(3,some ((1,3),.box [.int .i64 a.2.2.2.1,.int .i64 a.2.2.2.2.1,.sl (List.map Stored.cs a.2.2.2.2.2.1),.sl (List.map Stored.cs a.2.2.2.2.2.2.1),.sl (List.map Proposal.cs a.2.2.2.2.2.2.2.1),.int .i64 a.2.2.2.2.2.2.2.2.1,.sl (List.map Watch.cs a.2.2.2.2.2.2.2.2.2.1),.sl (List.map Last.cs a.2.2.2.2.2.2.2.2.2.2)])),(6,some ((1,6),.box [.int .i64 0,.int .i64 0,.nil,.nil,.nil,.int .i64 0,.nil,.nil]))] 2) (fun a=>k8 a.1 a.2.1 a.2.2.1 a.2.2.2.1 a.2.2.2.2.1 a.2.2.2.2.2.1 a.2.2.2.2.2.2.1 a.2.2.2.2.2.2.2.1 a.2.2.2.2.2.2.2.2.1 a.2.2.2.2.2.2.2.2.2.1 a.2.2.2.2.2.2.2.2.2.2=some r) (runX ?_) (fun a _ hF=>?_)
  ·refine bl ?_
   refine rg ?_
   obtain ⟨r113,h23,hF⟩:=bnd hF
   refine g_call1 (g2_Changes_c _ _ _ h23) rfl rfl rfl rfl rfl (runX ?_)
   obtain ⟨r114,h24,hF⟩:=bnd hF
   refine g_call (r27_Apply_c _ _ _ h24) rfl rfl (runX ?_)
   refine rg ?_
   refine cS hF rfl (fun hF=>?_) fun hF=>?_
   ·refine rg ?_
    exact jn (r113.2.l,r113.2.pos,r113.2.seed,r114.1.seq,r114.1.clock,r114.1.pages,r114.1.gone,r114.1.proposals,r114.1.proposed,r114.1.watches,r114.1.lasts) hF (sR [(3,1,3),(6,1,6)])
   exact jn (r113.2.l,r113.2.pos,r113.2.seed,x77,x78,x79,x80,x81,x82,x83,x84) hF (sR [(3,1,3),(6,1,6)])
  obtain ⟨x102,x103,x104,x105,x106,x107,x108,x109,x110,x111,x112⟩:=a
  subst hk8
  dsimp only at hF ⊢
  refine runX ?_
  refine rg ?_
  exact rn (mf7,(w64 (x73 - 1)),x102,x103,x104,x105,x106,x107,x108,x109,x110,x111,x112) hF (sR [(3,1,3),(6,1,6)])
 refine rg ?_
 cases hF
 exact ro_ret rfl rfl rfl rfl rfl
def g2_State (p0:List Int):Option State:=
 (g2_From p0).bind fun r1=>
 (g2_Policy r1).bind fun r2=>
 (g2_Begin r2.1).bind fun r3=>
 (g2_Source_Next r2.2 5).bind fun r4=>
 fixN bigN (fun f7 ((x101,x102,x103,x104,x105,x106,x107,x108,x109,x110,x111,x112):Int×Int×Int×(List Stored)×(List Stored)×(List Proposal)×Int×(List Watch)×(List Last)×(List Int)×Int×Int)=>
  if (decide (x101<(w64 (3+r4.1)))) then
   letk (fun (x139:Int) (x140:Int) (x141:List Stored) (x142:List Stored) (x143:List Proposal) (x144:Int) (x145:List Watch) (x146:List Last) (x147:List Int) (x148:Int) (x149:Int)=>
    f7 ((w64 (x101+1)),x139,x140,x141,x142,x143,x144,x145,x146,x147,x148,x149)) fun k8=>
   (g2_User (⟨x110,x111,x112⟩:SrcF)).bind fun r150=>
   (g2_Titles).bind fun r151=>
   (atI r151 x101).bind fun e152=>
   (g2_Text r150.2).bind fun r153=>
   (r27_Apply (⟨x102,x103,x104,x105,x106,x107,x108,x109⟩:State) [(⟨1,r150.1,(⟨#[]⟩:ByteArray),e152,(⟨0,(⟨#[]⟩:ByteArray)⟩:Title),r153.1,0,[]⟩:Change)]).bind fun r154=>
   if (decide (r154.2=0)) then
    k8 r154.1.seq r154.1.clock r154.1.pages r154.1.gone r154.1.proposals r154.1.proposed r154.1.watches r154.1.lasts r153.2.l r153.2.pos r153.2.seed
   else
   k8 x102 x103 x104 x105 x106 x107 x108 x109 r153.2.l r153.2.pos r153.2.seed
  else
  (g2_Source_Next (⟨x110,x111,x112⟩:SrcF) 7).bind fun r155=>
  (g2_After (⟨x102,x103,x104,x105,x106,x107,x108,x109⟩:State) r155.2 r155.1).bind fun r156=>
  (some r156.1:Option State)) (0,r3.seq,r3.clock,r3.pages,r3.gone,r3.proposals,r3.proposed,r3.watches,r3.lasts,r4.2.l,r4.2.pos,r4.2.seed)
theorem g2_State_c (p0:List Int) (r:State) (hF:g2_State p0=some r):Contract0 Tryz.prog 12 [.sl (List.map csI p0)] (r.pv):=by
 refine cF (fun r=>r.pv) hF mix Tryz.func12 fun r hF=>?_
 unfold g2_State at hF
 refine runX ?_
 refine rg ?_
 refine rg ?_
 obtain ⟨r1,h1,hF⟩:=bnd hF
 refine g_callN (g2_From_c _ _ h1) rfl rfl (runX ?_)
 refine rg ?_
 obtain ⟨r2,h2,hF⟩:=bnd hF
 refine g_call1 (g2_Policy_c _ _ h2) rfl rfl rfl rfl rfl (runX ?_)
 obtain ⟨r3,h3,hF⟩:=bnd hF
 refine g_call (g2_Begin_c _ _ h3) rfl rfl (runX ?_)
 refine rg ?_
 obtain ⟨r4,h4,hF⟩:=bnd hF
 refine g_call1 (g2_Source_Next_c _ _ _ h4) rfl rfl rfl rfl rfl (runX ?_)
 refine rg ?_
 refine bl ?_
 refine fix_elim hF fun f7 mf7 hf7 hF=>?_
 refine pws_loop (α:=Nat×(Int×Int×Int×(List Stored)×(List Stored)×(List Proposal)×Int×(List Watch)×(List Last)×(List Int)×Int×Int)) (fun a _=>mkS [(2,.ptr 2 (1,2) 0),(3,.ptr 10 (1,10) 0),(4,.ptr 4 (1,4) 0),(5,.int .i64 (w64 (3+r4.1))),(6,.int .i64 a.2.1)] [(2,some ((1,2),.box [.int .i64 0,.int .i64 0,.nil,.nil,.nil,.int .i64 0,.nil,.nil])),(4,some ((1,4),.box [.int .i64 a.2.2.1,.int .i64 a.2.2.2.1,.sl (List.map Stored.cs a.2.2.2.2.1),.sl (List.map Stored.cs a.2.2.2.2.2.1),.sl (List.map Proposal.cs a.2.2.2.2.2.2.1),.int .i64 a.2.2.2.2.2.2.2.1,.sl (List.map Watch.cs a.2.2.2.2.2.2.2.2.1),.sl (List.map Last.cs a.2.2.2.2.2.2.2.2.2.1)])),(10,some ((1,10),.box [.sl (List.map csI a.2.2.2.2.2.2.2.2.2.2.1),.int .i64 a.2.2.2.2.2.2.2.2.2.2.2.1,.int .u64 a.2.2.2.2.2.2.2.2.2.2.2.2]))] 2) (fun a=>fixN a.1 f7 a.2=some r) (fun a=>a.1) (mf7,0,r3.seq,r3.clock,r3.pages,r3.gone,r3.proposals,r3.proposed,r3.watches,r3.lasts,r4.2.l,r4.2.pos,r4.2.seed) 2 hF (sR [(2,1,0),(4,3,3),(10,2,1)]) (fun a _ hF=>?_)
 obtain ⟨mf7,x101,x102,x103,x104,x105,x106,x107,x108,x109,x110,x111,x112⟩:=a
 obtain ⟨mf7,rfl,hF⟩:=fix_step hf7 hF
 dsimp only at hF ⊢
 refine runX ?_
 refine rg ?_
 refine cS hF rfl (fun hF=>?_) fun hF=>?_
 ·refine letk_elim hF fun k8 hk8 hF=>?_
  refine pws_join (α:=Int×Int×(List Stored)×(List Stored)×(List Proposal)×Int×(List Watch)×(List Last)×(List Int)×Int×Int) (fun a _=>mkS [(2,.ptr 2 (1,2) 0),(3,.ptr 10 (1,10) 0),(4,.ptr 4 (1,4) 0),(5,.int .i64 (w64 (3+r4.1))),(6,.int .i64 x101)] [(2,some ((1,2),.box [.int .i64 0,.int .i64 0,.nil,.nil,.nil,.int .i64 0,.nil,.nil])),(4,some ((1,4),.box [.int .i64 a.1,.int .i64 a.2.1,.sl (List.map Stored.cs a.2.2.1),.sl (List.map Stored.cs a.2.2.2.1),.sl (List.map Proposal.cs a.2.2.2.2.1),.int .i64 a.2.2.2.2.2.1,.sl (List.map Watch.cs a.2.2.2.2.2.2.1),.sl (List.map Last.cs a.2.2.2.2.2.2.2.1)])),(10,some ((1,10),.box [.sl (List.map csI a.2.2.2.2.2.2.2.2.1),.int .i64 a.2.2.2.2.2.2.2.2.2.1,.int .u64 a.2.2.2.2.2.2.2.2.2.2]))] 2) (fun a=>k8 a.1 a.2.1 a.2.2.1 a.2.2.2.1 a.2.2.2.2.1 a.2.2.2.2.2.1 a.2.2.2.2.2.2.1 a.2.2.2.2.2.2.2.1 a.2.2.2.2.2.2.2.2.1 a.2.2.2.2.2.2.2.2.2.1 a.2.2.2.2.2.2.2.2.2.2=some r) (runX ?_) (fun a _ hF=>?_)
  ·refine bl ?_
   refine rg ?_
   obtain ⟨r150,h60,hF⟩:=bnd hF
   refine g_call1 (g2_User_c _ _ h60) rfl rfl rfl rfl rfl (runX ?_)
   obtain ⟨r151,h61,hF⟩:=bnd hF
   refine g_call (g2_Titles_c _ h61) rfl rfl (runX ?_)
   obtain ⟨e152,h62,hF⟩:=bnd hF
   refine g_indexI (f:=Title.cs) rfl h62 rfl rfl rfl (runX ?_)
   obtain ⟨r153,h63,hF⟩:=bnd hF
   refine g_call1 (g2_Text_c _ _ h63) rfl rfl rfl rfl rfl (runX ?_)
   refine g_buildM (M:=([(⟨1,r150.1,(⟨#[]⟩:ByteArray),e152,(⟨0,(⟨#[]⟩:ByteArray)⟩:Title),r153.1,0,[]⟩:Change)]:List Change)) (f:=Change.cs) rfl rfl rfl rfl (Nat.le_of_ble_eq_true rfl) rfl (runX ?_)
   obtain ⟨r154,h64,hF⟩:=bnd hF
   refine g_call (r27_Apply_c _ _ _ h64) rfl rfl (runX ?_)
   refine rg ?_
   refine cS hF rfl (fun hF=>?_) fun hF=>?_
   ·refine rg ?_
    exact jn (r154.1.seq,r154.1.clock,r154.1.pages,r154.1.gone,r154.1.proposals,r154.1.proposed,r154.1.watches,r154.1.lasts,r153.2.l,r153.2.pos,r153.2.seed) hF (sR [(2,1,2),(4,1,4),(10,1,10)])
   exact jn (x102,x103,x104,x105,x106,x107,x108,x109,r153.2.l,r153.2.pos,r153.2.seed) hF (sR [(2,1,2),(4,1,4),(10,1,10)])
  obtain ⟨x139,x140,x141,x142,x143,x144,x145,x146,x147,x148,x149⟩:=a
  subst hk8
  dsimp only at hF ⊢
  refine runX ?_
  refine rg ?_
  exact rn (mf7,(w64 (x101+1)),x139,x140,x141,x142,x143,x144,x145,x146,x147,x148,x149) hF (sR [(2,1,2),(4,1,4),(10,1,10)])
 refine rg ?_
 obtain ⟨r155,h65,hF⟩:=bnd hF
 refine g_call1 (g2_Source_Next_c _ _ _ h65) rfl rfl rfl rfl rfl (runX ?_)
 obtain ⟨r156,h66,hF⟩:=bnd hF
 refine g_callO (pre:=[_]) (pre':=[_]) (g2_After_c _ _ _ _ h66) rfl rfl rfl rfl rfl rfl (runX ?_)
 cases hF
 exact rQ
end Go.Proofs.YtphibahplgmgfaaGreatDoor
namespace Go.Proofs.YtphibahplgmgfaaGreatDoor
open VL
set_option linter.unusedVariables false
def userG:List ByteArray:=[(⟨#[97,110,110]⟩:ByteArray),(⟨#[98,111,98]⟩:ByteArray),(⟨#[]⟩:ByteArray),(⟨#[99,121]⟩:ByteArray),(⟨#[97,110,110]⟩:ByteArray)]
def noteG:List ByteArray:=[(⟨#[]⟩:ByteArray),(⟨#[110,111,116,101]⟩:ByteArray),(⟨#[97,95,98,32,126]⟩:ByteArray)]
def policyG:List ByteArray:=[(⟨#[97,108,108,111,119,32,114,101,97,100,32,97,108,108,32,60,97,108,108,62,10,97,108,108,111,119,32,101,100,105,116,32,97,108,108,32,60,97,108,108,62,10,97,108,108,111,119,32,109,111,118,101,32,97,108,108,32,60,97,108,108,62,10,97,108,108,111,119,32,100,101,108,101,116,101,32,97,108,108,32,60,97,108,108,62,10,97,108,108,111,119,32,114,101,118,105,101,119,32,97,108,108,32,60,97,108,108,62,10]⟩:ByteArray),(⟨#[97,108,108,111,119,32,114,101,97,100,32,97,108,108,32,60,97,108,108,62,10,97,108,108,111,119,32,101,100,105,116,32,97,108,108,32,60,97,108,108,62,10,97,108,108,111,119,32,109,111,118,101,32,97,108,108,32,60,97,108,108,62,10,97,108,108,111,119,32,100,101,108,101,116,101,32,97,108,108,32,60,97,108,108,62,10,97,108,108,111,119,32,114,101,118,105,101,119,32,97,108,108,32,60,97,108,108,62,10,103,114,111,117,112,32,115,116,97,102,102,32,97,110,110,10,100,101,110,121,32,114,101,97,100,32,97,108,108,32,65,10,97,108,108,111,119,32,114,101,97,100,32,115,116,97,102,102,32,65,47,67,10]⟩:ByteArray),(⟨#[97,108,108,111,119,32,114,101,97,100,32,97,108,108,32,60,97,108,108,62,10,97,108,108,111,119,32,101,100,105,116,32,97,108,108,32,60,97,108,108,62,10,97,108,108,111,119,32,109,111,118,101,32,97,108,108,32,60,97,108,108,62,10,97,108,108,111,119,32,100,101,108,101,116,101,32,97,108,108,32,60,97,108,108,62,10,97,108,108,111,119,32,114,101,118,105,101,119,32,97,108,108,32,60,97,108,108,62,10,103,114,111,117,112,32,115,116,97,102,102,32,97,110,110,10,103,117,97,114,100,32,115,116,97,102,102,32,65,32,124,32,83,10,115,116,114,105,99,116,32,115,116,97,102,102,32,84,101,109,112,108,97,116,101,58,84,10,103,117,97,114,100,32,115,116,97,102,102,32,66,10]⟩:ByteArray),(⟨#[103,114,111,117,112,32,115,116,97,102,102,32,97,110,110,32,64,109,111,114,101,10,103,114,111,117,112,32,109,111,114,101,32,98,111,98,10,97,108,108,111,119,32,114,101,97,100,32,97,108,108,32,60,77,97,105,110,62,10,97,108,108,111,119,32,114,101,97,100,32,97,108,108,32,60,84,101,109,112,108,97,116,101,62,10,97,108,108,111,119,32,114,101,97,100,32,97,108,108,32,60,67,97,116,101,103,111,114,121,62,10,97,108,108,111,119,32,101,100,105,116,32,117,115,101,114,115,32,60,77,97,105,110,62,10,97,108,108,111,119,32,101,100,105,116,32,115,116,97,102,102,32,60,67,97,116,101,103,111,114,121,62,10,97,108,108,111,119,32,114,101,118,105,101,119,32,115,116,97,102,102,32,60,97,108,108,62,10,97,108,108,111,119,32,109,111,118,101,32,115,116,97,102,102,32,60,97,108,108,62,10,97,108,108,111,119,32,100,101,108,101,116,101,32,115,116,97,102,102,32,60,97,108,108,62,10,97,108,108,111,119,32,114,101,97,100,32,115,116,97,102,102,32,60,97,108,108,62,10,97,108,108,111,119,32,101,100,105,116,32,115,116,97,102,102,32,60,97,108,108,62,10]⟩:ByteArray),(⟨#[97,108,108,111,119,32,114,101,97,100,32,97,108,108,32,60,97,108,108,62,10,97,108,108,111,119,32,101,100,105,116,32,97,108,108,32,60,97,108,108,62,10,97,108,108,111,119,32,109,111,118,101,32,97,108,108,32,60,97,108,108,62,10,97,108,108,111,119,32,100,101,108,101,116,101,32,97,108,108,32,60,97,108,108,62,10,97,108,108,111,119,32,114,101,118,105,101,119,32,97,108,108,32,60,97,108,108,62,10,100,101,110,121,32,114,101,97,100,32,97,108,108,32,66,10,100,101,110,121,32,114,101,97,100,32,97,108,108,32,67,97,116,101,103,111,114,121,58,89,10]⟩:ByteArray),(⟨#[97,108,108,111,119,32,114,101,97,100,32,97,108,108,32,60,97,108,108,62,10,97,108,108,111,119,32,101,100,105,116,32,97,108,108,32,60,97,108,108,62,10,97,108,108,111,119,32,109,111,118,101,32,97,108,108,32,60,97,108,108,62,10,97,108,108,111,119,32,100,101,108,101,116,101,32,97,108,108,32,60,97,108,108,62,10,97,108,108,111,119,32,114,101,118,105,101,119,32,97,108,108,32,60,97,108,108,62,10,100,101,110,121,32,101,100,105,116,32,97,108,108,32,66,10,100,101,110,121,32,114,101,97,100,32,117,115,101,114,115,32,68,10]⟩:ByteArray),(⟨#[97,108,108,111,119,32,114,101,97,100,32,97,108,108,32,60,97,108,108,62,10,97,108,108,111,119,32,101,100,105,116,32,97,108,108,32,60,97,108,108,62,10,97,108,108,111,119,32,109,111,118,101,32,97,108,108,32,60,97,108,108,62,10,97,108,108,111,119,32,100,101,108,101,116,101,32,97,108,108,32,60,97,108,108,62,10,97,108,108,111,119,32,114,101,118,105,101,119,32,97,108,108,32,60,97,108,108,62,10]⟩:ByteArray),(⟨#[97,108,108,111,119,32,114,101,97,100,32,97,108,108,32,60,97,108,108,62,10,97,108,108,111,119,32,101,100,105,116,32,97,108,108,32,60,97,108,108,62,10,97,108,108,111,119,32,109,111,118,101,32,97,108,108,32,60,97,108,108,62,10,97,108,108,111,119,32,100,101,108,101,116,101,32,97,108,108,32,60,97,108,108,62,10,97,108,108,111,119,32,114,101,118,105,101,119,32,97,108,108,32,60,97,108,108,62,10,103,114,111,117,112,32,115,116,97,102,102,32,97,110,110,10,100,101,110,121,32,114,101,118,105,101,119,32,97,108,108,32,60,97,108,108,62,10,97,108,108,111,119,32,114,101,118,105,101,119,32,115,116,97,102,102,32,60,77,97,105,110,62,10,103,117,97,114,100,32,115,116,97,102,102,32,65,10,103,117,97,114,100,32,115,116,97,102,102,32,68,10]⟩:ByteArray)]
def pieceG:List ByteArray:=[(⟨#[112,108,97,105,110,32,119,111,114,100,115,32]⟩:ByteArray),(⟨#[91,91,65,93,93,32]⟩:ByteArray),(⟨#[91,91,66,124,98,101,101,93,93,32]⟩:ByteArray),(⟨#[91,91,67,97,116,101,103,111,114,121,58,88,93,93]⟩:ByteArray),(⟨#[91,91,67,97,116,101,103,111,114,121,58,88,124,107,93,93]⟩:ByteArray),(⟨#[91,91,67,97,116,101,103,111,114,121,58,89,93,93]⟩:ByteArray),(⟨#[123,123,116,124,49,125,125]⟩:ByteArray),(⟨#[123,123,58,66,125,125,32]⟩:ByteArray),(⟨#[123,123,58,65,47,67,125,125]⟩:ByteArray),(⟨#[123,123,35,105,102,101,120,105,115,116,58,66,124,121,101,115,124,110,111,125,125,32]⟩:ByteArray),(⟨#[123,123,35,105,102,101,120,105,115,116,58,68,124,121,101,115,124,110,111,125,125]⟩:ByteArray),(⟨#[123,123,35,109,101,109,98,101,114,115,58,88,125,125,32]⟩:ByteArray),(⟨#[123,123,35,100,97,116,101,58,89,45,109,45,100,125,125,32]⟩:ByteArray),(⟨#[123,123,35,100,97,116,101,58,72,58,105,125,125,32]⟩:ByteArray),(⟨#[123,123,35,114,105,103,104,116,58,101,100,105,116,124,65,124,101,124,110,125,125,32]⟩:ByteArray),(⟨#[123,123,35,114,101,118,105,115,105,111,110,58,65,125,125,32]⟩:ByteArray),(⟨#[10,61,61,32,83,32,61,61,10,98,111,100,121,10]⟩:ByteArray),(⟨#[10,61,61,32,82,32,61,61,10,114,101,115,116,10]⟩:ByteArray),(⟨#[60,110,111,105,110,99,108,117,100,101,62,123,123,116,125,125,60,47,110,111,105,110,99,108,117,100,101,62]⟩:ByteArray),(⟨#[60,105,110,99,108,117,100,101,111,110,108,121,62,91,91,68,93,93,60,47,105,110,99,108,117,100,101,111,110,108,121,62]⟩:ByteArray),(⟨#[123,123,123,49,124,100,125,125,125,32]⟩:ByteArray),(⟨#[10,42,32,105,116,101,109,10]⟩:ByteArray),(⟨#[115,101,99,114,101,116,32]⟩:ByteArray),(⟨#[91,91,84,101,109,112,108,97,116,101,58,84,93,93]⟩:ByteArray),(⟨#[123,123,58,67,97,116,101,103,111,114,121,58,89,125,125]⟩:ByteArray),(⟨#[119,111,114,100,115,32,91,91,68,93,93,32,119,111,114,100,115]⟩:ByteArray),(⟨#[39,39,120,39,39,32]⟩:ByteArray),(⟨#[123,123,35,109,101,109,98,101,114,115,58,89,125,125]⟩:ByteArray)]
def titleG:List Title:=[(⟨0,(⟨#[65]⟩:ByteArray)⟩:Title),(⟨0,(⟨#[66]⟩:ByteArray)⟩:Title),(⟨0,(⟨#[65,47,67]⟩:ByteArray)⟩:Title),(⟨3,(⟨#[84]⟩:ByteArray)⟩:Title),(⟨4,(⟨#[88]⟩:ByteArray)⟩:Title),(⟨4,(⟨#[89]⟩:ByteArray)⟩:Title),(⟨2,(⟨#[65,110,110]⟩:ByteArray)⟩:Title),(⟨0,(⟨#[68]⟩:ByteArray)⟩:Title)]
def usersG:List ByteArray:=[(⟨#[]⟩:ByteArray),(⟨#[97,110,110]⟩:ByteArray),(⟨#[98,111,98]⟩:ByteArray),(⟨#[99,121]⟩:ByteArray)]
structure SrcF.ok (s:SrcF):Prop where
 len:s.l.length≤9223372036854775807
 pos:0≤s.pos
theorem round_t (v n:Int) (h0:0<n) (h1:n≤4611686018427387904):Tot (g2_Round v n) fun r=>0≤r∧r<n:=by
 unfold g2_Round
 refine tot_remI (by omega) ?_
 have e1:Int.tmod v n<n:=Int.tmod_lt_of_pos v h0
 have e2 : -n<Int.tmod v n:=by
  have:=Int.tmod_lt_of_pos (-v) h0
  rw [Int.neg_tmod] at this
  omega
 refine tot_let0 ?_
 refine tot_ifD (fun h=>?_) fun h=>?_
 ·rw [w64_of (by omega) (by omega)]
  exact tot_some (by omega)
 ·exact tot_some (by omega)
theorem from_t (l:List Int) (hl:l.length≤9223372036854775807):Tot (g2_From l) fun s=>s.ok:=by
 unfold g2_From
 refine tot_loop (fun a:Int×Int=>0≤a.1∧a.1≤64∧a.1≤(l.length:Int)) (fun a=>(64 - a.1).toNat) ⟨by simp,by simp,by simp⟩ (by simp) ?_
 rintro ⟨i,sd⟩ rec ⟨h0,h1,h2⟩ ih
 dsimp only at h0 h1 h2 ⊢
 refine tot_let0 ?_
 refine tot_ifD (fun h=>?_) fun h=>?_
 ·refine tot_ifD (fun h'=>?_) fun h'=>?_
  ·refine tot_atI h0 h fun e _ _=>?_
   refine tot_shrI (by decide) ?_
   rw [w64_of (by omega) (by omega)]
   exact ih _ ⟨by dsimp only;omega,by dsimp only;omega,by dsimp only;omega⟩ (by dsimp only;omega)
  ·exact tot_some ⟨hl,Int.le_refl _⟩
 ·exact tot_some ⟨hl,Int.le_refl _⟩
theorem next_t (s:SrcF) (n:Int) (hs:s.ok) (h0:0<n) (h1:n≤4294967296):Tot (g2_Source_Next s n) fun r=>(0≤r.1∧r.1<n)∧r.2.ok:=by
 have hl:=hs.len
 have hp:=hs.pos
 unfold g2_Source_Next
 refine tot_ifD (fun h=>?_) fun h=>?_
 ·have e:w64 (s.pos+1)=s.pos+1:=w64_of (by omega) (by omega)
  rw [e,w64_of (by omega) (by omega)]
  refine tot_atI (by omega) (by omega) fun e _ _=>?_
  refine tot_bind (round_t e n h0 (by omega)) fun r hr=>?_
  exact tot_some ⟨hr,⟨hl,by dsimp only;omega⟩⟩
 ·refine tot_shrI (by decide) ?_
  have e:IntKind.wrap .u64 n=n:=by rw [IntKind.wrap_u64];omega
  rw [e]
  refine tot_remI (by omega) ?_
  generalize hx:(IntKind.wrap .u64 ((IntKind.wrap .u64 (s.seed * 6364136223846793005))+1442695040888963407))=x
  have hx0:0≤x:=by rw [← hx,IntKind.wrap_u64];omega
  have hq:0≤Int.fdiv x (2 ^ (min (33:Int).toNat (IntKind.u64).bits)):=Int.fdiv_nonneg hx0 (by decide)
  generalize Int.fdiv x (2 ^ (min (33:Int).toNat (IntKind.u64).bits))=q at hq ⊢
  have e1:Int.tmod q n<n:=Int.tmod_lt_of_pos q h0
  have e2:0≤Int.tmod q n:=Int.tmod_nonneg n hq
  have e3:IntKind.wrap .i64 (Int.tmod q n)=Int.tmod q n:=by rw [IntKind.wrap_i64];omega
  rw [e3]
  exact tot_some ⟨⟨e2,e1⟩,⟨hl,hp⟩⟩
theorem pick_t {α β:Type} {l:List α} {i:Int} {f:α→Option β} {R:β→Prop} (n:Int) (hn:(l.length:Int)=n) (h:0≤i∧i<n) (k:∀ e,e ∈ l→Tot (f e) R):Tot ((atI l i).bind f) R:=tot_atI h.1 (by omega) fun e he _=>k e he
theorem title_t (s:SrcF) (hs:s.ok):Tot (g2_Title s) fun r=>r.1 ∈ titleG∧r.2.ok:=by
 unfold g2_Title g2_Titles
 refine tot_bindE rfl ?_
 refine tot_bind (next_t s 8 hs (by omega) (by omega)) fun r hr=>?_
 exact pick_t 8 rfl hr.1 fun e he=>tot_some ⟨he,hr.2⟩
theorem user_t (s:SrcF) (hs:s.ok):Tot (g2_User s) fun r=>r.1 ∈ userG∧r.2.ok:=by
 unfold g2_User
 refine tot_bind (next_t s 5 hs (by omega) (by omega)) fun r hr=>?_
 exact pick_t 5 rfl hr.1 fun e he=>tot_some ⟨he,hr.2⟩
theorem note_t (s:SrcF) (hs:s.ok):Tot (g2_Note s) fun r=>r.1 ∈ noteG∧r.2.ok:=by
 unfold g2_Note
 refine tot_bind (next_t s 3 hs (by omega) (by omega)) fun r hr=>?_
 exact pick_t 3 rfl hr.1 fun e he=>tot_some ⟨he,hr.2⟩
theorem policy_t (s:SrcF) (hs:s.ok):Tot (g2_Policy s) fun r=>r.1 ∈ policyG∧r.2.ok:=by
 unfold g2_Policy
 refine tot_bind (next_t s 8 hs (by omega) (by omega)) fun r hr=>?_
 exact pick_t 8 rfl hr.1 fun e he=>tot_some ⟨he,hr.2⟩
theorem pieces_le:∀ p ∈ pieceG,p.size≤40:=by decide
theorem piece_t (s:SrcF) (hs:s.ok):Tot (g2_piece s) fun r=>r.1.size≤40∧r.2.ok:=by
 unfold g2_piece
 refine tot_bind (next_t s 28 hs (by omega) (by omega)) fun r hr=>?_
 exact pick_t 28 rfl hr.1 fun e he=>tot_some ⟨pieces_le e he,hr.2⟩
theorem text_t (s:SrcF) (hs:s.ok):Tot (g2_Text s) fun r=>r.1.size≤300∧r.2.ok:=by
 unfold g2_Text
 refine tot_bind (next_t s 12 hs (by omega) (by omega)) fun r hr=>?_
 refine tot_let (fun q=>∀ t l p sd,t.size≤40→(⟨l,p,sd⟩:SrcF).ok→Tot (q t l p sd) fun r:ByteArray×SrcF=>r.1.size≤300∧r.2.ok) ?_ ?_
 ·intro t l p sd ht hok
  refine tot_bind (next_t _ 5 hok (by omega) (by omega)) fun r hr=>?_
  refine tot_loop (fun a:ByteArray×Int×List Int×Int×Int=>(a.1.size:Int)+40 * a.2.1≤300∧(0≤a.2.1∧a.2.1≤5)∧(⟨a.2.2.1,a.2.2.2.1,a.2.2.2.2⟩:SrcF).ok) (fun a=>a.2.1.toNat) ⟨by dsimp only;omega,⟨hr.1.1,by dsimp only;omega⟩,hr.2⟩ (by dsimp only;omega) ?_
  rintro ⟨t,n,l,p,sd⟩ rec ⟨h1,h2,h3⟩ ih
  dsimp only at h1 h2 h3 ⊢
  refine tot_ifD (fun h=>?_) fun h=>?_
  ·refine tot_bind (piece_t _ h3) fun r hr=>?_
   have:=hr.1
   refine tot_catS (by omega) fun hsz=>?_
   rw [w64_of (by omega) (by omega)]
   refine ih _ ⟨?_,?_,hr.2⟩ ?_
   ·dsimp only;rw [hsz];omega
   ·dsimp only;omega
   ·dsimp only;omega
  ·exact tot_some ⟨by dsimp only;omega,h3⟩
 ·intro k hk
  refine tot_ifD (fun h=>?_) fun h=>?_
  ·refine tot_bind (next_t _ 3 hr.2 (by omega) (by omega)) fun r2 hr2=>?_
   refine pick_t 3 rfl hr2.1 fun e he=>?_
   have he':e.size≤10:=by
    simp at he
    rcases he with rfl | rfl | rfl<;>decide
   refine tot_catS (by show 12+e.size≤_;omega) fun hs1=>?_
   have hs1':(ByteArray.append ⟨#[35,82,69,68,73,82,69,67,84,32,91,91]⟩ e).size≤22:=by
    have:(⟨#[35,82,69,68,73,82,69,67,84,32,91,91]⟩:ByteArray).size=12:=rfl
    rw [this] at hs1
    exact Nat.le_trans (Nat.le_of_eq hs1) (by omega)
   refine tot_catS (Nat.le_trans (Nat.add_le_add_right hs1' 3) (by decide)) fun hs2=>?_
   exact hk _ _ _ _ (Nat.le_trans (Nat.le_of_eq hs2) (Nat.le_trans (Nat.add_le_add_right hs1' 3) (by decide))) hr2.2
  ·exact hk _ _ _ _ (by decide) hr.2
end Go.Proofs.YtphibahplgmgfaaGreatDoor
namespace Go.Proofs.YtphibahplgmgfaaGreatDoor
open VL
set_option linter.unusedVariables false
theorem revisions_t (s:SrcF) (clock:Int) (hs:s.ok):Tot (g2_Revisions s clock) fun r=>r.1.length≤3∧r.2.ok:=by
 unfold g2_Revisions
 refine tot_bind (next_t s 3 hs (by omega) (by omega)) fun r hr=>?_
 refine tot_loop (fun a:Int×Int×List Int×Int×Int×List Revision=>((a.2.2.2.2.2.length:Int)+a.2.1≤3∧0≤a.2.1∧a.2.1≤3)∧(⟨a.2.2.1,a.2.2.2.1,a.2.2.2.2.1⟩:SrcF).ok) (fun a=>a.2.1.toNat) ⟨?_,hr.2⟩ ?_ ?_
 ·dsimp only
  rw [w64_of (by omega) (by omega)]
  simp
  omega
 ·dsimp only
  rw [w64_of (by omega) (by omega)]
  omega
 rintro ⟨m,n,l,p,sd,out⟩ rec ⟨⟨h1,h2,h3⟩,h4⟩ ih
 dsimp only at h1 h2 h3 h4 ⊢
 refine tot_ifD (fun h=>?_) fun h=>?_
 ·refine tot_bind (user_t _ h4) fun r1 q1=>?_
  refine tot_bind (note_t _ q1.2) fun r2 q2=>?_
  refine tot_bind (text_t _ q2.2) fun r3 q3=>?_
  refine tot_appL 3 (by simp;omega) (by decide) (by decide) ?_
  refine tot_bind (next_t _ 3 q3.2 (by omega) (by omega)) fun r4 q4=>?_
  have e:w64 (n - 1)=n - 1:=w64_of (by omega) (by omega)
  refine ih _ ⟨?_,q4.2⟩ ?_
  ·dsimp only
   rw [e]
   simp
   omega
  ·dsimp only
   rw [e]
   omega
 ·exact tot_some ⟨by dsimp only;omega,h4⟩
def policyT:Title:=⟨5,⟨#[80,111,108,105,99,121]⟩⟩
structure Change.tame (c:Change):Prop where
 title:c.title≠policyT
 «to»:c.to≠policyT
 n0:0≤c.n
 n1:c.n≤2000
 hist:c.history.length≤3
 text:c.text.size≤300
theorem titles_ne:∀ t ∈ titleG,t≠policyT:=by decide
theorem zero_ne:(⟨0,⟨#[]⟩⟩:Title)≠policyT:=by decide
set_option maxHeartbeats 1000000 in
theorem change_t (s:SrcF) (clock:Int) (hs:s.ok):Tot (g2_Change s clock) fun r=>r.1.tame∧r.2.ok:=by
 unfold g2_Change
 refine tot_bind (next_t s 14 hs (by omega) (by omega)) fun r1 q1=>?_
 refine pick_t 14 rfl q1.1 fun c2 _=>?_
 refine tot_bind (user_t _ q1.2) fun r3 q3=>?_
 refine tot_bind (title_t _ q3.2) fun r4 q4=>?_
 have ht:(⟨r4.1.space,r4.1.name⟩:Title)≠policyT:=titles_ne _ q4.1
 refine tot_let (fun k=>∀ l p sd kd us no ts tn os on tx n hi,(⟨ts,tn⟩:Title)≠policyT→(⟨os,on⟩:Title)≠policyT→0≤n→n≤2000→List.length hi≤3→tx.size≤300→(⟨l,p,sd⟩:SrcF).ok→Tot (k l p sd kd us no ts tn os on tx n hi) fun r:Change×SrcF=>r.1.tame∧r.2.ok) ?_ ?_
 ·intro l p sd kd us no ts tn os on tx n hi a1 a2 a3 a4 a5 a6 a7
  exact tot_some ⟨⟨a1,a2,a3,a4,a5,a6⟩,a7⟩
 intro k3 hk3
 refine tot_let (fun k=>∀ b,Tot (k b) fun r:Change×SrcF=>r.1.tame∧r.2.ok) ?_ ?_
 ·intro b
  refine tot_if (fun _=>?_) fun _=>?_
  ·refine tot_bind (note_t _ q4.2) fun r5 q5=>?_
   refine tot_bind (text_t _ q5.2) fun r6 q6=>?_
   refine tot_ifD (fun _=>?_) fun _=>?_
   ·refine tot_bind (next_t _ 3 q6.2 (by omega) (by omega)) fun r7 q7=>?_
    exact hk3 _ _ _ _ _ _ _ _ _ _ _ _ _ ht zero_ne q7.1.1 (by omega) (by simp) q6.1 q7.2
   ·exact hk3 _ _ _ _ _ _ _ _ _ _ _ _ _ ht zero_ne (by omega) (by omega) (by simp) q6.1 q6.2
  refine tot_ifD (fun _=>?_) fun _=>?_
  ·refine tot_bind (title_t _ q4.2) fun r5 q5=>?_
   refine tot_bind (next_t _ 2 q5.2 (by omega) (by omega)) fun r6 q6=>?_
   exact hk3 _ _ _ _ _ _ _ _ _ _ _ _ _ ht (titles_ne _ q5.1) q6.1.1 (by omega) (by simp) (by decide) q6.2
  refine tot_ifD (fun _=>?_) fun _=>?_
  ·refine tot_bind (revisions_t _ clock q4.2) fun r5 q5=>?_
   exact hk3 _ _ _ _ _ _ _ _ _ _ _ _ _ ht zero_ne (by omega) (by omega) q5.1 (by decide) q5.2
  refine tot_ifD (fun _=>?_) fun _=>?_
  ·refine tot_bind (next_t _ 2000 q4.2 (by omega) (by omega)) fun r5 q5=>?_
   exact hk3 _ _ _ _ _ _ _ _ _ _ _ _ _ zero_ne zero_ne (by rw [w64_of (by omega) (by omega)];omega) (by rw [w64_of (by omega) (by omega)];omega) (by simp) (by decide) q5.2
  refine tot_let (fun k=>∀ b,Tot (k b) fun r:Change×SrcF=>r.1.tame∧r.2.ok) ?_ ?_
  ·intro b
   refine tot_if (fun _=>?_) fun _=>?_
   ·refine tot_ifD (fun _=>?_) fun _=>?_
    ·exact hk3 _ _ _ _ _ _ _ _ _ _ _ _ _ ht zero_ne (by omega) (by omega) (by simp) (by decide) q4.2
    ·exact hk3 _ _ _ _ _ _ _ _ _ _ _ _ _ ht zero_ne (by omega) (by omega) (by simp) (by decide) q4.2
   refine tot_ifD (fun _=>?_) fun _=>?_
   ·refine tot_bind (next_t _ 4 q4.2 (by omega) (by omega)) fun r5 q5=>?_
    exact hk3 _ _ _ _ _ _ _ _ _ _ _ _ _ zero_ne zero_ne (by rw [w64_of (by omega) (by omega)];omega) (by rw [w64_of (by omega) (by omega)];omega) (by simp) (by decide) q5.2
   ·exact hk3 _ _ _ _ _ _ _ _ _ _ _ _ _ ht zero_ne (by omega) (by omega) (by simp) (by decide) q4.2
  ·intro k hk
   exact tot_ifD (fun _=>hk _) fun _=>hk _
 ·intro k hk
  exact tot_ifD (fun _=>hk _) fun _=>hk _
theorem changes_t (s:SrcF) (clock:Int) (hs:s.ok):Tot (g2_Changes s clock) fun r=>(∀ c ∈ r.1,c.tame)∧r.1.length≤2∧r.2.ok:=by
 unfold g2_Changes
 refine tot_bind (next_t s 6 hs (by omega) (by omega)) fun r hr=>?_
 have hq:0≤Int.tdiv r.1 3∧Int.tdiv r.1 3≤1:=by
  have:=hr.1
  rw [Int.tdiv_eq_ediv_of_nonneg this.1]
  omega
 refine tot_quoI (by decide) ?_
 have e:IntKind.wrap .i64 (Int.tdiv r.1 3)=Int.tdiv r.1 3:=w64_of (by omega) (by omega)
 rw [e]
 refine tot_loop (fun a:Int×List Int×Int×Int×List Change=>((a.2.2.2.2.length:Int)+a.1≤2∧0≤a.1∧a.1≤2)∧(∀ c ∈ a.2.2.2.2,c.tame)∧(⟨a.2.1,a.2.2.1,a.2.2.2.1⟩:SrcF).ok) (fun a=>a.1.toNat) ⟨?_,by simp,hr.2⟩ ?_ ?_
 ·dsimp only
  rw [w64_of (by omega) (by omega)]
  simp
  omega
 ·dsimp only
  rw [w64_of (by omega) (by omega)]
  omega
 rintro ⟨n,l,p,sd,out⟩ rec ⟨⟨h1,h2,h3⟩,h4,h5⟩ ih
 dsimp only at h1 h2 h3 h4 h5 ⊢
 refine tot_ifD (fun h=>?_) fun h=>?_
 ·refine tot_bind (change_t _ clock h5) fun r1 q1=>?_
  refine tot_appL 2 (by simp;omega) (by decide) (by decide) ?_
  refine ih _ ⟨?_,?_,q1.2⟩ ?_
  ·dsimp only
   rw [w64_of (by omega) (by omega)]
   simp
   omega
  ·intro c hc
   rcases List.mem_append.1 hc with hc | hc
   ·exact h4 c hc
   ·simp at hc
    rw [hc]
    exact q1.1
  ·dsimp only
   rw [w64_of (by omega) (by omega)]
   omega
 ·exact tot_some ⟨h4,by dsimp only;omega,h5⟩
end Go.Proofs.YtphibahplgmgfaaGreatDoor
namespace Go.Proofs.YtphibahplgmgfaaGreatDoor
open VL
set_option linter.unusedVariables false
theorem bytes_ext {a b:ByteArray} (h:a.toList=b.toList):a=b:=by
 rw [ByteArray.toList_eq,ByteArray.toList_eq] at h
 have:a.data=b.data:=Array.ext' h
 cases a;cases b
 simp at this
 rw [this]
def sltP (a b:ByteArray):Prop:=ltS a b=true
theorem sltP_iff (a b:ByteArray):sltP a b↔a.toList<b.toList:=by unfold sltP ltS;rw [bytesLess_eq];simp
theorem sltP_irrefl (a:ByteArray):¬ sltP a a:=by rw [sltP_iff];exact List.lt_irrefl _
theorem sltP_trans {a b c:ByteArray} (h:sltP a b) (k:sltP b c):sltP a c:=by
 rw [sltP_iff] at *
 exact List.lt_trans h k
theorem sltP_total {a b:ByteArray} (h:a≠b):sltP a b∨sltP b a:=by
 rw [sltP_iff,sltP_iff]
 rcases Classical.em (a.toList<b.toList) with h1 | h1
 ·exact .inl h1
 ·rcases Classical.em (b.toList<a.toList) with h2 | h2
  ·exact .inr h2
  ·exact absurd (bytes_ext (List.le_antisymm (List.not_lt.1 h2) (List.not_lt.1 h1))) h
def tlt (a b:Title):Prop:=Title.cmp a b<0
theorem tlt_iff (a b:Title):tlt a b↔a.space<b.space∨(a.space=b.space∧sltP a.name b.name):=by
 unfold tlt sltP ltS
 rw [cmp_def]
 by_cases h1:a.space<b.space
 ·simp [h1]
 ·by_cases h2:b.space<a.space
  ·simp [h1,h2]
   omega
  ·have e:a.space=b.space:=by omega
   simp only [h1,h2,if_false,false_or]
   by_cases h:Op.bytesLess a.name.toList b.name.toList=true
   ·simp [h,e]
   ·simp only [h]
    by_cases h':a.name.toList=b.name.toList<;>simp [h',e]
theorem tlt_trans {a b c:Title} (h:tlt a b) (k:tlt b c):tlt a c:=by
 rw [tlt_iff] at *
 rcases h with h | ⟨h1,h2⟩<;>rcases k with k | ⟨k1,k2⟩
 ·exact .inl (by omega)
 ·exact .inl (by omega)
 ·exact .inl (by omega)
 ·exact .inr ⟨by omega,sltP_trans h2 k2⟩
theorem title_ext {a b:Title} (h1:a.space=b.space) (h2:a.name=b.name):a=b:=by cases a;cases b;simp_all
theorem tlt_total {a b:Title} (h:a≠b):tlt a b∨tlt b a:=by
 rw [tlt_iff,tlt_iff]
 by_cases h1:a.space<b.space
 ·exact .inl (.inl h1)
 by_cases h2:b.space<a.space
 ·exact .inr (.inl h2)
 have e:a.space=b.space:=by omega
 rcases sltP_total (fun e2=>h (title_ext e e2)) with h3 | h3
 ·exact .inl (.inr ⟨e,h3⟩)
 ·exact .inr (.inr ⟨e.symm,h3⟩)
theorem tlt_irrefl (a:Title):¬ tlt a a:=by
 rw [tlt_iff]
 rintro (h | ⟨_,h⟩)
 ·omega
 ·exact sltP_irrefl _ h
theorem sorted_ins {α:Type} {lt:α→α→Prop} (tr:∀ a b c,lt a b→lt b c→lt a c) {l:List α} {x:α} {n:Nat} (hs:l.Pairwise lt) (h1:∀ y ∈ l.take n,lt y x) (h2:∀ y,l[n]? = some y→lt x y):(l.take n++x::l.drop n).Pairwise lt:=by
 have hd:∀ y ∈ l.drop n,lt x y:=fun y hy=>by
  cases hl:l.drop n with
  | nil=>rw [hl] at hy;cases hy
  | cons z zs=>
    have hz:l[n]? = some z:=by
     have:(l.drop n)[0]? = some z:=by rw [hl];rfl
     rw [List.getElem?_drop] at this
     simpa using this
    have hp:(z::zs).Pairwise lt:=hl ▸ hs.sublist (List.drop_sublist n l)
    rw [hl] at hy
    rcases List.mem_cons.1 hy with rfl | hy
    ·exact h2 _ hz
    ·exact tr _ _ _ (h2 _ hz) ((List.pairwise_cons.1 hp).1 y hy)
 refine List.pairwise_append.2 ⟨hs.sublist (List.take_sublist n l),List.pairwise_cons.2 ⟨hd,hs.sublist (List.drop_sublist n l)⟩,fun a ha b hb=>?_⟩
 rcases List.mem_cons.1 hb with rfl | hb
 ·exact h1 a ha
 ·exact tr _ _ _ (h1 a ha) (hd b hb)
theorem sorted_rep {α:Type} {lt:α→α→Prop} {l:List α} {x y:α} {n:Nat} (hs:l.Pairwise lt) (hy:l[n]? = some y) (h1:∀ z,lt z y→lt z x) (h2:∀ z,lt y z→lt x z):(l.take n++x::l.drop (n+1)).Pairwise lt:=by
 have hl:l=l.take n++y::l.drop (n+1):=by
  conv=>lhs;rw [← List.take_append_drop n l]
  rw [drop_cons hy]
 rw [hl] at hs
 obtain ⟨p1,p2,p3⟩:=List.pairwise_append.1 hs
 obtain ⟨p4,p5⟩:=List.pairwise_cons.1 p2
 refine List.pairwise_append.2 ⟨p1,List.pairwise_cons.2 ⟨fun z hz=>h2 _ (p4 z hz),p5⟩,fun a ha b hb=>?_⟩
 rcases List.mem_cons.1 hb with rfl | hb
 ·exact h1 _ (p3 a ha y (List.mem_cons_self ..))
 ·exact p3 a ha b (List.mem_cons_of_mem _ hb)
theorem sublist_del {α:Type} (l:List α) (n:Nat):(l.take n++l.drop (n+1)).Sublist l:=by
 conv=>rhs;rw [← List.take_append_drop n l]
 refine List.Sublist.append (List.Sublist.refl _) ?_
 rw [← List.drop_drop]
 exact List.drop_sublist _ _
theorem mem_del {α:Type} {l:List α} {n:Nat} {x:α} (h:x ∈ l.take n++l.drop (n+1)):x ∈ l:=(sublist_del l n).subset h
theorem len_del {α:Type} {l:List α} {n:Nat} (h:n<l.length):(l.take n++l.drop (n+1)).length+1=l.length:=by simp;omega
theorem mem_ins {α:Type} {l:List α} {n:Nat} {x y:α} (h:y ∈ l.take n++x::l.drop n):y=x∨y ∈ l:=by
 rcases List.mem_append.1 h with h | h
 ·exact .inr (List.mem_of_mem_take h)
 ·rcases List.mem_cons.1 h with h | h
  ·exact .inl h
  ·exact .inr (List.mem_of_mem_drop h)
theorem len_ins {α:Type} {l:List α} {n:Nat} {x:α} (h:n≤l.length):(l.take n++x::l.drop n).length=l.length+1:=by simp;omega
end Go.Proofs.YtphibahplgmgfaaGreatDoor
namespace Go.Proofs.YtphibahplgmgfaaGreatDoor
open VL
set_option linter.unusedVariables false
def userOK (u:ByteArray):Bool:=decide (u=⟨#[]⟩)||isName u
structure RevOK (clock q:Int) (r:Revision):Prop where
 text:r.text.size≤8192
 note:r.note.size≤200
 user:userOK r.user=true
 minute0:0≤r.minute
 minute1:r.minute≤clock
 seq0:1≤r.seq
 seq1:r.seq≤q
def revLe (a b:Revision):Prop:=a.minute≤b.minute∧a.seq≤b.seq
structure HistOK (clock q:Int) (l:List Revision):Prop where
 len1:1≤l.length
 len2:l.length≤40
 num:∀ (i:Nat) r,l[i]? = some r→r.number=(i:Int)+1
 all:∀ r ∈ l,RevOK clock q r
 mono:l.Pairwise revLe
structure StoOK (clock q:Int) (p:Stored):Prop where
 title:p.title.valid=true
 hist:HistOK clock q p.history
structure PropOK (clock top:Int) (p:Proposal):Prop where
 id1:p.id≤top
 user:userOK p.user=true
 title:p.title.valid=true
 base0:0≤p.base
 base1:p.base≤40
 text:p.text.size≤8192
 note:p.note.size≤200
 minute0:0≤p.minute
 minute1:p.minute≤clock
def wlt (a b:Watch):Prop:=sltP a.user b.user∨(a.user=b.user∧tlt a.title b.title)
def textOf (p:Stored):ByteArray:=(p.history.getLast?.map (·.text)).getD ⟨#[]⟩
structure VS (t0:ByteArray) (q:Int) (s:State):Prop where
 seq0:0≤s.seq
 clock0:0≤s.clock
 clock1:s.clock≤52595999
 plen:s.pages.length≤200
 glen:s.gone.length≤100
 pages:∀ p ∈ s.pages,StoOK s.clock q p
 gone:∀ p ∈ s.gone,StoOK s.clock q p
 sorted:s.pages.Pairwise fun a b=>tlt a.title b.title
 rule:∀ p ∈ s.pages,p.title=policyT→textOf p=t0
 prlen:s.proposals.length≤40
 prop0:0≤s.proposed
 prop1:s.proposed≤1073741824
 props:∀ p ∈ s.proposals,PropOK s.clock s.proposed p
 ids:∀ p ∈ s.proposals,1≤p.id
 prsort:s.proposals.Pairwise fun a b=>a.id<b.id
 wlen:s.watches.length≤100
 watches:∀ w ∈ s.watches,isName w.user=true∧w.title.valid=true
 wsort:s.watches.Pairwise wlt
 llen:s.lasts.length≤60
 lasts:∀ w ∈ s.lasts,isName w.user=true∧1≤w.seq∧w.seq≤q
 lsort:s.lasts.Pairwise fun a b=>sltP a.user b.user
theorem isUser27_e (u:ByteArray):r27_isUser u=some (userOK u):=by
 unfold r27_isUser letk r12_IsName userOK
 by_cases h:u=(⟨#[]⟩:ByteArray)
 ·simp [h]
 ·simp [h]
theorem isUser26_e (u:ByteArray):r26_isUser u=some (userOK u):=by
 unfold r26_isUser letk r12_IsName userOK
 by_cases h:u=(⟨#[]⟩:ByteArray)
 ·simp [h]
 ·simp [h]
theorem tot_eq {α:Type} {x:Option α} {v:α} (h:Tot x fun r=>r=v):x=some v:=by
 obtain ⟨w,h1,h2⟩:=h
 rw [h1,h2]
theorem tot_ifF {β:Type} {b:Bool} {x y:Option β} {R:β→Prop} (h:b=false) (k:Tot y R):Tot (if b=true then x else y) R:=by rw [if_neg (by rw [h];simp)];exact k
theorem tot_ifT {β:Type} {b:Bool} {x y:Option β} {R:β→Prop} (h:b=true) (k:Tot x R):Tot (if b=true then x else y) R:=by rw [if_pos h];exact k
theorem pw_get {α:Type} {R:α→α→Prop} {l:List α} (h:l.Pairwise R) {i j:Nat} {a b:α} (hij:i<j) (ha:l[i]? = some a) (hb:l[j]? = some b):R a b:=by
 obtain ⟨h1,rfl⟩:=List.getElem?_eq_some_iff.1 ha
 obtain ⟨h2,rfl⟩:=List.getElem?_eq_some_iff.1 hb
 exact List.pairwise_iff_getElem.1 h i j h1 h2 hij
theorem history_e (s:State) (q:Int) (l:List Revision) (hq:s.seq=q) (h:HistOK s.clock q l):r27_history s l=some true:=by
 subst hq
 have h1:=h.len1
 have h2:=h.len2
 refine tot_eq ?_
 unfold r27_history
 refine tot_let (fun k=>Tot (k false) fun r=>r=true) ?_ fun k hk=>?_
 ·refine tot_ifF rfl ?_
  refine tot_loop (fun a:Int×Int×Int=>(0≤a.2.2∧a.2.2≤(l.length:Int))∧(a.2.2=0→a.1=0∧a.2.1=1)∧∀ r,0<a.2.2→l[(a.2.2 - 1).toNat]? = some r→a.1=r.minute∧a.2.1=r.seq) (fun a=>((l.length:Int) - a.2.2).toNat) ⟨by simp,by simp,fun r h=>by simp at h⟩ (by first | omega | (dsimp only;omega)) ?_
  rintro ⟨m,q,i⟩ rec ⟨⟨h3,h4⟩,h5,h6⟩ ih
  dsimp only at h3 h4 h5 h6 ⊢
  refine tot_ifD (fun hi=>?_) fun hi=>tot_some rfl
  refine tot_atI h3 hi fun e he hg=>?_
  have hr:=h.all e he
  have hn:=h.num _ _ hg
  have e1:w64 (i+1)=i+1:=w64_of (by omega) (by omega)
  have hm:m≤e.minute∧q≤e.seq:=by
   rcases Int.lt_or_eq_of_le h3 with h0 | h0
   ·obtain ⟨r,hr'⟩:∃ r,l[(i - 1).toNat]? = some r:=⟨_,List.getElem?_eq_getElem (by omega)⟩
    obtain ⟨rfl,rfl⟩:=h6 r h0 hr'
    exact pw_get h.mono (by omega) hr' hg
   ·obtain ⟨rfl,rfl⟩:=h5 h0.symm
    exact ⟨hr.minute0,hr.seq0⟩
  have a1:=hr.text
  have a2:=hr.note
  have a3:=hr.minute1
  have a4:=hr.seq1
  refine tot_let (fun k=>Tot (k false) fun r=>r=true) ?_ fun k hk=>?_
  ·refine tot_ifF rfl ?_
   rw [e1]
   refine ih _ ⟨⟨by dsimp only;omega,by dsimp only;omega⟩,fun h=>by dsimp only at h;omega,fun r _ hr'=>?_⟩ (by first | omega | (dsimp only;omega))
   dsimp only at hr' ⊢
   rw [show i+1 - 1=i by omega,hg] at hr'
   injection hr' with hr'
   subst hr'
   exact ⟨rfl,rfl⟩
  ·rw [e1]
   refine tot_ifN (fun c=>absurd (by omega) c) fun _=>?_
   refine tot_ifD (fun c=>absurd c (by omega)) fun _=>?_
   refine tot_ifD (fun c=>absurd c (by omega)) fun _=>?_
   refine tot_bindE (isUser27_e _) ?_
   refine tot_ifF (by rw [hr.user];rfl) ?_
   refine tot_ifD (fun c=>absurd c (by omega)) fun _=>?_
   refine tot_ifD (fun c=>absurd c (by omega)) fun _=>?_
   refine tot_ifD (fun c=>absurd c (by omega)) fun _=>?_
   rw [decide_eq_false (by omega)]
   exact hk
 ·refine tot_ifD (fun c=>absurd c (by omega)) fun _=>?_
  rw [decide_eq_false (by omega)]
  exact hk
theorem proposals_e (t0:ByteArray) (q:Int) (s:State) (h:VS t0 q s):r27_proposals s=some true:=by
 have h1:=h.prlen
 have h2:=h.prop0
 have h3:=h.prop1
 refine tot_eq ?_
 unfold r27_proposals
 refine tot_let (fun k=>Tot (k false) fun r=>r=true) ?_ fun k hk=>?_
 ·refine tot_ifF rfl ?_
  refine tot_loop (fun a:Int×Int=>(0≤a.2∧a.2≤(s.proposals.length:Int))∧(a.2=0→a.1=0)∧∀ p,0<a.2→s.proposals[(a.2 - 1).toNat]? = some p→a.1=p.id) (fun a=>((s.proposals.length:Int) - a.2).toNat) ⟨by simp,by simp,fun r h=>by simp at h⟩ (by first | omega | (dsimp only;omega)) ?_
  rintro ⟨m,i⟩ rec ⟨⟨h3,h4⟩,h5,h6⟩ ih
  dsimp only at h3 h4 h5 h6 ⊢
  refine tot_ifD (fun hi=>?_) fun hi=>tot_some rfl
  refine tot_atI h3 hi fun e he hg=>?_
  have hr:=h.props e he
  have hid:=h.ids e he
  have e1:w64 (i+1)=i+1:=w64_of (by omega) (by omega)
  have hm:m<e.id:=by
   rcases Int.lt_or_eq_of_le h3 with h0 | h0
   ·obtain ⟨r,hr'⟩:∃ r,s.proposals[(i - 1).toNat]? = some r:=⟨_,List.getElem?_eq_getElem (by omega)⟩
    obtain rfl:=h6 r h0 hr'
    exact pw_get h.prsort (by omega) hr' hg
   ·obtain rfl:=h5 h0.symm
    omega
  have a1:=hr.text
  have a2:=hr.note
  have a3:=hr.minute1
  have a4:=hr.minute0
  have a5:=hr.base0
  have a6:=hr.base1
  have a7:=hr.id1
  refine tot_let (fun k=>Tot (k false) fun r=>r=true) ?_ fun k hk=>?_
  ·refine tot_ifF rfl ?_
   rw [e1]
   refine ih _ ⟨⟨by dsimp only;omega,by dsimp only;omega⟩,fun h=>by dsimp only at h;omega,fun r _ hr'=>?_⟩ (by first | omega | (dsimp only;omega))
   dsimp only at hr' ⊢
   rw [show i+1 - 1=i by omega,hg] at hr'
   injection hr' with hr'
   subst hr'
   rfl
  ·refine tot_ifD (fun c=>absurd c (by omega)) fun _=>?_
   refine tot_ifD (fun c=>absurd c (by omega)) fun _=>?_
   refine tot_bindE (isUser27_e _) ?_
   refine tot_ifF (by rw [hr.user];rfl) ?_
   refine tot_bindE (v:=true) (by unfold r1_Valid;rw [hr.title]) ?_
   refine tot_ifF rfl ?_
   refine tot_ifD (fun c=>absurd c (by omega)) fun _=>?_
   refine tot_ifD (fun c=>absurd c (by omega)) fun _=>?_
   refine tot_ifD (fun c=>absurd c (by omega)) fun _=>?_
   refine tot_ifD (fun c=>absurd c (by omega)) fun _=>?_
   refine tot_ifD (fun c=>absurd c (by omega)) fun _=>?_
   rw [decide_eq_false (by omega)]
   exact hk
 ·refine tot_ifD (fun c=>absurd c (by omega)) fun _=>?_
  refine tot_ifD (fun c=>absurd c (by omega)) fun _=>?_
  rw [decide_eq_false (by omega)]
  exact hk
theorem before_e (a b:Watch):Tot (r27_before a b) fun r=>r=true↔wlt a b:=by
 unfold r27_before
 refine tot_let0 ?_
 refine tot_if (fun h=>tot_some ⟨fun _=>.inl h,fun _=>rfl⟩) fun h=>?_
 refine tot_ifD (fun h2=>?_) fun h2=>?_
 ·refine tot_bindE (v:=Title.cmp a.title b.title) rfl ?_
  refine tot_some ?_
  rw [decide_eq_true_eq]
  refine ⟨fun c=>.inr ⟨h2,c⟩,fun c=>?_⟩
  rcases c with c | c
  ·unfold sltP at c
   rw [h] at c
   cases c
  ·exact c.2
 ·refine tot_some ⟨(fun c=>by cases c),fun c=>?_⟩
  rcases c with c | c
  ·unfold sltP at c
   rw [h] at c
   cases c
  ·exact absurd c.1 h2
theorem lists_e (t0:ByteArray) (s:State) (h:VS t0 s.seq s):r27_lists s=some true:=by
 have h1:=h.wlen
 have h2:=h.llen
 refine tot_eq ?_
 unfold r27_lists
 refine tot_let (fun k=>Tot (k false) fun r=>r=true) ?_ fun k hk=>?_
 ·refine tot_ifF rfl ?_
  refine tot_loop (fun i:Int=>0≤i∧i≤(s.watches.length:Int)) (fun i=>((s.watches.length:Int) - i).toNat) ⟨by omega,by omega⟩ (by first | omega | (dsimp only;omega)) ?_
  rintro i rec ⟨h3,h4⟩ ih
  refine tot_ifD (fun hi=>?_) fun hi=>?_
  ·refine tot_atI h3 hi fun e he hg=>?_
   have hw:=h.watches e he
   have e1:w64 (i+1)=i+1:=w64_of (by omega) (by omega)
   have e2:w64 (i - 1)=i - 1:=w64_of (by omega) (by omega)
   refine tot_let (fun k=>Tot (k false) fun r=>r=true) ?_ fun k hk=>?_
   ·refine tot_ifF rfl ?_
    rw [e1]
    exact ih _ ⟨by omega,by omega⟩ (by omega)
   ·refine tot_bindE (v:=true) (by unfold r12_IsName;rw [hw.1]) ?_
    refine tot_ifF rfl ?_
    refine tot_bindE (v:=true) (by unfold r1_Valid;rw [hw.2]) ?_
    refine tot_ifF rfl ?_
    refine tot_ifD (fun h0=>?_) fun _=>hk
    rw [e2]
    refine tot_atI (by omega) (by omega) fun e' _ hg'=>?_
    obtain ⟨b,hb1,hb2⟩:=before_e e' e
    refine tot_bindE hb1 ?_
    rw [hb2.2 (pw_get h.wsort (by omega) hg' hg)]
    exact hk
  ·refine tot_loop (fun i:Int=>0≤i∧i≤(s.lasts.length:Int)) (fun i=>((s.lasts.length:Int) - i).toNat) ⟨by omega,by omega⟩ (by first | omega | (dsimp only;omega)) ?_
   rintro i rec ⟨h3,h4⟩ ih
   refine tot_ifD (fun hi=>?_) fun hi=>tot_some rfl
   refine tot_atI h3 hi fun e he hg=>?_
   obtain ⟨w1,w2,w3⟩:=h.lasts e he
   have e1:w64 (i+1)=i+1:=w64_of (by omega) (by omega)
   have e2:w64 (i - 1)=i - 1:=w64_of (by omega) (by omega)
   refine tot_let (fun k=>Tot (k false) fun r=>r=true) ?_ fun k hk=>?_
   ·refine tot_ifF rfl ?_
    rw [e1]
    exact ih _ ⟨by omega,by omega⟩ (by omega)
   ·refine tot_bindE (v:=true) (by unfold r12_IsName;rw [w1]) ?_
    refine tot_ifF rfl ?_
    refine tot_ifD (fun c=>absurd c (by omega)) fun _=>?_
    refine tot_ifD (fun c=>absurd c (by omega)) fun _=>?_
    refine tot_ifD (fun h0=>?_) fun _=>hk
    rw [e2]
    refine tot_atI (by omega) (by omega) fun e' _ hg'=>?_
    rw [show ltS e'.user e.user=true from pw_get h.lsort (by omega) hg' hg]
    exact hk
 ·refine tot_ifD (fun c=>absurd c (by omega)) fun _=>?_
  rw [decide_eq_false (by omega)]
  exact hk
theorem find_t (l:List Stored) (t:Title) (hl:l.length≤1000000):Tot (r27_find l t) fun r=>(r = -1∧∀ p ∈ l,p.title≠t)∨∃ (n:Nat) (p:Stored),r=n∧l[n]? = some p∧p.title=t:=by
 unfold r27_find
 refine tot_loop (fun i:Int=>(0≤i∧i≤(l.length:Int))∧∀ (j:Nat) p,(j:Int)<i→l[j]? = some p→p.title≠t) (fun i=>((l.length:Int) - i).toNat) ⟨⟨by omega,by omega⟩,fun j p h=>by omega⟩ (by first | omega | (dsimp only;omega)) ?_
 rintro i rec ⟨⟨h3,h4⟩,h5⟩ ih
 refine tot_ifD (fun hi=>?_) fun hi=>?_
 ·refine tot_atI h3 hi fun e he hg=>?_
  have e1:w64 (i+1)=i+1:=w64_of (by omega) (by omega)
  refine tot_ifD (fun c=>tot_some (.inr ⟨i.toNat,e,by omega,hg,c⟩)) fun c=>?_
  rw [e1]
  refine ih _ ⟨⟨by omega,by omega⟩,fun j p hj hp=>?_⟩ (by omega)
  by_cases hji:(j:Int)<i
  ·exact h5 j p hji hp
  ·have:j=i.toNat:=by omega
   rw [this,hg] at hp
   injection hp with hp
   rw [← hp]
   exact c
 ·refine tot_some (.inl ⟨rfl,fun p hp=>?_⟩)
  obtain ⟨j,hj⟩:=List.getElem?_of_mem hp
  have:=(List.getElem?_eq_some_iff.1 hj).1
  exact h5 j p (by omega) hj
theorem current_e (p:Stored) (h0:1≤p.history.length) (hl:p.history.length≤1000000):∃ r,p.history.getLast? = some r∧r27_Current p=some r:=by
 obtain ⟨r,hr⟩:∃ r,p.history[p.history.length - 1]? = some r:=⟨_,List.getElem?_eq_getElem (by omega)⟩
 refine ⟨r,by rw [List.getLast?_eq_getElem?,hr],tot_eq ?_⟩
 unfold r27_Current
 refine tot_ifD (fun c=>absurd c (by omega)) fun _=>?_
 rw [w64_of (by omega) (by omega)]
 refine tot_atI (by omega) (by omega) fun e _ hg=>tot_some ?_
 rw [show ((p.history.length:Int) - 1).toNat=p.history.length - 1 by omega,hr] at hg
 injection hg with hg
 exact hg.symm
theorem page_t (s:State) (t:Title) (hl:s.pages.length≤1000000):Tot (r27_Page s t) fun r=>(r.2=false∧∀ p ∈ s.pages,p.title≠t)∨(r.2=true∧r.1 ∈ s.pages∧r.1.title=t):=by
 unfold r27_Page
 refine tot_bind (find_t s.pages t hl) fun r hr=>?_
 rcases hr with ⟨rfl,h⟩ | ⟨n,p,rfl,h1,h2⟩
 ·exact tot_ifD (fun _=>tot_some (.inl ⟨rfl,h⟩)) fun c=>absurd (by omega) c
 ·refine tot_ifD (fun c=>absurd c (by omega)) fun _=>?_
  have:=(List.getElem?_eq_some_iff.1 h1).1
  refine tot_atI (by omega) (by omega) fun e he hg=>tot_some (.inr ⟨rfl,he,?_⟩)
  rw [Int.toNat_natCast,h1] at hg
  injection hg with hg
  rw [← hg]
  exact h2
theorem pages_e (t0:ByteArray) (s:State) (h:VS t0 s.seq s) (hp:∃ p n,r12_Parse t0=some (p,n,0)):r27_pages s=some true:=by
 have h1:=h.plen
 have h2:=h.glen
 refine tot_eq ?_
 unfold r27_pages
 refine tot_let (fun k=>Tot (k false) fun r=>r=true) ?_ fun k hk=>?_
 ·refine tot_ifF rfl ?_
  refine tot_loop (fun i:Int=>0≤i∧i≤(s.pages.length:Int)) (fun i=>((s.pages.length:Int) - i).toNat) ⟨by omega,by omega⟩ (by first | omega | (dsimp only;omega)) ?_
  rintro i rec ⟨h3,h4⟩ ih
  refine tot_ifD (fun hi=>?_) fun hi=>?_
  ·refine tot_atI h3 hi fun e he hg=>?_
   have hw:=h.pages e he
   have e1:w64 (i+1)=i+1:=w64_of (by omega) (by omega)
   have e2:w64 (i - 1)=i - 1:=w64_of (by omega) (by omega)
   refine tot_let (fun k=>Tot (k false) fun r=>r=true) ?_ fun k hk=>?_
   ·refine tot_ifF rfl ?_
    rw [e1]
    exact ih _ ⟨by omega,by omega⟩ (by omega)
   ·refine tot_bindE (v:=true) (by unfold r1_Valid;rw [hw.title]) ?_
    refine tot_ifF rfl ?_
    refine tot_bindE (history_e s _ _ rfl hw.hist) ?_
    refine tot_ifF rfl ?_
    refine tot_ifD (fun h0=>?_) fun _=>hk
    rw [e2]
    refine tot_atI (by omega) (by omega) fun e' _ hg'=>?_
    refine tot_bindE (v:=Title.cmp e'.title e.title) rfl ?_
    have:tlt e'.title e.title:=pw_get h.sorted (by omega) hg' hg
    unfold tlt at this
    rw [decide_eq_false (by omega)]
    exact hk
  ·refine tot_loop (fun i:Int=>0≤i∧i≤(s.gone.length:Int)) (fun i=>((s.gone.length:Int) - i).toNat) ⟨by omega,by omega⟩ (by first | omega | (dsimp only;omega)) ?_
   rintro i rec ⟨h3,h4⟩ ih
   refine tot_ifD (fun hi=>?_) fun hi=>?_
   ·have e1:w64 (i+1)=i+1:=w64_of (by omega) (by omega)
    refine tot_let (fun k=>Tot (k false) fun r=>r=true) ?_ fun k hk=>?_
    ·refine tot_ifF rfl ?_
     rw [e1]
     exact ih _ ⟨by omega,by omega⟩ (by omega)
    ·refine tot_atI h3 hi fun e he hg=>?_
     have hw:=h.gone e he
     refine tot_bindE (v:=true) (by unfold r1_Valid;rw [hw.title]) ?_
     refine tot_ifF rfl ?_
     refine tot_atI h3 hi fun e' he' hg'=>?_
     rw [hg] at hg'
     injection hg' with hg'
     subst hg'
     refine tot_bindE (history_e s _ _ rfl hw.hist) ?_
     exact hk
   ·refine tot_bindE (v:=policyT) rfl ?_
    refine tot_bind (page_t s policyT (by omega)) fun r hr=>?_
    rcases hr with ⟨hr,_⟩ | ⟨hr,hm,ht⟩
    ·rw [hr]
     exact tot_ifF rfl (tot_some rfl)
    ·rw [hr]
     refine tot_ifT rfl ?_
     have hh:=(h.pages _ hm).hist
     obtain ⟨c,hc1,hc2⟩:=current_e r.1 hh.len1 (by have:=hh.len2;omega)
     refine tot_bindE hc2 ?_
     have:=h.rule _ hm ht
     unfold textOf at this
     rw [hc1] at this
     obtain ⟨p,n,hp⟩:=hp
     refine tot_bindE (v:=(p,n,0)) (by rw [show c.text=t0 from this];exact hp) ?_
     exact tot_some rfl
 ·refine tot_ifD (fun c=>absurd c (by omega)) fun _=>?_
  rw [decide_eq_false (by omega)]
  exact hk
theorem valid_e (t0:ByteArray) (s:State) (h:VS t0 s.seq s) (hs:s.seq≤1073741824) (hp:∃ p n,r12_Parse t0=some (p,n,0)):r27_Valid s=some true:=by
 have h1:=h.seq0
 have h2:=h.clock0
 have h3:=h.clock1
 refine tot_eq ?_
 unfold r27_Valid
 refine tot_let (fun k=>Tot (k false) fun r=>r=true) ?_ fun k hk=>?_
 ·refine tot_ifF rfl ?_
  refine tot_let0 ?_
  refine tot_bindE (pages_e t0 s h hp) ?_
  refine tot_ifT rfl ?_
  refine tot_bindE (proposals_e t0 _ s h) ?_
  refine tot_ifT rfl ?_
  refine tot_bindE (lists_e t0 s h) ?_
  exact tot_some rfl
 ·refine tot_ifD (fun c=>absurd c (by omega)) fun _=>?_
  refine tot_ifD (fun c=>absurd c (by omega)) fun _=>?_
  refine tot_ifD (fun c=>absurd c (by omega)) fun _=>?_
  rw [decide_eq_false (by omega)]
  exact hk
end Go.Proofs.YtphibahplgmgfaaGreatDoor
namespace Go.Proofs.YtphibahplgmgfaaGreatDoor
open VL
set_option linter.unusedVariables false
theorem nil_app {α:Type} (l:List α):([]:List α)++l=l:=rfl
theorem take_succ {α:Type} {l:List α} {n:Nat} {e:α} (h:l[n]? = some e):l.take n ++ [e]=l.take (n+1):=by
 rw [List.take_add_one,h]
 rfl
theorem subL_drop {α:Type} (l:List α) {a:Int} {n:Nat} (ha:a=n) (h:n≤l.length):subL l a (l.length:Int)=some (l.drop n):=by
 subst ha
 exact subL_from h
theorem insert_t (l:List Stored) (p:Stored) (hl:l.length≤1000000):Tot (r27_insert l p) fun r=>∃ n,n≤l.length∧r=l.take n++p::l.drop n∧(∀ y ∈ l.take n,tlt y.title p.title)∧∀ y,l[n]? = some y→¬ tlt y.title p.title:=by
 unfold r27_insert
 refine tot_loop (fun a:Int×List Stored=>∃ n:Nat,a.1=n∧n≤l.length∧a.2=l.take n∧∀ y ∈ l.take n,tlt y.title p.title) (fun a=>((l.length:Int) - a.1).toNat) ⟨0,rfl,Nat.zero_le _,rfl,fun y h=>by simp at h⟩ (by first | omega | (dsimp only;omega)) ?_
 rintro ⟨i,out⟩ rec ⟨n,hi,hn,ho,hlt⟩ ih
 dsimp only at hi ho
 subst hi ho
 refine tot_let (fun k=>(∀ e,l[n]? = some e→tlt e.title p.title→Tot (k true) fun r=>∃ n,n≤l.length∧r=l.take n++p::l.drop n∧(∀ y ∈ l.take n,tlt y.title p.title)∧∀ y,l[n]? = some y→¬ tlt y.title p.title)∧
  ((∀ y,l[n]? = some y→¬ tlt y.title p.title)→Tot (k false) fun r=>∃ n,n≤l.length∧r=l.take n++p::l.drop n∧(∀ y ∈ l.take n,tlt y.title p.title)∧∀ y,l[n]? = some y→¬ tlt y.title p.title)) ⟨fun e he hep=>?_,fun hne=>?_⟩ fun k hk=>?_
 ·have hln:=(List.getElem?_eq_some_iff.1 he).1
  refine tot_ifT rfl ?_
  refine tot_atI (by omega) (by omega) fun e' _ hg'=>?_
  rw [Int.toNat_natCast,he] at hg'
  injection hg' with hg'
  subst hg'
  refine tot_appL 2000000 (by simp;omega) (by decide) (by decide) ?_
  rw [take_succ he,w64_of (by omega) (by omega)]
  refine ih _ ⟨n+1,by dsimp only;omega,hln,rfl,fun y hy=>?_⟩ (by first | omega | (dsimp only;omega))
  rw [← take_succ he] at hy
  rcases List.mem_append.1 hy with hy | hy
  ·exact hlt y hy
  ·simp at hy
   rw [hy]
   exact hep
 ·refine tot_ifF rfl ?_
  refine tot_appL 2000000 (by simp;omega) (by decide) (by decide) ?_
  refine tot_bindE (subL_drop l rfl hn) ?_
  refine tot_appL 2000000 (by simp;omega) (by decide) (by decide) ?_
  exact tot_some ⟨n,hn,by simp,hlt,hne⟩
 ·refine tot_ifD (fun h=>?_) fun h=>hk.2 fun y hy=>?_
  ·refine tot_atI (by omega) h fun e _ hg=>?_
   rw [Int.toNat_natCast] at hg
   refine tot_bindE (v:=Title.cmp e.title p.title) rfl ?_
   by_cases hc:Title.cmp e.title p.title<0
   ·rw [decide_eq_true hc]
    exact hk.1 e hg hc
   ·rw [decide_eq_false hc]
    refine hk.2 fun y hy=>?_
    rw [hg] at hy
    injection hy with hy
    rw [← hy]
    exact hc
  ·have:=(List.getElem?_eq_some_iff.1 hy).1
   omega
theorem without_e (l:List Stored) (n:Nat) (hn:n<l.length) (hl:l.length≤1000000):r27_without l n=some (l.take n++l.drop (n+1)):=by
 refine tot_eq ?_
 unfold r27_without
 refine tot_bindE (subL_to (Nat.le_of_lt hn)) ?_
 refine tot_appL 2000000 (by simp;omega) (by decide) (by decide) ?_
 rw [w64_of (by omega) (by omega)]
 refine tot_bindE (subL_drop l (n:=n+1) (by omega) hn) ?_
 refine tot_appL 2000000 (by simp;omega) (by decide) (by decide) ?_
 exact tot_some rfl
theorem drop_t (l:List Proposal) (t:Title) (hl:l.length≤1000000):Tot (r27_drop l t) fun r=>r.Sublist l:=by
 unfold r27_drop
 refine tot_loop (fun a:Int×List Proposal=>∃ n:Nat,a.1=n∧n≤l.length∧a.2.Sublist (l.take n)) (fun a=>((l.length:Int) - a.1).toNat) ⟨0,rfl,Nat.zero_le _,List.Sublist.refl _⟩ (by first | omega | (dsimp only;omega)) ?_
 rintro ⟨i,out⟩ rec ⟨n,hi,hn,ho⟩ ih
 dsimp only at hi ho
 subst hi
 have hlen:=ho.length_le
 rw [List.length_take] at hlen
 refine tot_ifD (fun h=>?_) fun h=>?_
 ·refine tot_let0 ?_
  refine tot_atI (by omega) h fun e _ hg=>?_
  rw [Int.toNat_natCast] at hg
  rw [w64_of (by omega) (by omega)]
  refine tot_ifN (fun _=>?_) fun _=>?_
  ·refine tot_atI (by omega) h fun e' _ hg'=>?_
   rw [Int.toNat_natCast,hg] at hg'
   injection hg' with hg'
   subst hg'
   refine tot_appL 2000000 (by simp;omega) (by decide) (by decide) ?_
   refine ih _ ⟨n+1,by dsimp only;omega,by omega,?_⟩ (by first | omega | (dsimp only;omega))
   dsimp only
   rw [← take_succ hg]
   exact List.Sublist.append ho (List.Sublist.refl _)
  ·refine ih _ ⟨n+1,by dsimp only;omega,by omega,?_⟩ (by first | omega | (dsimp only;omega))
   dsimp only
   rw [← take_succ hg]
   exact ho.trans (List.sublist_append_left ..)
 ·refine tot_some (ho.trans (List.take_sublist ..))
theorem shut_t (s:State) (c:Change) (hl:s.proposals.length≤1000000):Tot (r27_shut s c) fun r=>r.2=0→∃ l,l.Sublist s.proposals∧r.1=⟨s.seq,s.clock,s.pages,s.gone,l,s.proposed,s.watches,s.lasts⟩:=by
 unfold r27_shut
 generalize hL:s.proposals=l at hl ⊢
 refine tot_loop (fun a:Int×List Proposal=>∃ n:Nat,a.1=n∧n≤l.length∧a.2.Sublist (l.take n)) (fun a=>((l.length:Int) - a.1).toNat) ⟨0,rfl,Nat.zero_le _,List.Sublist.refl _⟩ (by first | omega | (dsimp only;omega)) ?_
 rintro ⟨i,out⟩ rec ⟨n,hi,hn,ho⟩ ih
 dsimp only at hi ho
 subst hi
 have hlen:=ho.length_le
 rw [List.length_take] at hlen
 refine tot_ifD (fun h=>?_) fun h=>?_
 ·refine tot_let0 ?_
  refine tot_atI (by omega) h fun e _ hg=>?_
  rw [Int.toNat_natCast] at hg
  rw [w64_of (by omega) (by omega)]
  refine tot_ifN (fun _=>?_) fun _=>?_
  ·refine tot_atI (by omega) h fun e' _ hg'=>?_
   rw [Int.toNat_natCast,hg] at hg'
   injection hg' with hg'
   subst hg'
   refine tot_appL 2000000 (by simp;omega) (by decide) (by decide) ?_
   refine ih _ ⟨n+1,by dsimp only;omega,by omega,?_⟩ (by first | omega | (dsimp only;omega))
   dsimp only
   rw [← take_succ hg]
   exact List.Sublist.append ho (List.Sublist.refl _)
  ·refine ih _ ⟨n+1,by dsimp only;omega,by omega,?_⟩ (by first | omega | (dsimp only;omega))
   dsimp only
   rw [← take_succ hg]
   exact ho.trans (List.sublist_append_left ..)
 ·refine tot_ifD (fun _=>tot_some (fun h=>by cases h)) fun _=>tot_some fun _=>⟨out,?_,rfl⟩
  exact ho.trans (List.take_sublist ..)
theorem lastGone_t (s:State) (t:Title) (hl:s.gone.length≤1000000):Tot (r27_LastGone s t) fun r=>r = -1∨∃ (n:Nat) (p:Stored),r=n∧s.gone[n]? = some p∧p.title=t:=by
 unfold r27_LastGone
 refine tot_loop (fun i:Int=>-1≤i∧i<(s.gone.length:Int)) (fun i=>(i+1).toNat) ⟨?_,?_⟩ ?_ ?_
 ·rw [w64_of (by omega) (by omega)];omega
 ·rw [w64_of (by omega) (by omega)];omega
 ·rw [w64_of (by omega) (by omega)];omega
 rintro i rec ⟨h3,h4⟩ ih
 refine tot_ifD (fun hi=>?_) fun hi=>tot_some (.inl rfl)
 refine tot_atI hi h4 fun e he hg=>?_
 refine tot_ifD (fun c=>tot_some (.inr ⟨i.toNat,e,by omega,hg,c⟩)) fun c=>?_
 rw [w64_of (by omega) (by omega)]
 exact ih _ ⟨by omega,by omega⟩ (by omega)
theorem space_t (n:Int):Tot (r1_SpaceName n) fun r=>r.size≤8:=by
 unfold r1_SpaceName
 refine tot_let0 ?_
 have fin:∀ e ∈ ([(⟨#[]⟩:ByteArray),(⟨#[84,97,108,107]⟩:ByteArray),(⟨#[85,115,101,114]⟩:ByteArray),(⟨#[84,101,109,112,108,97,116,101]⟩:ByteArray),(⟨#[67,97,116,101,103,111,114,121]⟩:ByteArray),(⟨#[80,114,111,106,101,99,116]⟩:ByteArray)]:List ByteArray),e.size≤8:=by decide
 refine tot_ifD (fun _=>tot_ifT rfl (tot_some (by decide))) fun h=>?_
 by_cases hc:((([(⟨#[]⟩:ByteArray),(⟨#[84,97,108,107]⟩:ByteArray),(⟨#[85,115,101,114]⟩:ByteArray),(⟨#[84,101,109,112,108,97,116,101]⟩:ByteArray),(⟨#[67,97,116,101,103,111,114,121]⟩:ByteArray),(⟨#[80,114,111,106,101,99,116]⟩:ByteArray)]:List ByteArray).length:Int)≤n)
 ·rw [decide_eq_true hc]
  exact tot_ifT rfl (tot_some (by decide))
 ·rw [decide_eq_false hc]
  refine tot_ifF rfl ?_
  refine tot_atI (by omega) (by omega) fun e he _=>tot_some (fin e he)
theorem redirect_t (t:Title) (h:t.valid=true):Tot (r27_Redirect t) fun r=>r.size≤8192:=by
 have hn:t.name.size≤100:=by
  unfold Title.valid at h
  simp only [Bool.and_eq_true,decide_eq_true_eq] at h
  exact h.1.1.1.1.2
 have f:Tot (r1_Format t) fun r=>r.size≤200:=by
  unfold r1_Format
  refine tot_bindE (v:=true) (by unfold r1_Valid;rw [h]) ?_
  refine tot_ifF rfl ?_
  refine tot_ifD (fun _=>tot_some (by omega)) fun _=>?_
  refine tot_bind (space_t _) fun r hr=>?_
  refine tot_catS (by show r.size+1≤_;omega) fun e1=>?_
  have e1':(r++(⟨#[58]⟩:ByteArray)).size=r.size+1:=e1
  refine tot_catS (by rw [e1'];omega) fun e2=>tot_some ?_
  rw [e2,e1']
  omega
 unfold r27_Redirect
 refine tot_bind f fun r hr=>?_
 have e0:(⟨#[35,82,69,68,73,82,69,67,84,32,91,91]⟩:ByteArray).size=12:=rfl
 refine tot_catS (by rw [e0];omega) fun e1=>?_
 rw [e0] at e1
 refine tot_catS (by rw [e1];show 12+r.size+2≤_;omega) fun e2=>tot_some ?_
 rw [e2,e1]
 show 12+r.size+2≤_
 omega
end Go.Proofs.YtphibahplgmgfaaGreatDoor
namespace Go.Proofs.YtphibahplgmgfaaGreatDoor
open VL
set_option linter.unusedVariables false
structure ImpOK (l:List Revision):Prop where
 len1:1≤l.length
 len2:l.length≤40
 num:∀ (i:Nat) r,l[i]? = some r→r.number=(i:Int)+1
 user:∀ r ∈ l,userOK r.user=true∧0≤r.minute
 mono:l.Pairwise fun a b=>a.minute≤b.minute
structure CV (c:Change):Prop where
 kind1:1≤c.kind
 kind2:c.kind≤10
 user:userOK c.user=true
 title:c.kind≠6→c.kind≠10→c.title.valid=true
 watch:c.kind=7∨c.kind=8→c.user≠⟨#[]⟩
 dest:c.kind=4→c.to.valid=true
 tick:c.kind=6→1≤c.n
 prop:c.kind=9→0≤c.n∧c.n≤40
 imp:c.kind=5→ImpOK c.history
 text:c.text.size≤8192
 note:c.note.size≤200
 hist:∀ r ∈ c.history,r.text.size≤8192∧r.note.size≤200
theorem form_t (c:Change):Tot (r26_form c) fun b=>b=true→1≤c.kind∧c.kind≤10:=by
 unfold r26_form
 refine tot_let (fun k=>∀ b,Tot (k b) fun b=>b=true→1≤c.kind∧c.kind≤10) (fun x1=>?_) fun k hk=>?_
 ·refine tot_let (fun k=>∀ b,Tot (k b) fun b=>b=true→1≤c.kind∧c.kind≤10) (fun x2=>?_) fun k hk=>?_
  ·refine tot_let (fun k=>∀ b,Tot (k b) fun b=>b=true→1≤c.kind∧c.kind≤10) (fun x3=>?_) fun k hk=>?_
   ·refine tot_let (fun k=>(Tot (k true) fun b=>b=true→1≤c.kind∧c.kind≤10)∧((1≤c.kind∧c.kind≤10)→Tot (k false) fun b=>b=true→1≤c.kind∧c.kind≤10)) ⟨tot_ifT rfl (tot_some fun h=>by cases h),fun hr=>?_⟩ fun k hk=>?_
    ·refine tot_ifF rfl ?_
     refine tot_let (fun k=>∀ b,Tot (k b) fun b=>b=true→1≤c.kind∧c.kind≤10) (fun x5=>?_) fun k hk=>?_
     ·refine tot_if (fun _=>tot_some fun _=>hr) fun _=>?_
      refine tot_let (fun k=>∀ b,Tot (k b) fun b=>b=true→1≤c.kind∧c.kind≤10) (fun x6=>?_) fun k hk=>?_
      ·refine tot_if (fun _=>tot_some fun _=>hr) fun _=>?_
       refine tot_let (fun k=>∀ b,Tot (k b) fun b=>b=true→1≤c.kind∧c.kind≤10) (fun x7=>tot_some fun _=>hr) fun k hk=>?_
       repeat' (first | exact hk _ | refine tot_if (fun _=>?_) fun _=>?_)
      ·repeat' (first | exact hk _ | refine tot_if (fun _=>?_) fun _=>?_)
     ·repeat' (first | exact hk _ | refine tot_if (fun _=>?_) fun _=>?_)
    ·refine tot_ifD (fun _=>hk.1) fun h1=>?_
     by_cases h2:10<c.kind
     ·rw [decide_eq_true h2];exact hk.1
     ·rw [decide_eq_false h2];exact hk.2 ⟨by omega,by omega⟩
   ·repeat' (first | exact hk _ | refine tot_if (fun _=>?_) fun _=>?_)
  ·repeat' (first | exact hk _ | refine tot_if (fun _=>?_) fun _=>?_)
 ·repeat' (first | exact hk _ | refine tot_if (fun _=>?_) fun _=>?_)
theorem adj_pw {α:Type} {R:α→α→Prop} (tr:∀ a b c,R a b→R b c→R a c) {l:List α} (h:∀ (j:Nat) a b,l[j]? = some a→l[j+1]? = some b→R a b):l.Pairwise R:=by
 rw [List.pairwise_iff_getElem]
 have key:∀ (d i:Nat) (h1:i<l.length) (h2:i+d+1<l.length),R l[i] l[i+d+1]:=fun d=>by
  induction d with
  | zero=>exact fun i h1 h2=>h i _ _ (List.getElem?_eq_getElem h1) (List.getElem?_eq_getElem h2)
  | succ d ih=>exact fun i h1 h2=>tr _ _ _ (ih i h1 (by omega)) (h (i+d+1) _ _ (List.getElem?_eq_getElem (by omega)) (List.getElem?_eq_getElem h2))
 intro i j hi hj hij
 have:=key (j - i - 1) i hi (by omega)
 simpa [show i+(j - i - 1)+1=j by omega] using this
theorem imp_t (l:List Revision):Tot (r26_history l) fun b=>b=true→ImpOK l:=by
 unfold r26_history
 refine tot_let (fun k=>(Tot (k true) fun b=>b=true→ImpOK l)∧((1≤l.length∧l.length≤40)→Tot (k false) fun b=>b=true→ImpOK l)) ⟨tot_ifT rfl (tot_some fun h=>by cases h),fun hl=>?_⟩ fun k hk=>?_
 ·refine tot_ifF rfl ?_
  refine tot_loop (fun i:Int=>(0≤i∧i≤(l.length:Int))∧∀ (j:Nat) r,(j:Int)<i→l[j]? = some r→r.number=(j:Int)+1∧(userOK r.user=true∧0≤r.minute)∧∀ r',l[j - 1]? = some r'→r'.minute≤r.minute) (fun i=>((l.length:Int) - i).toNat) ⟨⟨by omega,by omega⟩,fun j r h=>by omega⟩ (by first | omega | (dsimp only;omega)) ?_
  rintro i rec ⟨⟨h3,h4⟩,h5⟩ ih
  refine tot_ifD (fun hi=>?_) fun hi=>tot_some fun _=>?_
  ·refine tot_atI h3 hi fun e he hg=>?_
   have e1:w64 (i+1)=i+1:=w64_of (by omega) (by omega)
   have e2:w64 (i - 1)=i - 1:=w64_of (by omega) (by omega)
   refine tot_let (fun k=>(Tot (k true) fun b=>b=true→ImpOK l)∧((e.number=i+1∧(userOK e.user=true∧0≤e.minute)∧∀ r',l[i.toNat - 1]? = some r'→r'.minute≤e.minute)→Tot (k false) fun b=>b=true→ImpOK l)) ⟨tot_ifT rfl (tot_some fun h=>by cases h),fun hf=>?_⟩ fun k hk=>?_
   ·refine tot_ifF rfl ?_
    rw [e1]
    refine ih _ ⟨⟨by omega,by omega⟩,fun j r hj hr=>?_⟩ (by omega)
    by_cases hji:(j:Int)<i
    ·exact h5 j r hji hr
    ·obtain rfl:j=i.toNat:=by omega
     rw [hg] at hr
     injection hr with hr
     subst hr
     exact ⟨by rw [hf.1];omega,hf.2⟩
   ·rw [e1]
    refine tot_ifN (fun _=>hk.1) fun c1=>?_
    refine tot_ifN (fun _=>hk.1) fun c2=>?_
    refine tot_bindE (isUser26_e _) ?_
    refine tot_if (fun _=>hk.1) fun c3=>?_
    refine tot_ifD (fun _=>hk.1) fun c4=>?_
    refine tot_ifD (fun _=>hk.1) fun c5=>?_
    have c3':userOK e.user=true:=by simpa using c3
    refine tot_ifD (fun h0=>?_) fun h0=>?_
    ·rw [e2]
     refine tot_atI (by omega) (by omega) fun e' _ hg'=>?_
     by_cases c6:e.minute<e'.minute
     ·rw [decide_eq_true c6];exact hk.1
     ·rw [decide_eq_false c6]
      refine hk.2 ⟨c1,⟨c3',by omega⟩,fun r' hr'=>?_⟩
      rw [show (i - 1).toNat=i.toNat - 1 by omega,hr'] at hg'
      injection hg' with hg'
      rw [hg']
      omega
    ·refine hk.2 ⟨c1,⟨c3',by omega⟩,fun r' hr'=>?_⟩
     have:i=0:=by omega
     subst this
     have hg0:l[0]? = some e:=hg
     rw [show (0:Int).toNat - 1=0 from rfl,hg0] at hr'
     injection hr' with hr'
     rw [hr']
     omega
  ·refine ⟨hl.1,hl.2,fun j r hr=>(h5 j r ?_ hr).1,fun r hr=>?_,adj_pw (R:=fun a b:Revision=>a.minute≤b.minute) (fun a b c h1 h2=>Int.le_trans h1 h2) fun j a b ha hb=>?_⟩
   ·have:=(List.getElem?_eq_some_iff.1 hr).1
    omega
   ·obtain ⟨j,hj⟩:=List.getElem?_of_mem hr
    have:=(List.getElem?_eq_some_iff.1 hj).1
    exact (h5 j r (by omega) hj).2.1
   ·have:=(List.getElem?_eq_some_iff.1 hb).1
    exact (h5 (j+1) b (by omega) hb).2.2 a ha
 ·refine tot_ifD (fun _=>hk.1) fun h1=>?_
  by_cases h2:40<(l.length:Int)
  ·rw [decide_eq_true h2];exact hk.1
  ·rw [decide_eq_false h2];exact hk.2 ⟨by omega,by omega⟩
structure WV (c:Change):Prop where
 user:userOK c.user=true
 title:c.kind≠6→c.kind≠10→c.title.valid=true
 watch:c.kind=7∨c.kind=8→c.user≠⟨#[]⟩
 dest:c.kind=4→c.to.valid=true
 tick:c.kind=6→1≤c.n
 prop:c.kind=9→0≤c.n∧c.n≤40
 imp:c.kind=5→ImpOK c.history
theorem within_t (c:Change):Tot (r26_within c) fun b=>b=true→WV c:=by
 unfold r26_within
 refine tot_let (fun k=>(Tot (k true) fun b=>b=true→WV c)∧(userOK c.user=true→(c.kind≠6→c.kind≠10→c.title.valid=true)→Tot (k false) fun b=>b=true→WV c)) ⟨tot_ifT rfl (tot_some fun h=>by cases h),fun hu ht=>?_⟩ fun k hk=>?_
 ·refine tot_ifF rfl ?_
  refine tot_let (fun k=>(c.kind=7∨c.kind=8→Tot (k true) fun b=>b=true→WV c)∧(¬ (c.kind=7∨c.kind=8)→Tot (k false) fun b=>b=true→WV c)) ⟨fun hw=>?_,fun hw=>?_⟩ fun k hk=>?_
  ·refine tot_ifT rfl (tot_some fun h=>?_)
   have h':c.user≠⟨#[]⟩:=by simpa using h
   exact ⟨hu,ht,fun _=>h',fun e=>by omega,fun e=>by omega,fun e=>by omega,fun e=>by omega⟩
  ·refine tot_ifF rfl ?_
   refine tot_ifD (fun h4=>?_) fun h4=>?_
   ·refine tot_let (fun k=>(c.to.valid=true→∀ b,Tot (k b) fun b=>b=true→WV c)∧Tot (k false) fun b=>b=true→WV c) ⟨fun hv b=>tot_some fun _=>⟨hu,ht,fun e=>absurd e hw,fun _=>hv,fun e=>by omega,fun e=>by omega,fun e=>by omega⟩,tot_some fun h=>by cases h⟩ fun k hk=>?_
    refine tot_bindE (v:=c.to.valid) rfl ?_
    refine tot_if (fun hv=>?_) fun _=>hk.2
    exact tot_ifD (fun _=>hk.1 hv _) fun _=>hk.1 hv _
   refine tot_ifD (fun h6=>?_) fun h6=>?_
   ·refine tot_let (fun k=>(1≤c.n→∀ b,Tot (k b) fun b=>b=true→WV c)∧Tot (k false) fun b=>b=true→WV c) ⟨fun hv b=>tot_some fun _=>⟨hu,ht,fun e=>absurd e hw,fun e=>by omega,fun _=>hv,fun e=>by omega,fun e=>by omega⟩,tot_some fun h=>by cases h⟩ fun k hk=>?_
    exact tot_ifD (fun h=>hk.1 h _) fun _=>hk.2
   refine tot_ifD (fun h9=>?_) fun h9=>?_
   ·refine tot_let (fun k=>(0≤c.n→Tot (k (decide (c.n≤40))) fun b=>b=true→WV c)∧Tot (k false) fun b=>b=true→WV c) ⟨fun hv=>tot_some fun h=>⟨hu,ht,fun e=>absurd e hw,fun e=>by omega,fun e=>by omega,fun _=>⟨hv,of_decide_eq_true h⟩,fun e=>by omega⟩,tot_some fun h=>by cases h⟩ fun k hk=>?_
    exact tot_ifD (fun h=>hk.1 h) fun _=>hk.2
   refine tot_ifD (fun h10=>?_) fun h10=>?_
   ·refine tot_let (fun k=>∀ b,Tot (k b) fun b=>b=true→WV c) (fun b=>tot_some fun _=>⟨hu,ht,fun e=>absurd e hw,fun e=>by omega,fun e=>by omega,fun e=>by omega,fun e=>by omega⟩) fun k hk=>?_
    exact tot_ifD (fun h=>hk _) fun _=>hk _
   refine tot_ifD (fun h5=>?_) fun h5=>?_
   ·refine tot_bind (imp_t c.history) fun b hb=>tot_some fun h=>?_
    exact ⟨hu,ht,fun e=>absurd e hw,fun e=>by omega,fun e=>by omega,fun e=>by omega,fun _=>hb h⟩
   ·exact tot_some fun _=>⟨hu,ht,fun e=>absurd e hw,fun e=>by omega,fun e=>by omega,fun e=>by omega,fun e=>by omega⟩
  ·refine tot_ifD (fun h=>?_) fun h=>?_
   ·rw [decide_eq_true h];exact hk.1 (.inl h)
   ·by_cases h8:c.kind=8
    ·rw [decide_eq_true h8];exact hk.1 (.inr h8)
    ·rw [decide_eq_false h8];exact hk.2 (by omega)
 ·have usr:(c.kind≠6→c.kind≠10→c.title.valid=true)→Tot ((r26_isUser c.user).bind fun r=>k (!r)) fun b=>b=true→WV c:=fun ht=>by
   refine tot_bindE (isUser26_e _) ?_
   rcases Bool.eq_false_or_eq_true (userOK c.user) with hu | hu
   ·rw [hu];exact hk.2 hu ht
   ·rw [hu];exact hk.1
  refine tot_ifN (fun h6=>?_) fun h6=>usr fun a=>absurd h6 a
  refine tot_ifN (fun h10=>?_) fun h10=>usr fun _ a=>absurd h10 a
  refine tot_bindE (v:=c.title.valid) rfl ?_
  refine tot_if (fun _=>hk.1) fun hv=>usr fun _ _=>by simpa using hv
theorem changeV_t (c:Change) (hl:c.history.length≤1000000):Tot (r26_Valid c) fun e=>e=0→CV c:=by
 unfold r26_Valid
 refine tot_bind (form_t c) fun b hb=>?_
 refine tot_if (fun _=>tot_some fun h=>by cases h) fun hb'=>?_
 refine tot_bind (within_t c) fun b2 hb2=>?_
 refine tot_if (fun _=>tot_some fun h=>by cases h) fun hb2'=>?_
 have f:=hb (by simpa using hb')
 have w:=hb2 (by simpa using hb2')
 refine tot_let (fun k=>(Tot (k true) fun e=>e=0→CV c)∧(c.text.size≤8192→c.note.size≤200→Tot (k false) fun e=>e=0→CV c)) ⟨tot_ifT rfl (tot_some fun h=>by cases h),fun a1 a2=>?_⟩ fun k hk=>?_
 ·refine tot_ifF rfl ?_
  refine tot_loop (fun i:Int=>(0≤i∧i≤(c.history.length:Int))∧∀ (j:Nat) r,(j:Int)<i→c.history[j]? = some r→r.text.size≤8192∧r.note.size≤200) (fun i=>((c.history.length:Int) - i).toNat) ⟨⟨by omega,by omega⟩,fun j r h=>by omega⟩ (by first | omega | (dsimp only;omega)) ?_
  rintro i rec ⟨⟨h3,h4⟩,h5⟩ ih
  refine tot_ifD (fun hi=>?_) fun hi=>tot_some fun _=>?_
  ·have e1:w64 (i+1)=i+1:=w64_of (by omega) (by omega)
   refine tot_let (fun k=>(Tot (k true) fun e=>e=0→CV c)∧((∀ e,c.history[i.toNat]? = some e→e.text.size≤8192∧e.note.size≤200)→Tot (k false) fun e=>e=0→CV c)) ⟨tot_ifT rfl (tot_some fun h=>by cases h),fun hf=>?_⟩ fun k hk=>?_
   ·refine tot_ifF rfl ?_
    rw [e1]
    refine ih _ ⟨⟨by omega,by omega⟩,fun j r hj hr=>?_⟩ (by omega)
    by_cases hji:(j:Int)<i
    ·exact h5 j r hji hr
    ·obtain rfl:j=i.toNat:=by omega
     exact hf r hr
   ·refine tot_atI h3 hi fun e he hg=>?_
    refine tot_ifD (fun _=>hk.1) fun c1=>?_
    refine tot_atI h3 hi fun e' he' hg'=>?_
    rw [hg] at hg'
    injection hg' with hg'
    subst hg'
    by_cases c2:200<(e.note.size:Int)
    ·rw [decide_eq_true c2];exact hk.1
    ·rw [decide_eq_false c2]
     refine hk.2 fun e'' he''=>?_
     rw [hg] at he''
     injection he'' with he''
     subst he''
     exact ⟨by omega,by omega⟩
  ·refine ⟨f.1,f.2,w.user,w.title,w.watch,w.dest,w.tick,w.prop,w.imp,a1,a2,fun r hr=>?_⟩
   obtain ⟨j,hj⟩:=List.getElem?_of_mem hr
   have:=(List.getElem?_eq_some_iff.1 hj).1
   exact h5 j r (by omega) hj
 ·refine tot_ifD (fun _=>hk.1) fun h1=>?_
  by_cases h2:200<(c.note.size:Int)
  ·rw [decide_eq_true h2];exact hk.1
  ·rw [decide_eq_false h2];exact hk.2 (by omega) (by omega)
end Go.Proofs.YtphibahplgmgfaaGreatDoor
namespace Go.Proofs.YtphibahplgmgfaaGreatDoor
open VL
set_option linter.unusedVariables false
theorem RevOK.mono {c q c' q':Int} {r:Revision} (h:RevOK c q r) (hc:c≤c') (hq:q≤q'):RevOK c' q' r:=⟨h.text,h.note,h.user,h.minute0,Int.le_trans h.minute1 hc,h.seq0,Int.le_trans h.seq1 hq⟩
theorem HistOK.mono' {c q c' q':Int} {l:List Revision} (h:HistOK c q l) (hc:c≤c') (hq:q≤q'):HistOK c' q' l:=⟨h.len1,h.len2,h.num,fun r hr=>(h.all r hr).mono hc hq,h.mono⟩
theorem StoOK.mono {c q c' q':Int} {p:Stored} (h:StoOK c q p) (hc:c≤c') (hq:q≤q'):StoOK c' q' p:=⟨h.title,h.hist.mono' hc hq⟩
theorem PropOK.mono {c t c' t':Int} {p:Proposal} (h:PropOK c t p) (hc:c≤c') (ht:t≤t'):PropOK c' t' p:=⟨Int.le_trans h.id1 ht,h.user,h.title,h.base0,h.base1,h.text,h.note,h.minute0,Int.le_trans h.minute1 hc⟩
theorem VS.mono {t0:ByteArray} {q q':Int} {s:State} (h:VS t0 q s) (hq:q≤q'):VS t0 q' s:=
 ⟨h.seq0,h.clock0,h.clock1,h.plen,h.glen,fun p hp=>(h.pages p hp).mono (Int.le_refl _) hq,fun p hp=>(h.gone p hp).mono (Int.le_refl _) hq,h.sorted,h.rule,h.prlen,h.prop0,h.prop1,h.props,h.ids,h.prsort,h.wlen,h.watches,h.wsort,h.llen,fun w hw=>⟨(h.lasts w hw).1,(h.lasts w hw).2.1,Int.le_trans (h.lasts w hw).2.2 hq⟩,h.lsort⟩
theorem VS.withPages {t0:ByteArray} {q:Int} {s:State} (h:VS t0 q s) {l:List Stored} (h1:l.length≤200) (h2:∀ p ∈ l,StoOK s.clock q p) (h3:l.Pairwise fun a b=>tlt a.title b.title) (h4:∀ p ∈ l,p.title=policyT→textOf p=t0):VS t0 q ⟨s.seq,s.clock,l,s.gone,s.proposals,s.proposed,s.watches,s.lasts⟩:=
 ⟨h.seq0,h.clock0,h.clock1,h1,h.glen,h2,h.gone,h3,h4,h.prlen,h.prop0,h.prop1,h.props,h.ids,h.prsort,h.wlen,h.watches,h.wsort,h.llen,h.lasts,h.lsort⟩
theorem VS.withGone {t0:ByteArray} {q:Int} {s:State} (h:VS t0 q s) {l:List Stored} (h1:l.length≤100) (h2:∀ p ∈ l,StoOK s.clock q p):VS t0 q ⟨s.seq,s.clock,s.pages,l,s.proposals,s.proposed,s.watches,s.lasts⟩:=
 ⟨h.seq0,h.clock0,h.clock1,h.plen,h1,h.pages,h2,h.sorted,h.rule,h.prlen,h.prop0,h.prop1,h.props,h.ids,h.prsort,h.wlen,h.watches,h.wsort,h.llen,h.lasts,h.lsort⟩
theorem VS.withProps {t0:ByteArray} {q:Int} {s:State} (h:VS t0 q s) {l:List Proposal} (hs:l.Sublist s.proposals):VS t0 q ⟨s.seq,s.clock,s.pages,s.gone,l,s.proposed,s.watches,s.lasts⟩:=
 ⟨h.seq0,h.clock0,h.clock1,h.plen,h.glen,h.pages,h.gone,h.sorted,h.rule,Nat.le_trans hs.length_le h.prlen,h.prop0,h.prop1,fun p hp=>h.props p (hs.subset hp),fun p hp=>h.ids p (hs.subset hp),h.prsort.sublist hs,h.wlen,h.watches,h.wsort,h.llen,h.lasts,h.lsort⟩
def Next (t0:ByteArray) (q:Int) (s:State) (r:State×Int):Prop:=r.2=0→VS t0 q r.1∧r.1.seq=s.seq∧s.clock≤r.1.clock∧r.1.clock≤s.clock+2000
theorem next_same {t0:ByteArray} {q:Int} {s:State} {r:State×Int} (h:VS t0 q r.1) (h1:r.1.seq=s.seq) (h2:r.1.clock=s.clock):Next t0 q s r:=fun _=>⟨h,h1,by omega,by omega⟩
theorem next_err {t0:ByteArray} {q:Int} {s s':State} {e:Int} (h:e≠0):Next t0 q s (s',e):=by
 unfold Next
 intro h'
 exact absurd h' h
theorem ins_ok {t0:ByteArray} {q clock:Int} {l:List Stored} {p:Stored} {n:Nat} (h2:∀ p ∈ l,StoOK clock q p) (h3:l.Pairwise fun a b=>tlt a.title b.title) (h4:∀ p ∈ l,p.title=policyT→textOf p=t0)
  (hp:StoOK clock q p) (hne:∀ y ∈ l,y.title≠p.title) (hr:p.title≠policyT) (i1:∀ y ∈ l.take n,tlt y.title p.title) (i2:∀ y,l[n]? = some y→¬ tlt y.title p.title) :
  (∀ y ∈ l.take n++p::l.drop n,StoOK clock q y)∧((l.take n++p::l.drop n).Pairwise fun a b=>tlt a.title b.title)∧∀ y ∈ l.take n++p::l.drop n,y.title=policyT→textOf y=t0:=by
 have tr:∀ a b c:Stored,tlt a.title b.title→tlt b.title c.title→tlt a.title c.title:=fun a b c k1 k2=>tlt_trans k1 k2
 have h5:∀ y,l[n]? = some y→tlt p.title y.title:=fun y hy=>(tlt_total (hne y (List.mem_of_getElem? hy))).resolve_left (i2 y hy)
 have h6:(l.take n++p::l.drop n).Pairwise fun a b:Stored=>tlt a.title b.title:=sorted_ins (lt:=fun a b:Stored=>tlt a.title b.title) tr h3 i1 h5
 refine ⟨fun y hy=>?_,h6,fun y hy e=>?_⟩
 ·rcases mem_ins hy with rfl | hy
  ·exact hp
  ·exact h2 y hy
 ·rcases mem_ins hy with rfl | hy
  ·exact absurd e hr
  ·exact h4 y hy e
theorem one_ok {t0:ByteArray} {q:Int} {s:State} (h:VS t0 q s) (hq:1≤q) {t:Title} {u no tx:ByteArray} (ht:t.valid=true) (hu:userOK u=true) (h1:tx.size≤8192) (h2:no.size≤200):StoOK s.clock q ⟨t,[⟨1,u,no,tx,s.clock,q⟩]⟩:=
 ⟨ht,by simp,by simp,fun i r hr=>by
  cases i with
  | zero=>injection hr with hr;subst hr;rfl
  | succ i=>simp at hr,fun r hr=>by
  simp at hr
  subst hr
  exact ⟨h1,h2,hu,h.clock0,Int.le_refl _,hq,Int.le_refl _⟩,List.pairwise_singleton ..⟩
theorem put_t {t0:ByteArray} {q:Int} {s:State} {c:Change} (h:VS t0 q s) (hq:1≤q) (hv:CV c) (ht:c.title.valid=true) (hne:c.title≠policyT):Tot (r27_put s c q) (Next t0 q s):=by
 have hl:=h.plen
 unfold r27_put
 refine tot_bind (find_t s.pages c.title (by omega)) fun r hr=>?_
 rcases hr with ⟨rfl,hno⟩ | ⟨n,p,rfl,hp,hpt⟩
 ·refine tot_ifD (fun _=>?_) fun hc=>absurd (by omega) hc
  refine tot_ifD (fun _=>tot_some (next_err (by decide))) fun hlt=>?_
  refine tot_bind (insert_t s.pages _ (by omega)) fun r hr=>?_
  obtain ⟨n,hn,rfl,i1,i2⟩:=hr
  obtain ⟨o1,o2,o3⟩:=ins_ok h.pages h.sorted h.rule (one_ok h hq ht hv.user hv.text hv.note) hno hne i1 i2
  exact tot_some (next_same (h.withPages (by rw [len_ins hn];omega) o1 o2 o3) rfl rfl)
 ·refine tot_ifD (fun hc=>absurd hc (by omega)) fun _=>?_
  have hn:=(List.getElem?_eq_some_iff.1 hp).1
  refine tot_atI (by omega) (by omega) fun e he hg=>?_
  rw [Int.toNat_natCast,hp] at hg
  injection hg with hg
  subst hg
  have hst:=h.pages p he
  have hl2:=hst.hist.len2
  refine tot_ifD (fun _=>tot_some (next_err (by decide))) fun hlt=>?_
  refine tot_appL 2000000 (by simp;omega) (by decide) (by decide) ?_
  refine tot_appL 2000000 (by simp;omega) (by decide) (by decide) ?_
  refine tot_appL 2000000 (by simp;omega) (by decide) (by decide) ?_
  rw [nil_app,nil_app]
  refine tot_atI (by omega) (by omega) fun e8 _ hg8=>?_
  rw [Int.toNat_natCast,hp] at hg8
  injection hg8 with hg8
  subst hg8
  have e1:w64 ((p.history.length:Int)+1)=(p.history.length:Int)+1:=w64_of (by omega) (by omega)
  rw [e1]
  unfold setI
  rw [Int.toNat_natCast]
  have hnew:StoOK s.clock q ⟨p.title,p.history ++ [⟨(p.history.length:Int)+1,c.user,c.note,c.text,s.clock,q⟩]⟩:=by
   refine ⟨hst.title,by simp,by simp;omega,fun i r hr=>?_,fun r hr=>?_,?_⟩
   ·rcases Nat.lt_or_ge i p.history.length with hi | hi
    ·rw [List.getElem?_append_left hi] at hr
     exact hst.hist.num i r hr
    ·rw [List.getElem?_append_right hi] at hr
     have:i - p.history.length=0:=by
      have:=(List.getElem?_eq_some_iff.1 hr).1
      simp at this
      omega
     rw [this] at hr
     injection hr with hr
     subst hr
     show (p.history.length:Int)+1=_
     omega
   ·rcases List.mem_append.1 hr with hr | hr
    ·exact hst.hist.all r hr
    ·simp at hr
     subst hr
     exact ⟨hv.text,hv.note,hv.user,h.clock0,Int.le_refl _,hq,Int.le_refl _⟩
   ·refine List.pairwise_append.2 ⟨hst.hist.mono,List.pairwise_singleton ..,fun a ha b hb=>?_⟩
    simp at hb
    subst hb
    exact ⟨(hst.hist.all a ha).minute1,(hst.hist.all a ha).seq1⟩
  refine tot_some (next_same (h.withPages (by simpa using hl) (fun y hy=>?_) ?_ fun y hy e=>?_) rfl rfl)
  ·rcases List.mem_or_eq_of_mem_set hy with hy | rfl
   ·exact h.pages y hy
   ·exact hnew
  ·have hs:=h.sorted
   have key:(s.pages.set n ⟨p.title,p.history ++ [⟨(p.history.length:Int)+1,c.user,c.note,c.text,s.clock,q⟩]⟩).map (·.title)=s.pages.map (·.title):=by
    rw [List.map_set]
    apply List.ext_getElem?
    intro j
    rw [List.getElem?_set]
    split
    ·rename_i hj
     subst hj
     have hpe:=(List.getElem?_eq_some_iff.1 hp).2
     simp [hn,hpe]
    ·rfl
   rw [← List.pairwise_map (f:=Stored.title) (R:=tlt)] at hs ⊢
   rw [key]
   exact hs
  ·rcases List.mem_or_eq_of_mem_set hy with hy | rfl
   ·exact h.rule y hy e
   ·exact absurd (hpt.symm.trans e) hne
theorem pw_ne {l:List Stored} (h:l.Pairwise fun a b=>tlt a.title b.title) {n:Nat} {p y:Stored} (hp:l[n]? = some p) (hy:y ∈ l.take n++l.drop (n+1)):y.title≠p.title:=by
 intro e
 rcases List.mem_append.1 hy with hy | hy
 ·obtain ⟨j,hj⟩:=List.getElem?_of_mem hy
  rw [List.getElem?_take] at hj
  split at hj
  ·have:=pw_get h (by assumption) hj hp
   rw [e] at this
   exact tlt_irrefl _ this
  ·cases hj
 ·obtain ⟨j,hj⟩:=List.getElem?_of_mem hy
  rw [List.getElem?_drop] at hj
  have:=pw_get h (by omega) hp hj
  rw [e] at this
  exact tlt_irrefl _ this
theorem remove_t {t0:ByteArray} {q:Int} {s:State} {c:Change} (h:VS t0 q s):Tot (r27_remove s c) (Next t0 q s):=by
 have hl:=h.plen
 have hg:=h.glen
 have hpr:=h.prlen
 unfold r27_remove
 refine tot_bind (find_t s.pages c.title (by omega)) fun r hr=>?_
 rcases hr with ⟨rfl,hno⟩ | ⟨n,p,rfl,hp,hpt⟩
 ·refine tot_ifD (fun _=>tot_some (next_err (by decide))) fun hc=>absurd (by omega) hc
 ·refine tot_ifD (fun hc=>absurd hc (by omega)) fun _=>?_
  have hn:=(List.getElem?_eq_some_iff.1 hp).1
  refine tot_ifD (fun _=>tot_some (next_err (by decide))) fun hlt=>?_
  refine tot_appL 2000000 (by simp;omega) (by decide) (by decide) ?_
  refine tot_atI (by omega) (by omega) fun e he hg'=>?_
  refine tot_appL 2000000 (by simp;omega) (by decide) (by decide) ?_
  refine tot_bindE (without_e s.pages n hn (by omega)) ?_
  refine tot_bind (drop_t s.proposals c.title (by omega)) fun d hd=>?_
  rw [nil_app]
  have h1:=h.withPages (l:=s.pages.take n++s.pages.drop (n+1)) (by have:=len_del hn;omega) (fun y hy=>h.pages y (mem_del hy)) (h.sorted.sublist (sublist_del _ _)) fun y hy=>h.rule y (mem_del hy)
  have h2:=h1.withGone (l:=s.gone ++ [e]) (by simp;omega) (fun y hy=>by
   rcases List.mem_append.1 hy with hy | hy
   ·exact h.gone y hy
   ·simp at hy
    subst hy
    exact h.pages _ he)
  exact tot_some (next_same (h2.withProps hd) rfl rfl)
theorem restore_t {t0:ByteArray} {q:Int} {s:State} {c:Change} (h:VS t0 q s) (hne:c.title≠policyT):Tot (r27_restore s c) (Next t0 q s):=by
 have hl:=h.plen
 have hg:=h.glen
 unfold r27_restore
 refine tot_bind (lastGone_t s c.title (by omega)) fun i hi=>?_
 refine tot_bind (find_t s.pages c.title (by omega)) fun r hr=>?_
 rcases hr with ⟨rfl,hno⟩ | ⟨n,p,rfl,hp,hpt⟩
 ·refine tot_ifD (fun hc=>absurd hc (by omega)) fun _=>?_
  rcases hi with rfl | ⟨n,p,rfl,hp,hpt⟩
  ·exact tot_ifD (fun _=>tot_some (next_err (by decide))) fun hc=>absurd (by omega) hc
  ·refine tot_ifD (fun hc=>absurd hc (by omega)) fun _=>?_
   refine tot_ifD (fun _=>tot_some (next_err (by decide))) fun hlt=>?_
   have hn:=(List.getElem?_eq_some_iff.1 hp).1
   refine tot_atI (by omega) (by omega) fun e he hg'=>?_
   rw [Int.toNat_natCast,hp] at hg'
   injection hg' with hg'
   subst hg'
   refine tot_bind (insert_t s.pages p (by omega)) fun r hr=>?_
   obtain ⟨m,hm,rfl,i1,i2⟩:=hr
   refine tot_bindE (without_e s.gone n hn (by omega)) ?_
   obtain ⟨o1,o2,o3⟩:=ins_ok h.pages h.sorted h.rule (h.gone p he) (by rw [hpt];exact hno) (by rw [hpt];exact hne) i1 i2
   have h1:=h.withPages (by rw [len_ins hm];omega) o1 o2 o3
   exact tot_some (next_same (h1.withGone (l:=s.gone.take n++s.gone.drop (n+1)) (by have:=len_del hn;omega) fun y hy=>h.gone y (mem_del hy)) rfl rfl)
 ·exact tot_ifD (fun _=>tot_some (next_err (by decide))) fun hc=>absurd (by omega) hc
theorem move_t {t0:ByteArray} {q:Int} {s:State} {c:Change} (h:VS t0 q s) (hq:1≤q) (hv:CV c) (ht:c.title.valid=true) (hto:c.to.valid=true) (hne:c.title≠policyT) (hne2:c.to≠policyT):Tot (r27_move s c q) (Next t0 q s):=by
 have hl:=h.plen
 have hpr:=h.prlen
 unfold r27_move
 refine tot_bind (find_t s.pages c.title (by omega)) fun r hr=>?_
 rcases hr with ⟨rfl,hno⟩ | ⟨n,p,rfl,hp,hpt⟩
 ·refine tot_ifD (fun _=>tot_some (next_err (by decide))) fun hc=>absurd (by omega) hc
 ·refine tot_ifD (fun hc=>absurd hc (by omega)) fun _=>?_
  have hn:=(List.getElem?_eq_some_iff.1 hp).1
  have hmem:=List.mem_of_getElem? hp
  refine tot_bind (find_t s.pages c.to (by omega)) fun r hr=>?_
  rcases hr with ⟨rfl,hno⟩ | ⟨n',p',rfl,hp',hpt'⟩
  ·refine tot_ifD (fun hc=>absurd hc (by omega)) fun _=>?_
   have hdiff:c.to≠c.title:=fun e=>hno p hmem (hpt.trans e.symm)
   refine tot_let (fun k=>Tot (k true) (Next t0 q s)∧((c.n=1→s.pages.length<200)→Tot (k false) (Next t0 q s))) ⟨tot_ifT rfl (tot_some (next_err (by decide))),fun hlen=>?_⟩ fun k hk=>?_
   ·refine tot_ifF rfl ?_
    refine tot_atI (by omega) (by omega) fun e he hg'=>?_
    rw [Int.toNat_natCast,hp] at hg'
    injection hg' with hg'
    subst hg'
    refine tot_bindE (without_e s.pages n hn (by omega)) ?_
    have hd1:=len_del hn
    refine tot_bind (insert_t _ _ (by omega)) fun r hr=>?_
    obtain ⟨m,hm,rfl,i1,i2⟩:=hr
    have hst:=h.pages p he
    obtain ⟨o1,o2,o3⟩:=ins_ok (t0:=t0) (q:=q) (clock:=s.clock) (l:=s.pages.take n++s.pages.drop (n+1)) (fun y hy=>h.pages y (mem_del hy)) (h.sorted.sublist (sublist_del _ _)) (fun y hy=>h.rule y (mem_del hy)) (p:=⟨c.to,p.history⟩) ⟨hto,hst.hist⟩ (fun y hy=>hno y (mem_del hy)) hne2 i1 i2
    have hmemI:∀ y ∈ (s.pages.take n++s.pages.drop (n+1)).take m++(⟨c.to,p.history⟩:Stored)::(s.pages.take n++s.pages.drop (n+1)).drop m,y.title≠c.title:=fun y hy=>by
     rcases mem_ins hy with rfl | hy
     ·exact hdiff
     ·rw [← hpt]
      exact pw_ne h.sorted hp hy
    have hlenI:=len_ins (x:=(⟨c.to,p.history⟩:Stored)) hm
    generalize (s.pages.take n++s.pages.drop (n+1)).take m++(⟨c.to,p.history⟩:Stored)::(s.pages.take n++s.pages.drop (n+1)).drop m=L at *
    refine tot_let (fun k=>∀ L':List Stored,L'.length≤200→(∀ p ∈ L',StoOK s.clock q p)→(L'.Pairwise fun a b=>tlt a.title b.title)→(∀ p ∈ L',p.title=policyT→textOf p=t0)→Tot (k L') (Next t0 q s)) (fun L' a1 a2 a3 a4=>?_) fun k hk=>?_
    ·refine tot_bind (drop_t s.proposals c.title (by omega)) fun d hd=>?_
     exact tot_some (next_same ((h.withPages a1 a2 a3 a4).withProps hd) rfl rfl)
    ·refine tot_ifD (fun h1=>?_) fun h1=>hk L (by omega) o1 o2 o3
     have:=hlen h1
     refine tot_bind (redirect_t c.to hto) fun x hx=>?_
     refine tot_bind (insert_t L _ (by omega)) fun r hr=>?_
     obtain ⟨m2,hm2,rfl,j1,j2⟩:=hr
     obtain ⟨w1,w2,w3⟩:=ins_ok o1 o2 o3 (one_ok h hq ht hv.user hx (by decide)) hmemI hne j1 j2
     exact hk _ (by rw [len_ins hm2];omega) w1 w2 w3
   ·refine tot_ifD (fun h1=>?_) fun h1=>hk.2 fun e=>absurd e h1
    by_cases h2:200≤(s.pages.length:Int)
    ·rw [decide_eq_true h2];exact hk.1
    ·rw [decide_eq_false h2];exact hk.2 fun _=>by omega
  ·exact tot_ifD (fun _=>tot_some (next_err (by decide))) fun hc=>absurd (by omega) hc
theorem take_t {t0:ByteArray} {q:Int} {s:State} {c:Change} (h:VS t0 q s) (hq:1≤q) (hv:CV c) (hi:ImpOK c.history) (ht:c.title.valid=true) (hne:c.title≠policyT):Tot (r27_take s c q) (Next t0 q s):=by
 have hl:=h.plen
 have hi1:=hi.len1
 have hi2:=hi.len2
 unfold r27_take
 refine tot_bind (find_t s.pages c.title (by omega)) fun r hr=>?_
 rcases hr with ⟨rfl,hno⟩ | ⟨n,p,rfl,hp,hpt⟩
 ·refine tot_ifD (fun hc=>absurd hc (by omega)) fun _=>?_
  rw [w64_of (by omega) (by omega)]
  refine tot_atI (by omega) (by omega) fun e he hge=>?_
  rw [show ((c.history.length:Int) - 1).toNat=c.history.length - 1 by omega] at hge
  refine tot_ifD (fun _=>tot_some (next_err (by decide))) fun hcl=>?_
  refine tot_ifD (fun _=>tot_some (next_err (by decide))) fun hlt=>?_
  refine tot_appL 2000000 (by simp;omega) (by decide) (by decide) ?_
  rw [nil_app]
  have hmin:∀ r ∈ c.history,r.minute≤s.clock:=fun r hr=>by
   obtain ⟨j,hj⟩:=List.getElem?_of_mem hr
   have hjl:=(List.getElem?_eq_some_iff.1 hj).1
   rcases Nat.lt_or_ge j (c.history.length - 1) with hjj | hjj
   ·have:=pw_get hi.mono hjj hj hge
    omega
   ·have:j=c.history.length - 1:=by omega
    rw [this,hge] at hj
    injection hj with hj
    rw [← hj]
    omega
  refine tot_loop (fun a:Int×List Revision=>∃ n:Nat,a.1=n∧n≤c.history.length∧a.2.length=c.history.length∧∀ (j:Nat),a.2[j]? = (c.history[j]?).map fun r=>if j<n then ⟨r.number,r.user,r.note,r.text,r.minute,q⟩ else r) (fun a=>((c.history.length:Int) - a.1).toNat) ⟨0,rfl,Nat.zero_le _,rfl,fun j=>by simp⟩ (by first | omega | (dsimp only;omega)) ?_
  rintro ⟨i,out⟩ rec ⟨n,hin,hn,hlen,hget⟩ ih
  dsimp only at hin hlen hget
  subst hin
  refine tot_ifD (fun hlt2=>?_) fun hlt2=>?_
  ·refine tot_atI (by omega) hlt2 fun x hx hgx=>?_
   rw [Int.toNat_natCast] at hgx
   rw [w64_of (by omega) (by omega)]
   refine ih _ ⟨n+1,by dsimp only;omega,by omega,by unfold setI;simpa using hlen,fun j=>?_⟩ (by first | omega | (dsimp only;omega))
   unfold setI
   rw [Int.toNat_natCast,List.getElem?_set]
   have hx2:=hget n
   rw [hgx] at hx2
   split
   ·rename_i hj
    subst hj
    cases hc:c.history[n]? with
    | none=>rw [hc] at hx2;cases hx2
    | some y=>
      rw [hc] at hx2
      simp at hx2
      subst hx2
      rw [if_pos (by omega)]
      simp
   ·rename_i hj
    rw [hget j]
    congr 1
    funext r
    by_cases hjn:j<n
    ·rw [if_pos hjn,if_pos (by omega)]
    ·rw [if_neg hjn,if_neg (by omega)]
  ·have hnn:n=c.history.length:=by omega
   have hst:StoOK s.clock q ⟨c.title,out⟩:=by
    have get:∀ (j:Nat) r,out[j]? = some r→∃ r0,c.history[j]? = some r0∧r=⟨r0.number,r0.user,r0.note,r0.text,r0.minute,q⟩:=fun j r hr=>by
     rw [hget j] at hr
     cases hc:c.history[j]? with
     | none=>rw [hc] at hr;cases hr
     | some y=>
       have:=(List.getElem?_eq_some_iff.1 hc).1
       rw [hc] at hr
       simp only [Option.map_some,if_pos (show j<n by omega),Option.some.injEq] at hr
       exact ⟨y,rfl,hr.symm⟩
    refine ⟨ht,by rw [hlen];exact hi1,by rw [hlen];exact hi2,fun j r hr=>?_,fun r hr=>?_,?_⟩
    ·obtain ⟨r0,h1,rfl⟩:=get j r hr
     exact hi.num j r0 h1
    ·obtain ⟨j,hj⟩:=List.getElem?_of_mem hr
     obtain ⟨r0,h1,rfl⟩:=get j r hj
     have hm:=List.mem_of_getElem? h1
     exact ⟨(hv.hist r0 hm).1,(hv.hist r0 hm).2,(hi.user r0 hm).1,(hi.user r0 hm).2,hmin r0 hm,hq,Int.le_refl _⟩
    ·rw [List.pairwise_iff_getElem]
     intro a b ha hb hab
     obtain ⟨ra,h1,e1⟩:=get a _ (List.getElem?_eq_getElem ha)
     obtain ⟨rb,h2,e2⟩:=get b _ (List.getElem?_eq_getElem hb)
     have:=pw_get hi.mono hab h1 h2
     rw [e1,e2]
     exact ⟨this,Int.le_refl _⟩
   refine tot_bind (insert_t s.pages _ (by omega)) fun r hr=>?_
   obtain ⟨m,hm,rfl,i1,i2⟩:=hr
   obtain ⟨o1,o2,o3⟩:=ins_ok h.pages h.sorted h.rule hst hno hne i1 i2
   exact tot_some (next_same (h.withPages (by rw [len_ins hm];omega) o1 o2 o3) rfl rfl)
 ·exact tot_ifD (fun _=>tot_some (next_err (by decide))) fun hc=>absurd (by omega) hc
end Go.Proofs.YtphibahplgmgfaaGreatDoor
namespace Go.Proofs.YtphibahplgmgfaaGreatDoor
open VL
set_option linter.unusedVariables false
theorem wlt_trans {a b c:Watch} (h:wlt a b) (k:wlt b c):wlt a c:=by
 rcases h with h | ⟨h1,h2⟩<;>rcases k with k | ⟨k1,k2⟩
 ·exact .inl (sltP_trans h k)
 ·exact .inl (k1 ▸ h)
 ·exact .inl (h1 ▸ k)
 ·exact .inr ⟨h1.trans k1,tlt_trans h2 k2⟩
theorem wlt_total {a b:Watch} (h:a≠b):wlt a b∨wlt b a:=by
 by_cases e:a.user=b.user
 ·rcases tlt_total (a:=a.title) (b:=b.title) (fun e2=>h (by cases a;cases b;simp_all)) with h2 | h2
  ·exact .inl (.inr ⟨e,h2⟩)
  ·exact .inr (.inr ⟨e.symm,h2⟩)
 ·rcases sltP_total e with h2 | h2
  ·exact .inl (.inl h2)
  ·exact .inr (.inl h2)
theorem name_of {u:ByteArray} (h:userOK u=true) (h0:u≠⟨#[]⟩):isName u=true:=by
 unfold userOK at h
 rw [decide_eq_false h0] at h
 simpa using h
theorem VS.withWatches {t0:ByteArray} {q:Int} {s:State} (h:VS t0 q s) {l:List Watch} (h1:l.length≤100) (h2:∀ w ∈ l,isName w.user=true∧w.title.valid=true) (h3:l.Pairwise wlt):VS t0 q ⟨s.seq,s.clock,s.pages,s.gone,s.proposals,s.proposed,l,s.lasts⟩:=
 ⟨h.seq0,h.clock0,h.clock1,h.plen,h.glen,h.pages,h.gone,h.sorted,h.rule,h.prlen,h.prop0,h.prop1,h.props,h.ids,h.prsort,h1,h2,h3,h.llen,h.lasts,h.lsort⟩
theorem VS.withLasts {t0:ByteArray} {q:Int} {s:State} (h:VS t0 q s) {l:List Last} (h1:l.length≤60) (h2:∀ w ∈ l,isName w.user=true∧1≤w.seq∧w.seq≤q) (h3:l.Pairwise fun a b=>sltP a.user b.user):VS t0 q ⟨s.seq,s.clock,s.pages,s.gone,s.proposals,s.proposed,s.watches,l⟩:=
 ⟨h.seq0,h.clock0,h.clock1,h.plen,h.glen,h.pages,h.gone,h.sorted,h.rule,h.prlen,h.prop0,h.prop1,h.props,h.ids,h.prsort,h.wlen,h.watches,h.wsort,h1,h2,h3⟩
theorem watch_tr (a b c:Watch) (h1:wlt a b) (h2:wlt b c):wlt a c:=wlt_trans h1 h2
theorem watch_t {t0:ByteArray} {q:Int} {s:State} {c:Change} (h:VS t0 q s) (hu:isName c.user=true) (ht:c.title.valid=true):Tot (r27_watch s c) (Next t0 q s):=by
 have hl:=h.wlen
 unfold r27_watch
 refine tot_loop (fun a:Int×List Watch=>∃ n:Nat,a.1=n∧n≤s.watches.length∧a.2=s.watches.take n∧∀ y ∈ s.watches.take n,wlt y ⟨c.user,c.title⟩) (fun a=>((s.watches.length:Int) - a.1).toNat) ⟨0,rfl,Nat.zero_le _,rfl,fun y h=>by simp at h⟩ (by first | omega | (dsimp only;omega)) ?_
 rintro ⟨i,out⟩ rec ⟨n,hi,hn,ho,hlt⟩ ih
 dsimp only at hi ho
 subst hi ho
 refine tot_let (fun k=>(∀ e,s.watches[n]? = some e→wlt e ⟨c.user,c.title⟩→Tot (k true) (Next t0 q s))∧((∀ y,s.watches[n]? = some y→¬ wlt y ⟨c.user,c.title⟩)→Tot (k false) (Next t0 q s))) ⟨fun e he hep=>?_,fun hne=>?_⟩ fun k hk=>?_
 ·have hln:=(List.getElem?_eq_some_iff.1 he).1
  refine tot_ifT rfl ?_
  refine tot_atI (by omega) (by omega) fun e' _ hg'=>?_
  rw [Int.toNat_natCast,he] at hg'
  injection hg' with hg'
  subst hg'
  refine tot_appL 2000000 (by simp;omega) (by decide) (by decide) ?_
  rw [take_succ he,w64_of (by omega) (by omega)]
  refine ih _ ⟨n+1,by dsimp only;omega,hln,rfl,fun y hy=>?_⟩ (by first | omega | (dsimp only;omega))
  rw [← take_succ he] at hy
  rcases List.mem_append.1 hy with hy | hy
  ·exact hlt y hy
  ·simp at hy
   rw [hy]
   exact hep
 ·refine tot_ifF rfl ?_
  refine tot_let (fun k=>(n<s.watches.length→Tot (k true) (Next t0 q s))∧((∀ y,s.watches[n]? = some y→y≠⟨c.user,c.title⟩)→Tot (k false) (Next t0 q s))) ⟨fun hnl=>?_,fun hnw=>?_⟩ fun k hk=>?_
  ·refine tot_ifD (fun _=>?_) fun _=>?_
   ·refine tot_ifF rfl ?_
    rw [w64_of (by omega) (by omega)]
    refine tot_bindE (subL_drop s.watches (n:=n+1) (by omega) hnl) ?_
    refine tot_appL 2000000 (by simp;omega) (by decide) (by decide) ?_
    exact tot_some (next_same (h.withWatches (by have:=len_del hnl;omega) (fun y hy=>h.watches y (mem_del hy)) (h.wsort.sublist (sublist_del _ _))) rfl rfl)
   ·exact tot_ifT rfl (tot_some (next_err (by decide)))
  ·refine tot_ifD (fun _=>?_) fun _=>?_
   ·exact tot_ifT rfl (tot_some (next_err (by decide)))
   ·refine tot_ifF rfl ?_
    refine tot_ifD (fun _=>tot_some (next_err (by decide))) fun hlen=>?_
    refine tot_appL 2000000 (by simp;omega) (by decide) (by decide) ?_
    refine tot_bindE (subL_drop s.watches rfl hn) ?_
    refine tot_appL 2000000 (by simp;omega) (by decide) (by decide) ?_
    rw [List.append_assoc]
    refine tot_some (next_same (h.withWatches ?_ (fun y hy=>?_) (sorted_ins (lt:=wlt) (x:=⟨c.user,c.title⟩) watch_tr h.wsort hlt fun y hy=>(wlt_total (hnw y hy)).resolve_left (hne y hy))) rfl rfl)
    ·have:=len_ins (x:=(⟨c.user,c.title⟩:Watch)) hn
     simp only [List.cons_append,List.nil_append]
     omega
    ·rcases mem_ins hy with rfl | hy
     ·exact ⟨hu,ht⟩
     ·exact h.watches y hy
  ·refine tot_ifD (fun h1=>?_) fun h1=>hk.2 fun y hy=>?_
   ·refine tot_atI (by omega) h1 fun e _ hg=>?_
    rw [Int.toNat_natCast] at hg
    by_cases he:e=⟨c.user,c.title⟩
    ·rw [decide_eq_true he]
     exact hk.1 (by omega)
    ·rw [decide_eq_false he]
     refine hk.2 fun y hy=>?_
     rw [hg] at hy
     injection hy with hy
     rw [← hy]
     exact he
   ·have:=(List.getElem?_eq_some_iff.1 hy).1
    omega
 ·refine tot_ifD (fun h1=>?_) fun h1=>hk.2 fun y hy=>?_
  ·refine tot_atI (by omega) h1 fun e _ hg=>?_
   rw [Int.toNat_natCast] at hg
   refine tot_bind (before_e e ⟨c.user,c.title⟩) fun b hb=>?_
   cases b
   ·refine hk.2 fun y hy=>?_
    rw [hg] at hy
    injection hy with hy
    rw [← hy]
    intro hw
    have:=hb.2 hw
    cases this
   ·exact hk.1 e hg (hb.1 rfl)
  ·have:=(List.getElem?_eq_some_iff.1 hy).1
   omega
theorem last_tr (a b c:Last) (h1:sltP a.user b.user) (h2:sltP b.user c.user):sltP a.user c.user:=sltP_trans h1 h2
theorem noted_t {t0:ByteArray} {q:Int} {s:State} {u:ByteArray} (h:VS t0 q s) (hq:1≤q) (hu:userOK u=true):Tot (r27_noted s u q) fun r=>r.2=0→VS t0 q r.1∧r.1.seq=s.seq∧r.1.clock=s.clock:=by
 have hl:=h.llen
 unfold r27_noted
 refine tot_ifD (fun _=>tot_some fun _=>⟨h,rfl,rfl⟩) fun h0=>?_
 have hn0:=name_of hu h0
 refine tot_loop (fun a:Int×List Last=>∃ n:Nat,a.1=n∧n≤s.lasts.length∧a.2=s.lasts.take n∧∀ y ∈ s.lasts.take n,sltP y.user u) (fun a=>((s.lasts.length:Int) - a.1).toNat) ⟨0,rfl,Nat.zero_le _,rfl,fun y h=>by simp at h⟩ (by first | omega | (dsimp only;omega)) ?_
 rintro ⟨i,out⟩ rec ⟨n,hi,hn,ho,hlt⟩ ih
 dsimp only at hi ho
 subst hi ho
 refine tot_let (fun k=>(∀ e,s.lasts[n]? = some e→sltP e.user u→Tot (k true) fun r=>r.2=0→VS t0 q r.1∧r.1.seq=s.seq∧r.1.clock=s.clock)∧((∀ y,s.lasts[n]? = some y→¬ sltP y.user u)→Tot (k false) fun r=>r.2=0→VS t0 q r.1∧r.1.seq=s.seq∧r.1.clock=s.clock)) ⟨fun e he hep=>?_,fun hne=>?_⟩ fun k hk=>?_
 ·have hln:=(List.getElem?_eq_some_iff.1 he).1
  refine tot_ifT rfl ?_
  refine tot_atI (by omega) (by omega) fun e' _ hg'=>?_
  rw [Int.toNat_natCast,he] at hg'
  injection hg' with hg'
  subst hg'
  refine tot_appL 2000000 (by simp;omega) (by decide) (by decide) ?_
  rw [take_succ he,w64_of (by omega) (by omega)]
  refine ih _ ⟨n+1,by dsimp only;omega,hln,rfl,fun y hy=>?_⟩ (by first | omega | (dsimp only;omega))
  rw [← take_succ he] at hy
  rcases List.mem_append.1 hy with hy | hy
  ·exact hlt y hy
  ·simp at hy
   rw [hy]
   exact hep
 ·refine tot_ifF rfl ?_
  refine tot_let (fun k=>(∀ e,s.lasts[n]? = some e→e.user=u→Tot (k true) fun r=>r.2=0→VS t0 q r.1∧r.1.seq=s.seq∧r.1.clock=s.clock)∧((∀ y,s.lasts[n]? = some y→y.user≠u)→Tot (k false) fun r=>r.2=0→VS t0 q r.1∧r.1.seq=s.seq∧r.1.clock=s.clock)) ⟨fun e he heu=>?_,fun hnw=>?_⟩ fun k hk=>?_
  ·have hln:=(List.getElem?_eq_some_iff.1 he).1
   refine tot_let0 ?_
   refine tot_ifF rfl ?_
   refine tot_ifF rfl ?_
   refine tot_appL 2000000 (by simp;omega) (by decide) (by decide) ?_
   refine tot_let0 ?_
   refine tot_ifT rfl ?_
   rw [w64_of (by omega) (by omega)]
   refine tot_bindE (subL_drop s.lasts (n:=n+1) (by omega) hln) ?_
   refine tot_appL 2000000 (by simp;omega) (by decide) (by decide) ?_
   rw [List.append_assoc]
   refine tot_some fun _=>⟨h.withLasts ?_ (fun y hy=>?_) (sorted_rep (lt:=fun a b:Last=>sltP a.user b.user) (x:=⟨u,q⟩) (y:=e) h.lsort he (fun z hz=>by rw [heu] at hz;exact hz) (fun z hz=>by rw [heu] at hz;exact hz)),rfl,rfl⟩
   ·simp
    omega
   ·rcases List.mem_append.1 hy with hy | hy
    ·exact h.lasts y (List.mem_of_mem_take hy)
    ·rcases List.mem_cons.1 hy with rfl | hy
     ·exact ⟨hn0,hq,Int.le_refl _⟩
     ·exact h.lasts y (List.mem_of_mem_drop hy)
  ·refine tot_let (fun k=>Tot (k true) (fun r=>r.2=0→VS t0 q r.1∧r.1.seq=s.seq∧r.1.clock=s.clock)∧(s.lasts.length<60→Tot (k false) fun r=>r.2=0→VS t0 q r.1∧r.1.seq=s.seq∧r.1.clock=s.clock)) ⟨tot_ifT rfl (tot_some fun e=>by cases e),fun hlen=>?_⟩ fun k hk=>?_
   ·refine tot_ifF rfl ?_
    refine tot_appL 2000000 (by simp;omega) (by decide) (by decide) ?_
    refine tot_let0 ?_
    refine tot_ifF rfl ?_
    refine tot_bindE (subL_drop s.lasts rfl hn) ?_
    refine tot_appL 2000000 (by simp;omega) (by decide) (by decide) ?_
    rw [List.append_assoc]
    refine tot_some fun _=>⟨h.withLasts ?_ (fun y hy=>?_) (sorted_ins (lt:=fun a b:Last=>sltP a.user b.user) last_tr h.lsort hlt fun y hy=>(sltP_total (hnw y hy)).resolve_left (hne y hy)),rfl,rfl⟩
    ·have:=len_ins (x:=(⟨u,q⟩:Last)) hn
     simp only [List.cons_append,List.nil_append]
     omega
    ·rcases mem_ins hy with rfl | hy
     ·exact ⟨hn0,hq,Int.le_refl _⟩
     ·exact h.lasts y hy
   ·refine tot_ifT rfl ?_
    by_cases h2:60≤(s.lasts.length:Int)
    ·rw [decide_eq_true h2];exact hk.1
    ·rw [decide_eq_false h2];exact hk.2 (by omega)
  ·refine tot_ifD (fun h1=>?_) fun h1=>hk.2 fun y hy=>?_
   ·refine tot_atI (by omega) h1 fun e _ hg=>?_
    rw [Int.toNat_natCast] at hg
    by_cases he:e.user=u
    ·rw [decide_eq_true he]
     exact hk.1 e hg he
    ·rw [decide_eq_false he]
     refine hk.2 fun y hy=>?_
     rw [hg] at hy
     injection hy with hy
     rw [← hy]
     exact he
   ·have:=(List.getElem?_eq_some_iff.1 hy).1
    omega
 ·refine tot_ifD (fun h1=>?_) fun h1=>hk.2 fun y hy=>?_
  ·refine tot_atI (by omega) h1 fun e _ hg=>?_
   rw [Int.toNat_natCast] at hg
   rcases Bool.eq_false_or_eq_true (ltS e.user u) with hb | hb
   ·rw [hb];exact hk.1 e hg hb
   ·rw [hb]
    refine hk.2 fun y hy=>?_
    rw [hg] at hy
    injection hy with hy
    rw [← hy]
    intro hw
    unfold sltP at hw
    rw [hb] at hw
    cases hw
  ·have:=(List.getElem?_eq_some_iff.1 hy).1
   omega
theorem propose_t {t0:ByteArray} {q:Int} {s:State} {c:Change} (h:VS t0 q s) (hv:CV c) (h9:c.kind=9):Tot (r27_propose s c) (Next t0 q s):=by
 have hl:=h.prlen
 have h0:=h.prop0
 have h1:=h.prop1
 have hn:=hv.prop h9
 have ht:=hv.title (by omega) (by omega)
 unfold r27_propose
 refine tot_let (fun k=>Tot (k true) (Next t0 q s)∧(s.proposals.length<40→s.proposed<1073741824→Tot (k false) (Next t0 q s))) ⟨tot_ifT rfl (tot_some (next_err (by decide))),fun a1 a2=>?_⟩ fun k hk=>?_
 ·refine tot_ifF rfl ?_
  refine tot_appL 2000000 (by simp;omega) (by decide) (by decide) ?_
  refine tot_appL 2000000 (by simp;omega) (by decide) (by decide) ?_
  rw [nil_app,w64_of (by omega) (by omega)]
  have c0:=h.clock0
  refine tot_some (next_same ⟨h.seq0,h.clock0,h.clock1,h.plen,h.glen,h.pages,h.gone,h.sorted,h.rule,by simp;omega,by show 0≤s.proposed+1;omega,by show s.proposed+1≤_;omega,fun p hp=>?_,fun p hp=>?_,?_,h.wlen,h.watches,h.wsort,h.llen,h.lasts,h.lsort⟩ rfl rfl)
  ·rcases List.mem_append.1 hp with hp | hp
   ·exact (h.props p hp).mono (Int.le_refl _) (by show s.proposed≤s.proposed+1;omega)
   ·simp at hp
    subst hp
    exact ⟨Int.le_refl _,hv.user,ht,hn.1,hn.2,hv.text,hv.note,h.clock0,Int.le_refl _⟩
  ·rcases List.mem_append.1 hp with hp | hp
   ·exact h.ids p hp
   ·simp at hp
    subst hp
    show 1≤s.proposed+1
    omega
  ·refine List.pairwise_append.2 ⟨h.prsort,List.pairwise_singleton ..,fun a ha b hb=>?_⟩
   simp at hb
   subst hb
   have:=(h.props a ha).id1
   show a.id<s.proposed+1
   omega
 ·refine tot_ifD (fun _=>hk.1) fun a=>?_
  by_cases h2:1073741824≤s.proposed
  ·rw [decide_eq_true h2];exact hk.1
  ·rw [decide_eq_false h2];exact hk.2 (by omega) (by omega)
theorem kind_t {t0:ByteArray} {q:Int} {s:State} {c:Change} (h:VS t0 q s) (hq:1≤q) (hv:CV c) (hc:c.tame):Tot (r27_kind s c q) (Next t0 q s):=by
 have k1:=hv.kind1
 have k2:=hv.kind2
 have c0:=h.clock0
 have c1:=h.clock1
 unfold r27_kind
 refine tot_ifD (fun e=>?_) fun e1=>?_
 ·exact tot_bind (put_t h hq hv (hv.title (by omega) (by omega)) hc.title) fun r hr=>tot_some hr
 refine tot_ifD (fun e=>?_) fun e2=>?_
 ·exact tot_bind (remove_t h) fun r hr=>tot_some hr
 refine tot_ifD (fun e=>?_) fun e3=>?_
 ·exact tot_bind (restore_t h hc.title) fun r hr=>tot_some hr
 refine tot_ifD (fun e=>?_) fun e4=>?_
 ·exact tot_bind (move_t h hq hv (hv.title (by omega) (by omega)) (hv.dest e) hc.title hc.to) fun r hr=>tot_some hr
 refine tot_ifD (fun e=>?_) fun e5=>?_
 ·exact tot_bind (take_t h hq hv (hv.imp e) (hv.title (by omega) (by omega)) hc.title) fun r hr=>tot_some hr
 refine tot_ifD (fun e=>?_) fun e6=>?_
 ·have n1:=hv.tick e
  have n2:=hc.n1
  rw [w64_of (by omega) (by omega)]
  refine tot_ifD (fun _=>tot_some (next_err (by decide))) fun hlt=>?_
  rw [w64_of (by omega) (by omega)]
  have hcl:s.clock≤s.clock+c.n:=by omega
  refine tot_some fun _=>⟨⟨h.seq0,by show 0≤s.clock+c.n;omega,by show s.clock+c.n≤_;omega,h.plen,h.glen,fun p hp=>(h.pages p hp).mono hcl (Int.le_refl _),fun p hp=>(h.gone p hp).mono hcl (Int.le_refl _),h.sorted,h.rule,h.prlen,h.prop0,h.prop1,fun p hp=>(h.props p hp).mono hcl (Int.le_refl _),h.ids,h.prsort,h.wlen,h.watches,h.wsort,h.llen,h.lasts,h.lsort⟩,rfl,hcl,?_⟩
  show s.clock+c.n≤s.clock+2000
  omega
 refine tot_let (fun k=>(c.kind=7∨c.kind=8→Tot (k true) (Next t0 q s))∧(¬ (c.kind=7∨c.kind=8)→Tot (k false) (Next t0 q s))) ⟨fun hw=>?_,fun hw=>?_⟩ fun k hk=>?_
 ·refine tot_ifT rfl ?_
  exact tot_bind (watch_t h (name_of hv.user (hv.watch hw)) (hv.title (by omega) (by omega))) fun r hr=>tot_some hr
 ·refine tot_ifF rfl ?_
  refine tot_ifD (fun e=>?_) fun e9=>?_
  ·exact tot_bind (propose_t h hv e) fun r hr=>tot_some hr
  ·refine tot_bind (shut_t s c (by have:=h.prlen;omega)) fun r hr=>tot_some ?_
   intro h0
   obtain ⟨l,hs,e⟩:=hr h0
   rw [e]
   exact ⟨h.withProps hs,rfl,Int.le_refl _,by show s.clock≤s.clock+2000;omega⟩
 ·refine tot_ifD (fun e=>?_) fun e7=>?_
  ·rw [decide_eq_true e];exact hk.1 (.inl e)
  ·by_cases e8:c.kind=8
   ·rw [decide_eq_true e8];exact hk.1 (.inr e8)
   ·rw [decide_eq_false e8];exact hk.2 (by omega)
theorem forbidden_t (c:Change) (hc:c.tame):Tot (r27_forbidden c) fun _=>True:=by
 unfold r27_forbidden
 refine tot_ifD (fun e=>?_) fun e=>?_
 ·refine tot_bindE (v:=policyT) rfl ?_
  exact tot_ifN (fun _=>tot_some trivial) fun e2=>absurd e2 hc.title
 refine tot_let (fun k=>∀ b,Tot (k b) fun _=>True) (fun b=>?_) fun k hk=>?_
 ·refine tot_if (fun _=>?_) fun _=>?_
  ·refine tot_bindE (v:=policyT) rfl ?_
   exact tot_some trivial
  ·refine tot_ifD (fun e4=>?_) fun e4=>tot_some trivial
   refine tot_let (fun k=>∀ b,Tot (k b) fun _=>True) (fun b=>tot_some trivial) fun k hk=>?_
   refine tot_bindE (v:=policyT) rfl ?_
   refine tot_ifD (fun _=>hk _) fun _=>?_
   refine tot_bindE (v:=policyT) rfl ?_
   exact hk _
 ·exact tot_ifD (fun _=>hk _) fun _=>tot_ifD (fun _=>hk _) fun _=>hk _
theorem apply_t {t0:ByteArray} {s:State} {l:List Change} (h:VS t0 s.seq s) (hs:s.seq<1073741824) (hp:∃ p n,r12_Parse t0=some (p,n,0)) (hl:∀ c ∈ l,c.tame) (hn:l.length≤16):Tot (r27_Apply s l) fun r=>r.2=0→VS t0 r.1.seq r.1∧r.1.seq=s.seq+1∧s.clock≤r.1.clock∧r.1.clock≤s.clock+2000 * (l.length:Int):=by
 have s0:=h.seq0
 unfold r27_Apply
 refine tot_bindE (valid_e t0 s h (by omega) hp) ?_
 refine tot_ifF rfl ?_
 have e1:w64 (s.seq+1)=s.seq+1:=w64_of (by omega) (by omega)
 refine tot_let (fun k=>Tot (k true) (fun r=>r.2=0→VS t0 r.1.seq r.1∧r.1.seq=s.seq+1∧s.clock≤r.1.clock∧r.1.clock≤s.clock+2000 * (l.length:Int))∧Tot (k false) (fun r=>r.2=0→VS t0 r.1.seq r.1∧r.1.seq=s.seq+1∧s.clock≤r.1.clock∧r.1.clock≤s.clock+2000 * (l.length:Int))) ⟨tot_ifT rfl (tot_some fun e=>by cases e),?_⟩ fun k hk=>?_
 ·refine tot_ifF rfl ?_
  refine tot_loop (fun a:Int×Int×Int×List Stored×List Stored×List Proposal×Int×List Watch×List Last=>∃ n:Nat,a.1=n∧n≤l.length∧VS t0 (s.seq+1) ⟨a.2.1,a.2.2.1,a.2.2.2.1,a.2.2.2.2.1,a.2.2.2.2.2.1,a.2.2.2.2.2.2.1,a.2.2.2.2.2.2.2.1,a.2.2.2.2.2.2.2.2⟩∧a.2.1=s.seq∧s.clock≤a.2.2.1∧a.2.2.1≤s.clock+2000 * (n:Int)) (fun a=>((l.length:Int) - a.1).toNat) ⟨0,rfl,Nat.zero_le _,h.mono (by omega),rfl,Int.le_refl _,by simp⟩ (by first | omega | (dsimp only;omega)) ?_
  rintro ⟨i,sq,cl,pg,gn,pr,pd,wt,ls⟩ rec ⟨n,hi,hn',hV,hsq,hc0,hc1⟩ ih
  dsimp only at hi hV hsq hc0 hc1
  subst hi hsq
  rw [e1]
  refine tot_ifD (fun hlt=>?_) fun hlt=>?_
  ·refine tot_atI (by omega) hlt fun c hcm hg=>?_
   have get:∀ {f:Change→Option (State×Int)} {R:State×Int→Prop},Tot (f c) R→Tot ((atI l (n:Int)).bind f) R:=fun hf=>tot_bindE (atI_some (by simpa using hg)) hf
   have tame:=hl c hcm
   refine tot_bind (changeV_t c (by have:=tame.hist;omega)) fun e he=>?_
   refine tot_ifN (fun hne=>tot_some fun e0=>absurd e0 hne) fun h0=>?_
   have cv:=he h0
   refine get ?_
   refine tot_bind (kind_t hV (by omega) cv tame) fun r hr=>?_
   refine tot_ifN (fun hne=>tot_some fun e0=>absurd e0 hne) fun h0=>?_
   obtain ⟨k1,k2,k3,k4⟩:=hr h0
   refine get ?_
   refine tot_bind (forbidden_t c tame) fun b _=>?_
   refine tot_if (fun _=>tot_some fun e0=>by cases e0) fun _=>?_
   refine get ?_
   refine tot_bind (noted_t k1 (by omega) cv.user) fun r2 hr2=>?_
   refine tot_ifN (fun hne=>tot_some fun e0=>absurd e0 hne) fun h0=>?_
   obtain ⟨m1,m2,m3⟩:=hr2 h0
   rw [w64_of (by omega) (by omega)]
   refine ih _ ⟨n+1,by dsimp only;omega,by omega,m1,?_,?_,?_⟩ (by first | omega | (dsimp only;omega))
   ·dsimp only at k2 ⊢
    omega
   ·dsimp only at k3 ⊢
    omega
   ·dsimp only at k4 ⊢
    omega
  ·refine tot_ifD (fun hc=>absurd hc (by omega)) fun _=>tot_some fun _=>?_
   refine ⟨⟨by show 0≤s.seq+1;omega,hV.clock0,hV.clock1,hV.plen,hV.glen,hV.pages,hV.gone,hV.sorted,hV.rule,hV.prlen,hV.prop0,hV.prop1,hV.props,hV.ids,hV.prsort,hV.wlen,hV.watches,hV.wsort,hV.llen,hV.lasts,hV.lsort⟩,rfl,hc0,?_⟩
   show cl≤_
   have:(n:Int)≤l.length:=by omega
   omega
 ·refine tot_ifD (fun _=>hk.1) fun h1=>?_
  rw [decide_eq_false (by omega)]
  exact hk.2
end Go.Proofs.YtphibahplgmgfaaGreatDoor
namespace Go.Proofs.YtphibahplgmgfaaGreatDoor
open VL
set_option linter.unusedVariables false
def polS0:Policy:=⟨[],[],[]⟩
def polS1:Policy:=⟨[],[⟨true,1,⟨#[97,108,108]⟩,⟨1,⟨0,⟨#[]⟩⟩⟩⟩],[]⟩
def polS2:Policy:=⟨[],[⟨true,1,⟨#[97,108,108]⟩,⟨1,⟨0,⟨#[]⟩⟩⟩⟩,⟨true,2,⟨#[97,108,108]⟩,⟨1,⟨0,⟨#[]⟩⟩⟩⟩],[]⟩
def polS3:Policy:=⟨[],[⟨true,1,⟨#[97,108,108]⟩,⟨1,⟨0,⟨#[]⟩⟩⟩⟩,⟨true,2,⟨#[97,108,108]⟩,⟨1,⟨0,⟨#[]⟩⟩⟩⟩,⟨true,3,⟨#[97,108,108]⟩,⟨1,⟨0,⟨#[]⟩⟩⟩⟩],[]⟩
def polS4:Policy:=⟨[],[⟨true,1,⟨#[97,108,108]⟩,⟨1,⟨0,⟨#[]⟩⟩⟩⟩,⟨true,2,⟨#[97,108,108]⟩,⟨1,⟨0,⟨#[]⟩⟩⟩⟩,⟨true,3,⟨#[97,108,108]⟩,⟨1,⟨0,⟨#[]⟩⟩⟩⟩,⟨true,4,⟨#[97,108,108]⟩,⟨1,⟨0,⟨#[]⟩⟩⟩⟩],[]⟩
def polS5:Policy:=⟨[],[⟨true,1,⟨#[97,108,108]⟩,⟨1,⟨0,⟨#[]⟩⟩⟩⟩,⟨true,2,⟨#[97,108,108]⟩,⟨1,⟨0,⟨#[]⟩⟩⟩⟩,⟨true,3,⟨#[97,108,108]⟩,⟨1,⟨0,⟨#[]⟩⟩⟩⟩,⟨true,4,⟨#[97,108,108]⟩,⟨1,⟨0,⟨#[]⟩⟩⟩⟩,⟨true,5,⟨#[97,108,108]⟩,⟨1,⟨0,⟨#[]⟩⟩⟩⟩],[]⟩
def polS6:Policy:=⟨[⟨⟨#[115,116,97,102,102]⟩,[⟨#[97,110,110]⟩]⟩],[⟨true,1,⟨#[97,108,108]⟩,⟨1,⟨0,⟨#[]⟩⟩⟩⟩,⟨true,2,⟨#[97,108,108]⟩,⟨1,⟨0,⟨#[]⟩⟩⟩⟩,⟨true,3,⟨#[97,108,108]⟩,⟨1,⟨0,⟨#[]⟩⟩⟩⟩,⟨true,4,⟨#[97,108,108]⟩,⟨1,⟨0,⟨#[]⟩⟩⟩⟩,⟨true,5,⟨#[97,108,108]⟩,⟨1,⟨0,⟨#[]⟩⟩⟩⟩],[]⟩
def polS7:Policy:=⟨[⟨⟨#[115,116,97,102,102]⟩,[⟨#[97,110,110]⟩]⟩],[⟨true,1,⟨#[97,108,108]⟩,⟨1,⟨0,⟨#[]⟩⟩⟩⟩,⟨true,2,⟨#[97,108,108]⟩,⟨1,⟨0,⟨#[]⟩⟩⟩⟩,⟨true,3,⟨#[97,108,108]⟩,⟨1,⟨0,⟨#[]⟩⟩⟩⟩,⟨true,4,⟨#[97,108,108]⟩,⟨1,⟨0,⟨#[]⟩⟩⟩⟩,⟨true,5,⟨#[97,108,108]⟩,⟨1,⟨0,⟨#[]⟩⟩⟩⟩,⟨false,1,⟨#[97,108,108]⟩,⟨3,⟨0,⟨#[65]⟩⟩⟩⟩],[]⟩
def polS8:Policy:=⟨[⟨⟨#[115,116,97,102,102]⟩,[⟨#[97,110,110]⟩]⟩],[⟨true,1,⟨#[97,108,108]⟩,⟨1,⟨0,⟨#[]⟩⟩⟩⟩,⟨true,2,⟨#[97,108,108]⟩,⟨1,⟨0,⟨#[]⟩⟩⟩⟩,⟨true,3,⟨#[97,108,108]⟩,⟨1,⟨0,⟨#[]⟩⟩⟩⟩,⟨true,4,⟨#[97,108,108]⟩,⟨1,⟨0,⟨#[]⟩⟩⟩⟩,⟨true,5,⟨#[97,108,108]⟩,⟨1,⟨0,⟨#[]⟩⟩⟩⟩,⟨false,1,⟨#[97,108,108]⟩,⟨3,⟨0,⟨#[65]⟩⟩⟩⟩,⟨true,1,⟨#[115,116,97,102,102]⟩,⟨3,⟨0,⟨#[65,47,67]⟩⟩⟩⟩],[]⟩
def polS9:Policy:=⟨[⟨⟨#[115,116,97,102,102]⟩,[⟨#[97,110,110]⟩]⟩],[⟨true,1,⟨#[97,108,108]⟩,⟨1,⟨0,⟨#[]⟩⟩⟩⟩,⟨true,2,⟨#[97,108,108]⟩,⟨1,⟨0,⟨#[]⟩⟩⟩⟩,⟨true,3,⟨#[97,108,108]⟩,⟨1,⟨0,⟨#[]⟩⟩⟩⟩,⟨true,4,⟨#[97,108,108]⟩,⟨1,⟨0,⟨#[]⟩⟩⟩⟩,⟨true,5,⟨#[97,108,108]⟩,⟨1,⟨0,⟨#[]⟩⟩⟩⟩],[⟨false,⟨#[115,116,97,102,102]⟩,⟨0,⟨#[65]⟩⟩,⟨#[83]⟩⟩]⟩
def polS10:Policy:=⟨[⟨⟨#[115,116,97,102,102]⟩,[⟨#[97,110,110]⟩]⟩],[⟨true,1,⟨#[97,108,108]⟩,⟨1,⟨0,⟨#[]⟩⟩⟩⟩,⟨true,2,⟨#[97,108,108]⟩,⟨1,⟨0,⟨#[]⟩⟩⟩⟩,⟨true,3,⟨#[97,108,108]⟩,⟨1,⟨0,⟨#[]⟩⟩⟩⟩,⟨true,4,⟨#[97,108,108]⟩,⟨1,⟨0,⟨#[]⟩⟩⟩⟩,⟨true,5,⟨#[97,108,108]⟩,⟨1,⟨0,⟨#[]⟩⟩⟩⟩],[⟨false,⟨#[115,116,97,102,102]⟩,⟨0,⟨#[65]⟩⟩,⟨#[83]⟩⟩,⟨true,⟨#[115,116,97,102,102]⟩,⟨3,⟨#[84]⟩⟩,⟨#[]⟩⟩]⟩
def polS11:Policy:=⟨[⟨⟨#[115,116,97,102,102]⟩,[⟨#[97,110,110]⟩]⟩],[⟨true,1,⟨#[97,108,108]⟩,⟨1,⟨0,⟨#[]⟩⟩⟩⟩,⟨true,2,⟨#[97,108,108]⟩,⟨1,⟨0,⟨#[]⟩⟩⟩⟩,⟨true,3,⟨#[97,108,108]⟩,⟨1,⟨0,⟨#[]⟩⟩⟩⟩,⟨true,4,⟨#[97,108,108]⟩,⟨1,⟨0,⟨#[]⟩⟩⟩⟩,⟨true,5,⟨#[97,108,108]⟩,⟨1,⟨0,⟨#[]⟩⟩⟩⟩],[⟨false,⟨#[115,116,97,102,102]⟩,⟨0,⟨#[65]⟩⟩,⟨#[83]⟩⟩,⟨true,⟨#[115,116,97,102,102]⟩,⟨3,⟨#[84]⟩⟩,⟨#[]⟩⟩,⟨false,⟨#[115,116,97,102,102]⟩,⟨0,⟨#[66]⟩⟩,⟨#[]⟩⟩]⟩
def polS12:Policy:=⟨[⟨⟨#[115,116,97,102,102]⟩,[⟨#[97,110,110]⟩,⟨#[64,109,111,114,101]⟩]⟩],[],[]⟩
def polS13:Policy:=⟨[⟨⟨#[115,116,97,102,102]⟩,[⟨#[97,110,110]⟩,⟨#[64,109,111,114,101]⟩]⟩,⟨⟨#[109,111,114,101]⟩,[⟨#[98,111,98]⟩]⟩],[],[]⟩
def polS14:Policy:=⟨[⟨⟨#[115,116,97,102,102]⟩,[⟨#[97,110,110]⟩,⟨#[64,109,111,114,101]⟩]⟩,⟨⟨#[109,111,114,101]⟩,[⟨#[98,111,98]⟩]⟩],[⟨true,1,⟨#[97,108,108]⟩,⟨2,⟨0,⟨#[]⟩⟩⟩⟩],[]⟩
def polS15:Policy:=⟨[⟨⟨#[115,116,97,102,102]⟩,[⟨#[97,110,110]⟩,⟨#[64,109,111,114,101]⟩]⟩,⟨⟨#[109,111,114,101]⟩,[⟨#[98,111,98]⟩]⟩],[⟨true,1,⟨#[97,108,108]⟩,⟨2,⟨0,⟨#[]⟩⟩⟩⟩,⟨true,1,⟨#[97,108,108]⟩,⟨2,⟨3,⟨#[]⟩⟩⟩⟩],[]⟩
def polS16:Policy:=⟨[⟨⟨#[115,116,97,102,102]⟩,[⟨#[97,110,110]⟩,⟨#[64,109,111,114,101]⟩]⟩,⟨⟨#[109,111,114,101]⟩,[⟨#[98,111,98]⟩]⟩],[⟨true,1,⟨#[97,108,108]⟩,⟨2,⟨0,⟨#[]⟩⟩⟩⟩,⟨true,1,⟨#[97,108,108]⟩,⟨2,⟨3,⟨#[]⟩⟩⟩⟩,⟨true,1,⟨#[97,108,108]⟩,⟨2,⟨4,⟨#[]⟩⟩⟩⟩],[]⟩
def polS17:Policy:=⟨[⟨⟨#[115,116,97,102,102]⟩,[⟨#[97,110,110]⟩,⟨#[64,109,111,114,101]⟩]⟩,⟨⟨#[109,111,114,101]⟩,[⟨#[98,111,98]⟩]⟩],[⟨true,1,⟨#[97,108,108]⟩,⟨2,⟨0,⟨#[]⟩⟩⟩⟩,⟨true,1,⟨#[97,108,108]⟩,⟨2,⟨3,⟨#[]⟩⟩⟩⟩,⟨true,1,⟨#[97,108,108]⟩,⟨2,⟨4,⟨#[]⟩⟩⟩⟩,⟨true,2,⟨#[117,115,101,114,115]⟩,⟨2,⟨0,⟨#[]⟩⟩⟩⟩],[]⟩
def polS18:Policy:=⟨[⟨⟨#[115,116,97,102,102]⟩,[⟨#[97,110,110]⟩,⟨#[64,109,111,114,101]⟩]⟩,⟨⟨#[109,111,114,101]⟩,[⟨#[98,111,98]⟩]⟩],[⟨true,1,⟨#[97,108,108]⟩,⟨2,⟨0,⟨#[]⟩⟩⟩⟩,⟨true,1,⟨#[97,108,108]⟩,⟨2,⟨3,⟨#[]⟩⟩⟩⟩,⟨true,1,⟨#[97,108,108]⟩,⟨2,⟨4,⟨#[]⟩⟩⟩⟩,⟨true,2,⟨#[117,115,101,114,115]⟩,⟨2,⟨0,⟨#[]⟩⟩⟩⟩,⟨true,2,⟨#[115,116,97,102,102]⟩,⟨2,⟨4,⟨#[]⟩⟩⟩⟩],[]⟩
def polS19:Policy:=⟨[⟨⟨#[115,116,97,102,102]⟩,[⟨#[97,110,110]⟩,⟨#[64,109,111,114,101]⟩]⟩,⟨⟨#[109,111,114,101]⟩,[⟨#[98,111,98]⟩]⟩],[⟨true,1,⟨#[97,108,108]⟩,⟨2,⟨0,⟨#[]⟩⟩⟩⟩,⟨true,1,⟨#[97,108,108]⟩,⟨2,⟨3,⟨#[]⟩⟩⟩⟩,⟨true,1,⟨#[97,108,108]⟩,⟨2,⟨4,⟨#[]⟩⟩⟩⟩,⟨true,2,⟨#[117,115,101,114,115]⟩,⟨2,⟨0,⟨#[]⟩⟩⟩⟩,⟨true,2,⟨#[115,116,97,102,102]⟩,⟨2,⟨4,⟨#[]⟩⟩⟩⟩,⟨true,5,⟨#[115,116,97,102,102]⟩,⟨1,⟨0,⟨#[]⟩⟩⟩⟩],[]⟩
def polS20:Policy:=⟨[⟨⟨#[115,116,97,102,102]⟩,[⟨#[97,110,110]⟩,⟨#[64,109,111,114,101]⟩]⟩,⟨⟨#[109,111,114,101]⟩,[⟨#[98,111,98]⟩]⟩],[⟨true,1,⟨#[97,108,108]⟩,⟨2,⟨0,⟨#[]⟩⟩⟩⟩,⟨true,1,⟨#[97,108,108]⟩,⟨2,⟨3,⟨#[]⟩⟩⟩⟩,⟨true,1,⟨#[97,108,108]⟩,⟨2,⟨4,⟨#[]⟩⟩⟩⟩,⟨true,2,⟨#[117,115,101,114,115]⟩,⟨2,⟨0,⟨#[]⟩⟩⟩⟩,⟨true,2,⟨#[115,116,97,102,102]⟩,⟨2,⟨4,⟨#[]⟩⟩⟩⟩,⟨true,5,⟨#[115,116,97,102,102]⟩,⟨1,⟨0,⟨#[]⟩⟩⟩⟩,⟨true,3,⟨#[115,116,97,102,102]⟩,⟨1,⟨0,⟨#[]⟩⟩⟩⟩],[]⟩
def polS21:Policy:=⟨[⟨⟨#[115,116,97,102,102]⟩,[⟨#[97,110,110]⟩,⟨#[64,109,111,114,101]⟩]⟩,⟨⟨#[109,111,114,101]⟩,[⟨#[98,111,98]⟩]⟩],[⟨true,1,⟨#[97,108,108]⟩,⟨2,⟨0,⟨#[]⟩⟩⟩⟩,⟨true,1,⟨#[97,108,108]⟩,⟨2,⟨3,⟨#[]⟩⟩⟩⟩,⟨true,1,⟨#[97,108,108]⟩,⟨2,⟨4,⟨#[]⟩⟩⟩⟩,⟨true,2,⟨#[117,115,101,114,115]⟩,⟨2,⟨0,⟨#[]⟩⟩⟩⟩,⟨true,2,⟨#[115,116,97,102,102]⟩,⟨2,⟨4,⟨#[]⟩⟩⟩⟩,⟨true,5,⟨#[115,116,97,102,102]⟩,⟨1,⟨0,⟨#[]⟩⟩⟩⟩,⟨true,3,⟨#[115,116,97,102,102]⟩,⟨1,⟨0,⟨#[]⟩⟩⟩⟩,⟨true,4,⟨#[115,116,97,102,102]⟩,⟨1,⟨0,⟨#[]⟩⟩⟩⟩],[]⟩
def polS22:Policy:=⟨[⟨⟨#[115,116,97,102,102]⟩,[⟨#[97,110,110]⟩,⟨#[64,109,111,114,101]⟩]⟩,⟨⟨#[109,111,114,101]⟩,[⟨#[98,111,98]⟩]⟩],[⟨true,1,⟨#[97,108,108]⟩,⟨2,⟨0,⟨#[]⟩⟩⟩⟩,⟨true,1,⟨#[97,108,108]⟩,⟨2,⟨3,⟨#[]⟩⟩⟩⟩,⟨true,1,⟨#[97,108,108]⟩,⟨2,⟨4,⟨#[]⟩⟩⟩⟩,⟨true,2,⟨#[117,115,101,114,115]⟩,⟨2,⟨0,⟨#[]⟩⟩⟩⟩,⟨true,2,⟨#[115,116,97,102,102]⟩,⟨2,⟨4,⟨#[]⟩⟩⟩⟩,⟨true,5,⟨#[115,116,97,102,102]⟩,⟨1,⟨0,⟨#[]⟩⟩⟩⟩,⟨true,3,⟨#[115,116,97,102,102]⟩,⟨1,⟨0,⟨#[]⟩⟩⟩⟩,⟨true,4,⟨#[115,116,97,102,102]⟩,⟨1,⟨0,⟨#[]⟩⟩⟩⟩,⟨true,1,⟨#[115,116,97,102,102]⟩,⟨1,⟨0,⟨#[]⟩⟩⟩⟩],[]⟩
def polS23:Policy:=⟨[⟨⟨#[115,116,97,102,102]⟩,[⟨#[97,110,110]⟩,⟨#[64,109,111,114,101]⟩]⟩,⟨⟨#[109,111,114,101]⟩,[⟨#[98,111,98]⟩]⟩],[⟨true,1,⟨#[97,108,108]⟩,⟨2,⟨0,⟨#[]⟩⟩⟩⟩,⟨true,1,⟨#[97,108,108]⟩,⟨2,⟨3,⟨#[]⟩⟩⟩⟩,⟨true,1,⟨#[97,108,108]⟩,⟨2,⟨4,⟨#[]⟩⟩⟩⟩,⟨true,2,⟨#[117,115,101,114,115]⟩,⟨2,⟨0,⟨#[]⟩⟩⟩⟩,⟨true,2,⟨#[115,116,97,102,102]⟩,⟨2,⟨4,⟨#[]⟩⟩⟩⟩,⟨true,5,⟨#[115,116,97,102,102]⟩,⟨1,⟨0,⟨#[]⟩⟩⟩⟩,⟨true,3,⟨#[115,116,97,102,102]⟩,⟨1,⟨0,⟨#[]⟩⟩⟩⟩,⟨true,4,⟨#[115,116,97,102,102]⟩,⟨1,⟨0,⟨#[]⟩⟩⟩⟩,⟨true,1,⟨#[115,116,97,102,102]⟩,⟨1,⟨0,⟨#[]⟩⟩⟩⟩,⟨true,2,⟨#[115,116,97,102,102]⟩,⟨1,⟨0,⟨#[]⟩⟩⟩⟩],[]⟩
def polS24:Policy:=⟨[],[⟨true,1,⟨#[97,108,108]⟩,⟨1,⟨0,⟨#[]⟩⟩⟩⟩,⟨true,2,⟨#[97,108,108]⟩,⟨1,⟨0,⟨#[]⟩⟩⟩⟩,⟨true,3,⟨#[97,108,108]⟩,⟨1,⟨0,⟨#[]⟩⟩⟩⟩,⟨true,4,⟨#[97,108,108]⟩,⟨1,⟨0,⟨#[]⟩⟩⟩⟩,⟨true,5,⟨#[97,108,108]⟩,⟨1,⟨0,⟨#[]⟩⟩⟩⟩,⟨false,1,⟨#[97,108,108]⟩,⟨3,⟨0,⟨#[66]⟩⟩⟩⟩],[]⟩
def polS25:Policy:=⟨[],[⟨true,1,⟨#[97,108,108]⟩,⟨1,⟨0,⟨#[]⟩⟩⟩⟩,⟨true,2,⟨#[97,108,108]⟩,⟨1,⟨0,⟨#[]⟩⟩⟩⟩,⟨true,3,⟨#[97,108,108]⟩,⟨1,⟨0,⟨#[]⟩⟩⟩⟩,⟨true,4,⟨#[97,108,108]⟩,⟨1,⟨0,⟨#[]⟩⟩⟩⟩,⟨true,5,⟨#[97,108,108]⟩,⟨1,⟨0,⟨#[]⟩⟩⟩⟩,⟨false,1,⟨#[97,108,108]⟩,⟨3,⟨0,⟨#[66]⟩⟩⟩⟩,⟨false,1,⟨#[97,108,108]⟩,⟨3,⟨4,⟨#[89]⟩⟩⟩⟩],[]⟩
def polS26:Policy:=⟨[],[⟨true,1,⟨#[97,108,108]⟩,⟨1,⟨0,⟨#[]⟩⟩⟩⟩,⟨true,2,⟨#[97,108,108]⟩,⟨1,⟨0,⟨#[]⟩⟩⟩⟩,⟨true,3,⟨#[97,108,108]⟩,⟨1,⟨0,⟨#[]⟩⟩⟩⟩,⟨true,4,⟨#[97,108,108]⟩,⟨1,⟨0,⟨#[]⟩⟩⟩⟩,⟨true,5,⟨#[97,108,108]⟩,⟨1,⟨0,⟨#[]⟩⟩⟩⟩,⟨false,2,⟨#[97,108,108]⟩,⟨3,⟨0,⟨#[66]⟩⟩⟩⟩],[]⟩
def polS27:Policy:=⟨[],[⟨true,1,⟨#[97,108,108]⟩,⟨1,⟨0,⟨#[]⟩⟩⟩⟩,⟨true,2,⟨#[97,108,108]⟩,⟨1,⟨0,⟨#[]⟩⟩⟩⟩,⟨true,3,⟨#[97,108,108]⟩,⟨1,⟨0,⟨#[]⟩⟩⟩⟩,⟨true,4,⟨#[97,108,108]⟩,⟨1,⟨0,⟨#[]⟩⟩⟩⟩,⟨true,5,⟨#[97,108,108]⟩,⟨1,⟨0,⟨#[]⟩⟩⟩⟩,⟨false,2,⟨#[97,108,108]⟩,⟨3,⟨0,⟨#[66]⟩⟩⟩⟩,⟨false,1,⟨#[117,115,101,114,115]⟩,⟨3,⟨0,⟨#[68]⟩⟩⟩⟩],[]⟩
def polS28:Policy:=⟨[⟨⟨#[115,116,97,102,102]⟩,[⟨#[97,110,110]⟩]⟩],[⟨true,1,⟨#[97,108,108]⟩,⟨1,⟨0,⟨#[]⟩⟩⟩⟩,⟨true,2,⟨#[97,108,108]⟩,⟨1,⟨0,⟨#[]⟩⟩⟩⟩,⟨true,3,⟨#[97,108,108]⟩,⟨1,⟨0,⟨#[]⟩⟩⟩⟩,⟨true,4,⟨#[97,108,108]⟩,⟨1,⟨0,⟨#[]⟩⟩⟩⟩,⟨true,5,⟨#[97,108,108]⟩,⟨1,⟨0,⟨#[]⟩⟩⟩⟩,⟨false,5,⟨#[97,108,108]⟩,⟨1,⟨0,⟨#[]⟩⟩⟩⟩],[]⟩
def polS29:Policy:=⟨[⟨⟨#[115,116,97,102,102]⟩,[⟨#[97,110,110]⟩]⟩],[⟨true,1,⟨#[97,108,108]⟩,⟨1,⟨0,⟨#[]⟩⟩⟩⟩,⟨true,2,⟨#[97,108,108]⟩,⟨1,⟨0,⟨#[]⟩⟩⟩⟩,⟨true,3,⟨#[97,108,108]⟩,⟨1,⟨0,⟨#[]⟩⟩⟩⟩,⟨true,4,⟨#[97,108,108]⟩,⟨1,⟨0,⟨#[]⟩⟩⟩⟩,⟨true,5,⟨#[97,108,108]⟩,⟨1,⟨0,⟨#[]⟩⟩⟩⟩,⟨false,5,⟨#[97,108,108]⟩,⟨1,⟨0,⟨#[]⟩⟩⟩⟩,⟨true,5,⟨#[115,116,97,102,102]⟩,⟨2,⟨0,⟨#[]⟩⟩⟩⟩],[]⟩
def polS30:Policy:=⟨[⟨⟨#[115,116,97,102,102]⟩,[⟨#[97,110,110]⟩]⟩],[⟨true,1,⟨#[97,108,108]⟩,⟨1,⟨0,⟨#[]⟩⟩⟩⟩,⟨true,2,⟨#[97,108,108]⟩,⟨1,⟨0,⟨#[]⟩⟩⟩⟩,⟨true,3,⟨#[97,108,108]⟩,⟨1,⟨0,⟨#[]⟩⟩⟩⟩,⟨true,4,⟨#[97,108,108]⟩,⟨1,⟨0,⟨#[]⟩⟩⟩⟩,⟨true,5,⟨#[97,108,108]⟩,⟨1,⟨0,⟨#[]⟩⟩⟩⟩,⟨false,5,⟨#[97,108,108]⟩,⟨1,⟨0,⟨#[]⟩⟩⟩⟩,⟨true,5,⟨#[115,116,97,102,102]⟩,⟨2,⟨0,⟨#[]⟩⟩⟩⟩],[⟨false,⟨#[115,116,97,102,102]⟩,⟨0,⟨#[65]⟩⟩,⟨#[]⟩⟩]⟩
def polS31:Policy:=⟨[⟨⟨#[115,116,97,102,102]⟩,[⟨#[97,110,110]⟩]⟩],[⟨true,1,⟨#[97,108,108]⟩,⟨1,⟨0,⟨#[]⟩⟩⟩⟩,⟨true,2,⟨#[97,108,108]⟩,⟨1,⟨0,⟨#[]⟩⟩⟩⟩,⟨true,3,⟨#[97,108,108]⟩,⟨1,⟨0,⟨#[]⟩⟩⟩⟩,⟨true,4,⟨#[97,108,108]⟩,⟨1,⟨0,⟨#[]⟩⟩⟩⟩,⟨true,5,⟨#[97,108,108]⟩,⟨1,⟨0,⟨#[]⟩⟩⟩⟩,⟨false,5,⟨#[97,108,108]⟩,⟨1,⟨0,⟨#[]⟩⟩⟩⟩,⟨true,5,⟨#[115,116,97,102,102]⟩,⟨2,⟨0,⟨#[]⟩⟩⟩⟩],[⟨false,⟨#[115,116,97,102,102]⟩,⟨0,⟨#[65]⟩⟩,⟨#[]⟩⟩,⟨false,⟨#[115,116,97,102,102]⟩,⟨0,⟨#[68]⟩⟩,⟨#[]⟩⟩]⟩
inductive StmR:Policy→List ByteArray→Policy→Prop
 | nil {p:Policy}:StmR p [] p
 | cons {p q r:Policy} {l:ByteArray} {ls:List ByteArray} (h:r12_statement p l=some (q,true)) (k:StmR q ls r):StmR p (l::ls) r
theorem parse_of {s:ByteArray} {lines:List ByteArray} {p:Policy} (hs:decide ((8192:Int)<(s.size:Int))=false) (hL:r12_Lines s=some lines) (hn:decide (lines.length≤1000)=true) (h:StmR ⟨[],[],[]⟩ lines p) (hv:r12_Validate p=some 0):r12_Parse s=some (p,0,0):=by
 have hn':lines.length≤1000:=of_decide_eq_true hn
 refine tot_eq ?_
 unfold r12_Parse
 refine tot_ifF hs ?_
 refine tot_bindE hL ?_
 refine tot_loop (fun a:Int×List Group×List Rule×List Guard=>∃ n:Nat,a.1=n∧n≤lines.length∧StmR ⟨a.2.1,a.2.2.1,a.2.2.2⟩ (lines.drop n) p) (fun a=>((lines.length:Int) - a.1).toNat) ⟨0,rfl,Nat.zero_le _,h⟩ (by first | omega | (dsimp only;omega)) ?_
 rintro ⟨i,gs,rs,us⟩ rec ⟨n,hi,hn2,hst⟩ ih
 dsimp only at hi hst
 subst hi
 refine tot_ifD (fun hlt=>?_) fun hlt=>?_
 ·refine tot_atI (by omega) hlt fun e _ hg=>?_
  rw [Int.toNat_natCast] at hg
  rw [drop_cons hg] at hst
  cases hst with
  | cons h1 h2=>
    refine tot_bindE h1 ?_
    refine tot_ifF rfl ?_
    rw [w64_of (by omega) (by omega)]
    exact ih _ ⟨n+1,by dsimp only;omega,by omega,h2⟩ (by first | omega | (dsimp only;omega))
 ·rw [List.drop_of_length_le (by omega)] at hst
  cases hst
  refine tot_bindE hv ?_
  exact tot_ifF rfl (tot_some rfl)
end Go.Proofs.YtphibahplgmgfaaGreatDoor
namespace Go.Proofs.YtphibahplgmgfaaGreatDoor
open VL
set_option linter.unusedVariables false
inductive StmP:Policy→List ByteArray→Policy→Prop
 | nil {p:Policy}:StmP p [] p
 | cons {p q r:Policy} {l:ByteArray} {ls:List ByteArray} (h:policy_statement p l=some (true,q)) (k:StmP q ls r):StmP p (l::ls) r
theorem parseP_of {s:ByteArray} {lines:List ByteArray} {p:Policy} (hs:decide ((8192:Int)<(s.size:Int))=false) (hL:strings_Split s ⟨#[10]⟩=some lines) (hn:decide (lines.length≤1000)=true) (h:StmP ⟨[],[],[]⟩ lines p) (hv:policy_Validate p=some 0):policy_Parse s=some (p,0,0):=by
 have hn':lines.length≤1000:=of_decide_eq_true hn
 refine tot_eq ?_
 unfold policy_Parse
 refine tot_ifF hs ?_
 refine tot_bindE hL ?_
 refine tot_loop (fun a:Int×List Group×List Rule×List Guard=>∃ n:Nat,a.1=n∧n≤lines.length∧StmP ⟨a.2.1,a.2.2.1,a.2.2.2⟩ (lines.drop n) p) (fun a=>((lines.length:Int) - a.1).toNat) ⟨0,rfl,Nat.zero_le _,h⟩ (by first | omega | (dsimp only;omega)) ?_
 rintro ⟨i,gs,rs,us⟩ rec ⟨n,hi,hn2,hst⟩ ih
 dsimp only at hi hst
 subst hi
 refine tot_ifD (fun hlt=>?_) fun hlt=>?_
 ·refine tot_atI (by omega) hlt fun e _ hg=>?_
  rw [Int.toNat_natCast] at hg
  rw [drop_cons hg] at hst
  cases hst with
  | cons h1 h2=>
    refine tot_bindE h1 ?_
    refine tot_ifF rfl ?_
    rw [w64_of (by omega) (by omega)]
    exact ih _ ⟨n+1,by dsimp only;omega,by omega,h2⟩ (by first | omega | (dsimp only;omega))
 ·rw [List.drop_of_length_le (by omega)] at hst
  cases hst
  refine tot_bindE hv ?_
  exact tot_ifF rfl (tot_some rfl)
end Go.Proofs.YtphibahplgmgfaaGreatDoor
namespace Go.Proofs.YtphibahplgmgfaaGreatDoor
set_option maxRecDepth 100000 in
theorem progL0:policy_statement polS0 ⟨#[97,108,108,111,119,32,114,101,97,100,32,97,108,108,32,60,97,108,108,62]⟩=some (true,polS1):=by kernel_rfl
set_option maxRecDepth 100000 in
theorem progL3:policy_statement polS3 ⟨#[97,108,108,111,119,32,100,101,108,101,116,101,32,97,108,108,32,60,97,108,108,62]⟩=some (true,polS4):=by kernel_rfl
set_option maxRecDepth 100000 in
theorem progL6:policy_statement polS5 ⟨#[103,114,111,117,112,32,115,116,97,102,102,32,97,110,110]⟩=some (true,polS6):=by kernel_rfl
set_option maxRecDepth 100000 in
theorem progL9:policy_statement polS8 ⟨#[]⟩=some (true,polS8):=by kernel_rfl
set_option maxRecDepth 100000 in
theorem progL12:policy_statement polS10 ⟨#[103,117,97,114,100,32,115,116,97,102,102,32,66]⟩=some (true,polS11):=by kernel_rfl
set_option maxRecDepth 100000 in
theorem progL15:policy_statement polS12 ⟨#[103,114,111,117,112,32,109,111,114,101,32,98,111,98]⟩=some (true,polS13):=by kernel_rfl
set_option maxRecDepth 100000 in
theorem progL18:policy_statement polS15 ⟨#[97,108,108,111,119,32,114,101,97,100,32,97,108,108,32,60,67,97,116,101,103,111,114,121,62]⟩=some (true,polS16):=by kernel_rfl
set_option maxRecDepth 100000 in
theorem progL21:policy_statement polS18 ⟨#[97,108,108,111,119,32,114,101,118,105,101,119,32,115,116,97,102,102,32,60,97,108,108,62]⟩=some (true,polS19):=by kernel_rfl
set_option maxRecDepth 100000 in
theorem progL24:policy_statement polS21 ⟨#[97,108,108,111,119,32,114,101,97,100,32,115,116,97,102,102,32,60,97,108,108,62]⟩=some (true,polS22):=by kernel_rfl
set_option maxRecDepth 100000 in
theorem progL27:policy_statement polS5 ⟨#[100,101,110,121,32,114,101,97,100,32,97,108,108,32,66]⟩=some (true,polS24):=by kernel_rfl
set_option maxRecDepth 100000 in
theorem progL30:policy_statement polS5 ⟨#[100,101,110,121,32,101,100,105,116,32,97,108,108,32,66]⟩=some (true,polS26):=by kernel_rfl
set_option maxRecDepth 100000 in
theorem progL33:policy_statement polS6 ⟨#[100,101,110,121,32,114,101,118,105,101,119,32,97,108,108,32,60,97,108,108,62]⟩=some (true,polS28):=by kernel_rfl
set_option maxRecDepth 100000 in
theorem progL36:policy_statement polS30 ⟨#[103,117,97,114,100,32,115,116,97,102,102,32,68]⟩=some (true,polS31):=by kernel_rfl
end Go.Proofs.YtphibahplgmgfaaGreatDoor
namespace Go.Proofs.YtphibahplgmgfaaGreatDoor
set_option maxRecDepth 100000 in
theorem progL1:policy_statement polS1 ⟨#[97,108,108,111,119,32,101,100,105,116,32,97,108,108,32,60,97,108,108,62]⟩=some (true,polS2):=by kernel_rfl
set_option maxRecDepth 100000 in
theorem progL4:policy_statement polS4 ⟨#[97,108,108,111,119,32,114,101,118,105,101,119,32,97,108,108,32,60,97,108,108,62]⟩=some (true,polS5):=by kernel_rfl
set_option maxRecDepth 100000 in
theorem progL7:policy_statement polS6 ⟨#[100,101,110,121,32,114,101,97,100,32,97,108,108,32,65]⟩=some (true,polS7):=by kernel_rfl
set_option maxRecDepth 100000 in
theorem progL10:policy_statement polS6 ⟨#[103,117,97,114,100,32,115,116,97,102,102,32,65,32,124,32,83]⟩=some (true,polS9):=by kernel_rfl
set_option maxRecDepth 100000 in
theorem progL13:policy_statement polS11 ⟨#[]⟩=some (true,polS11):=by kernel_rfl
set_option maxRecDepth 100000 in
theorem progL16:policy_statement polS13 ⟨#[97,108,108,111,119,32,114,101,97,100,32,97,108,108,32,60,77,97,105,110,62]⟩=some (true,polS14):=by kernel_rfl
set_option maxRecDepth 100000 in
theorem progL19:policy_statement polS16 ⟨#[97,108,108,111,119,32,101,100,105,116,32,117,115,101,114,115,32,60,77,97,105,110,62]⟩=some (true,polS17):=by kernel_rfl
set_option maxRecDepth 100000 in
theorem progL22:policy_statement polS19 ⟨#[97,108,108,111,119,32,109,111,118,101,32,115,116,97,102,102,32,60,97,108,108,62]⟩=some (true,polS20):=by kernel_rfl
set_option maxRecDepth 100000 in
theorem progL25:policy_statement polS22 ⟨#[97,108,108,111,119,32,101,100,105,116,32,115,116,97,102,102,32,60,97,108,108,62]⟩=some (true,polS23):=by kernel_rfl
set_option maxRecDepth 100000 in
theorem progL28:policy_statement polS24 ⟨#[100,101,110,121,32,114,101,97,100,32,97,108,108,32,67,97,116,101,103,111,114,121,58,89]⟩=some (true,polS25):=by kernel_rfl
set_option maxRecDepth 100000 in
theorem progL31:policy_statement polS26 ⟨#[100,101,110,121,32,114,101,97,100,32,117,115,101,114,115,32,68]⟩=some (true,polS27):=by kernel_rfl
set_option maxRecDepth 100000 in
theorem progL34:policy_statement polS28 ⟨#[97,108,108,111,119,32,114,101,118,105,101,119,32,115,116,97,102,102,32,60,77,97,105,110,62]⟩=some (true,polS29):=by kernel_rfl
set_option maxRecDepth 100000 in
theorem progL37:policy_statement polS31 ⟨#[]⟩=some (true,polS31):=by kernel_rfl
end Go.Proofs.YtphibahplgmgfaaGreatDoor
namespace Go.Proofs.YtphibahplgmgfaaGreatDoor
set_option maxRecDepth 100000 in
theorem progL2:policy_statement polS2 ⟨#[97,108,108,111,119,32,109,111,118,101,32,97,108,108,32,60,97,108,108,62]⟩=some (true,polS3):=by kernel_rfl
set_option maxRecDepth 100000 in
theorem progL5:policy_statement polS5 ⟨#[]⟩=some (true,polS5):=by kernel_rfl
set_option maxRecDepth 100000 in
theorem progL8:policy_statement polS7 ⟨#[97,108,108,111,119,32,114,101,97,100,32,115,116,97,102,102,32,65,47,67]⟩=some (true,polS8):=by kernel_rfl
set_option maxRecDepth 100000 in
theorem progL11:policy_statement polS9 ⟨#[115,116,114,105,99,116,32,115,116,97,102,102,32,84,101,109,112,108,97,116,101,58,84]⟩=some (true,polS10):=by kernel_rfl
set_option maxRecDepth 100000 in
theorem progL14:policy_statement polS0 ⟨#[103,114,111,117,112,32,115,116,97,102,102,32,97,110,110,32,64,109,111,114,101]⟩=some (true,polS12):=by kernel_rfl
set_option maxRecDepth 100000 in
theorem progL17:policy_statement polS14 ⟨#[97,108,108,111,119,32,114,101,97,100,32,97,108,108,32,60,84,101,109,112,108,97,116,101,62]⟩=some (true,polS15):=by kernel_rfl
set_option maxRecDepth 100000 in
theorem progL20:policy_statement polS17 ⟨#[97,108,108,111,119,32,101,100,105,116,32,115,116,97,102,102,32,60,67,97,116,101,103,111,114,121,62]⟩=some (true,polS18):=by kernel_rfl
set_option maxRecDepth 100000 in
theorem progL23:policy_statement polS20 ⟨#[97,108,108,111,119,32,100,101,108,101,116,101,32,115,116,97,102,102,32,60,97,108,108,62]⟩=some (true,polS21):=by kernel_rfl
set_option maxRecDepth 100000 in
theorem progL26:policy_statement polS23 ⟨#[]⟩=some (true,polS23):=by kernel_rfl
set_option maxRecDepth 100000 in
theorem progL29:policy_statement polS25 ⟨#[]⟩=some (true,polS25):=by kernel_rfl
set_option maxRecDepth 100000 in
theorem progL32:policy_statement polS27 ⟨#[]⟩=some (true,polS27):=by kernel_rfl
set_option maxRecDepth 100000 in
theorem progL35:policy_statement polS29 ⟨#[103,117,97,114,100,32,115,116,97,102,102,32,65]⟩=some (true,polS30):=by kernel_rfl
end Go.Proofs.YtphibahplgmgfaaGreatDoor
