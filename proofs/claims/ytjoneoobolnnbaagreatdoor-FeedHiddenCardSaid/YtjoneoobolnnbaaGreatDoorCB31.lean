/- Functions of the program as Lean functions. Written by fxgen.py. -/
import Derived.Test.YtjoneoobolnnbaaGreatDoorCB30
import Derived.Test.YtjoneoobolnnbaaGreatDoorCB04
set_option linter.unusedVariables false
set_option maxHeartbeats 4000000
set_option maxRecDepth 100000
namespace Go.Proofs.YtjoneoobolnnbaaGreatDoor
open VL
def ZeP (p0:SrcF) (p1:Int):Option ((List Revision)×SrcF):=
 (ZA p0 3).bind fun r1=>
 ZE Zaj (fun f2 ((x48,x49,x50,x51,x52,x53):Int×Int×(List Int)×Int×Int×(List Revision))=>
  if (decide (0<x49)) then
   (Zi8 (⟨x50,x51,x52⟩:SrcF)).bind fun r69=>
   (Zks r69.2).bind fun r70=>
   (Zij r70.2).bind fun r71=>
   (ZcF 72 x53 [(⟨(w64 ((x53.length:Int)+1)),r69.1,r70.1,r71.1,x48,0⟩:Revision)]).bind fun l72=>
   (ZA r71.2 3).bind fun r73=>
   f2 ((if (w64 (x48+r73.1))<p1 then (w64 (x48+r73.1)) else p1),(w64 (x49 - 1)),r73.2.l,r73.2.pos,r73.2.seed,l72)
  else
  (some (x53,(⟨x50,x51,x52⟩:SrcF)):Option ((List Revision)×SrcF))) (0,(w64 (1+r1.1)),r1.2.l,r1.2.pos,r1.2.seed,([]:List Revision))
theorem Zno (p0:SrcF) (p1:Int) (r:(List Revision)×SrcF) (h:ZeP p0 p1=some r):Contract Tryz.prog 218 [.ptr 0 (0,0) 0,.int .i64 p1] (some (0,p0.cs)) (.sl (List.map Revision.cs r.1)) (r.2).cs:=by
 refine Zbx (R:=fun r=>.sl (List.map Revision.cs r.1)) (O:=fun r=>(r.2).cs) h mix Tryz.func218 (by kernel_rfl) rfl (by kernel_rfl) fun r h=>?_
 unfold ZeP at h
 refine Zh ?_
 refine rg ?_
 refine rg ?_
 refine rg ?_
 refine rg ?_
 refine aO h (Zy _ _) fun r1 h=>?_
 refine bl ?_
 refine Zn h fun f2 mf2 hf2 h=>?_
 refine Zk (α:=Nat×(Int×Int×(List Int)×Int×Int×(List Revision))) (fun a _=>mkS [(0,.ptr 0 (0,0) 0),(1,.int .i64 p1),(5,.row 5 (1,5)),(6,.int .i64 a.2.1),(7,.int .i64 a.2.2.1)] [(0,some ((0,0),.box [.sl (List.map csI a.2.2.2.1),.int .i64 a.2.2.2.2.1,.int .u64 a.2.2.2.2.2.1])),(5,some ((1,5),.row 55 6 false (List.map Revision.cs a.2.2.2.2.2.2)))] 2) (fun a=>ZE a.1 f2 a.2=some r) (fun a=>a.1) (mf2,0,(w64 (1+r1.1)),r1.2.l,r1.2.pos,r1.2.seed,([]:List Revision)) 2 h (Za9 [] 5 55 6 rfl ⟨rfl,rfl,rfl,rfl,rfl,trivial⟩ ⟨⟨rfl,rfl⟩,⟨rfl,rfl⟩,trivial⟩ rfl) (fun a _ h=>?_)
 obtain ⟨mf2,x48,x49,x50,x51,x52,x53⟩:=a
 obtain ⟨mf2,rfl,h⟩:=Zo hf2 h
 dsimp only at h ⊢
 refine Zh ?_
 refine rg ?_
 refine cS h rfl (fun h=>?_) fun h=>?_
 ·refine bl ?_
  refine rg ?_
  refine lM Revision.cs x53 ?_
  refine aO h (Zl9 _) fun r69 h=>?_
  refine aO h (Zph _) fun r70 h=>?_
  refine aO h (Zkp _) fun r71 h=>?_
  refine bM Revision.cs ([(⟨(w64 ((x53.length:Int)+1)),r69.1,r70.1,r71.1,x48,0⟩:Revision)]:List Revision) ?_
  refine pR Revision.cs h fun l72 h=>?_
  refine rg ?_
  refine aO h (Zy _ _) fun r73 h=>?_
  refine Zvz rfl rfl rfl (Zh ?_)
  refine rg ?_
  exact rn (mf2,(if (w64 (x48+r73.1))<p1 then (w64 (x48+r73.1)) else p1),(w64 (x49 - 1)),r73.2.l,r73.2.pos,r73.2.seed,l72) h (sR [(5,3,13)])
 refine rg ?_
 cases h
 exact Zhi rfl rfl rfl rfl rfl
def Zif (p0:SrcF) (p1:Int):Option (Change×SrcF):=
 (ZA p0 14).bind fun r1=>
 (atI ([1,1,1,1,1,2,3,4,5,6,7,8,9,10]:List Int) r1.1).bind fun c2=>
 (Zi8 r1.2).bind fun r3=>
 (Ze1 r3.2).bind fun r4=>
 letk (fun (x15:List Int) (x16:Int) (x17:Int) (x18:Int) (x19:ByteArray) (x20:ByteArray) (x21:Int) (x22:ByteArray) (x23:Int) (x24:ByteArray) (x25:ByteArray) (x26:Int) (x27:List Revision)=>
  (some ((⟨x18,x19,x20,(⟨x21,x22⟩:Title),(⟨x23,x24⟩:Title),x25,x26,x27⟩:Change),(⟨x15,x16,x17⟩:SrcF)):Option (Change×SrcF))) fun k3=>
 letk (fun (x28:Bool)=>
  if x28 then
   (Zks r4.2).bind fun r29=>
   (Zij r29.2).bind fun r30=>
   if (decide (c2=9)) then
    (ZA r30.2 3).bind fun r31=>
    k3 r31.2.l r31.2.pos r31.2.seed c2 r3.1 r29.1 r4.1.space r4.1.name 0 (⟨#[]⟩:ByteArray) r30.1 r31.1 []
   else
   k3 r30.2.l r30.2.pos r30.2.seed c2 r3.1 r29.1 r4.1.space r4.1.name 0 (⟨#[]⟩:ByteArray) r30.1 0 []
  else
  if (decide (c2=4)) then
   (Ze1 r4.2).bind fun r32=>
   (ZA r32.2 2).bind fun r33=>
   k3 r33.2.l r33.2.pos r33.2.seed c2 r3.1 (⟨#[]⟩:ByteArray) r4.1.space r4.1.name r32.1.space r32.1.name (⟨#[]⟩:ByteArray) r33.1 []
  else
  if (decide (c2=5)) then
   (ZeP r4.2 p1).bind fun r34=>
   k3 r34.2.l r34.2.pos r34.2.seed c2 r3.1 (⟨#[]⟩:ByteArray) r4.1.space r4.1.name 0 (⟨#[]⟩:ByteArray) (⟨#[]⟩:ByteArray) 0 r34.1
  else
  if (decide (c2=6)) then
   (ZA r4.2 2000).bind fun r35=>
   k3 r35.2.l r35.2.pos r35.2.seed 6 (⟨#[]⟩:ByteArray) (⟨#[]⟩:ByteArray) 0 (⟨#[]⟩:ByteArray) 0 (⟨#[]⟩:ByteArray) (⟨#[]⟩:ByteArray) (w64 (1+r35.1)) []
  else
  letk (fun (x36:Bool)=>
   if x36 then
    if (decide (r3.1=(⟨#[]⟩:ByteArray))) then
     k3 r4.2.l r4.2.pos r4.2.seed c2 (⟨#[98,111,98]⟩:ByteArray) (⟨#[]⟩:ByteArray) r4.1.space r4.1.name 0 (⟨#[]⟩:ByteArray) (⟨#[]⟩:ByteArray) 0 []
    else
    k3 r4.2.l r4.2.pos r4.2.seed c2 r3.1 (⟨#[]⟩:ByteArray) r4.1.space r4.1.name 0 (⟨#[]⟩:ByteArray) (⟨#[]⟩:ByteArray) 0 []
   else
   if (decide (c2=10)) then
    (ZA r4.2 4).bind fun r37=>
    k3 r37.2.l r37.2.pos r37.2.seed c2 r3.1 (⟨#[]⟩:ByteArray) 0 (⟨#[]⟩:ByteArray) 0 (⟨#[]⟩:ByteArray) (⟨#[]⟩:ByteArray) (w64 (1+r37.1)) []
   else
   k3 r4.2.l r4.2.pos r4.2.seed c2 r3.1 (⟨#[]⟩:ByteArray) r4.1.space r4.1.name 0 (⟨#[]⟩:ByteArray) (⟨#[]⟩:ByteArray) 0 []) fun k5=>
  if (decide (c2=7)) then
   k5 (decide (c2=7))
  else
  k5 (decide (c2=8))) fun k4=>
 if (decide (c2=1)) then
  k4 (decide (c2=1))
 else
 k4 (decide (c2=9))
theorem Zrs (p0:SrcF) (p1:Int) (r:Change×SrcF) (h:Zif p0 p1=some r):Contract Tryz.prog 168 [.ptr 0 (0,0) 0,.int .i64 p1] (some (0,p0.cs)) (r.1.pv) (r.2).cs:=by
 refine Zbx (R:=fun r=>r.1.pv) (O:=fun r=>(r.2).cs) h mix Tryz.func168 (by kernel_rfl) rfl (by kernel_rfl) fun r h=>?_
 unfold Zif at h
 refine Zdr ?_
 refine Zv (Zdr ?_)
 refine Zv (Zdr ?_)
 refine ZkG (cs:=[.int .i64 1,.int .i64 1,.int .i64 1,.int .i64 1,.int .i64 1,.int .i64 2,.int .i64 3,.int .i64 4,.int .i64 5,.int .i64 6,.int .i64 7,.int .i64 8,.int .i64 9,.int .i64 10]) rfl (by kernel_rfl) (Zdr ?_)
 obtain ⟨r1,h1,h⟩:=bnd h
 refine ZeS (Zy _ _ _ h1) rfl rfl rfl rfl rfl (Zdr ?_)
 obtain ⟨c2,h2,h⟩:=bnd h
 refine Zpa (p:=(PV.int .i64)) rfl h2 rfl rfl rfl rfl rfl (Zdr ?_)
 obtain ⟨r3,h3,h⟩:=bnd h
 refine ZeS (Zl9 _ _ h3) rfl rfl rfl rfl rfl (Zdr ?_)
 obtain ⟨r4,h4,h⟩:=bnd h
 refine ZeS (Zgj _ _ h4) rfl rfl rfl rfl rfl (Zdr ?_)
 refine Zv (Zdr ?_)
 refine Zax h fun k3 hk3 h=>?_
 refine ZaO (α:=(List Int)×Int×Int×Int×ByteArray×ByteArray×Int×ByteArray×Int×ByteArray×ByteArray×Int×(List Revision)) (fun a _=>mkS [(0,.ptr 0 (0,0) 0),(4,.ptr 4 (1,4) 0),(5,.ptr 5 (1,5) 0)] [(0,some ((0,0),.box [.sl (List.map csI a.1),.int .i64 a.2.1,.int .u64 a.2.2.1])),(4,some ((1,4),.box [.int .i64 0,.str (⟨#[]⟩:ByteArray),.str (⟨#[]⟩:ByteArray),.int .i64 0,.str (⟨#[]⟩:ByteArray),.int .i64 0,.str (⟨#[]⟩:ByteArray),.str (⟨#[]⟩:ByteArray),.int .i64 0,.nil])),(5,some ((1,5),.box [.int .i64 a.2.2.2.1,.str a.2.2.2.2.1,.str a.2.2.2.2.2.1,.int .i64 a.2.2.2.2.2.2.1,.str a.2.2.2.2.2.2.2.1,.int .i64 a.2.2.2.2.2.2.2.2.1,.str a.2.2.2.2.2.2.2.2.2.1,.str a.2.2.2.2.2.2.2.2.2.2.1,.int .i64 a.2.2.2.2.2.2.2.2.2.2.2.1,.sl (List.map Revision.cs a.2.2.2.2.2.2.2.2.2.2.2.2)]))] 2) (fun a=>k3 a.1 a.2.1 a.2.2.1 a.2.2.2.1 a.2.2.2.2.1 a.2.2.2.2.2.1 a.2.2.2.2.2.2.1 a.2.2.2.2.2.2.2.1 a.2.2.2.2.2.2.2.2.1 a.2.2.2.2.2.2.2.2.2.1 a.2.2.2.2.2.2.2.2.2.2.1 a.2.2.2.2.2.2.2.2.2.2.2.1 a.2.2.2.2.2.2.2.2.2.2.2.2=some r) (Zdr ?_) (fun a _ h=>?_)
 ·refine ZdN (Zdr ?_)
  refine Zv (Zdr ?_)
  refine Zax h fun k4 hk4 h=>?_
  refine ZaO (α:=Bool) (fun x28 _=>mkS [(0,.ptr 0 (0,0) 0),(1,.int .i64 p1),(4,.ptr 4 (1,4) 0),(5,.ptr 5 (1,5) 0),(16,.int .i64 c2),(17,.bool x28)] [(0,some ((0,0),.box (SrcF.cs r4.2))),(4,some ((1,4),.box [.int .i64 0,.str (⟨#[]⟩:ByteArray),.str (⟨#[]⟩:ByteArray),.int .i64 0,.str (⟨#[]⟩:ByteArray),.int .i64 0,.str (⟨#[]⟩:ByteArray),.str (⟨#[]⟩:ByteArray),.int .i64 0,.nil])),(5,some ((1,5),.box [.int .i64 c2,.str r3.1,.str (⟨#[]⟩:ByteArray),.int .i64 r4.1.space,.str r4.1.name,.int .i64 0,.str (⟨#[]⟩:ByteArray),.str (⟨#[]⟩:ByteArray),.int .i64 0,.nil]))] 2) (fun x28=>k4 x28=some r) (Zdr ?_) (fun a _ h=>?_)
  ·refine Zbv rfl (fun c=>Zdr ?_) (fun c=>Zdr ?_)
   ·replace h:=ifT c h
    exact Zbm (decide (c2=1)) 2 h (ZF [((1,4),(1,0)),((1,5),(2,9))] ⟨rfl,rfl,rfl,rfl,rfl,rfl,trivial⟩ ⟨⟨rfl,rfl⟩,⟨rfl,rfl⟩,⟨rfl,rfl⟩,trivial⟩ rfl)
   replace h:=ifF c h
   refine Zv (Zdr ?_)
   exact Zbm (decide (c2=9)) 2 h (ZF [((1,4),(1,0)),((1,5),(2,9))] ⟨rfl,rfl,rfl,rfl,rfl,rfl,trivial⟩ ⟨⟨rfl,rfl⟩,⟨rfl,rfl⟩,⟨rfl,rfl⟩,trivial⟩ rfl)
  revert a;intro x28 h
  subst hk4
  dsimp only at h ⊢
  refine Zdr ?_
  refine Zbv rfl (fun c=>Zdr ?_) (fun c=>Zdr ?_)
  ·replace h:=ifT c h
   refine Zv (Zdr ?_)
   obtain ⟨r29,h13,h⟩:=bnd h
   refine ZeS (Zph _ _ h13) rfl rfl rfl rfl rfl (Zdr ?_)
   obtain ⟨r30,h14,h⟩:=bnd h
   refine ZeS (Zkp _ _ h14) rfl rfl rfl rfl rfl (Zdr ?_)
   refine Zv (Zdr ?_)
   refine Zbv rfl (fun c=>Zdr ?_) (fun c=>Zdr ?_)
   ·replace h:=ifT c h
    refine Zv (Zdr ?_)
    obtain ⟨r31,h15,h⟩:=bnd h
    refine ZeS (Zy _ _ _ h15) rfl rfl rfl rfl rfl (Zdr ?_)
    exact Zbm (r31.2.l,r31.2.pos,r31.2.seed,c2,r3.1,r29.1,r4.1.space,r4.1.name,0,(⟨#[]⟩:ByteArray),r30.1,r31.1,[]) 2 h (Shift.trans (Zfx 5 rfl rfl) (ZF [((1,4),(1,4)),((1,5),(1,5))] ⟨rfl,rfl,rfl,trivial⟩ ⟨⟨rfl,rfl⟩,⟨rfl,rfl⟩,⟨rfl,rfl⟩,trivial⟩ rfl))
   replace h:=ifF c h
   exact Zbm (r30.2.l,r30.2.pos,r30.2.seed,c2,r3.1,r29.1,r4.1.space,r4.1.name,0,(⟨#[]⟩:ByteArray),r30.1,0,[]) 2 h (Shift.trans (Zfx 5 rfl rfl) (ZF [((1,4),(1,4)),((1,5),(1,5))] ⟨rfl,rfl,rfl,trivial⟩ ⟨⟨rfl,rfl⟩,⟨rfl,rfl⟩,⟨rfl,rfl⟩,trivial⟩ rfl))
  replace h:=ifF c h
  refine Zv (Zdr ?_)
  refine Zbv rfl (fun c=>Zdr ?_) (fun c=>Zdr ?_)
  ·replace h:=ifT c h
   refine Zv (Zdr ?_)
   obtain ⟨r32,h16,h⟩:=bnd h
   refine ZeS (Zgj _ _ h16) rfl rfl rfl rfl rfl (Zdr ?_)
   obtain ⟨r33,h17,h⟩:=bnd h
   refine ZeS (Zy _ _ _ h17) rfl rfl rfl rfl rfl (Zdr ?_)
   exact Zbm (r33.2.l,r33.2.pos,r33.2.seed,c2,r3.1,(⟨#[]⟩:ByteArray),r4.1.space,r4.1.name,r32.1.space,r32.1.name,(⟨#[]⟩:ByteArray),r33.1,[]) 2 h (Shift.trans (Zfx 5 rfl rfl) (ZF [((1,4),(1,4)),((1,5),(1,5))] ⟨rfl,rfl,rfl,trivial⟩ ⟨⟨rfl,rfl⟩,⟨rfl,rfl⟩,⟨rfl,rfl⟩,trivial⟩ rfl))
  replace h:=ifF c h
  refine Zv (Zdr ?_)
  refine Zbv rfl (fun c=>Zdr ?_) (fun c=>Zdr ?_)
  ·replace h:=ifT c h
   refine Zv (Zdr ?_)
   obtain ⟨r34,h18,h⟩:=bnd h
   refine ZeS (Zno _ _ _ h18) rfl rfl rfl rfl rfl (Zdr ?_)
   exact Zbm (r34.2.l,r34.2.pos,r34.2.seed,c2,r3.1,(⟨#[]⟩:ByteArray),r4.1.space,r4.1.name,0,(⟨#[]⟩:ByteArray),(⟨#[]⟩:ByteArray),0,r34.1) 2 h (ZF [((1,4),(1,4)),((1,5),(1,5))] ⟨rfl,rfl,rfl,trivial⟩ ⟨⟨rfl,rfl⟩,⟨rfl,rfl⟩,⟨rfl,rfl⟩,trivial⟩ rfl)
  replace h:=ifF c h
  refine Zv (Zdr ?_)
  refine Zbv rfl (fun c=>Zdr ?_) (fun c=>Zdr ?_)
  ·replace h:=ifT c h
   refine Zv (Zdr ?_)
   obtain ⟨r35,h19,h⟩:=bnd h
   refine ZeS (Zy _ _ _ h19) rfl rfl rfl rfl rfl (Zdr ?_)
   exact Zbm (r35.2.l,r35.2.pos,r35.2.seed,6,(⟨#[]⟩:ByteArray),(⟨#[]⟩:ByteArray),0,(⟨#[]⟩:ByteArray),0,(⟨#[]⟩:ByteArray),(⟨#[]⟩:ByteArray),(w64 (1+r35.1)),[]) 2 h (Shift.trans (Zfx 5 rfl rfl) (ZF [((1,4),(1,4)),((1,5),(1,5))] ⟨rfl,rfl,rfl,trivial⟩ ⟨⟨rfl,rfl⟩,⟨rfl,rfl⟩,⟨rfl,rfl⟩,trivial⟩ rfl))
  replace h:=ifF c h
  refine Zv (Zdr ?_)
  refine Zax h fun k5 hk5 h=>?_
  refine ZaO (α:=Bool) (fun x36 _=>mkS [(0,.ptr 0 (0,0) 0),(4,.ptr 4 (1,4) 0),(5,.ptr 5 (1,5) 0),(16,.int .i64 c2),(52,.bool x36)] [(0,some ((0,0),.box (SrcF.cs r4.2))),(4,some ((1,4),.box [.int .i64 0,.str (⟨#[]⟩:ByteArray),.str (⟨#[]⟩:ByteArray),.int .i64 0,.str (⟨#[]⟩:ByteArray),.int .i64 0,.str (⟨#[]⟩:ByteArray),.str (⟨#[]⟩:ByteArray),.int .i64 0,.nil])),(5,some ((1,5),.box [.int .i64 c2,.str r3.1,.str (⟨#[]⟩:ByteArray),.int .i64 r4.1.space,.str r4.1.name,.int .i64 0,.str (⟨#[]⟩:ByteArray),.str (⟨#[]⟩:ByteArray),.int .i64 0,.nil]))] 2) (fun x36=>k5 x36=some r) (Zdr ?_) (fun a _ h=>?_)
  ·refine Zbv rfl (fun c=>Zdr ?_) (fun c=>Zdr ?_)
   ·replace h:=ifT c h
    exact Zbm (decide (c2=7)) 2 h (ZF [((1,4),(1,4)),((1,5),(1,5))] ⟨rfl,rfl,rfl,rfl,rfl,trivial⟩ ⟨⟨rfl,rfl⟩,⟨rfl,rfl⟩,⟨rfl,rfl⟩,trivial⟩ rfl)
   replace h:=ifF c h
   refine Zv (Zdr ?_)
   exact Zbm (decide (c2=8)) 2 h (ZF [((1,4),(1,4)),((1,5),(1,5))] ⟨rfl,rfl,rfl,rfl,rfl,trivial⟩ ⟨⟨rfl,rfl⟩,⟨rfl,rfl⟩,⟨rfl,rfl⟩,trivial⟩ rfl)
  revert a;intro x36 h
  subst hk5
  dsimp only at h ⊢
  refine Zdr ?_
  refine Zbv rfl (fun c=>Zdr ?_) (fun c=>Zdr ?_)
  ·replace h:=ifT c h
   refine Zv (Zdr ?_)
   refine Zbv rfl (fun c=>Zdr ?_) (fun c=>Zdr ?_)
   ·replace h:=ifT c h
    refine Zv (Zdr ?_)
    exact Zbm (r4.2.l,r4.2.pos,r4.2.seed,c2,(⟨#[98,111,98]⟩:ByteArray),(⟨#[]⟩:ByteArray),r4.1.space,r4.1.name,0,(⟨#[]⟩:ByteArray),(⟨#[]⟩:ByteArray),0,[]) 2 h (Shift.trans (Zfx 5 rfl rfl) (ZF [((1,4),(1,4)),((1,5),(1,5))] ⟨rfl,rfl,rfl,trivial⟩ ⟨⟨rfl,rfl⟩,⟨rfl,rfl⟩,⟨rfl,rfl⟩,trivial⟩ rfl))
   replace h:=ifF c h
   exact Zbm (r4.2.l,r4.2.pos,r4.2.seed,c2,r3.1,(⟨#[]⟩:ByteArray),r4.1.space,r4.1.name,0,(⟨#[]⟩:ByteArray),(⟨#[]⟩:ByteArray),0,[]) 2 h (Shift.trans (Zfx 5 rfl rfl) (ZF [((1,4),(1,4)),((1,5),(1,5))] ⟨rfl,rfl,rfl,trivial⟩ ⟨⟨rfl,rfl⟩,⟨rfl,rfl⟩,⟨rfl,rfl⟩,trivial⟩ rfl))
  replace h:=ifF c h
  refine Zv (Zdr ?_)
  refine Zbv rfl (fun c=>Zdr ?_) (fun c=>Zdr ?_)
  ·replace h:=ifT c h
   refine Zv (Zdr ?_)
   obtain ⟨r37,h20,h⟩:=bnd h
   refine ZeS (Zy _ _ _ h20) rfl rfl rfl rfl rfl (Zdr ?_)
   exact Zbm (r37.2.l,r37.2.pos,r37.2.seed,c2,r3.1,(⟨#[]⟩:ByteArray),0,(⟨#[]⟩:ByteArray),0,(⟨#[]⟩:ByteArray),(⟨#[]⟩:ByteArray),(w64 (1+r37.1)),[]) 2 h (Shift.trans (Zfx 5 rfl rfl) (ZF [((1,4),(1,4)),((1,5),(1,5))] ⟨rfl,rfl,rfl,trivial⟩ ⟨⟨rfl,rfl⟩,⟨rfl,rfl⟩,⟨rfl,rfl⟩,trivial⟩ rfl))
  replace h:=ifF c h
  exact Zbm (r4.2.l,r4.2.pos,r4.2.seed,c2,r3.1,(⟨#[]⟩:ByteArray),r4.1.space,r4.1.name,0,(⟨#[]⟩:ByteArray),(⟨#[]⟩:ByteArray),0,[]) 2 h (Shift.trans (Zfx 5 rfl rfl) (ZF [((1,4),(1,4)),((1,5),(1,5))] ⟨rfl,rfl,rfl,trivial⟩ ⟨⟨rfl,rfl⟩,⟨rfl,rfl⟩,⟨rfl,rfl⟩,trivial⟩ rfl))
 obtain ⟨x15,x16,x17,x18,x19,x20,x21,x22,x23,x24,x25,x26,x27⟩:=a
 subst hk3
 dsimp only at h ⊢
 refine Zdr ?_
 refine Zv (Zdr ?_)
 cases h
 exact Zhi rfl rfl rfl rfl rfl
def ZgA (p0:SrcF) (p1:Int):Option ((List Change)×SrcF):=
 (ZA p0 6).bind fun r1=>
 (Zzi .i64 r1.1 3).bind fun q2=>
 ZE Zaj (fun f2 ((x24,x25,x26,x27,x28):Int×(List Int)×Int×Int×(List Change))=>
  if (decide (0<x24)) then
   (Zif (⟨x25,x26,x27⟩:SrcF) p1).bind fun r35=>
   (ZcF 136 x28 [r35.1]).bind fun l36=>
   f2 ((w64 (x24 - 1)),r35.2.l,r35.2.pos,r35.2.seed,l36)
  else
  (some (x28,(⟨x25,x26,x27⟩:SrcF)):Option ((List Change)×SrcF))) ((w64 (1+q2)),r1.2.l,r1.2.pos,r1.2.seed,([]:List Change))
theorem Zqb (p0:SrcF) (p1:Int) (r:(List Change)×SrcF) (h:ZgA p0 p1=some r):Contract Tryz.prog 117 [.ptr 0 (0,0) 0,.int .i64 p1] (some (0,p0.cs)) (.sl (List.map Change.cs r.1)) (r.2).cs:=by
 refine Zbx (R:=fun r=>.sl (List.map Change.cs r.1)) (O:=fun r=>(r.2).cs) h mix Tryz.func117 (by kernel_rfl) rfl (by kernel_rfl) fun r h=>?_
 unfold ZgA at h
 refine Zh ?_
 refine rg ?_
 refine rg ?_
 refine rg ?_
 refine aO h (Zy _ _) fun r1 h=>?_
 obtain ⟨q2,h2,h⟩:=bnd h
 refine Zzn rfl h2 rfl rfl (Zh ?_)
 refine bl ?_
 refine Zn h fun f2 mf2 hf2 h=>?_
 refine Zk (α:=Nat×(Int×(List Int)×Int×Int×(List Change))) (fun a _=>mkS [(0,.ptr 0 (0,0) 0),(1,.int .i64 p1),(5,.row 5 (1,5)),(6,.int .i64 a.2.1)] [(0,some ((0,0),.box [.sl (List.map csI a.2.2.1),.int .i64 a.2.2.2.1,.int .u64 a.2.2.2.2.1])),(5,some ((1,5),.row 66 10 false (List.map Change.cs a.2.2.2.2.2)))] 2) (fun a=>ZE a.1 f2 a.2=some r) (fun a=>a.1) (mf2,(w64 (1+q2)),r1.2.l,r1.2.pos,r1.2.seed,([]:List Change)) 2 h (Za9 [] 5 66 10 rfl ⟨rfl,rfl,rfl,rfl,trivial⟩ ⟨⟨rfl,rfl⟩,⟨rfl,rfl⟩,trivial⟩ rfl) (fun a _ h=>?_)
 obtain ⟨mf2,x24,x25,x26,x27,x28⟩:=a
 obtain ⟨mf2,rfl,h⟩:=Zo hf2 h
 dsimp only at h ⊢
 refine Zh ?_
 refine rg ?_
 refine cS h rfl (fun h=>?_) fun h=>?_
 ·refine bl ?_
  refine rg ?_
  refine aO h (Zrs _ _) fun r35 h=>?_
  refine bM Change.cs ([r35.1]:List Change) ?_
  refine pR Change.cs h fun l36 h=>?_
  refine rg ?_
  exact rn (mf2,(w64 (x24 - 1)),r35.2.l,r35.2.pos,r35.2.seed,l36) h (sR [(5,3,5)])
 refine rg ?_
 cases h
 exact Zhi rfl rfl rfl rfl rfl
end Go.Proofs.YtjoneoobolnnbaaGreatDoor
