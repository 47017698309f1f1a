/- Functions of the program as Lean functions. Written by -/
import Derived.Test.YtpdaeclbndpabaaGreatDoorCM18
import Derived.Test.YtpdaeclbndpabaaGreatDoorCM11
set_option linter.unusedSimpArgs false
set_option linter.unusedVariables false
set_option maxHeartbeats 4000000
set_option maxRecDepth 100000
namespace Go.Proofs.YtpdaeclbndpabaaGreatDoor
section
open VL
def ZdM (p0:SrcF) (p1:Int):Option ((List Revision)×SrcF):=(Zz p0 3).bind fun r1=>ZE Zaq (fun f2 ((x48,x49,x50,x51,x52,x53):Int×Int×(List Int)×Int×Int×(List Revision))=>if (decide (0<x49)) then (ZhG (⟨x50,x51,x52⟩:SrcF)).bind fun r69=>(Zi4 r69.2).bind fun r70=>(ZhZ r70.2).bind fun r71=>(Zbo 72 x53 [(⟨(w64 ((x53.length:Int)+1)),r69.1,r70.1,r71.1,x48,0⟩:Revision)]).bind fun l72=>(Zz r71.2 3).bind fun r73=>f2 ((if (w64 (x48+r73.1))<p1 then (w64 (x48+r73.1)) else p1),(w64 (x49-1)),r73.2.l,r73.2.pos,r73.2.seed,l72) else (some (x53,(⟨x50,x51,x52⟩:SrcF)):Option ((List Revision)×SrcF))) (0,(w64 (1+r1.1)),r1.2.l,r1.2.pos,r1.2.seed,([]:List Revision))
theorem ZlR (p0:SrcF) (p1:Int) (r:(List Revision)×SrcF) (h:ZdM p0 p1=some r):Contract Tryz.prog 161 [.ptr 0 (0,0) 0,.int .i64 p1] (some (0,p0.cs)) (.sl (List.map Revision.cs r.1)) (r.2).cs:=by{
refine Za4 (R:=fun r=>.sl (List.map Revision.cs r.1)) (O:=fun r=>(r.2).cs) h mix Tryz.func161 (by kernel_rfl) rfl (by kernel_rfl) fun r h=>?_
unfold ZdM at h
refine Zf ?_
refine rg ?_
refine rg ?_
refine rg ?_
refine rg ?_
refine aO h (ZB _ _) fun r1 h=>?_
refine bl ?_
refine Zk h fun f2 mf2 hf2 h=>?_
refine Zi (α:=Nat×(Int×Int×(List Int)×Int×Int×(List Revision))) (fun a _=>mkS [(0,.ptr 0 (0,0) 0),(1,.int .i64 p1),(5,.row 5 (1,5)),(6,.int .i64 a.2.1),(7,.int .i64 a.2.2.1)] [(0,some ((0,0),.box [.sl (List.map csI a.2.2.2.1),.int .i64 a.2.2.2.2.1,.int .u64 a.2.2.2.2.2.1])),(5,some ((1,5),.row 108 6 false (List.map Revision.cs a.2.2.2.2.2.2)))] 2) (fun a=>ZE a.1 f2 a.2=some r) (fun a=>a.1) (mf2,0,(w64 (1+r1.1)),r1.2.l,r1.2.pos,r1.2.seed,([]:List Revision)) 2 h (Zam [] 5 108 6 rfl ⟨rfl,rfl,rfl,rfl,rfl,trivial⟩ ⟨⟨rfl,rfl⟩,⟨rfl,rfl⟩,trivial⟩ rfl) (fun a _ h=>?_)
obtain ⟨mf2,x48,x49,x50,x51,x52,x53⟩:=a
obtain ⟨mf2,rfl,h⟩:=Zl hf2 h
dsimp only at h ⊢
refine Zf ?_
refine rg ?_
refine cS h rfl (fun h=>?_) fun h=>?_
refine bl ?_
refine rg ?_
refine lM Revision.cs x53 ?_
refine aO h (ZkD _) fun r69 h=>?_
refine aO h (Zn3 _) fun r70 h=>?_
refine aO h (Zlc _) fun r71 h=>?_
refine ZF (M:=([(⟨(w64 ((x53.length:Int)+1)),r69.1,r70.1,r71.1,x48,0⟩:Revision)]:List Revision)) (f:=Revision.cs) rfl rfl rfl rfl (Nat.le_of_ble_eq_true rfl) rfl (Zf ?_)
refine pR Revision.cs h fun l72 h=>?_
refine rg ?_
refine aO h (ZB _ _) fun r73 h=>?_
refine Zum rfl rfl rfl (Zf ?_)
refine rg ?_
exact rn (mf2,(if (w64 (x48+r73.1))<p1 then (w64 (x48+r73.1)) else p1),(w64 (x49-1)),r73.2.l,r73.2.pos,r73.2.seed,l72) h (sR [(5,3,13)])
refine rg ?_
cases h
exact Zgh rfl rfl rfl rfl rfl}
def ZgJ (p0:SrcF) (p1:Int):Option (Change×SrcF):=(Zz p0 14).bind fun r1=>(atI ([1,1,1,1,1,2,3,4,5,6,7,8,9,10]:List Int) r1.1).bind fun c2=>(ZhG r1.2).bind fun r3=>(ZfK r3.2).bind fun r4=>letk (fun (x15:List Int) (x16:Int) (x17:Int) (x18:Int) (x19:ByteArray) (x20:ByteArray) (x21:Int) (x22:ByteArray) (x23:Int) (x24:ByteArray) (x25:ByteArray) (x26:Int) (x27:List Revision)=>(some ((⟨x18,x19,x20,(⟨x21,x22⟩:Title),(⟨x23,x24⟩:Title),x25,x26,x27⟩:Change),(⟨x15,x16,x17⟩:SrcF)):Option (Change×SrcF))) fun k3=>letk (fun (x28:Bool)=>if x28 then (Zi4 r4.2).bind fun r29=>(ZhZ r29.2).bind fun r30=>if (decide (c2=9)) then (Zz r30.2 3).bind fun r31=>k3 r31.2.l r31.2.pos r31.2.seed c2 r3.1 r29.1 r4.1.space r4.1.name 0 (⟨#[]⟩:ByteArray) r30.1 r31.1 [] else k3 r30.2.l r30.2.pos r30.2.seed c2 r3.1 r29.1 r4.1.space r4.1.name 0 (⟨#[]⟩:ByteArray) r30.1 0 [] else if (decide (c2=4)) then (ZfK r4.2).bind fun r32=>(Zz r32.2 2).bind fun r33=>k3 r33.2.l r33.2.pos r33.2.seed c2 r3.1 (⟨#[]⟩:ByteArray) r4.1.space r4.1.name r32.1.space r32.1.name (⟨#[]⟩:ByteArray) r33.1 [] else if (decide (c2=5)) then (ZdM r4.2 p1).bind fun r34=>k3 r34.2.l r34.2.pos r34.2.seed c2 r3.1 (⟨#[]⟩:ByteArray) r4.1.space r4.1.name 0 (⟨#[]⟩:ByteArray) (⟨#[]⟩:ByteArray) 0 r34.1 else if (decide (c2=6)) then (Zz r4.2 2000).bind fun r35=>k3 r35.2.l r35.2.pos r35.2.seed 6 (⟨#[]⟩:ByteArray) (⟨#[]⟩:ByteArray) 0 (⟨#[]⟩:ByteArray) 0 (⟨#[]⟩:ByteArray) (⟨#[]⟩:ByteArray) (w64 (1+r35.1)) [] else letk (fun (x36:Bool)=>if x36 then if (decide (r3.1=(⟨#[]⟩:ByteArray))) then k3 r4.2.l r4.2.pos r4.2.seed c2 (⟨#[98,111,98]⟩:ByteArray) (⟨#[]⟩:ByteArray) r4.1.space r4.1.name 0 (⟨#[]⟩:ByteArray) (⟨#[]⟩:ByteArray) 0 [] else k3 r4.2.l r4.2.pos r4.2.seed c2 r3.1 (⟨#[]⟩:ByteArray) r4.1.space r4.1.name 0 (⟨#[]⟩:ByteArray) (⟨#[]⟩:ByteArray) 0 [] else if (decide (c2=10)) then (Zz r4.2 4).bind fun r37=>k3 r37.2.l r37.2.pos r37.2.seed c2 r3.1 (⟨#[]⟩:ByteArray) 0 (⟨#[]⟩:ByteArray) 0 (⟨#[]⟩:ByteArray) (⟨#[]⟩:ByteArray) (w64 (1+r37.1)) [] else k3 r4.2.l r4.2.pos r4.2.seed c2 r3.1 (⟨#[]⟩:ByteArray) r4.1.space r4.1.name 0 (⟨#[]⟩:ByteArray) (⟨#[]⟩:ByteArray) 0 []) fun k5=>if (decide (c2=7)) then k5 (decide (c2=7)) else k5 (decide (c2=8))) fun k4=>if (decide (c2=1)) then k4 (decide (c2=1)) else k4 (decide (c2=9))
theorem Zp3 (p0:SrcF) (p1:Int) (r:Change×SrcF) (h:ZgJ p0 p1=some r):Contract Tryz.prog 115 [.ptr 0 (0,0) 0,.int .i64 p1] (some (0,p0.cs)) (r.1.pv) (r.2).cs:=by{
refine Za4 (R:=fun r=>r.1.pv) (O:=fun r=>(r.2).cs) h mix Tryz.func115 (by kernel_rfl) rfl (by kernel_rfl) fun r h=>?_
unfold ZgJ at h
refine Zcy ?_
refine Zm (Zcy ?_)
refine Zm (Zcy ?_)
refine Zjk (cs:=[.int .i64 1,.int .i64 1,.int .i64 1,.int .i64 1,.int .i64 1,.int .i64 2,.int .i64 3,.int .i64 4,.int .i64 5,.int .i64 6,.int .i64 7,.int .i64 8,.int .i64 9,.int .i64 10]) rfl (by kernel_rfl) (Zcy ?_)
obtain ⟨r1,h1,h⟩:=bnd h
refine Zd7 (ZB _ _ _ h1) rfl rfl rfl rfl rfl (Zcy ?_)
obtain ⟨c2,h2,h⟩:=bnd h
refine Zpy (p:=(PV.int .i64)) rfl h2 rfl rfl rfl rfl rfl (Zcy ?_)
obtain ⟨r3,h3,h⟩:=bnd h
refine Zd7 (ZkD _ _ h3) rfl rfl rfl rfl rfl (Zcy ?_)
obtain ⟨r4,h4,h⟩:=bnd h
refine Zd7 (Zi3 _ _ h4) rfl rfl rfl rfl rfl (Zcy ?_)
refine Zm (Zcy ?_)
refine Zag h fun k3 hk3 h=>?_
refine Zax (α:=(List Int)×Int×Int×Int×ByteArray×ByteArray×Int×ByteArray×Int×ByteArray×ByteArray×Int×(List Revision)) (fun a _=>mkS [(0,.ptr 0 (0,0) 0),(4,.ptr 4 (1,4) 0),(5,.ptr 5 (1,5) 0)] [(0,some ((0,0),.box [.sl (List.map csI a.1),.int .i64 a.2.1,.int .u64 a.2.2.1])),(4,some ((1,4),.box [.int .i64 0,.str (⟨#[]⟩:ByteArray),.str (⟨#[]⟩:ByteArray),.int .i64 0,.str (⟨#[]⟩:ByteArray),.int .i64 0,.str (⟨#[]⟩:ByteArray),.str (⟨#[]⟩:ByteArray),.int .i64 0,.nil])),(5,some ((1,5),.box [.int .i64 a.2.2.2.1,.str a.2.2.2.2.1,.str a.2.2.2.2.2.1,.int .i64 a.2.2.2.2.2.2.1,.str a.2.2.2.2.2.2.2.1,.int .i64 a.2.2.2.2.2.2.2.2.1,.str a.2.2.2.2.2.2.2.2.2.1,.str a.2.2.2.2.2.2.2.2.2.2.1,.int .i64 a.2.2.2.2.2.2.2.2.2.2.2.1,.sl (List.map Revision.cs a.2.2.2.2.2.2.2.2.2.2.2.2)]))] 2) (fun a=>k3 a.1 a.2.1 a.2.2.1 a.2.2.2.1 a.2.2.2.2.1 a.2.2.2.2.2.1 a.2.2.2.2.2.2.1 a.2.2.2.2.2.2.2.1 a.2.2.2.2.2.2.2.2.1 a.2.2.2.2.2.2.2.2.2.1 a.2.2.2.2.2.2.2.2.2.2.1 a.2.2.2.2.2.2.2.2.2.2.2.1 a.2.2.2.2.2.2.2.2.2.2.2.2=some r) (Zcy ?_) (fun a _ h=>?_)
refine ZaP (Zcy ?_)
refine Zm (Zcy ?_)
refine Zag h fun k4 hk4 h=>?_
refine Zax (α:=Bool) (fun x28 _=>mkS [(0,.ptr 0 (0,0) 0),(1,.int .i64 p1),(4,.ptr 4 (1,4) 0),(5,.ptr 5 (1,5) 0),(16,.int .i64 c2),(17,.bool x28)] [(0,some ((0,0),.box (SrcF.cs r4.2))),(4,some ((1,4),.box [.int .i64 0,.str (⟨#[]⟩:ByteArray),.str (⟨#[]⟩:ByteArray),.int .i64 0,.str (⟨#[]⟩:ByteArray),.int .i64 0,.str (⟨#[]⟩:ByteArray),.str (⟨#[]⟩:ByteArray),.int .i64 0,.nil])),(5,some ((1,5),.box [.int .i64 c2,.str r3.1,.str (⟨#[]⟩:ByteArray),.int .i64 r4.1.space,.str r4.1.name,.int .i64 0,.str (⟨#[]⟩:ByteArray),.str (⟨#[]⟩:ByteArray),.int .i64 0,.nil]))] 2) (fun x28=>k4 x28=some r) (Zcy ?_) (fun a _ h=>?_)
refine Zav rfl (fun c=>Zcy ?_) (fun c=>Zcy ?_)
replace h:=ifT c h
exact Zao (decide (c2=1)) 2 h (Zu [((1,4),(1,0)),((1,5),(2,9))] ⟨rfl,rfl,rfl,rfl,rfl,rfl,trivial⟩ ⟨⟨rfl,rfl⟩,⟨rfl,rfl⟩,⟨rfl,rfl⟩,trivial⟩ rfl)
replace h:=ifF c h
refine Zm (Zcy ?_)
exact Zao (decide (c2=9)) 2 h (Zu [((1,4),(1,0)),((1,5),(2,9))] ⟨rfl,rfl,rfl,rfl,rfl,rfl,trivial⟩ ⟨⟨rfl,rfl⟩,⟨rfl,rfl⟩,⟨rfl,rfl⟩,trivial⟩ rfl)
revert a;intro x28 h
subst hk4
dsimp only at h ⊢
refine Zcy ?_
refine Zav rfl (fun c=>Zcy ?_) (fun c=>Zcy ?_)
replace h:=ifT c h
refine Zm (Zcy ?_)
obtain ⟨r29,h13,h⟩:=bnd h
refine Zd7 (Zn3 _ _ h13) rfl rfl rfl rfl rfl (Zcy ?_)
obtain ⟨r30,h14,h⟩:=bnd h
refine Zd7 (Zlc _ _ h14) rfl rfl rfl rfl rfl (Zcy ?_)
refine Zm (Zcy ?_)
refine Zav rfl (fun c=>Zcy ?_) (fun c=>Zcy ?_)
replace h:=ifT c h
refine Zm (Zcy ?_)
obtain ⟨r31,h15,h⟩:=bnd h
refine Zd7 (ZB _ _ _ h15) rfl rfl rfl rfl rfl (Zcy ?_)
exact Zao (r31.2.l,r31.2.pos,r31.2.seed,c2,r3.1,r29.1,r4.1.space,r4.1.name,0,(⟨#[]⟩:ByteArray),r30.1,r31.1,[]) 2 h (Shift.trans (ZfU 5 rfl rfl) (Zu [((1,4),(1,4)),((1,5),(1,5))] ⟨rfl,rfl,rfl,trivial⟩ ⟨⟨rfl,rfl⟩,⟨rfl,rfl⟩,⟨rfl,rfl⟩,trivial⟩ rfl))
replace h:=ifF c h
exact Zao (r30.2.l,r30.2.pos,r30.2.seed,c2,r3.1,r29.1,r4.1.space,r4.1.name,0,(⟨#[]⟩:ByteArray),r30.1,0,[]) 2 h (Shift.trans (ZfU 5 rfl rfl) (Zu [((1,4),(1,4)),((1,5),(1,5))] ⟨rfl,rfl,rfl,trivial⟩ ⟨⟨rfl,rfl⟩,⟨rfl,rfl⟩,⟨rfl,rfl⟩,trivial⟩ rfl))
replace h:=ifF c h
refine Zm (Zcy ?_)
refine Zav rfl (fun c=>Zcy ?_) (fun c=>Zcy ?_)
replace h:=ifT c h
refine Zm (Zcy ?_)
obtain ⟨r32,h16,h⟩:=bnd h
refine Zd7 (Zi3 _ _ h16) rfl rfl rfl rfl rfl (Zcy ?_)
obtain ⟨r33,h17,h⟩:=bnd h
refine Zd7 (ZB _ _ _ h17) rfl rfl rfl rfl rfl (Zcy ?_)
exact Zao (r33.2.l,r33.2.pos,r33.2.seed,c2,r3.1,(⟨#[]⟩:ByteArray),r4.1.space,r4.1.name,r32.1.space,r32.1.name,(⟨#[]⟩:ByteArray),r33.1,[]) 2 h (Shift.trans (ZfU 5 rfl rfl) (Zu [((1,4),(1,4)),((1,5),(1,5))] ⟨rfl,rfl,rfl,trivial⟩ ⟨⟨rfl,rfl⟩,⟨rfl,rfl⟩,⟨rfl,rfl⟩,trivial⟩ rfl))
replace h:=ifF c h
refine Zm (Zcy ?_)
refine Zav rfl (fun c=>Zcy ?_) (fun c=>Zcy ?_)
replace h:=ifT c h
refine Zm (Zcy ?_)
obtain ⟨r34,h18,h⟩:=bnd h
refine Zd7 (ZlR _ _ _ h18) rfl rfl rfl rfl rfl (Zcy ?_)
exact Zao (r34.2.l,r34.2.pos,r34.2.seed,c2,r3.1,(⟨#[]⟩:ByteArray),r4.1.space,r4.1.name,0,(⟨#[]⟩:ByteArray),(⟨#[]⟩:ByteArray),0,r34.1) 2 h (Zu [((1,4),(1,4)),((1,5),(1,5))] ⟨rfl,rfl,rfl,trivial⟩ ⟨⟨rfl,rfl⟩,⟨rfl,rfl⟩,⟨rfl,rfl⟩,trivial⟩ rfl)
replace h:=ifF c h
refine Zm (Zcy ?_)
refine Zav rfl (fun c=>Zcy ?_) (fun c=>Zcy ?_)
replace h:=ifT c h
refine Zm (Zcy ?_)
obtain ⟨r35,h19,h⟩:=bnd h
refine Zd7 (ZB _ _ _ h19) rfl rfl rfl rfl rfl (Zcy ?_)
exact Zao (r35.2.l,r35.2.pos,r35.2.seed,6,(⟨#[]⟩:ByteArray),(⟨#[]⟩:ByteArray),0,(⟨#[]⟩:ByteArray),0,(⟨#[]⟩:ByteArray),(⟨#[]⟩:ByteArray),(w64 (1+r35.1)),[]) 2 h (Shift.trans (ZfU 5 rfl rfl) (Zu [((1,4),(1,4)),((1,5),(1,5))] ⟨rfl,rfl,rfl,trivial⟩ ⟨⟨rfl,rfl⟩,⟨rfl,rfl⟩,⟨rfl,rfl⟩,trivial⟩ rfl))
replace h:=ifF c h
refine Zm (Zcy ?_)
refine Zag h fun k5 hk5 h=>?_
refine Zax (α:=Bool) (fun x36 _=>mkS [(0,.ptr 0 (0,0) 0),(4,.ptr 4 (1,4) 0),(5,.ptr 5 (1,5) 0),(16,.int .i64 c2),(52,.bool x36)] [(0,some ((0,0),.box (SrcF.cs r4.2))),(4,some ((1,4),.box [.int .i64 0,.str (⟨#[]⟩:ByteArray),.str (⟨#[]⟩:ByteArray),.int .i64 0,.str (⟨#[]⟩:ByteArray),.int .i64 0,.str (⟨#[]⟩:ByteArray),.str (⟨#[]⟩:ByteArray),.int .i64 0,.nil])),(5,some ((1,5),.box [.int .i64 c2,.str r3.1,.str (⟨#[]⟩:ByteArray),.int .i64 r4.1.space,.str r4.1.name,.int .i64 0,.str (⟨#[]⟩:ByteArray),.str (⟨#[]⟩:ByteArray),.int .i64 0,.nil]))] 2) (fun x36=>k5 x36=some r) (Zcy ?_) (fun a _ h=>?_)
refine Zav rfl (fun c=>Zcy ?_) (fun c=>Zcy ?_)
replace h:=ifT c h
exact Zao (decide (c2=7)) 2 h (Zu [((1,4),(1,4)),((1,5),(1,5))] ⟨rfl,rfl,rfl,rfl,rfl,trivial⟩ ⟨⟨rfl,rfl⟩,⟨rfl,rfl⟩,⟨rfl,rfl⟩,trivial⟩ rfl)
replace h:=ifF c h
refine Zm (Zcy ?_)
exact Zao (decide (c2=8)) 2 h (Zu [((1,4),(1,4)),((1,5),(1,5))] ⟨rfl,rfl,rfl,rfl,rfl,trivial⟩ ⟨⟨rfl,rfl⟩,⟨rfl,rfl⟩,⟨rfl,rfl⟩,trivial⟩ rfl)
revert a;intro x36 h
subst hk5
dsimp only at h ⊢
refine Zcy ?_
refine Zav rfl (fun c=>Zcy ?_) (fun c=>Zcy ?_)
replace h:=ifT c h
refine Zm (Zcy ?_)
refine Zav rfl (fun c=>Zcy ?_) (fun c=>Zcy ?_)
replace h:=ifT c h
refine Zm (Zcy ?_)
exact Zao (r4.2.l,r4.2.pos,r4.2.seed,c2,(⟨#[98,111,98]⟩:ByteArray),(⟨#[]⟩:ByteArray),r4.1.space,r4.1.name,0,(⟨#[]⟩:ByteArray),(⟨#[]⟩:ByteArray),0,[]) 2 h (Shift.trans (ZfU 5 rfl rfl) (Zu [((1,4),(1,4)),((1,5),(1,5))] ⟨rfl,rfl,rfl,trivial⟩ ⟨⟨rfl,rfl⟩,⟨rfl,rfl⟩,⟨rfl,rfl⟩,trivial⟩ rfl))
replace h:=ifF c h
exact Zao (r4.2.l,r4.2.pos,r4.2.seed,c2,r3.1,(⟨#[]⟩:ByteArray),r4.1.space,r4.1.name,0,(⟨#[]⟩:ByteArray),(⟨#[]⟩:ByteArray),0,[]) 2 h (Shift.trans (ZfU 5 rfl rfl) (Zu [((1,4),(1,4)),((1,5),(1,5))] ⟨rfl,rfl,rfl,trivial⟩ ⟨⟨rfl,rfl⟩,⟨rfl,rfl⟩,⟨rfl,rfl⟩,trivial⟩ rfl))
replace h:=ifF c h
refine Zm (Zcy ?_)
refine Zav rfl (fun c=>Zcy ?_) (fun c=>Zcy ?_)
replace h:=ifT c h
refine Zm (Zcy ?_)
obtain ⟨r37,h20,h⟩:=bnd h
refine Zd7 (ZB _ _ _ h20) rfl rfl rfl rfl rfl (Zcy ?_)
exact Zao (r37.2.l,r37.2.pos,r37.2.seed,c2,r3.1,(⟨#[]⟩:ByteArray),0,(⟨#[]⟩:ByteArray),0,(⟨#[]⟩:ByteArray),(⟨#[]⟩:ByteArray),(w64 (1+r37.1)),[]) 2 h (Shift.trans (ZfU 5 rfl rfl) (Zu [((1,4),(1,4)),((1,5),(1,5))] ⟨rfl,rfl,rfl,trivial⟩ ⟨⟨rfl,rfl⟩,⟨rfl,rfl⟩,⟨rfl,rfl⟩,trivial⟩ rfl))
replace h:=ifF c h
exact Zao (r4.2.l,r4.2.pos,r4.2.seed,c2,r3.1,(⟨#[]⟩:ByteArray),r4.1.space,r4.1.name,0,(⟨#[]⟩:ByteArray),(⟨#[]⟩:ByteArray),0,[]) 2 h (Shift.trans (ZfU 5 rfl rfl) (Zu [((1,4),(1,4)),((1,5),(1,5))] ⟨rfl,rfl,rfl,trivial⟩ ⟨⟨rfl,rfl⟩,⟨rfl,rfl⟩,⟨rfl,rfl⟩,trivial⟩ rfl))
obtain ⟨x15,x16,x17,x18,x19,x20,x21,x22,x23,x24,x25,x26,x27⟩:=a
subst hk3
dsimp only at h ⊢
refine Zcy ?_
refine Zm (Zcy ?_)
cases h
exact Zgh rfl rfl rfl rfl rfl}
def Zfx (p0:SrcF) (p1:Int):Option ((List Change)×SrcF):=(Zz p0 6).bind fun r1=>(Zyx .i64 r1.1 3).bind fun q2=>ZE Zaq (fun f2 ((x24,x25,x26,x27,x28):Int×(List Int)×Int×Int×(List Change))=>if (decide (0<x24)) then (ZgJ (⟨x25,x26,x27⟩:SrcF) p1).bind fun r35=>(Zbo 136 x28 [r35.1]).bind fun l36=>f2 ((w64 (x24-1)),r35.2.l,r35.2.pos,r35.2.seed,l36) else (some (x28,(⟨x25,x26,x27⟩:SrcF)):Option ((List Change)×SrcF))) ((w64 (1+q2)),r1.2.l,r1.2.pos,r1.2.seed,([]:List Change))
theorem ZoI (p0:SrcF) (p1:Int) (r:(List Change)×SrcF) (h:Zfx p0 p1=some r):Contract Tryz.prog 58 [.ptr 0 (0,0) 0,.int .i64 p1] (some (0,p0.cs)) (.sl (List.map Change.cs r.1)) (r.2).cs:=by{
refine Za4 (R:=fun r=>.sl (List.map Change.cs r.1)) (O:=fun r=>(r.2).cs) h mix Tryz.func58 (by kernel_rfl) rfl (by kernel_rfl) fun r h=>?_
unfold Zfx at h
refine Zf ?_
refine rg ?_
refine rg ?_
refine rg ?_
refine aO h (ZB _ _) fun r1 h=>?_
obtain ⟨q2,h2,h⟩:=bnd h
refine ZyB rfl h2 rfl rfl (Zf ?_)
refine bl ?_
refine Zk h fun f2 mf2 hf2 h=>?_
refine Zi (α:=Nat×(Int×(List Int)×Int×Int×(List Change))) (fun a _=>mkS [(0,.ptr 0 (0,0) 0),(1,.int .i64 p1),(5,.row 5 (1,5)),(6,.int .i64 a.2.1)] [(0,some ((0,0),.box [.sl (List.map csI a.2.2.1),.int .i64 a.2.2.2.1,.int .u64 a.2.2.2.2.1])),(5,some ((1,5),.row 51 10 false (List.map Change.cs a.2.2.2.2.2)))] 2) (fun a=>ZE a.1 f2 a.2=some r) (fun a=>a.1) (mf2,(w64 (1+q2)),r1.2.l,r1.2.pos,r1.2.seed,([]:List Change)) 2 h (Zam [] 5 51 10 rfl ⟨rfl,rfl,rfl,rfl,trivial⟩ ⟨⟨rfl,rfl⟩,⟨rfl,rfl⟩,trivial⟩ rfl) (fun a _ h=>?_)
obtain ⟨mf2,x24,x25,x26,x27,x28⟩:=a
obtain ⟨mf2,rfl,h⟩:=Zl hf2 h
dsimp only at h ⊢
refine Zf ?_
refine rg ?_
refine cS h rfl (fun h=>?_) fun h=>?_
refine bl ?_
refine rg ?_
refine aO h (Zp3 _ _) fun r35 h=>?_
refine ZF (M:=([r35.1]:List Change)) (f:=Change.cs) rfl rfl rfl rfl (Nat.le_of_ble_eq_true rfl) rfl (Zf ?_)
refine pR Change.cs h fun l36 h=>?_
refine rg ?_
exact rn (mf2,(w64 (x24-1)),r35.2.l,r35.2.pos,r35.2.seed,l36) h (sR [(5,3,5)])
refine rg ?_
cases h
exact Zgh rfl rfl rfl rfl rfl}
def ZzZ:List ByteArray:=[(⟨#[97,110,110]⟩:ByteArray),(⟨#[98,111,98]⟩:ByteArray),(⟨#[]⟩:ByteArray),(⟨#[99,121]⟩:ByteArray),(⟨#[97,110,110]⟩:ByteArray)]
def Zz0:List ByteArray:=[(⟨#[]⟩:ByteArray),(⟨#[110,111,116,101]⟩:ByteArray),(⟨#[97,95,98,32,126]⟩:ByteArray)]
def ZcA:List Title:=[(⟨0,(⟨#[65]⟩:ByteArray)⟩:Title),(⟨0,(⟨#[66]⟩:ByteArray)⟩:Title),(⟨0,(⟨#[65,47,67]⟩:ByteArray)⟩:Title),(⟨3,(⟨#[84]⟩:ByteArray)⟩:Title),(⟨4,(⟨#[88]⟩:ByteArray)⟩:Title),(⟨4,(⟨#[89]⟩:ByteArray)⟩:Title),(⟨2,(⟨#[65,110,110]⟩:ByteArray)⟩:Title),(⟨0,(⟨#[68]⟩:ByteArray)⟩:Title)]
def usersG:List ByteArray:=[(⟨#[]⟩:ByteArray),(⟨#[97,110,110]⟩:ByteArray),(⟨#[98,111,98]⟩:ByteArray),(⟨#[99,121]⟩:ByteArray)]
structure SrcF.ok (s:SrcF):Prop where
 len:s.l.length<=9223372036854775807
 pos:0<=s.pos
theorem Zk5 (v n:Int) (h0:0<n) (h1:n<=4611686018427387904):Tot (Zea v n) fun r=>0<=r/\r<n:=by{
unfold Zea
refine Zq3 (by omega) ?_
have e1:Int.tmod v n<n:=Int.tmod_lt_of_pos v h0
have e2 : -n<Int.tmod v n:=by
 have:=Int.tmod_lt_of_pos (-v) h0
 rw [Int.neg_tmod] at this
 omega
refine Zap ?_
refine Zd (fun h=>?_) fun h=>?_
rw [Zn]
exact Zc (by omega)
exact Zc (by omega)}
theorem Zwk (l:List Int) (hl:l.length<=9223372036854775807):Tot (Zi2 l) fun s=>s.ok:=by{
unfold Zi2
refine Zr (fun a:Int×Int=>0<=a.1/\a.1<=64/\a.1<=(l.length:Int)) (fun a=>(64-a.1).toNat) ⟨by simp,by simp,by simp⟩ (by simp) ?_
rintro ⟨i,sd⟩ rec ⟨h0,h1,h2⟩ ih
dsimp only at h0 h1 h2 ⊢
refine Zap ?_
refine Zd (fun h=>?_) fun h=>?_
refine Zd (fun h'=>?_) fun h'=>?_
refine Zq h0 h fun e _ _=>?_
refine Znf (by decide) ?_
rw [Zn]
exact ih _ ⟨by dsimp only;omega,by dsimp only;omega,by dsimp only;omega⟩ (by dsimp only;omega)
exact Zc ⟨hl,Int.le_refl _⟩
exact Zc ⟨hl,Int.le_refl _⟩}
theorem ZcB (s:SrcF) (n:Int) (hs:s.ok) (h0:0<n) (h1:n<=4294967296):Tot (Zz s n) fun r=>(0<=r.1/\r.1<n)/\r.2.ok:=by{
have hl:=hs.len
have hp:=hs.pos
unfold Zz
refine Zd (fun h=>?_) fun h=>?_
have e:w64 (s.pos+1)=s.pos+1:=Zn
rw [e,Zn]
refine Zq (by omega) (by omega) fun e _ _=>?_
refine Zh (Zk5 e n h0 (by omega)) fun r hr=>?_
exact Zc ⟨hr,⟨hl,by dsimp only;omega⟩⟩
refine Znf (by decide) ?_
have e:IntKind.wrap .u64 n=n:=by rw [IntKind.wrap_u64];omega
rw [e]
refine Zq3 (by omega) ?_
generalize hx:(IntKind.wrap .u64 ((IntKind.wrap .u64 (s.seed * 6364136223846793005))+1442695040888963407))=x
have hx0:0<=x:=by rw [<- hx,IntKind.wrap_u64];omega
have hq:0<=Int.fdiv x (2 ^ (min (33:Int).toNat (IntKind.u64).bits)):=Int.fdiv_nonneg hx0 (by decide)
generalize Int.fdiv x (2 ^ (min (33:Int).toNat (IntKind.u64).bits))=q at hq ⊢
have e1:Int.tmod q n<n:=Int.tmod_lt_of_pos q h0
have e2:0<=Int.tmod q n:=Int.tmod_nonneg n hq
have e3:IntKind.wrap .i64 (Int.tmod q n)=Int.tmod q n:=by rw [IntKind.wrap_i64];omega
rw [e3]
exact Zc ⟨⟨e2,e1⟩,⟨hl,hp⟩⟩}
theorem Zk6 {α β:Type} {l:List α} {i:Int} {f:α->Option β} {R:β->Prop} (n:Int) (hn:(l.length:Int)=n) (h:0<=i/\i<n) (k:∀ e,e ∈ l->Tot (f e) R):Tot ((atI l i).bind f) R:=Zq h.1 (by omega) fun e he _=>k e he
theorem ZpW (s:SrcF) (hs:s.ok):Tot (ZfK s) fun r=>r.1 ∈ ZcA/\r.2.ok:=by{
unfold ZfK Zfi
refine Za rfl ?_
refine Zh (ZcB s 8 hs (by omega) (by omega)) fun r hr=>?_
exact Zk6 8 rfl hr.1 fun e he=>Zc ⟨he,hr.2⟩}
theorem Zuv (s:SrcF) (hs:s.ok):Tot (ZhG s) fun r=>r.1 ∈ ZzZ/\r.2.ok:=by
 unfold ZhG
 refine Zh (ZcB s 5 hs (by omega) (by omega)) fun r hr=>?_
 exact Zk6 5 rfl hr.1 fun e he=>Zc ⟨he,hr.2⟩
theorem Zws (s:SrcF) (hs:s.ok):Tot (Zi4 s) fun r=>r.1 ∈ Zz0/\r.2.ok:=by
 unfold Zi4
 refine Zh (ZcB s 3 hs (by omega) (by omega)) fun r hr=>?_
 exact Zk6 3 rfl hr.1 fun e he=>Zc ⟨he,hr.2⟩
theorem Zv6 (s:SrcF) (hs:s.ok):Tot (ZgI s) fun r=>r.1 ∈ policyG/\r.2.ok:=by
 unfold ZgI
 refine Zh (ZcB s 8 hs (by omega) (by omega)) fun r hr=>?_
 exact Zk6 8 rfl hr.1 fun e he=>Zc ⟨he,hr.2⟩
theorem Zuw:∀ p ∈ Zwd,p.size<=40:=by decide
theorem Zyf (s:SrcF) (hs:s.ok):Tot (ZiF s) fun r=>r.1.size<=40/\r.2.ok:=by
 unfold ZiF
 refine Zh (ZcB s 28 hs (by omega) (by omega)) fun r hr=>?_
 exact Zk6 28 rfl hr.1 fun e he=>Zc ⟨Zuw e he,hr.2⟩
theorem Zux (s:SrcF) (hs:s.ok):Tot (ZhZ s) fun r=>r.1.size<=300/\r.2.ok:=by{
unfold ZhZ
refine Zh (ZcB s 12 hs (by omega) (by omega)) fun r hr=>?_
refine Zw (fun q=>∀ t l p sd,t.size<=40->(⟨l,p,sd⟩:SrcF).ok->Tot (q t l p sd) fun r:ByteArray×SrcF=>r.1.size<=300/\r.2.ok) ?_ ?_
intro t l p sd ht hok
refine Zh (ZcB _ 5 hok (by omega) (by omega)) fun r hr=>?_
refine Zr (fun a:ByteArray×Int×List Int×Int×Int=>(a.1.size:Int)+40 * a.2.1<=300/\(0<=a.2.1/\a.2.1<=5)/\(⟨a.2.2.1,a.2.2.2.1,a.2.2.2.2⟩:SrcF).ok) (fun a=>a.2.1.toNat) ⟨by dsimp only;omega,⟨hr.1.1,by dsimp only;omega⟩,hr.2⟩ (by dsimp only;omega) ?_
rintro ⟨t,n,l,p,sd⟩ rec ⟨h1,h2,h3⟩ ih
dsimp only at h1 h2 h3 ⊢
refine Zd (fun h=>?_) fun h=>?_
refine Zh (Zyf _ h3) fun r hr=>?_
have:=hr.1
refine ZfX (by omega) fun hsz=>?_
rw [Zn]
refine ih _ ⟨?_,?_,hr.2⟩ ?_
dsimp only;rw [hsz];omega
dsimp only;omega
dsimp only;omega
exact Zc ⟨by dsimp only;omega,h3⟩
intro k hk
refine Zd (fun h=>?_) fun h=>?_
refine Zh (ZcB _ 3 hr.2 (by omega) (by omega)) fun r2 hr2=>?_
refine Zk6 3 rfl hr2.1 fun e he=>?_
have he':e.size<=10:=by
 simp at he
 rcases he with rfl | rfl | rfl<;>decide
refine ZfX (by show 12+e.size<=_;omega) fun hs1=>?_
have hs1':(ByteArray.append ⟨#[35,82,69,68,73,82,69,67,84,32,91,91]⟩ e).size<=22:=by
 have:(⟨#[35,82,69,68,73,82,69,67,84,32,91,91]⟩:ByteArray).size=12:=rfl
 rw [this] at hs1
 exact Nat.le_trans (Nat.le_of_eq hs1) (by omega)
refine ZfX (Nat.le_trans (Nat.add_le_add_right hs1' 3) (by decide)) fun hs2=>?_
exact hk _ _ _ _ (Nat.le_trans (Nat.le_of_eq hs2) (Nat.le_trans (Nat.add_le_add_right hs1' 3) (by decide))) hr2.2
exact hk _ _ _ _ (by decide) hr.2}
theorem Zps (s:SrcF) (clock:Int) (hs:s.ok):Tot (ZdM s clock) fun r=>r.1.length<=3/\r.2.ok:=by{
unfold ZdM
refine Zh (ZcB s 3 hs (by omega) (by omega)) fun r hr=>?_
refine Zr (fun a:Int×Int×List Int×Int×Int×List Revision=>((a.2.2.2.2.2.length:Int)+a.2.1<=3/\0<=a.2.1/\a.2.1<=3)/\(⟨a.2.2.1,a.2.2.2.1,a.2.2.2.2.1⟩:SrcF).ok) (fun a=>a.2.1.toNat) ⟨?_,hr.2⟩ ?_ ?_
dsimp only
rw [Zn]
simp
omega
dsimp only
rw [Zn]
omega
rintro ⟨m,n,l,p,sd,out⟩ rec ⟨⟨h1,h2,h3⟩,h4⟩ ih
dsimp only at h1 h2 h3 h4 ⊢
refine Zd (fun h=>?_) fun h=>?_
refine Zh (Zuv _ h4) fun r1 q1=>?_
refine Zh (Zws _ q1.2) fun r2 q2=>?_
refine Zh (Zux _ q2.2) fun r3 q3=>?_
refine ZC 3 (by simp;omega) (by decide) (by decide) ?_
refine Zh (ZcB _ 3 q3.2 (by omega) (by omega)) fun r4 q4=>?_
have e:w64 (n-1)=n-1:=Zn
refine ih _ ⟨?_,q4.2⟩ ?_
dsimp only
rw [e]
simp
omega
dsimp only
rw [e]
omega
exact Zc ⟨by dsimp only;omega,h4⟩}
def policyT:Title:=⟨5,⟨#[80,111,108,105,99,121]⟩⟩
structure Change.tame (c:Change):Prop where
 title:c.title≠policyT
 «to» : c.to≠policyT
 n0:0<=c.n
 n1:c.n<=2000
 hist:c.history.length<=3
 text:c.text.size<=300
theorem Zii:∀ t ∈ ZcA,t≠policyT:=by decide
theorem ZdZ:(⟨0,⟨#[]⟩⟩:Title)≠policyT:=by decide
theorem Zn4 {a b:ByteArray} (h:a.toList=b.toList):a=b:=by{
rw [ByteArray.toList_eq,ByteArray.toList_eq] at h
have:a.data=b.data:=Array.ext' h
cases a;cases b
simp at this
rw [this]}
def Zkc (a b:ByteArray):Prop:=ltS a b=true
theorem Zkd (a b:ByteArray):Zkc a b↔a.toList<b.toList:=by unfold Zkc ltS;rw [bytesLess_eq];simp
theorem ZhH (a:ByteArray):¬ Zkc a a:=by rw [Zkd];exact List.lt_irrefl _
theorem Zi5 {a b c:ByteArray} (h:Zkc a b) (k:Zkc b c):Zkc a c:=by
 rw [Zkd] at *
 exact List.lt_trans h k
theorem Zi6 {a b:ByteArray} (h:a≠b):Zkc a b\/Zkc b a:=by{
rw [Zkd,Zkd]
rcases Classical.em (a.toList<b.toList) with h1 | h1
exact .inl h1
rcases Classical.em (b.toList<a.toList) with h2 | h2
exact .inr h2
exact absurd (Zn4 (List.le_antisymm (List.not_lt.1 h2) (List.not_lt.1 h1))) h}
def tlt (a b:Title):Prop:=Title.cmp a b<0
theorem ZmN (a b:Title):tlt a b↔a.space<b.space\/(a.space=b.space/\Zkc a.name b.name):=by{
unfold tlt Zkc ltS
rw [Znp]
by_cases h1:a.space<b.space
simp [h1]
by_cases h2:b.space<a.space
simp [h1,h2]
omega
have e:a.space=b.space:=by omega
simp only [h1,h2,if_false,false_or]
by_cases h:Op.bytesLess a.name.toList b.name.toList=true
simp [h,e]
simp only [h]
by_cases h':a.name.toList=b.name.toList<;>simp [h',e]}
theorem Zgq {a b c:Title} (h:tlt a b) (k:tlt b c):tlt a c:=by{
rw [ZmN] at *
rcases h with h | ⟨h1,h2⟩<;>rcases k with k | ⟨k1,k2⟩
exact .inl (by omega)
exact .inl (by omega)
exact .inl (by omega)
exact .inr ⟨by omega,Zi5 h2 k2⟩}
theorem Zn5 {a b:Title} (h1:a.space=b.space) (h2:a.name=b.name):a=b:=by cases a;cases b;simp_all
theorem ZkE {a b:Title} (h:a≠b):tlt a b\/tlt b a:=by{
rw [ZmN,ZmN]
by_cases h1:a.space<b.space
exact .inl (.inl h1)
by_cases h2:b.space<a.space
exact .inr (.inl h2)
have e:a.space=b.space:=by omega
rcases Zi6 (fun e2=>h (Zn5 e e2)) with h3 | h3
exact .inl (.inr ⟨e,h3⟩)
exact .inr (.inr ⟨e.symm,h3⟩)}
theorem ZaE (a:Title):¬ tlt a a:=by{
rw [ZmN]
rintro (h | ⟨_,h⟩)
omega
exact ZhH _ h}
theorem Zi7 {α:Type} {lt:α->α->Prop} (tr:∀ a b c,lt a b->lt b c->lt a c) {l:List α} {x:α} {n:Nat} (hs:l.Pairwise lt) (h1:∀ y ∈ l.take n,lt y x) (h2:∀ y,l[n]? = some y->lt x y):(l.take n++x::l.drop n).Pairwise lt:=by{
have hd:∀ y ∈ l.drop n,lt x y:=fun y hy=>by
 cases hl:l.drop n with
 | nil=>rw [hl] at hy;cases hy
 | cons z zs=>
   have hz:l[n]? = some z:=by
    have:(l.drop n)[0]? = some z:=by rw [hl];rfl
    rw [List.getElem?_drop] at this
    simpa using this
   have hp:(z::zs).Pairwise lt:=hl ▸ hs.sublist (List.drop_sublist n l)
   rw [hl] at hy
   rcases List.mem_cons.1 hy with rfl | hy
   exact h2 _ hz
   exact tr _ _ _ (h2 _ hz) ((List.pairwise_cons.1 hp).1 y hy)
refine List.pairwise_append.2 ⟨hs.sublist (List.take_sublist n l),List.pairwise_cons.2 ⟨hd,hs.sublist (List.drop_sublist n l)⟩,fun a ha b hb=>?_⟩
rcases List.mem_cons.1 hb with rfl | hb
exact h1 a ha
exact tr _ _ _ (h1 a ha) (hd b hb)}
theorem Zrm {α:Type} {lt:α->α->Prop} {l:List α} {x y:α} {n:Nat} (hs:l.Pairwise lt) (hy:l[n]? = some y) (h1:∀ z,lt z y->lt z x) (h2:∀ z,lt y z->lt x z):(l.take n++x::l.drop (n+1)).Pairwise lt:=by{
have hl:l=l.take n++y::l.drop (n+1):=by
 conv=>lhs;rw [<- List.take_append_drop n l]
 rw [Zk4 hy]
rw [hl] at hs
obtain ⟨p1,p2,p3⟩:=List.pairwise_append.1 hs
obtain ⟨p4,p5⟩:=List.pairwise_cons.1 p2
refine List.pairwise_append.2 ⟨p1,List.pairwise_cons.2 ⟨fun z hz=>h2 _ (p4 z hz),p5⟩,fun a ha b hb=>?_⟩
rcases List.mem_cons.1 hb with rfl | hb
exact h1 _ (p3 a ha y (List.mem_cons_self ..))
exact p3 a ha b (List.mem_cons_of_mem _ hb)}
theorem ZfL {α:Type} (l:List α) (n:Nat):(l.take n++l.drop (n+1)).Sublist l:=by{
conv=>rhs;rw [<- List.take_append_drop n l]
refine List.Sublist.append (List.Sublist.refl _) ?_
rw [<- List.drop_drop]
exact List.drop_sublist _ _}
theorem ZhI {α:Type} {l:List α} {n:Nat} {x:α} (h:x ∈ l.take n++l.drop (n+1)):x ∈ l:=(ZfL l n).subset h
theorem ZmO {α:Type} {l:List α} {n:Nat} (h:n<l.length):(l.take n++l.drop (n+1)).length+1=l.length:=by simp;omega
theorem ZkF {α:Type} {l:List α} {n:Nat} {x y:α} (h:y ∈ l.take n++x::l.drop n):y=x\/y ∈ l:=by{
rcases List.mem_append.1 h with h | h
exact .inr (List.mem_of_mem_take h)
rcases List.mem_cons.1 h with h | h
exact .inl h
exact .inr (List.mem_of_mem_drop h)}
theorem ZhJ {α:Type} {l:List α} {n:Nat} {x:α} (h:n<=l.length):(l.take n++x::l.drop n).length=l.length+1:=by simp;omega
def Zc7 (u:ByteArray):Bool:=decide (u=⟨#[]⟩)||Za0 u
structure RevOK (clock q:Int) (r:Revision):Prop where
 text:r.text.size<=8192
 note:r.note.size<=200
 user:Zc7 r.user=true
 minute0:0<=r.minute
 minute1:r.minute<=clock
 seq0:1<=r.seq
 seq1:r.seq<=q
def ZzR (a b:Revision):Prop:=a.minute<=b.minute/\a.seq<=b.seq
structure HistOK (clock q:Int) (l:List Revision):Prop where
 len1:1<=l.length
 len2:l.length<=40
 num:∀ (i:Nat) r,l[i]? = some r->r.number=(i:Int)+1
 all:∀ r ∈ l,RevOK clock q r
 mono:l.Pairwise ZzR
structure StoOK (clock q:Int) (p:Stored):Prop where
 title:p.title.valid=true
 hist:HistOK clock q p.history
structure PropOK (clock top:Int) (p:Proposal):Prop where
 id1:p.id<=top
 user:Zc7 p.user=true
 title:p.title.valid=true
 base0:0<=p.base
 base1:p.base<=40
 text:p.text.size<=8192
 note:p.note.size<=200
 minute0:0<=p.minute
 minute1:p.minute<=clock
def wlt (a b:Watch):Prop:=Zkc a.user b.user\/(a.user=b.user/\tlt a.title b.title)
def ZkH (p:Stored):ByteArray:=(p.history.getLast?.map (·.text)).getD ⟨#[]⟩
structure VS (t0:ByteArray) (q:Int) (s:State):Prop where
 seq0:0<=s.seq
 clock0:0<=s.clock
 clock1:s.clock<=52595999
 plen:s.pages.length<=200
 glen:s.gone.length<=100
 pages:∀ p ∈ s.pages,StoOK s.clock q p
 gone:∀ p ∈ s.gone,StoOK s.clock q p
 sorted:s.pages.Pairwise fun a b=>tlt a.title b.title
 rule:∀ p ∈ s.pages,p.title=policyT->ZkH p=t0
 prlen:s.proposals.length<=40
 prop0:0<=s.proposed
 prop1:s.proposed<=1073741824
 props:∀ p ∈ s.proposals,PropOK s.clock s.proposed p
 ids:∀ p ∈ s.proposals,1<=p.id
 prsort:s.proposals.Pairwise fun a b=>a.id<b.id
 wlen:s.watches.length<=100
 watches:∀ w ∈ s.watches,Za0 w.user=true/\w.title.valid=true
 wsort:s.watches.Pairwise wlt
 llen:s.lasts.length<=60
 lasts:∀ w ∈ s.lasts,Za0 w.user=true/\1<=w.seq/\w.seq<=q
 lsort:s.lasts.Pairwise fun a b=>Zkc a.user b.user
theorem Zl9 (u:ByteArray):Zej u=some (Zc7 u):=by{
unfold Zej letk Zaz Zc7
by_cases h:u=(⟨#[]⟩:ByteArray)
simp [h]
simp [h]}
theorem Zjc (u:ByteArray):Zb2 u=some (Zc7 u):=by{
unfold Zb2 letk Zaz Zc7
by_cases h:u=(⟨#[]⟩:ByteArray)
simp [h]
simp [h]}
theorem Zad {α:Type} {x:Option α} {v:α} (h:Tot x fun r=>r=v):x=some v:=by
 obtain ⟨w,h1,h2⟩:=h
 rw [h1,h2]
theorem Zs {β:Type} {b:Bool} {x y:Option β} {R:β->Prop} (h:b=false) (k:Tot y R):Tot (if b=true then x else y) R:=by rw [if_neg (by rw [h];simp)];exact k
theorem ZH {β:Type} {b:Bool} {x y:Option β} {R:β->Prop} (h:b=true) (k:Tot x R):Tot (if b=true then x else y) R:=by rw [if_pos h];exact k
theorem Zgs {α:Type} {R:α->α->Prop} {l:List α} (h:l.Pairwise R) {i j:Nat} {a b:α} (hij:i<j) (ha:l[i]? = some a) (hb:l[j]? = some b):R a b:=by
 obtain ⟨h1,rfl⟩:=List.getElem?_eq_some_iff.1 ha
 obtain ⟨h2,rfl⟩:=List.getElem?_eq_some_iff.1 hb
 exact List.pairwise_iff_getElem.1 h i j h1 h2 hij
theorem Zod (s:State) (q:Int) (l:List Revision) (hq:s.seq=q) (h:HistOK s.clock q l):Zda s l=some true:=by{
subst hq
have h1:=h.len1
have h2:=h.len2
refine Zad ?_
unfold Zda
refine Zw (fun k=>Tot (k false) fun r=>r=true) ?_ fun k hk=>?_
refine Zs rfl ?_
refine Zr (fun a:Int×Int×Int=>(0<=a.2.2/\a.2.2<=(l.length:Int))/\(a.2.2=0->a.1=0/\a.2.1=1)/\∀ r,0<a.2.2->l[(a.2.2-1).toNat]? = some r->a.1=r.minute/\a.2.1=r.seq) (fun a=>((l.length:Int)-a.2.2).toNat) ⟨by simp,by simp,fun r h=>by simp at h⟩ (by first | omega | (dsimp only;omega)) ?_
rintro ⟨m,q,i⟩ rec ⟨⟨h3,h4⟩,h5,h6⟩ ih
dsimp only at h3 h4 h5 h6 ⊢
refine Zd (fun hi=>?_) fun hi=>Zc rfl
refine Zq h3 hi fun e he hg=>?_
have hr:=h.all e he
have hn:=h.num _ _ hg
have e1:w64 (i+1)=i+1:=Zn
have hm:m<=e.minute/\q<=e.seq:=by
 rcases Int.lt_or_eq_of_le h3 with h0 | h0
 obtain ⟨r,hr'⟩:∃ r,l[(i-1).toNat]? = some r:=⟨_,List.getElem?_eq_getElem (by omega)⟩
 obtain ⟨rfl,rfl⟩:=h6 r h0 hr'
 exact Zgs h.mono (by omega) hr' hg
 obtain ⟨rfl,rfl⟩:=h5 h0.symm
 exact ⟨hr.minute0,hr.seq0⟩
have a1:=hr.text
have a2:=hr.note
have a3:=hr.minute1
have a4:=hr.seq1
refine Zw (fun k=>Tot (k false) fun r=>r=true) ?_ fun k hk=>?_
refine Zs rfl ?_
rw [e1]
refine ih _ ⟨⟨by dsimp only;omega,by dsimp only;omega⟩,fun h=>by dsimp only at h;omega,fun r _ hr'=>?_⟩ (by first | omega | (dsimp only;omega))
dsimp only at hr' ⊢
rw [show i+1-1=i by omega,hg] at hr'
injection hr' with hr'
subst hr'
exact ⟨rfl,rfl⟩
rw [e1]
refine Zak (fun c=>absurd (by omega) c) fun _=>?_
refine Zd (fun c=>absurd c (by omega)) fun _=>?_
refine Zd (fun c=>absurd c (by omega)) fun _=>?_
refine Za (Zl9 _) ?_
refine Zs (by rw [hr.user];rfl) ?_
refine Zd (fun c=>absurd c (by omega)) fun _=>?_
refine Zd (fun c=>absurd c (by omega)) fun _=>?_
refine Zd (fun c=>absurd c (by omega)) fun _=>?_
rw [decide_eq_false (by omega)]
exact hk
refine Zd (fun c=>absurd c (by omega)) fun _=>?_
rw [decide_eq_false (by omega)]
exact hk}
theorem ZpB (t0:ByteArray) (q:Int) (s:State) (h:VS t0 q s):Zc2 s=some true:=by{
have h1:=h.prlen
have h2:=h.prop0
have h3:=h.prop1
refine Zad ?_
unfold Zc2
refine Zw (fun k=>Tot (k false) fun r=>r=true) ?_ fun k hk=>?_
refine Zs rfl ?_
refine Zr (fun a:Int×Int=>(0<=a.2/\a.2<=(s.proposals.length:Int))/\(a.2=0->a.1=0)/\∀ p,0<a.2->s.proposals[(a.2-1).toNat]? = some p->a.1=p.id) (fun a=>((s.proposals.length:Int)-a.2).toNat) ⟨by simp,by simp,fun r h=>by simp at h⟩ (by first | omega | (dsimp only;omega)) ?_
rintro ⟨m,i⟩ rec ⟨⟨h3,h4⟩,h5,h6⟩ ih
dsimp only at h3 h4 h5 h6 ⊢
refine Zd (fun hi=>?_) fun hi=>Zc rfl
refine Zq h3 hi fun e he hg=>?_
have hr:=h.props e he
have hid:=h.ids e he
have e1:w64 (i+1)=i+1:=Zn
have hm:m<e.id:=by
 rcases Int.lt_or_eq_of_le h3 with h0 | h0
 obtain ⟨r,hr'⟩:∃ r,s.proposals[(i-1).toNat]? = some r:=⟨_,List.getElem?_eq_getElem (by omega)⟩
 obtain rfl:=h6 r h0 hr'
 exact Zgs h.prsort (by omega) hr' hg
 obtain rfl:=h5 h0.symm
 omega
have a1:=hr.text
have a2:=hr.note
have a3:=hr.minute1
have a4:=hr.minute0
have a5:=hr.base0
have a6:=hr.base1
have a7:=hr.id1
refine Zw (fun k=>Tot (k false) fun r=>r=true) ?_ fun k hk=>?_
refine Zs rfl ?_
rw [e1]
refine ih _ ⟨⟨by dsimp only;omega,by dsimp only;omega⟩,fun h=>by dsimp only at h;omega,fun r _ hr'=>?_⟩ (by first | omega | (dsimp only;omega))
dsimp only at hr' ⊢
rw [show i+1-1=i by omega,hg] at hr'
injection hr' with hr'
subst hr'
rfl
refine Zd (fun c=>absurd c (by omega)) fun _=>?_
refine Zd (fun c=>absurd c (by omega)) fun _=>?_
refine Za (Zl9 _) ?_
refine Zs (by rw [hr.user];rfl) ?_
refine Za (v:=true) (by unfold Za9;rw [hr.title]) ?_
refine Zs rfl ?_
refine Zd (fun c=>absurd c (by omega)) fun _=>?_
refine Zd (fun c=>absurd c (by omega)) fun _=>?_
refine Zd (fun c=>absurd c (by omega)) fun _=>?_
refine Zd (fun c=>absurd c (by omega)) fun _=>?_
refine Zd (fun c=>absurd c (by omega)) fun _=>?_
rw [decide_eq_false (by omega)]
exact hk
refine Zd (fun c=>absurd c (by omega)) fun _=>?_
refine Zd (fun c=>absurd c (by omega)) fun _=>?_
rw [decide_eq_false (by omega)]
exact hk}
theorem ZqK (a b:Watch):Tot (Zek a b) fun r=>r=true↔wlt a b:=by{
unfold Zek
refine Zap ?_
refine Zbj (fun h=>Zc ⟨fun _=>.inl h,fun _=>rfl⟩) fun h=>?_
refine Zd (fun h2=>?_) fun h2=>?_
refine Za (v:=Title.cmp a.title b.title) rfl ?_
refine Zc ?_
rw [decide_eq_true_eq]
refine ⟨fun c=>.inr ⟨h2,c⟩,fun c=>?_⟩
rcases c with c | c
unfold Zkc at c
rw [h] at c
cases c
exact c.2
refine Zc ⟨(fun c=>by cases c),fun c=>?_⟩
rcases c with c | c
unfold Zkc at c
rw [h] at c
cases c
exact absurd c.1 h2}
theorem Zw3 (t0:ByteArray) (s:State) (h:VS t0 s.seq s):Zg1 s=some true:=by{
have h1:=h.wlen
have h2:=h.llen
refine Zad ?_
unfold Zg1
refine Zw (fun k=>Tot (k false) fun r=>r=true) ?_ fun k hk=>?_
refine Zs rfl ?_
refine Zr (fun i:Int=>0<=i/\i<=(s.watches.length:Int)) (fun i=>((s.watches.length:Int)-i).toNat) ⟨by omega,by omega⟩ (by first | omega | (dsimp only;omega)) ?_
rintro i rec ⟨h3,h4⟩ ih
refine Zd (fun hi=>?_) fun hi=>?_
refine Zq h3 hi fun e he hg=>?_
have hw:=h.watches e he
have e1:w64 (i+1)=i+1:=Zn
have e2:w64 (i-1)=i-1:=Zn
refine Zw (fun k=>Tot (k false) fun r=>r=true) ?_ fun k hk=>?_
refine Zs rfl ?_
rw [e1]
exact ih _ ⟨by omega,by omega⟩ (by omega)
refine Za (v:=true) (by unfold Zaz;rw [hw.1]) ?_
refine Zs rfl ?_
refine Za (v:=true) (by unfold Za9;rw [hw.2]) ?_
refine Zs rfl ?_
refine Zd (fun h0=>?_) fun _=>hk
rw [e2]
refine Zq (by omega) (by omega) fun e' _ hg'=>?_
obtain ⟨b,hb1,hb2⟩:=ZqK e' e
refine Za hb1 ?_
rw [hb2.2 (Zgs h.wsort (by omega) hg' hg)]
exact hk
refine Zr (fun i:Int=>0<=i/\i<=(s.lasts.length:Int)) (fun i=>((s.lasts.length:Int)-i).toNat) ⟨by omega,by omega⟩ (by first | omega | (dsimp only;omega)) ?_
rintro i rec ⟨h3,h4⟩ ih
refine Zd (fun hi=>?_) fun hi=>Zc rfl
refine Zq h3 hi fun e he hg=>?_
obtain ⟨w1,w2,w3⟩:=h.lasts e he
have e1:w64 (i+1)=i+1:=Zn
have e2:w64 (i-1)=i-1:=Zn
refine Zw (fun k=>Tot (k false) fun r=>r=true) ?_ fun k hk=>?_
refine Zs rfl ?_
rw [e1]
exact ih _ ⟨by omega,by omega⟩ (by omega)
refine Za (v:=true) (by unfold Zaz;rw [w1]) ?_
refine Zs rfl ?_
refine Zd (fun c=>absurd c (by omega)) fun _=>?_
refine Zd (fun c=>absurd c (by omega)) fun _=>?_
refine Zd (fun h0=>?_) fun _=>hk
rw [e2]
refine Zq (by omega) (by omega) fun e' _ hg'=>?_
rw [show ltS e'.user e.user=true from Zgs h.lsort (by omega) hg' hg]
exact hk
refine Zd (fun c=>absurd c (by omega)) fun _=>?_
rw [decide_eq_false (by omega)]
exact hk}
theorem Zgt (l:List Stored) (t:Title) (hl:l.length<=1000000):Tot (ZcK l t) fun r=>(r = -1/\∀ p ∈ l,p.title≠t)\/∃ (n:Nat) (p:Stored),r=n/\l[n]? = some p/\p.title=t:=by{
unfold ZcK
refine Zr (fun i:Int=>(0<=i/\i<=(l.length:Int))/\∀ (j:Nat) p,(j:Int)<i->l[j]? = some p->p.title≠t) (fun i=>((l.length:Int)-i).toNat) ⟨⟨by omega,by omega⟩,fun j p h=>by omega⟩ (by first | omega | (dsimp only;omega)) ?_
rintro i rec ⟨⟨h3,h4⟩,h5⟩ ih
refine Zd (fun hi=>?_) fun hi=>?_
refine Zq h3 hi fun e he hg=>?_
have e1:w64 (i+1)=i+1:=Zn
refine Zd (fun c=>Zc (.inr ⟨i.toNat,e,by omega,hg,c⟩)) fun c=>?_
rw [e1]
refine ih _ ⟨⟨by omega,by omega⟩,fun j p hj hp=>?_⟩ (by omega)
by_cases hji:(j:Int)<i
exact h5 j p hji hp
have:j=i.toNat:=by omega
rw [this,hg] at hp
injection hp with hp
rw [<- hp]
exact c
refine Zc (.inl ⟨rfl,fun p hp=>?_⟩)
obtain ⟨j,hj⟩:=List.getElem?_of_mem hp
have:=(List.getElem?_eq_some_iff.1 hj).1
exact h5 j p (by omega) hj}
theorem ZkI (p:Stored) (h0:1<=p.history.length) (hl:p.history.length<=1000000):∃ r,p.history.getLast? = some r/\Zct p=some r:=by{
obtain ⟨r,hr⟩:∃ r,p.history[p.history.length-1]? = some r:=⟨_,List.getElem?_eq_getElem (by omega)⟩
refine ⟨r,by rw [List.getLast?_eq_getElem?,hr],Zad ?_⟩
unfold Zct
refine Zd (fun c=>absurd c (by omega)) fun _=>?_
rw [Zn]
refine Zq (by omega) (by omega) fun e _ hg=>Zc ?_
rw [show ((p.history.length:Int)-1).toNat=p.history.length-1 by omega,hr] at hg
injection hg with hg
exact hg.symm}
theorem Zwf (s:State) (t:Title) (hl:s.pages.length<=1000000):Tot (ZbY s t) fun r=>(r.2=false/\∀ p ∈ s.pages,p.title≠t)\/(r.2=true/\r.1 ∈ s.pages/\r.1.title=t):=by{
unfold ZbY
refine Zh (Zgt s.pages t hl) fun r hr=>?_
rcases hr with ⟨rfl,h⟩ | ⟨n,p,rfl,h1,h2⟩
exact Zd (fun _=>Zc (.inl ⟨rfl,h⟩)) fun c=>absurd (by omega) c
refine Zd (fun c=>absurd c (by omega)) fun _=>?_
have:=(List.getElem?_eq_some_iff.1 h1).1
refine Zq (by omega) (by omega) fun e he hg=>Zc (.inr ⟨rfl,he,?_⟩)
rw [Int.toNat_natCast,h1] at hg
injection hg with hg
rw [<- hg]
exact h2}
theorem Zw4 (t0:ByteArray) (s:State) (h:VS t0 s.seq s) (hp:∃ p n,ZW t0=some (p,n,0)):Zgr s=some true:=by{
have h1:=h.plen
have h2:=h.glen
refine Zad ?_
unfold Zgr
refine Zw (fun k=>Tot (k false) fun r=>r=true) ?_ fun k hk=>?_
refine Zs rfl ?_
refine Zr (fun i:Int=>0<=i/\i<=(s.pages.length:Int)) (fun i=>((s.pages.length:Int)-i).toNat) ⟨by omega,by omega⟩ (by first | omega | (dsimp only;omega)) ?_
rintro i rec ⟨h3,h4⟩ ih
refine Zd (fun hi=>?_) fun hi=>?_
refine Zq h3 hi fun e he hg=>?_
have hw:=h.pages e he
have e1:w64 (i+1)=i+1:=Zn
have e2:w64 (i-1)=i-1:=Zn
refine Zw (fun k=>Tot (k false) fun r=>r=true) ?_ fun k hk=>?_
refine Zs rfl ?_
rw [e1]
exact ih _ ⟨by omega,by omega⟩ (by omega)
refine Za (v:=true) (by unfold Za9;rw [hw.title]) ?_
refine Zs rfl ?_
refine Za (Zod s _ _ rfl hw.hist) ?_
refine Zs rfl ?_
refine Zd (fun h0=>?_) fun _=>hk
rw [e2]
refine Zq (by omega) (by omega) fun e' _ hg'=>?_
refine Za (v:=Title.cmp e'.title e.title) rfl ?_
have:tlt e'.title e.title:=Zgs h.sorted (by omega) hg' hg
unfold tlt at this
rw [decide_eq_false (by omega)]
exact hk
refine Zr (fun i:Int=>0<=i/\i<=(s.gone.length:Int)) (fun i=>((s.gone.length:Int)-i).toNat) ⟨by omega,by omega⟩ (by first | omega | (dsimp only;omega)) ?_
rintro i rec ⟨h3,h4⟩ ih
refine Zd (fun hi=>?_) fun hi=>?_
have e1:w64 (i+1)=i+1:=Zn
refine Zw (fun k=>Tot (k false) fun r=>r=true) ?_ fun k hk=>?_
refine Zs rfl ?_
rw [e1]
exact ih _ ⟨by omega,by omega⟩ (by omega)
refine Zq h3 hi fun e he hg=>?_
have hw:=h.gone e he
refine Za (v:=true) (by unfold Za9;rw [hw.title]) ?_
refine Zs rfl ?_
refine Zq h3 hi fun e' he' hg'=>?_
rw [hg] at hg'
injection hg' with hg'
subst hg'
refine Za (Zod s _ _ rfl hw.hist) ?_
exact hk
refine Za (v:=policyT) rfl ?_
refine Zh (Zwf s policyT (by omega)) fun r hr=>?_
rcases hr with ⟨hr,_⟩ | ⟨hr,hm,ht⟩
rw [hr]
exact Zs rfl (Zc rfl)
rw [hr]
refine ZH rfl ?_
have hh:=(h.pages _ hm).hist
obtain ⟨c,hc1,hc2⟩:=ZkI r.1 hh.len1 (by have:=hh.len2;omega)
refine Za hc2 ?_
have:=h.rule _ hm ht
unfold ZkH at this
rw [hc1] at this
obtain ⟨p,n,hp⟩:=hp
refine Za (v:=(p,n,0)) (by rw [show c.text=t0 from this];exact hp) ?_
exact Zc rfl
refine Zd (fun c=>absurd c (by omega)) fun _=>?_
rw [decide_eq_false (by omega)]
exact hk}
theorem ZpC (t0:ByteArray) (s:State) (h:VS t0 s.seq s) (hs:s.seq<=1073741824) (hp:∃ p n,ZW t0=some (p,n,0)):Zfj s=some true:=by{
have h1:=h.seq0
have h2:=h.clock0
have h3:=h.clock1
refine Zad ?_
unfold Zfj
refine Zw (fun k=>Tot (k false) fun r=>r=true) ?_ fun k hk=>?_
refine Zs rfl ?_
refine Zap ?_
refine Za (Zw4 t0 s h hp) ?_
refine ZH rfl ?_
refine Za (ZpB t0 _ s h) ?_
refine ZH rfl ?_
refine Za (Zw3 t0 s h) ?_
exact Zc rfl
refine Zd (fun c=>absurd c (by omega)) fun _=>?_
refine Zd (fun c=>absurd c (by omega)) fun _=>?_
refine Zd (fun c=>absurd c (by omega)) fun _=>?_
rw [decide_eq_false (by omega)]
exact hk}
section
variable {α:Type}
theorem Zb9 (A B:List α) (x:α) {i:Int} (h:i=(A.length:Int)):atI (A++x::B) i=some x:=by
 subst h
 rw [Zan]
 simp
theorem ZeO (A B:List α) (x y:α) {i:Int} (h:i=(A.length:Int)):ZbF (A++x::B) i y=A++y::B:=by{
subst h
unfold ZbF
rw [Int.toNat_natCast,List.set_append_right _ _ (Nat.le_refl _),Nat.sub_self]
rfl}
theorem ZmG (A M B:List α) (x y:α) {i:Int} (h:i=(A.length:Int)+1+(M.length:Int)):atI (A++x::(M++y::B)) i=some y:=by
 have:=Zb9 (A++x::M) B y (i:=i) (by simp;omega)
 simpa using this
theorem ZqB (A M B:List α) (x y:α) {i j:Int} (hi:i=(A.length:Int)) (hj:j=(A.length:Int)+1+(M.length:Int)):ZbF (ZbF (A++x::(M++y::B)) i y) j x=A++y::(M++x::B):=by
 rw [ZeO A _ x y hi]
 have:=ZeO (A++y::M) B y x (i:=j) (by simp;omega)
 simpa using this
theorem Zwb (l:List α) (i:Int) (h0:0<=i) (h1:i<(l.length:Int)):∃ A x B,l=A++x::B/\(A.length:Int)=i:=by{
have hl:i.toNat<l.length:=by omega
refine ⟨l.take i.toNat,l[i.toNat],l.drop (i.toNat+1),?_,?_⟩
rw [List.getElem_cons_drop,List.take_append_drop]
rw [List.length_take]
omega}
theorem Zkx (l:List α) (n:Nat) (h:n<=l.length):∃ A B,l=A++B/\A.length=n:=⟨l.take n,l.drop n,(List.take_append_drop ..).symm,by rw [List.length_take];omega⟩
structure Ord (lt:α->α->Bool):Prop where
 asym:∀ a b,lt a b=true->lt b a=false
 tr:∀ a b c,lt b a=false->lt c b=false->lt c a=false
def Srt (lt:α->α->Bool) (l:List α):Prop:=l.Pairwise fun a b=>lt b a=false
variable {lt:α->α->Bool}
theorem Ord.irr (o:Ord lt) (a:α):lt a a=false:=by{
cases h:lt a a
rfl
rw [o.asym a a h] at h
cases h}
theorem Zpj (o:Ord lt) {l:List α} {u:α} (h:Srt lt (l ++ [u])):∀ a ∈ l ++ [u],lt u a=false:=fun a ha=>by
 rcases List.mem_append.1 ha with h1 | h1
 exact (List.pairwise_append.1 h).2.2 a h1 u (List.mem_cons_self ..)
 rw [List.mem_singleton.1 h1]
 exact o.irr u
theorem Zpk (o:Ord lt) {l:List α} {v:α} (h:Srt lt (v::l)):∀ b ∈ v::l,lt b v=false:=fun b hb=>by
 rcases List.mem_cons.1 hb with h1 | h1
 rw [h1]
 exact o.irr v
 exact (List.pairwise_cons.1 h).1 b h1
theorem ZuE (o:Ord lt) {X1 X2 Y1 Y2:List α} (hX:Srt lt (X1++X2)) (hY:Srt lt (Y1++Y2)) (h1:∀ P x y Q,X1=P ++ [x]->Y2=y::Q->lt y x=false) (h2:∀ P x y Q,Y1=P ++ [y]->X2=x::Q->lt y x=true) :
  ∀ a ∈ X1++Y1,∀ b ∈ X2++Y2,lt b a=false:=by{
obtain ⟨x1,x2,x3⟩:=List.pairwise_append.1 hX
obtain ⟨y1,y2,y3⟩:=List.pairwise_append.1 hY
intro a ha b hb
rcases List.mem_append.1 ha with ha | ha
rcases List.mem_append.1 hb with hb | hb
exact x3 a ha b hb
rcases List.eq_nil_or_concat X1 with e | ⟨P,u,e⟩
rw [e] at ha
cases ha
cases Y2 with
| nil=>cases hb
| cons v Q=>
  rw [List.concat_eq_append] at e
  have hu:=Zpj o (l:=P) (u:=u) (by rw [<- e];exact x1) a (by rw [<- e];exact ha)
  have hv:=Zpk o y2 b hb
  exact o.tr a u b hu (o.tr u v b (h1 P u v Q e rfl) hv)
rcases List.mem_append.1 hb with hb | hb
rcases List.eq_nil_or_concat Y1 with e | ⟨P,u,e⟩
rw [e] at ha
cases ha
cases X2 with
| nil=>cases hb
| cons v Q=>
  rw [List.concat_eq_append] at e
  have hu:=Zpj o (l:=P) (u:=u) (by rw [<- e];exact y1) a (by rw [<- e];exact ha)
  have hv:=Zpk o x2 b hb
  exact o.tr a u b hu (o.tr u v b (o.asym _ _ (h2 P v u Q e rfl)) hv)
exact y3 a ha b hb}
theorem ZuF {Z1 Z2 W1 W2:List α} (h1:Srt lt Z1) (h2:Srt lt Z2) (p1:Z1.Perm W1) (p2:Z2.Perm W2) (h:∀ a ∈ W1,∀ b ∈ W2,lt b a=false):Srt lt (Z1++Z2):=
 List.pairwise_append.2 ⟨h1,h2,fun a ha b hb=>h a (p1.mem_iff.1 ha) b (p2.mem_iff.1 hb)⟩
theorem ZmH (o:Ord lt) {Y1 Y2:List α} {x:α} (h:Srt lt (Y1++Y2)) (h1:∀ P u,Y1=P ++ [u]->lt x u=false) (h2:∀ v Q,Y2=v::Q->lt v x=false):Srt lt (Y1++x::Y2):=by{
obtain ⟨a1,a2,a3⟩:=List.pairwise_append.1 h
have k1:∀ a ∈ Y1,lt x a=false:=fun a ha=>by
 rcases List.eq_nil_or_concat Y1 with e | ⟨P,u,e⟩
 rw [e] at ha
 cases ha
 rw [List.concat_eq_append] at e
 exact o.tr a u x (Zpj o (l:=P) (u:=u) (by rw [<- e];exact a1) a (by rw [<- e];exact ha)) (h1 P u e)
have k2:∀ b ∈ Y2,lt b x=false:=fun b hb=>by
 cases Y2 with
 | nil=>cases hb
 | cons v Q=>exact o.tr x v b (h2 v Q rfl) (Zpk o a2 b hb)
refine List.pairwise_append.2 ⟨a1,List.pairwise_cons.2 ⟨k2,a2⟩,fun a ha b hb=>?_⟩
rcases List.mem_cons.1 hb with e | e
rw [e]
exact k1 a ha
exact a3 a ha b e}
end
theorem Zyn {x:Int} (h0:0<=x) (h1:x<=9223372036854775807):w64 (Int.fdiv (IntKind.wrap .u64 x) (2 ^ (min (1:Int).toNat (IntKind.bits .u64))))=x / 2:=by{
have e1:IntKind.wrap .u64 x=x:=by
 unfold IntKind.wrap
 simp [IntKind.signed,IntKind.bits]
 omega
rw [e1]
have e2:(2:Int) ^ (min (1:Int).toNat (IntKind.bits .u64))=2:=rfl
rw [e2,Int.fdiv_eq_ediv_of_nonneg _ (by omega)]
exact Zn}
def ZdE:Nat->List UInt8->List (List UInt8) | 0,l=>if l = [] then [] else [l] | k+1,l=>if Lib.indexByte l 10 = -1 then (if l = [] then [] else [l]) else l.take ((Lib.indexByte l 10).toNat+1)::ZdE k (l.drop ((Lib.indexByte l 10).toNat+1))
theorem Zpi:∀ (k:Nat) (l:List UInt8),(ZdE k l).flatten=l
 | 0,l=>by
   unfold ZdE
   split
   rename_i h;rw [h];rfl
   simp
 | k+1,l=>by
   unfold ZdE
   split
   split
   rename_i h;rw [h];rfl
   simp
   rw [List.flatten_cons,Zpi k,List.take_append_drop]
theorem ZlZ:∀ (k:Nat) (l:List UInt8),(ZdE k l).length<=k+1
 | 0,l=>by
   unfold ZdE
   split<;>simp
 | k+1,l=>by
   unfold ZdE
   split
   split<;>simp
   have:=ZlZ k (l.drop ((Lib.indexByte l 10).toNat+1))
   simp only [List.length_cons]
   omega
def ba (l:List UInt8):ByteArray:=⟨l.toArray⟩
theorem ZwC (l:List UInt8):(ba l).size=l.length:=rfl
def lns (s:ByteArray):List ByteArray:=(ZdE (s.data.toList.count 10) s.data.toList).map ba
theorem Zkw:∀ (k:Nat) (l:List UInt8),l.count 10=k->∃ e,(Lib.splitK [10] 1 k l).getLast? = some e/\(Lib.splitK [10] 1 k l).length=k+1/\ZdE k l=(Lib.splitK [10] 1 k l).take (k+min 1 e.length)
 | 0,l,hk=>by
   refine ⟨l,rfl,rfl,?_⟩
   unfold ZdE Lib.splitK
   by_cases h:l = []
   ·rw [if_pos h,h];rfl
   ·rw [if_neg h]
    have:1<=l.length:=List.length_pos_iff.2 h
    rw [show 0+min 1 l.length=1 by omega]
    rfl
 | k+1,l,hk=>by
   have hidx:Lib.index l [10]=Lib.indexByte l 10:=Lib.index_one l 10
   have hne:Lib.indexByte l 10≠-1:=fun h=>by
    have:=Lib.indexByte_none h
    have hm:(10:UInt8) ∈ l:=List.count_pos_iff.1 (by omega)
    obtain ⟨j,hj⟩:=List.getElem?_of_mem hm
    exact this j hj
   have hge:=Lib.indexByte_ge l 10
   obtain ⟨i,hi⟩:∃ i:Nat,Lib.indexByte l 10=i:=⟨(Lib.indexByte l 10).toNat,by omega⟩
   obtain ⟨h1,h2⟩:=Lib.indexByte_some hi
   have hil:=(List.getElem?_eq_some_iff.1 h1).1
   have hcount:(l.drop (i+1)).count 10=k:=by
    have e:l=l.take i++10::l.drop (i+1):=by
     conv=>lhs;rw [<- List.take_append_drop i l,List.drop_eq_getElem_cons hil]
     rw [(List.getElem?_eq_some_iff.1 h1).2]
    have hz:(l.take i).count 10=0:=List.count_eq_zero.2 fun hm=>by
     obtain ⟨j,hj⟩:=List.getElem?_of_mem hm
     have hji:=(List.getElem?_eq_some_iff.1 hj).1
     rw [List.length_take] at hji
     rw [List.getElem?_take_of_lt (by omega)] at hj
     exact h2 j (by omega) hj
    rw [e,List.count_append,hz,List.count_cons_self] at hk
    omega
   obtain ⟨e,e1,e2,e3⟩:=Zkw k (l.drop (i+1)) hcount
   have hs:Lib.splitK [10] 1 (k+1) l=l.take (i+1)::Lib.splitK [10] 1 k (l.drop (i+1)):=by
    rw [Lib.splitK,hidx,hi]
    rw [if_neg (by simp)]
    rfl
   refine ⟨e,?_,by rw [hs,List.length_cons,e2],?_⟩
   ·rw [hs,List.getLast?_cons,e1]
    rfl
   ·rw [hs,ZdE,if_neg hne,hi]
    rw [show k+1+min 1 e.length=(k+min 1 e.length)+1 by omega,List.take_succ_cons,Int.toNat_natCast,e3]
theorem ZwD (s:ByteArray):Lib.countB s ⟨#[10]⟩=s.data.toList.count 10:=by
 show Lib.count s.data.toList [10]=_
 exact Lib.count_one 10 s.data.toList
theorem ZmF (s:ByteArray) (h:s.size<=1000000):Zeo s=some (lns s):=by{
have hc:Lib.countB s ⟨#[10]⟩<=1000000:=by
 have:=Lib.countB_le ⟨#[10]⟩ (by decide) s.size s (Nat.le_refl _)
 omega
refine Zad ?_
unfold Zeo
refine Za (v:=Lib.splitB ⟨#[10]⟩ 1 (Lib.countB s ⟨#[10]⟩) s) ?_ ?_
unfold ZbQ strings_genSplit
rw [if_pos ⟨⟨by omega,by decide⟩,hc,rfl,by decide,by decide⟩]
rfl
have hd:=Lib.splitB_data ⟨#[10]⟩ 1 (Lib.countB s ⟨#[10]⟩) s
obtain ⟨e,e1,e2,e3⟩:=Zkw _ s.data.toList rfl
rw [ZwD] at hd hc ⊢
change List.map _ _=Lib.splitK [10] 1 _ _ at hd
generalize hR:Lib.splitB ⟨#[10]⟩ 1 (s.data.toList.count 10) s=R at *
have hRe:R=(Lib.splitK [10] 1 (s.data.toList.count 10) s.data.toList).map ba:=by
 rw [<- hd,List.map_map]
 have:(ba∘fun x:ByteArray=>x.data.toList)=id:=by funext x;rfl
 rw [this,List.map_id]
generalize hK:s.data.toList.count 10=k at *
have hlen:R.length=k+1:=by rw [hRe,List.length_map,e2]
rw [Zn]
refine Zq (by omega) (by omega) fun x _ hx=>?_
have hx2:x=ba e:=by
 rw [List.getLast?_eq_getElem?] at e1
 have hidx:((R.length:Int)-1).toNat=(Lib.splitK [10] 1 k s.data.toList).length-1:=by omega
 rw [hidx,hRe,List.getElem?_map,e1] at hx
 injection hx with hx
 exact hx.symm
have hsz:(x.size:Int)=e.length:=by rw [hx2,ZwC]
have hmin:(if (x.size:Int)<1 then (x.size:Int) else 1)=((min 1 e.length:Nat):Int):=by
 rw [hsz]
 split<;>omega
rw [hmin,Zn]
refine ZiB (Int.le_refl _) (by omega) (by omega) fun m hm _=>Zc ?_
rw [hm]
unfold lns
rw [hK,e3,List.map_take,<- hRe]
simp only [Int.toNat_zero,List.drop_zero,Nat.sub_zero]
congr 1
omega}
theorem Zl0 (s:ByteArray) (h:s.size<=1000000):Zfg s=some (lns s):=by{
refine Zad ?_
unfold Zfg
have key:∀ (l:List UInt8) (i:Nat),Lib.indexByte l 10=i->ZdE (l.count 10) l=l.take (i+1)::ZdE ((l.drop (i+1)).count 10) (l.drop (i+1)):=fun l i hi=>by
 obtain ⟨h1,h2⟩:=Lib.indexByte_some hi
 have hil:=(List.getElem?_eq_some_iff.1 h1).1
 have e:l=l.take i++10::l.drop (i+1):=by
  conv=>lhs;rw [<- List.take_append_drop i l,List.drop_eq_getElem_cons hil]
  rw [(List.getElem?_eq_some_iff.1 h1).2]
 have hz:(l.take i).count 10=0:=List.count_eq_zero.2 fun hm=>by
  obtain ⟨j,hj⟩:=List.getElem?_of_mem hm
  have hji:=(List.getElem?_eq_some_iff.1 hj).1
  rw [List.length_take] at hji
  rw [List.getElem?_take_of_lt (by omega)] at hj
  exact h2 j (by omega) hj
 have hk:l.count 10=(l.drop (i+1)).count 10+1:=by
  conv=>lhs;rw [e]
  rw [List.count_append,hz,List.count_cons_self]
  omega
 rw [hk,ZdE,if_neg (by omega),hi,Int.toNat_natCast]
have none_:∀ (l:List UInt8),(10:UInt8) ∉ l->ZdE (l.count 10) l=if l = [] then [] else [l]:=fun l hl=>by
 rw [List.count_eq_zero.2 hl]
 rfl
refine Zr (fun a:Int×Int×List ByteArray=>∃ f i:Nat,a.1=f/\a.2.1=i/\f<=i/\i<=s.size/\a.2.2.length<=i/\(10:UInt8) ∉ (s.data.toList.drop f).take (i-f)/\a.2.2++(ZdE ((s.data.toList.drop f).count 10) (s.data.toList.drop f)).map ba=lns s) (fun a=>((s.size:Int)-a.2.1).toNat) ⟨0,0,rfl,rfl,Nat.le_refl _,Nat.zero_le _,Nat.le_refl _,by simp,rfl⟩ (by first | omega | (dsimp only;omega)) ?_
rintro ⟨x,y,out⟩ rec ⟨f,i,e1,e2,h1,h2,h3,h4,h5⟩ ih
dsimp only at e1 e2 h3 h5 ⊢
subst e1 e2
have hsz:s.data.toList.length=s.size:=(Lib.size_eq _).symm
refine Zd (fun hlt=>?_) fun hlt=>?_
refine Zw (fun k=>(∀ out':List ByteArray,out'.length<=i+1->out'++(ZdE ((s.data.toList.drop (i+1)).count 10) (s.data.toList.drop (i+1))).map ba=lns s->Tot (k ((i:Int)+1) out') fun r=>r=lns s)/\((10:UInt8) ∉ (s.data.toList.drop f).take (i+1-f)->Tot (k (f:Int) out) fun r=>r=lns s))
 ⟨fun out' hl' h'=>ih _ ⟨i+1,i+1,by dsimp only;omega,by dsimp only;rw [Zn];omega,Nat.le_refl _,by omega,hl',by simp,h'⟩ (by dsimp only;rw [Zn];omega),
  fun h'=>ih _ ⟨f,i+1,rfl,by dsimp only;rw [Zn];omega,by omega,by omega,by dsimp only;omega,h',h5⟩ (by dsimp only;rw [Zn];omega)⟩ fun k hk=>?_
have hil:i<s.data.toList.length:=by omega
refine Zxs (by omega) hlt fun c hc0 hc1 hc=>?_
have hci:c=(s.data.toList[i].toNat:Int):=by
 have:=Zmj (s:=s) (n:=i) (by omega)
 rw [this] at hc
 injection hc with hc
 rw [<- hc]
 rfl
have hstep:(s.data.toList.drop f).take (i+1-f)=(s.data.toList.drop f).take (i-f) ++ [s.data.toList[i]]:=by
 rw [show i+1-f=(i-f)+1 by omega,List.take_add_one,List.getElem?_drop,show f+(i-f)=i by omega,List.getElem?_eq_getElem hil]
 rfl
refine Zd (fun h10=>?_) fun h10=>?_
have hb:s.data.toList[i]=10:=UInt8.toNat_inj.1 (by have:=hci.symm.trans h10;show s.data.toList[i].toNat=10;omega)
rw [Zn]
refine Zq2 (by omega) (by omega) (by omega) fun m hm _=>?_
refine ZC 2000000 (by show out.length+1<=2000000;omega) (by decide) (by decide) ?_
refine hk.1 _ (by rw [List.length_append];show out.length+1<=i+1;omega) ?_
have hidx:Lib.indexByte (s.data.toList.drop f) 10=((i-f:Nat):Int):=by
 have hge:=Lib.indexByte_ge (s.data.toList.drop f) 10
 have hat:(s.data.toList.drop f)[i-f]? = some 10:=by rw [List.getElem?_drop,show f+(i-f)=i by omega,List.getElem?_eq_getElem hil,hb]
 by_cases hm1:Lib.indexByte (s.data.toList.drop f) 10 = -1
 exact absurd hat (Lib.indexByte_none hm1 _)
 obtain ⟨o,ho⟩:∃ o:Nat,Lib.indexByte (s.data.toList.drop f) 10=o:=⟨(Lib.indexByte (s.data.toList.drop f) 10).toNat,by omega⟩
 obtain ⟨g1,g2⟩:=Lib.indexByte_some ho
 rw [ho]
 rcases Nat.lt_trichotomy o (i-f) with c | c | c
 exfalso
 refine h4 (List.mem_of_getElem? (i:=o) ?_)
 rw [List.getElem?_take_of_lt c]
 exact g1
 rw [c]
 exact absurd hat (g2 _ c)
have hkey:=key _ _ hidx
rw [hkey,List.map_cons] at h5
rw [List.drop_drop,show f+(i-f+1)=i+1 by omega] at h5
rw [<- h5,List.append_assoc]
congr 2
rw [hm,List.singleton_append]
congr 1
rw [Lib.extract_eq,Int.toNat_natCast,show ((i:Int)+1).toNat-f=i-f+1 by omega]
rfl
refine hk.2 ?_
rw [hstep]
intro hm
rcases List.mem_append.1 hm with hm | hm
exact h4 hm
rw [List.mem_singleton] at hm
apply h10
rw [hci,<- hm]
rfl
have hie:i=s.size:=by omega
subst hie
have hno:(10:UInt8) ∉ s.data.toList.drop f:=by
 rw [List.take_of_length_le (by rw [List.length_drop];omega)] at h4
 exact h4
rw [none_ _ hno] at h5
refine Zap ?_
refine Zd (fun hf=>?_) fun hf=>Zc ?_
refine Zq2 (by omega) (by omega) (Int.le_refl _) fun m hm _=>?_
refine ZC 2000000 (by show out.length+1<=2000000;omega) (by decide) (by decide) (Zc ?_)
rw [if_neg (fun e=>by have:=congrArg List.length e;rw [List.length_drop] at this;simp at this;omega)] at h5
rw [<- h5]
congr 1
rw [hm]
rw [Lib.extract_eq,Int.toNat_natCast,Int.toNat_natCast,List.take_of_length_le (by rw [List.length_drop];omega)]
rfl
rw [if_pos (List.drop_eq_nil_of_le (by omega))] at h5
simpa using h5}
theorem Zl4 {b n:Nat} {m:Int} (hm:m=n) (h:n * b<=140737488355328) (h2:n<=9223372036854775807):Zpq b m=some ():=by
 subst hm
 unfold Zpq
 rw [if_pos (by omega)]
theorem ZuO (x y:List ByteArray) (hx:x.length<=1000) (hy:y.length<=1000):Tot (Zcw x y) fun T=>T.length=x.length+1/\∀ r ∈ T,r.length=y.length+1:=by{
unfold Zcw
rw [Zn (n:=(x.length:Int)+1),Zn (n:=(y.length:Int)+1),Zn (n:=(x.length:Int)-1),Zn (n:=(y.length:Int)-1)]
refine Za (v:=()) (Zl4 (n:=x.length+1) (by omega) (by omega) (by omega)) ?_
refine Za (v:=()) (Zl4 (n:=y.length+1) (by omega) (by omega) (by omega)) ?_
have hr1:((x.length:Int)+1).toNat=x.length+1:=by omega
have hr2:((y.length:Int)+1).toNat=y.length+1:=by omega
rw [hr1,hr2]
refine Zq (by omega) (by rw [List.length_replicate];omega) fun _ _ _=>?_
refine Zr (fun a:Int×List (List Int)=>(-1<=a.1/\a.1<(x.length:Int))/\a.2.length=x.length+1/\∀ (k:Nat) r,a.1<(k:Int)->a.2[k]? = some r->r.length=y.length+1) (fun a=>(a.1+1).toNat)
 ⟨⟨by dsimp only;omega,by dsimp only;omega⟩,by dsimp only;rw [Zcp,List.length_replicate],fun k r hk hr=>?_⟩ (by dsimp only;omega) ?_
dsimp only at hk hr
have hkl:=(List.getElem?_eq_some_iff.1 hr).1
rw [Zcp,List.length_replicate] at hkl
unfold ZbF at hr
rw [Int.toNat_natCast,List.getElem?_set,if_pos (by omega),if_pos (by rw [List.length_replicate];omega)] at hr
injection hr with hr
rw [<- hr,List.length_replicate]
rintro ⟨i,T⟩ rec ⟨⟨h1,h2⟩,h3,h4⟩ ih
dsimp only at h1 h2 h3 h4 ⊢
refine Zd (fun hi=>?_) fun hi=>Zc ⟨h3,fun r hr=>?_⟩
refine Za (v:=()) (Zl4 (n:=y.length+1) (by omega) (by omega) (by omega)) ?_
rw [Zn (n:=i+1),Zn (n:=i-1)]
refine Zq (by omega) (by omega) fun B _ hB=>?_
have hBl:=h4 _ B (by omega) hB
refine Zr (fun a:Int×List Int=>(-1<=a.1/\a.1<(y.length:Int))/\a.2.length=y.length+1) (fun a=>(a.1+1).toNat) ⟨⟨by dsimp only;omega,by dsimp only;omega⟩,by dsimp only;rw [List.length_replicate]⟩ (by dsimp only;omega) ?_
rintro ⟨j,row⟩ rec2 ⟨⟨g1,g2⟩,g3⟩ ih2
dsimp only at g1 g2 g3 ⊢
refine Zd (fun hj=>?_) fun hj=>?_
rw [Zn (n:=j+1),Zn (n:=j-1)]
refine Zw (fun k=>∀ r:List Int,r.length=y.length+1->Tot (k r) fun T=>T.length=x.length+1/\∀ r ∈ T,r.length=y.length+1) (fun r hr=>ih2 _ ⟨⟨by dsimp only;omega,by dsimp only;omega⟩,hr⟩ (by dsimp only;omega)) fun k hk=>?_
refine Zq hi h2 fun a _ _=>?_
refine Zq hj g2 fun b _ _=>?_
refine Zd (fun _=>?_) fun _=>?_
refine Zq (by omega) (by omega) fun _ _ _=>?_
refine Zq (by omega) (by omega) fun _ _ _=>?_
exact hk _ (by rw [Zcp];exact g3)
refine Zq (by omega) (by omega) fun _ _ _=>?_
refine Zq (by omega) (by omega) fun _ _ _=>?_
refine Zq (by omega) (by omega) fun _ _ _=>?_
exact hk _ (by rw [Zcp];exact g3)
refine Zq hi (by omega) fun _ _ _=>?_
refine ih _ ⟨⟨by dsimp only;omega,by dsimp only;omega⟩,by dsimp only;rw [Zcp];exact h3,fun k r hk hr=>?_⟩ (by dsimp only;omega)
dsimp only at hk hr
unfold ZbF at hr
rw [List.getElem?_set] at hr
split at hr
rw [if_pos (by omega)] at hr
injection hr with hr
rw [<- hr]
exact g3
exact h4 k r (by omega) hr
obtain ⟨k,hk⟩:=List.getElem?_of_mem hr
exact h4 k r (by omega) hk}
def Zfk (l:List Edit):List ByteArray:=l.flatMap fun e=>if e.kind=3 then [] else e.lines
def Zfl (l:List Edit):List ByteArray:=l.flatMap fun e=>if e.kind=2 then [] else e.lines
theorem Zrt (l:List Edit) (e:Edit):Zfk (l ++ [e])=Zfk l++if e.kind=3 then [] else e.lines:=by
 unfold Zfk
 rw [List.flatMap_append]
 simp
theorem Zru (l:List Edit) (e:Edit):Zfl (l ++ [e])=Zfl l++if e.kind=2 then [] else e.lines:=by
 unfold Zfl
 rw [List.flatMap_append]
 simp
structure ScrR (x y:List ByteArray) (i j:Nat) (s:Script):Prop where
 kinds:∀ e ∈ s.edits,1<=e.kind/\e.kind<=3
 used:Zfk s.edits++s.deleted++s.kept=x.take i
 came:Zfl s.edits++s.insert++s.kept=y.take j
 one:s.kept = []\/(s.deleted = []/\s.insert = [])
 len:s.edits.length<=3 * (i+j)
theorem ZuP (f:Script->Int->List ByteArray->Option Script) (hf:∀ s k l,f s k l=if decide (0<(l.length:Int))=true then (Zbo 32 s.edits [(⟨k,l⟩:Edit)]).bind fun l1=>some ⟨l1,s.deleted,s.insert,s.kept⟩ else some s) (s:Script) (k:Int) (l:List ByteArray) (h:s.edits.length<=1000000) :
  f s k l=some ⟨if l = [] then s.edits else s.edits ++ [⟨k,l⟩],s.deleted,s.insert,s.kept⟩:=by{
rw [hf]
by_cases hl:l = []
subst hl
rfl
have:0<(l.length:Int):=by have:=List.length_pos_iff.2 hl;omega
rw [if_pos (decide_eq_true this),if_neg hl]
refine Zad (ZC 1000001 (by simp;omega) (by decide) (by decide) (Zc rfl))}
theorem Zyh (s:Script) (k:Int) (l:List ByteArray) (h:s.edits.length<=1000000):ZU s k l=some ⟨if l = [] then s.edits else s.edits ++ [⟨k,l⟩],s.deleted,s.insert,s.kept⟩:=ZuP _ (fun _ _ _=>rfl) s k l h
theorem ZzM (s:Script) (k:Int) (l:List ByteArray) (h:s.edits.length<=1000000):Zbl s k l=some ⟨if l = [] then s.edits else s.edits ++ [⟨k,l⟩],s.deleted,s.insert,s.kept⟩:=ZuP _ (fun _ _ _=>rfl) s k l h
theorem ZzN (s:Script) (k:Int) (l:List ByteArray) (h:s.edits.length<=1000000):Zbm s k l=some ⟨if l = [] then s.edits else s.edits ++ [⟨k,l⟩],s.deleted,s.insert,s.kept⟩:=ZuP _ (fun _ _ _=>rfl) s k l h
theorem ZzO (s:Script) (k:Int) (l:List ByteArray) (h:s.edits.length<=1000000):Zbn s k l=some ⟨if l = [] then s.edits else s.edits ++ [⟨k,l⟩],s.deleted,s.insert,s.kept⟩:=ZuP _ (fun _ _ _=>rfl) s k l h
def Zb6 (l:List Edit) (k:Int) (x:List ByteArray):List Edit:=if x = [] then l else l ++ [⟨k,x⟩]
theorem ZaQ (l:List Edit) (k:Int) (x:List ByteArray):(Zb6 l k x).length<=l.length+1:=by
 unfold Zb6
 split<;>simp
theorem Zce (l:List Edit) (k:Int) (x:List ByteArray):Zfk (Zb6 l k x)=Zfk l++if k=3 then [] else x:=by{
unfold Zb6
split
rename_i h;rw [h];simp
exact Zrt _ _}
theorem Zcf (l:List Edit) (k:Int) (x:List ByteArray):Zfl (Zb6 l k x)=Zfl l++if k=2 then [] else x:=by{
unfold Zb6
split
rename_i h;rw [h];simp
exact Zru _ _}
theorem ZbI {l:List Edit} {k:Int} {x:List ByteArray} (h:∀ e ∈ l,1<=e.kind/\e.kind<=3) (h1:1<=k) (h2:k<=3):∀ e ∈ Zb6 l k x,1<=e.kind/\e.kind<=3:=by{
unfold Zb6
split
exact h
intro e he
rcases List.mem_append.1 he with he | he
exact h e he
simp at he
rw [he]
exact ⟨h1,h2⟩}
theorem Zkf (s:Script) (h:s.edits.length<=999990):Zaf s=some ⟨Zb6 (Zb6 s.edits 2 s.deleted) 3 s.insert,[],[],s.kept⟩:=by{
refine Zad ?_
unfold Zaf
refine Za (ZzM s 2 s.deleted (by omega)) ?_
refine Za (ZzN _ 3 _ (by dsimp only;have:=ZaQ s.edits 2 s.deleted;unfold Zb6 at this;omega)) (Zc rfl)}
theorem Zl5 (s:Script) (h:s.edits.length<=999990):Zab s=some ⟨Zb6 s.edits 1 s.kept,s.deleted,s.insert,[]⟩:=by
 refine Zad ?_
 unfold Zab
 exact Za (ZzO s 1 s.kept (by omega)) (Zc rfl)
theorem ZmQ (s:ByteArray):(lns s).length<=s.size+1:=by{
unfold lns
rw [List.length_map]
have h1:=ZlZ (s.data.toList.count 10) s.data.toList
have h2:s.data.toList.count 10<=s.data.toList.length:=List.count_le_length
have h3:s.data.toList.length=s.size:=(Lib.size_eq _).symm
omega}
theorem Zyw (a b:ByteArray) (ha:a.size<=100000) (hb:b.size<=100000):Tot (ZcU a b) fun l=>(∀ e ∈ l,1<=e.kind/\e.kind<=3)/\Zfk l=lns a/\Zfl l=lns b/\l.length<=1000000:=by{
unfold ZcU
refine Za (ZmF a (by omega)) ?_
refine Za (ZmF b (by omega)) ?_
refine Zd (fun e=>?_) fun _=>?_
subst e
refine Za (Zyh _ 1 (lns a) (by simp)) (Zc ?_)
change (∀ e ∈ Zb6 [] 1 (lns a),_)/\Zfk (Zb6 [] 1 (lns a))=_/\Zfl (Zb6 [] 1 (lns a))=_/\(Zb6 [] 1 (lns a)).length<=_
refine ⟨ZbI (fun e h=>by cases h) (by decide) (by decide),?_,?_,?_⟩
rw [Zce];rfl
rw [Zcf];rfl
have:=ZaQ [] 1 (lns a)
simp at this
omega
generalize lns a=x
generalize lns b=y
refine Zw (fun k=>Tot (k true) (fun l=>(∀ e ∈ l,1<=e.kind/\e.kind<=3)/\Zfk l=x/\Zfl l=y/\l.length<=1000000)/\(x.length<=1000->y.length<=1000->Tot (k false) fun l=>(∀ e ∈ l,1<=e.kind/\e.kind<=3)/\Zfk l=x/\Zfl l=y/\l.length<=1000000)) ⟨?_,fun hx hy=>?_⟩ fun k hk=>?_
refine ZH rfl ?_
refine Za (Zyh _ 2 x (by simp)) ?_
change Tot ((ZU (⟨Zb6 [] 2 x,[],[],[]⟩:Script) 3 y).bind _) _
have h1:=ZaQ [] 2 x
simp at h1
refine Za (Zyh _ 3 y (by dsimp only;omega)) (Zc ?_)
change (∀ e ∈ Zb6 (Zb6 [] 2 x) 3 y,_)/\Zfk (Zb6 (Zb6 [] 2 x) 3 y)=_/\Zfl (Zb6 (Zb6 [] 2 x) 3 y)=_/\(Zb6 (Zb6 [] 2 x) 3 y).length<=_
refine ⟨ZbI (ZbI (fun e h=>by cases h) (by decide) (by decide)) (by decide) (by decide),?_,?_,?_⟩
rw [Zce,Zce];simp [Zfk]
rw [Zcf,Zcf];simp [Zfl]
have:=ZaQ (Zb6 [] 2 x) 3 y
omega
refine Zs rfl ?_
refine Zh (ZuO x y hx hy) fun T hT=>?_
obtain ⟨hT1,hT2⟩:=hT
refine Zr (fun a:Int×Int×List Edit×List ByteArray×List ByteArray×List ByteArray=>∃ i j:Nat,a.1=i/\a.2.1=j/\i<=x.length/\j<=y.length/\ScrR x y i j ⟨a.2.2.1,a.2.2.2.1,a.2.2.2.2.1,a.2.2.2.2.2⟩) (fun a=>((x.length:Int)-a.1).toNat+((y.length:Int)-a.2.1).toNat) ⟨0,0,rfl,rfl,Nat.zero_le _,Nat.zero_le _,⟨fun e h=>(by cases h),rfl,rfl,.inl rfl,by simp⟩⟩ (by dsimp only;omega) ?_
rintro ⟨ii,jj,ed,dl,is,kp⟩ rec ⟨i,j,e1,e2,hi,hj,hS⟩ ih
dsimp only at e1 e2 hS
subst e1 e2
have s1:=hS.kinds
have s2:=hS.used
have s3:=hS.came
have s4:=hS.one
have s5:=hS.len
dsimp only at s1 s2 s3 s4 s5
have dlen:dl.length<=i:=by
 have:=congrArg List.length s2
 simp at this
 omega
have ilen:is.length<=j:=by
 have:=congrArg List.length s3
 simp at this
 omega
have klen:kp.length<=i:=by
 have:=congrArg List.length s2
 simp at this
 omega
have w1:∀ n:Nat,n<=1000->w64 ((n:Int)+1)=(n:Int)+1:=fun n hn=>Zn
refine Zw (fun k=>(i<x.length\/j<y.length->Tot (k true) fun l=>(∀ e ∈ l,1<=e.kind/\e.kind<=3)/\Zfk l=x/\Zfl l=y/\l.length<=1000000)/\(i=x.length->j=y.length->Tot (k false) fun l=>(∀ e ∈ l,1<=e.kind/\e.kind<=3)/\Zfk l=x/\Zfl l=y/\l.length<=1000000)) ⟨fun hor=>?_,fun hxe hye=>?_⟩ fun k hk=>?_
refine ZH rfl ?_
refine Zw (fun k=>(∀ (h1:i<x.length) (h2:j<y.length),x[i]=y[j]->Tot (k true) fun l=>(∀ e ∈ l,1<=e.kind/\e.kind<=3)/\Zfk l=x/\Zfl l=y/\l.length<=1000000)/\(Tot (k false) fun l=>(∀ e ∈ l,1<=e.kind/\e.kind<=3)/\Zfk l=x/\Zfl l=y/\l.length<=1000000)) ⟨fun h1 h2 hxy=>?_,?_⟩ fun k hk=>?_
refine ZH rfl ?_
refine Za (Zkf _ (by dsimp only;omega)) ?_
have hx1:x[i]? = some x[i]:=List.getElem?_eq_getElem h1
have hy1:y[j]? = some y[j]:=List.getElem?_eq_getElem h2
refine Za (v:=x[i]) (by rw [Zed hx1]) ?_
refine ZC 2000 (by simp;omega) (by decide) (by decide) ?_
rw [w1 i (by omega),w1 j (by omega)]
refine ih _ ⟨i+1,j+1,by dsimp only;omega,by dsimp only;omega,h1,h2,⟨ZbI (ZbI s1 (by decide) (by decide)) (by decide) (by decide),?_,?_,?_,?_⟩⟩ (by dsimp only;omega)
dsimp only
rw [Zce,Zce,List.take_add_one,hx1,<- s2]
simp
dsimp only
rw [Zcf,Zcf,List.take_add_one,hy1,<- s3,hxy]
simp
exact .inr ⟨rfl,rfl⟩
dsimp only
have a1:=ZaQ (Zb6 ed 2 dl) 3 is
have a2:=ZaQ ed 2 dl
omega
refine Zs rfl ?_
refine Zw (fun k=>(i<x.length->Tot (k true) fun l=>(∀ e ∈ l,1<=e.kind/\e.kind<=3)/\Zfk l=x/\Zfl l=y/\l.length<=1000000)/\(j<y.length->Tot (k false) fun l=>(∀ e ∈ l,1<=e.kind/\e.kind<=3)/\Zfk l=x/\Zfl l=y/\l.length<=1000000)) ⟨fun h1=>?_,fun h2=>?_⟩ fun k hk=>?_
refine ZH rfl ?_
refine Za (Zl5 _ (by dsimp only;omega)) ?_
have hx1:x[i]? = some x[i]:=List.getElem?_eq_getElem h1
refine Za (v:=x[i]) (by rw [Zed hx1]) ?_
refine ZC 2000 (by simp;omega) (by decide) (by decide) ?_
rw [w1 i (by omega)]
refine ih _ ⟨i+1,j,by dsimp only;omega,rfl,h1,hj,⟨ZbI s1 (by decide) (by decide),?_,?_,.inl rfl,?_⟩⟩ (by dsimp only;omega)
dsimp only
rw [Zce,List.take_add_one,hx1,<- s2]
rcases s4 with h | ⟨h,h'⟩
rw [h];simp
rw [h];simp
dsimp only
rw [Zcf,<- s3]
rcases s4 with h | ⟨h,h'⟩
rw [h];simp
rw [h'];simp
dsimp only
have a2:=ZaQ ed 1 kp
omega
refine Zs rfl ?_
refine Za (Zl5 _ (by dsimp only;omega)) ?_
have hy1:y[j]? = some y[j]:=List.getElem?_eq_getElem h2
refine Za (v:=y[j]) (by rw [Zed hy1]) ?_
refine ZC 2000 (by simp;omega) (by decide) (by decide) ?_
rw [w1 j (by omega)]
refine ih _ ⟨i,j+1,rfl,by dsimp only;omega,hi,h2,⟨ZbI s1 (by decide) (by decide),?_,?_,.inl rfl,?_⟩⟩ (by dsimp only;omega)
dsimp only
rw [Zce,<- s2]
rcases s4 with h | ⟨h,h'⟩
rw [h];simp
rw [h];simp
dsimp only
rw [Zcf,List.take_add_one,hy1,<- s3]
rcases s4 with h | ⟨h,h'⟩
rw [h];simp
rw [h'];simp
dsimp only
have a2:=ZaQ ed 1 kp
omega
refine Zd (fun hje=>hk.1 (by omega)) fun hje=>?_
refine Zd (fun hlt=>?_) fun hlt=>hk.2 (by omega)
rw [w1 i (by omega)]
refine Zq (by omega) (by omega) fun r1 hr1 _=>?_
refine Zq (by omega) (by rw [hT2 r1 hr1];omega) fun v1 _ _=>?_
refine Zq (by omega) (by omega) fun r2 hr2 _=>?_
rw [w1 j (by omega)]
refine Zq (by omega) (by rw [hT2 r2 hr2];omega) fun v2 _ _=>?_
cases hd:decide (v2<=v1)
exact hk.2 (by omega)
exact hk.1 (by omega)
refine Zd (fun h1=>?_) fun _=>hk.2
refine Zd (fun h2=>?_) fun _=>hk.2
refine Zq (by omega) h1 fun u _ hu=>?_
refine Zq (by omega) h2 fun v _ hv=>?_
rw [Int.toNat_natCast,List.getElem?_eq_getElem (by omega)] at hu hv
injection hu with hu
injection hv with hv
by_cases huv:u=v
rw [decide_eq_true huv]
exact hk.1 (by omega) (by omega) (by rw [hu,hv,huv])
rw [decide_eq_false huv]
exact hk.2
refine Zs rfl ?_
refine Za (Zl5 _ (by dsimp only;omega)) ?_
have a1:=ZaQ ed 1 kp
refine Za (Zkf _ (by dsimp only;omega)) (Zc ?_)
dsimp only
refine ⟨ZbI (ZbI (ZbI s1 (by decide) (by decide)) (by decide) (by decide)) (by decide) (by decide),?_,?_,?_⟩
rw [Zce,Zce,Zce]
rw [hxe,List.take_length] at s2
rw [<- s2]
rcases s4 with h | ⟨h,h'⟩
rw [h];simp
rw [h];simp
rw [Zcf,Zcf,Zcf]
rw [hye,List.take_length] at s3
rw [<- s3]
rcases s4 with h | ⟨h,h'⟩
rw [h];simp
rw [h'];simp
have a2:=ZaQ (Zb6 ed 1 kp) 2 dl
have a3:=ZaQ (Zb6 (Zb6 ed 1 kp) 2 dl) 3 is
omega
refine Zd (fun h=>hk.1 (.inl (by omega))) fun h=>?_
by_cases h2:(j:Int)<(y.length:Int)
rw [decide_eq_true h2]
exact hk.1 (.inr (by omega))
rw [decide_eq_false h2]
exact hk.2 (by omega) (by omega)
refine Zd (fun _=>hk.1) fun h1=>?_
by_cases h2:1000<(y.length:Int)
rw [decide_eq_true h2]
exact hk.1
rw [decide_eq_false h2]
exact hk.2 (by omega) (by omega)}
def lcs:List ByteArray->List ByteArray->Int
 | [],_=>0
 | _::_,[]=>0
 | a::x,b::y=>if a=b then lcs x y+1 else max (lcs x (b::y)) (lcs (a::x) y)
termination_by x y=>x.length+y.length
theorem Zqs (y:List ByteArray):lcs [] y=0:=by rw [lcs]
theorem ZnF (x:List ByteArray):lcs x []=0:=by cases x<;>rw [lcs]
theorem ZnG (a b:ByteArray) (x y:List ByteArray):lcs (a::x) (b::y)=if a=b then lcs x y+1 else max (lcs x (b::y)) (lcs (a::x) y):=by rw [lcs]
theorem Zra:∀ (n:Nat) (x y:List ByteArray),x.length+y.length<=n->0<=lcs x y/\lcs x y<=(x.length:Int)
 | n,[],y,h=>by rw [Zqs];simp
 | n,a::x,[],h=>by rw [ZnF];simp;omega
 | 0,a::x,b::y,h=>by simp at h
 | n+1,a::x,b::y,h=>by
   simp only [List.length_cons] at h ⊢
   obtain ⟨h1,h2⟩:=Zra n x y (by omega)
   obtain ⟨h3,h4⟩:=Zra n x (b::y) (by simp only [List.length_cons];omega)
   obtain ⟨h5,h6⟩:=Zra n (a::x) y (by simp only [List.length_cons];omega)
   simp only [List.length_cons] at h6
   rw [ZnG]
   split<;>omega
theorem ZxT (x y:List ByteArray):0<=lcs x y/\lcs x y<=(x.length:Int):=Zra _ x y (Nat.le_refl _)
def lrow (x y:List ByteArray) (i:Nat):List Int:=(List.range (y.length+1)).map fun j=>lcs (x.drop i) (y.drop j)
def Zwq (x y:List ByteArray):List (List Int):=(List.range (x.length+1)).map fun i=>lrow x y i
theorem Zgb {x y:List ByteArray} {i j:Nat} (h:j<=y.length):(lrow x y i)[j]? = some (lcs (x.drop i) (y.drop j)):=by
 unfold lrow
 rw [List.getElem?_map,List.getElem?_range (by omega)]
 rfl
theorem Zjz {x y:List ByteArray} {i:Nat} (h:i<=x.length):(Zwq x y)[i]? = some (lrow x y i):=by
 unfold Zwq
 rw [List.getElem?_map,List.getElem?_range (by omega)]
 rfl
theorem Zko (x y:List ByteArray) (i:Nat):(lrow x y i).length=y.length+1:=by simp [lrow]
theorem ZnH (x y:List ByteArray):(Zwq x y).length=x.length+1:=by simp [Zwq]
theorem ZaA {α:Type} {l:List α} {i:Nat} {a:α} (h:l[i]? = some a):l.drop i=a::l.drop (i+1):=by
 obtain ⟨h1,h2⟩:=List.getElem?_eq_some_iff.1 h
 rw [List.drop_eq_getElem_cons h1,h2]
def scr:List ByteArray->List ByteArray->List Edit->List ByteArray->List ByteArray->List ByteArray->List Edit
 | [],[],E,K,D,I=>Zb6 (Zb6 (Zb6 E 1 K) 2 D) 3 I
 | a::x,[],E,K,D,I=>scr x [] (Zb6 E 1 K) [] (D ++ [a]) I
 | [],b::y,E,K,D,I=>scr [] y (Zb6 E 1 K) [] D (I ++ [b])
 | a::x,b::y,E,K,D,I=>if a=b then scr x y (Zb6 (Zb6 E 2 D) 3 I) (K ++ [a]) [] [] else if lcs (a::x) y<=lcs x (b::y) then scr x (b::y) (Zb6 E 1 K) [] (D ++ [a]) I else scr (a::x) y (Zb6 E 1 K) [] D (I ++ [b])
termination_by x y=>x.length+y.length
theorem ZqS (E:List Edit) (k:Int):Zb6 E k []=E:=rfl
theorem ZhQ (E:List Edit) (K D I:List ByteArray):scr [] [] E K D I=Zb6 (Zb6 (Zb6 E 1 K) 2 D) 3 I:=by rw [scr]
theorem Zxa (a:ByteArray) (x:List ByteArray) (E:List Edit) (K D I:List ByteArray):scr (a::x) [] E K D I=scr x [] (Zb6 E 1 K) [] (D ++ [a]) I:=by rw [scr]
theorem Zxb (b:ByteArray) (y:List ByteArray) (E:List Edit) (K D I:List ByteArray):scr [] (b::y) E K D I=scr [] y (Zb6 E 1 K) [] D (I ++ [b]):=by rw [scr]
theorem Zm6 (a b:ByteArray) (x y:List ByteArray) (E:List Edit) (K D I:List ByteArray):scr (a::x) (b::y) E K D I=if a=b then scr x y (Zb6 (Zb6 E 2 D) 3 I) (K ++ [a]) [] [] else if lcs (a::x) y<=lcs x (b::y) then scr x (b::y) (Zb6 E 1 K) [] (D ++ [a]) I else scr (a::x) y (Zb6 E 1 K) [] D (I ++ [b]):=by rw [scr]
theorem ZqT:∀ (x:List ByteArray) (E:List Edit) (K:List ByteArray),scr x x E K [] []=Zb6 E 1 (K++x)
 | [],E,K=>by rw [ZhQ,List.append_nil];rfl
 | a::x,E,K=>by rw [Zm6,if_pos rfl,ZqS,ZqS,ZqT x];simp
def heads:List ByteArray->List ByteArray->Bool | a::_,b::_=>decide (a=b) | _,_=>false
theorem Zu5 (x y:List ByteArray) (E:List Edit) (D I:List ByteArray) (h:heads x y=true\/(x = []/\y = [])):scr x y E [] D I=scr x y (Zb6 (Zb6 E 2 D) 3 I) [] [] []:=by{
rcases h with h | ⟨rfl,rfl⟩
cases x with
| nil=>cases h
| cons a x=>
  cases y with
  | nil=>cases h
  | cons b y=>
    have h:a=b:=of_decide_eq_true h
    rw [Zm6,Zm6,if_pos h,if_pos h]
    rfl
rw [ZhQ,ZhQ];rfl}
theorem ZqU (x y:List ByteArray) (E:List Edit) (K D I:List ByteArray) (h:heads x y=false):scr x y E K D I=scr x y (Zb6 E 1 K) [] D I:=by{
cases x with
| nil=>
  cases y with
  | nil=>rw [ZhQ,ZhQ];rfl
  | cons b y=>rw [Zxb,Zxb];rfl
| cons a x=>
  cases y with
  | nil=>rw [Zxa,Zxa];rfl
  | cons b y=>
    have h:¬ a=b:=of_decide_eq_false h
    rw [Zm6,Zm6,if_neg h,if_neg h]
    rfl}
theorem Zs7 {x y:List ByteArray} {i j:Nat} {a:ByteArray} {E:List Edit} {D I:List ByteArray} (hx:x[i]? = some a) (hh:heads (x.drop i) (y.drop j)=false) (hc:j=y.length\/∃ _:j<y.length,lcs (x.drop i) (y.drop (j+1))<=lcs (x.drop (i+1)) (y.drop j)) :
  scr (x.drop i) (y.drop j) E [] D I=scr (x.drop (i+1)) (y.drop j) E [] (D ++ [a]) I:=by{
rcases hc with rfl | ⟨h2,hc⟩
rw [ZaA hx,List.drop_length,Zxa];rfl
have hy:y[j]? = some y[j]:=List.getElem?_eq_getElem h2
rw [ZaA hx,ZaA hy] at hh hc ⊢
have h:¬ a=y[j]:=of_decide_eq_false hh
rw [Zm6,if_neg h,if_pos hc]
rfl}
theorem Zs8 {x y:List ByteArray} {i j:Nat} {b:ByteArray} {E:List Edit} {D I:List ByteArray} (hy:y[j]? = some b) (hh:heads (x.drop i) (y.drop j)=false) (hc:i=x.length\/∃ _:i<x.length,¬ lcs (x.drop i) (y.drop (j+1))<=lcs (x.drop (i+1)) (y.drop j)) :
  scr (x.drop i) (y.drop j) E [] D I=scr (x.drop i) (y.drop (j+1)) E [] D (I ++ [b]):=by{
rcases hc with rfl | ⟨h1,hc⟩
rw [ZaA hy,List.drop_length,Zxb];rfl
have hx:x[i]? = some x[i]:=List.getElem?_eq_getElem h1
rw [ZaA hx,ZaA hy] at hh hc ⊢
have h:¬ x[i]=b:=of_decide_eq_false hh
rw [Zm6,if_neg h,if_neg hc]
rfl}
end
section
open VL Go.RowKit
def strings_Compare (a b:ByteArray):Option Int:=some (Lib.compareBytes a.data.toList b.data.toList)
theorem Zi1 (a b:ByteArray) (r:Int) (h:strings_Compare a b=some r):Zb Tryz.prog 133 [.str a,.str b] (.int .i64 r):=by
 unfold strings_Compare at h
 cases h
 exact Zac (vals:=[.string a,.string b]) (by kernel_rfl) rfl rfl (fun x=>.int _ _) fun w hw=>(Zri a b w).mono fun e w' ⟨h1,h2⟩=>⟨h1,by rw [<- h2];exact Below.refl _ _⟩
end
section
open VL
def Zb1 (p0:Int):Option Bool:=(some (!decide (p0=p0)):Option Bool)
theorem ZgO (p0:Int) (r:Bool) (h:Zb1 p0=some r):Zb Tryz.prog 132 [.int .i64 p0] (.bool r):=by{
refine cF (fun r=>.bool r) h mix Tryz.func132 fun r h=>?_
unfold Zb1 at h
refine Zf ?_
refine rg ?_
refine rg ?_
cases h
exact rQ}
def Za6 (p0:Int) (p1:Int):Option Int:=(Zb1 p0).bind fun r1=>(Zb1 p1).bind fun r2=>if r1 then if r2 then (some 0:Option Int) else (some (-1):Option Int) else if r2 then (some 1:Option Int) else if (decide (p0<p1)) then (some (-1):Option Int) else if (decide (p1<p0)) then (some 1:Option Int) else (some 0:Option Int)
theorem Zdm (p0:Int) (p1:Int) (r:Int) (h:Za6 p0 p1=some r):Zb Tryz.prog 78 [.int .i64 p0,.int .i64 p1] (.int .i64 r):=by{
refine cF (fun r=>.int .i64 r) h mix Tryz.func78 fun r h=>?_
unfold Za6 at h
refine Zf ?_
refine rg ?_
refine rg ?_
refine aC h (ZgO _) fun r1 h=>?_
refine rg ?_
refine aC h (ZgO _) fun r2 h=>?_
refine rg ?_
refine cS h rfl (fun h=>?_) fun h=>?_
refine rg ?_
refine cS h rfl (fun h=>?_) fun h=>?_
refine rg ?_
cases h
exact rQ
refine rg ?_
cases h
exact rQ
refine rg ?_
refine cS h rfl (fun h=>?_) fun h=>?_
refine rg ?_
cases h
exact rQ
refine rg ?_
refine cS h rfl (fun h=>?_) fun h=>?_
refine rg ?_
cases h
exact rQ
refine rg ?_
refine cS h rfl (fun h=>?_) fun h=>?_
refine rg ?_
cases h
exact rQ
refine rg ?_
cases h
exact rQ}
def Zeq (p0:List Int):Option Int:=ZE Zaq (fun f2 (x10:Int)=>if (decide (x10<(p0.length:Int))) then (atI p0 x10).bind fun e14=>if (!decide (e14=0)) then (some e14:Option Int) else f2 (w64 (x10+1)) else (some 0:Option Int)) 0
theorem ZjS (p0:List Int) (r:Int) (h:Zeq p0=some r):Zb Tryz.prog 77 [.sl (List.map csI p0)] (.int .i64 r):=by{
refine cF (fun r=>.int .i64 r) h mix Tryz.func77 fun r h=>?_
unfold Zeq at h
refine Zf ?_
refine rg ?_
refine rg ?_
refine rg ?_
refine lM csI p0 ?_
refine bl ?_
refine Zk h fun f2 mf2 hf2 h=>?_
refine Zi (α:=Nat×Int) (fun a _=>mkS [(3,.int .i64 0),(6,.sl (List.map csI p0)),(7,.int .i64 (p0.length:Int)),(8,.int .i64 a.2)] [] 2) (fun a=>ZE a.1 f2 a.2=some r) (fun a=>a.1) (mf2,0) 2 h (sR []) (fun a _ h=>?_)
obtain ⟨mf2,x10⟩:=a
obtain ⟨mf2,rfl,h⟩:=Zl hf2 h
dsimp only at h ⊢
refine Zf ?_
refine rg ?_
refine cS h rfl (fun h=>?_) fun h=>?_
refine bl ?_
refine rg ?_
refine aI csI h fun e14 h=>?_
refine rg ?_
refine cS h rfl (fun h=>?_) fun h=>?_
refine rg ?_
cases h
exact rQ
refine rg ?_
exact rn (mf2,(w64 (x10+1))) h (sR [])
refine rg ?_
cases h
exact rQ}
def Zbd (p0:Title) (p1:Title):Option Int:=(Za6 p0.space p1.space).bind fun r1=>(strings_Compare p0.name p1.name).bind fun r2=>(Zeq [r1,r2]).bind fun r3=>(some r3:Option Int)
theorem ZgP (p0:Title) (p1:Title) (r:Int) (h:Zbd p0 p1=some r):Zb Tryz.prog 79 [p0.pv,p1.pv] (.int .i64 r):=by{
refine cF (fun r=>.int .i64 r) h mix Tryz.func79 fun r h=>?_
unfold Zbd at h
refine Zf ?_
refine rg ?_
refine rg ?_
refine aC h (Zdm _ _) fun r1 h=>?_
refine aC h (Zi1 _ _) fun r2 h=>?_
refine bM csI ([r1,r2]:List Int) ?_
refine aL h (ZjS _) fun r3 h=>?_
cases h
exact rQ}
def ZaN (p0:Num) (p1:Num):Option Int:=(Za6 p0.seq p1.seq).bind fun r1=>(Zbd p0.item.title p1.item.title).bind fun r2=>(Za6 p0.item.number p1.item.number).bind fun r3=>(Zeq [r1,r2,r3]).bind fun r4=>(some r4:Option Int)
theorem ZdA (p0:Num) (p1:Num) (r:Int) (h:ZaN p0 p1=some r):Zb Tryz.prog 76 [p0.pv,p1.pv] (.int .i64 r):=by{
refine cF (fun r=>.int .i64 r) h mix Tryz.func76 fun r h=>?_
unfold ZaN at h
refine Zf ?_
refine rg ?_
refine rg ?_
refine aC h (Zdm _ _) fun r1 h=>?_
refine aC h (ZgP _ _) fun r2 h=>?_
refine aC h (Zdm _ _) fun r3 h=>?_
refine bM csI ([r1,r2,r3]:List Int) ?_
refine aL h (ZjS _) fun r4 h=>?_
cases h
exact rQ}
end
end Go.Proofs.YtpdaeclbndpabaaGreatDoor
