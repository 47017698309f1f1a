/- == and != of items. | Functions of the program as Lean -/
import Derived.Test.YtpdaeclbndpabaaGreatDoorCM21
set_option linter.unusedSimpArgs false
set_option linter.unusedVariables false
set_option maxHeartbeats 4000000
set_option maxRecDepth 100000
set_option linter.unusedSimpArgs false
namespace Go.Proofs.YtpdaeclbndpabaaGreatDoor
section
open VL Go.RowKit
theorem Zx6 (a b:Item) (W:World):(binOp .eql 60 (.agg #[.int .i64 a.title.space,.string a.title.name,.int .i64 a.number,.string a.user,.string a.note,.int .i64 a.minute]) (.agg #[.int .i64 b.title.space,.string b.title.name,.int .i64 b.number,.string b.user,.string b.note,.int .i64 b.minute])).run Tryz.prog W = .ok (.bool (decide (a=b))) W:=by{
have e:(if a.title.space=b.title.space then if a.title.name.toList=b.title.name.toList then if a.number=b.number then if a.user.toList=b.user.toList then if a.note.toList=b.note.toList then if a.minute=b.minute then true else false else false else false else false else false else false)=(decide (a=b)):=by
 obtain ⟨⟨a1,a2⟩,a3,a4,a5,a6⟩:=a
 obtain ⟨⟨b1,b2⟩,b3,b4,b5,b6⟩:=b
 simp only [Item.mk.injEq,Title.mk.injEq,ZbX]
 (repeat' split)<;>simp_all
rw [<- e]
go_simp
(repeat' split)<;>simp_all}
theorem Zx7 (a b:Item) (W:World):(binOp .neq 60 (.agg #[.int .i64 a.title.space,.string a.title.name,.int .i64 a.number,.string a.user,.string a.note,.int .i64 a.minute]) (.agg #[.int .i64 b.title.space,.string b.title.name,.int .i64 b.number,.string b.user,.string b.note,.int .i64 b.minute])).run Tryz.prog W = .ok (.bool (!decide (a=b))) W:=by{
have e:(if a.title.space=b.title.space then if a.title.name.toList=b.title.name.toList then if a.number=b.number then if a.user.toList=b.user.toList then if a.note.toList=b.note.toList then if a.minute=b.minute then false else true else true else true else true else true else true)=(!decide (a=b)):=by
 obtain ⟨⟨a1,a2⟩,a3,a4,a5,a6⟩:=a
 obtain ⟨⟨b1,b2⟩,b3,b4,b5,b6⟩:=b
 simp only [Item.mk.injEq,Title.mk.injEq,ZbX]
 (repeat' split)<;>simp_all
rw [<- e]
go_simp
(repeat' split)<;>simp_all}
end
section
open VL
def ZdW (p0:State) (p1:Title) (p2:Int):Option (Revision×Bool):=(ZbY p0 p1).bind fun r1=>ZE Zaq (fun f2 (x19:Int)=>if (decide (x19<(r1.1.history.length:Int))) then (atI r1.1.history x19).bind fun e26=>if (decide (e26.number=p2)) then (atI r1.1.history x19).bind fun e27=>(some (e27,true):Option (Revision×Bool)) else f2 (w64 (x19+1)) else (some ((⟨0,(⟨#[]⟩:ByteArray),(⟨#[]⟩:ByteArray),(⟨#[]⟩:ByteArray),0,0⟩:Revision),false):Option (Revision×Bool))) 0
theorem ZlU (p0:State) (p1:Title) (p2:Int) (r:Revision×Bool) (h:ZdW p0 p1 p2=some r):Zb Tryz.prog 107 [p0.pv,p1.pv,.int .i64 p2] (.tup [r.1.pv,.bool r.2]):=by{
refine cF (fun r=>.tup [r.1.pv,.bool r.2]) h mix Tryz.func107 fun r h=>?_
unfold ZdW at h
refine Zf ?_
refine rg ?_
refine rg ?_
refine aC h (Zem _ _) fun r1 h=>?_
refine rg ?_
refine bl ?_
refine Zk h fun f2 mf2 hf2 h=>?_
refine Zi (α:=Nat×Int) (fun a _=>mkS [(2,.int .i64 p2),(6,.ptr 6 (1,6) 0),(8,.ptr 8 (1,8) 0),(10,.int .i64 a.2)] [(6,some ((1,6),.box [.int .i64 0,.str (⟨#[]⟩:ByteArray),.str (⟨#[]⟩:ByteArray),.str (⟨#[]⟩:ByteArray),.int .i64 0,.int .i64 0])),(8,some ((1,8),.box (Stored.cs r1.1)))] 2) (fun a=>ZE a.1 f2 a.2=some r) (fun a=>a.1) (mf2,0) 2 h (sR [(6,1,2),(8,2,6)]) (fun a _ h=>?_)
obtain ⟨mf2,x19⟩:=a
obtain ⟨mf2,rfl,h⟩:=Zl hf2 h
dsimp only at h ⊢
refine Zf ?_
refine rg ?_
refine lM Revision.cs r1.1.history ?_
refine cS h rfl (fun h=>?_) fun h=>?_
refine bl ?_
refine rg ?_
refine aI Revision.cs h fun e26 h=>?_
refine cS h rfl (fun h=>?_) fun h=>?_
refine rg ?_
refine aI Revision.cs h fun e27 h=>?_
cases h
exact rQ
refine rg ?_
exact rn (mf2,(w64 (x19+1))) h (sR [(6,1,6),(8,1,8)])
refine rg ?_
cases h
exact rQ}
def ZdX (p0:State) (p1:ByteArray) (p2:Title):Option Bool:=(ZbY p0 p2).bind fun r1=>letk (fun (x3:Bool)=>(some x3:Option Bool)) fun k1=>if r1.2 then (ZhM p0 p1 1 p2).bind fun r4=>k1 r4 else k1 false
theorem ZlV (p0:State) (p1:ByteArray) (p2:Title) (r:Bool) (h:ZdX p0 p1 p2=some r):Zb Tryz.prog 113 [p0.pv,.str p1,p2.pv] (.bool r):=by{
refine cF (fun r=>.bool r) h mix Tryz.func113 fun r h=>?_
unfold ZdX at h
refine Zf ?_
refine rg ?_
refine rg ?_
refine aC h (Zem _ _) fun r1 h=>?_
refine jL h (fun x3=>mkS [(6,.bool x3)] [] 2) (fun k1 h=>?_) fun x3 h=>?_
refine rg ?_
refine kS 16 h rfl (fun h=>?_) fun h=>?_
refine aC h (Zoe _ _ _ _) fun r4 h=>?_
exact jn r4 h (sR [])
iterate 4 refine Zg rfl (Zf ?_)
exact jn false h (sR [])
cases h
exact rQ}
def Zfo (p0:ByteArray):Option Bool:=letk (fun (x2:Bool)=>(some x2:Option Bool)) fun k1=>if (decide (p0=(⟨#[]⟩:ByteArray))) then k1 true else (Zaz p0).bind fun r3=>k1 r3
theorem Zoq (p0:ByteArray) (r:Bool) (h:Zfo p0=some r):Zb Tryz.prog 50 [.str p0] (.bool r):=by{
refine cF (fun r=>.bool r) h mix Tryz.func50 fun r h=>?_
unfold Zfo at h
refine Zf ?_
refine rg ?_
refine jL h (fun x2=>mkS [(2,.bool x2)] [] 2) (fun k1 h=>?_) fun x2 h=>?_
refine rg ?_
refine kS 5 h rfl (fun h=>?_) fun h=>?_
iterate 2 refine Zg rfl (Zf ?_)
exact jn true h (sR [])
refine aC h (ZaZ _) fun r3 h=>?_
exact jn r3 h (sR [])
cases h
exact rQ}
def Zdd (p0:State) (p1:ByteArray):Option (List Title):=ZE Zaq (fun f7 ((x31,x32):Int×(List Title))=>if (decide (x31<(p0.watches.length:Int))) then letk (fun (x43:List Title)=>f7 ((w64 (x31+1)),x43)) fun k8=>(atI p0.watches x31).bind fun e44=>if (decide (e44.user=p1)) then (atI p0.watches x31).bind fun e45=>(Zbo 24 x32 [e45.title]).bind fun l46=>k8 l46 else k8 x32 else (some x32:Option (List Title))) (0,([]:List Title))
theorem Zis (p0:State) (p1:ByteArray) (r:List Title) (h:Zdd p0 p1=some r):Zb Tryz.prog 22 [p0.pv,.str p1] (.sl (List.map Title.cs r)):=by{
refine cF (fun r=>.sl (List.map Title.cs r)) h mix Tryz.func22 fun r h=>?_
unfold Zdd at h
refine Zf ?_
refine rg ?_
refine rg ?_
refine rg ?_
refine bl ?_
refine Zk h fun f7 mf7 hf7 h=>?_
refine Zi (α:=Nat×(Int×(List Title))) (fun a _=>mkS [(1,.str p1),(2,.ptr 2 (1,2) 0),(5,.row 5 (1,5)),(6,.int .i64 a.2.1)] [(2,some ((1,2),.box (State.cs p0))),(5,some ((1,5),.row 36 2 false (List.map Title.cs a.2.2)))] 2) (fun a=>ZE a.1 f7 a.2=some r) (fun a=>a.1) (mf7,0,([]:List Title)) 2 h (Zam [((1,2),(1,0))] 5 36 2 rfl ⟨rfl,rfl,rfl,rfl,trivial⟩ ⟨⟨rfl,rfl⟩,⟨rfl,rfl⟩,trivial⟩ rfl) (fun a _ h=>?_)
obtain ⟨mf7,x31,x32⟩:=a
obtain ⟨mf7,rfl,h⟩:=Zl hf7 h
dsimp only at h ⊢
refine Zf ?_
refine rg ?_
refine lM Watch.cs p0.watches ?_
refine cS h rfl (fun h=>?_) fun h=>?_
refine jL h (fun x43=>mkS [(1,.str p1),(2,.ptr 2 (1,2) 0),(5,.row 5 (1,5)),(6,.int .i64 x31)] [(2,some ((1,2),.box (State.cs p0))),(5,some ((1,5),.row 36 2 false (List.map Title.cs x43)))] 2) (fun k8 h=>?_) fun x43 h=>?_
refine bl ?_
refine rg ?_
refine aI Watch.cs h fun e44 h=>?_
refine cS h rfl (fun h=>?_) fun h=>?_
refine rg ?_
refine aI Watch.cs h fun e45 h=>?_
refine ZF (M:=([e45.title]:List Title)) (f:=Title.cs) rfl rfl rfl rfl (Nat.le_of_ble_eq_true rfl) rfl (Zf ?_)
refine pR Title.cs h fun l46 h=>?_
exact jn l46 h (sR [(2,1,2),(5,4,8)])
exact jn x32 h (sR [(2,1,2),(5,1,5)])
refine rg ?_
exact rn (mf7,(w64 (x31+1)),x43) h (sR [(2,1,2),(5,1,5)])
refine rg ?_
cases h
exact rQ}
def Zfp (p0:Ent) (p1:Ent):Option Bool:=if (!decide (p0.seq=p1.seq)) then (some (decide (p0.seq<p1.seq)):Option Bool) else (Zfu p0.item.title p1.item.title).bind fun r1=>if (!decide (r1=0)) then (some (decide (r1<0)):Option Bool) else (some (decide (p0.item.number<p1.item.number)):Option Bool)
theorem Zor (p0:Ent) (p1:Ent) (r:Bool) (h:Zfp p0 p1=some r):Zb Tryz.prog 114 [p0.pv,p1.pv] (.bool r):=by{
refine cF (fun r=>.bool r) h mix Tryz.func114 fun r h=>?_
unfold Zfp at h
refine Zf ?_
refine rg ?_
refine rg ?_
refine cS h rfl (fun h=>?_) fun h=>?_
refine rg ?_
cases h
exact rQ
refine rg ?_
refine aC h (ZeY _ _) fun r1 h=>?_
refine rg ?_
refine cS h rfl (fun h=>?_) fun h=>?_
refine rg ?_
cases h
exact rQ
refine rg ?_
cases h
exact rQ}
def Zgz (p0:List Title) (p1:Int):Option Bool:=ZE Zaq (fun f2 (x18:Int)=>if (decide (x18<p1)) then (atI p0 x18).bind fun e25=>(atI p0 p1).bind fun e26=>if (decide (e25=e26)) then (some false:Option Bool) else f2 (w64 (x18+1)) else (some true:Option Bool)) 0
theorem ZpP (p0:List Title) (p1:Int) (r:Bool) (h:Zgz p0 p1=some r):Zb Tryz.prog 112 [.sl (List.map Title.cs p0),.int .i64 p1] (.bool r):=by{
refine cF (fun r=>.bool r) h mix Tryz.func112 fun r h=>?_
unfold Zgz at h
refine Zf ?_
refine rg ?_
refine rg ?_
refine bl ?_
refine Zk h fun f2 mf2 hf2 h=>?_
refine Zi (α:=Nat×Int) (fun a _=>mkS [(0,.sl (List.map Title.cs p0)),(1,.int .i64 p1),(5,.int .i64 a.2)] [] 2) (fun a=>ZE a.1 f2 a.2=some r) (fun a=>a.1) (mf2,0) 2 h (sR []) (fun a _ h=>?_)
obtain ⟨mf2,x18⟩:=a
obtain ⟨mf2,rfl,h⟩:=Zl hf2 h
dsimp only at h ⊢
refine Zf ?_
refine rg ?_
refine cS h rfl (fun h=>?_) fun h=>?_
refine bl ?_
refine rg ?_
refine aI Title.cs h fun e25 h=>?_
refine aI Title.cs h fun e26 h=>?_
refine ZeM (.inl rfl) rfl rfl rfl rfl rfl (fun W=>ZcM e25 e26 W) (Zf ?_)
refine cS h rfl (fun h=>?_) fun h=>?_
refine rg ?_
cases h
exact rQ
refine rg ?_
exact rn (mf2,(w64 (x18+1))) h (sR [])
refine rg ?_
cases h
exact rQ}
def Zfq (p0:State) (p1:ByteArray) (p2:List Title):Option (List Item):=ZE Zaq (fun f474 ((x1771,x1772):(List Ent)×Int)=>if (decide (x1772<(p2.length:Int))) then (atI p2 x1772).bind fun e2532=>(ZbY p0 e2532).bind fun r2533=>ZE Zaq (fun f561 ((x2617,x2618):(List Ent)×Int)=>letk (fun (x2705:Bool)=>if x2705 then (atI r2533.1.history x2618).bind fun e2744=>ZE Zaq (fun f577 (x2766:Int)=>letk (fun (x2774:Bool)=>if x2774 then f577 (w64 (x2766+1)) else (Zgj x2617 0 x2766).bind fun l2775=>(Zbo 80 [] l2775).bind fun l2776=>(Zbo 80 l2776 [(⟨e2744.seq,(⟨r2533.1.title,e2744.number,e2744.user,e2744.note,e2744.minute⟩:Item)⟩:Ent)]).bind fun l2777=>(Zgj x2617 x2766 (x2617.length:Int)).bind fun l2778=>(Zbo 80 l2777 l2778).bind fun l2779=>f561 (l2779,(w64 (x2618+1)))) fun k578=>if (decide (x2766<(x2617.length:Int))) then (atI x2617 x2766).bind fun e2780=>(Zfp (⟨e2744.seq,(⟨r2533.1.title,e2744.number,e2744.user,e2744.note,e2744.minute⟩:Item)⟩:Ent) e2780).bind fun r2781=>k578 (!r2781) else k578 false) 0 else f474 (x2617,(w64 (x1772+1)))) fun k562=>if (decide (x2618<(r2533.1.history.length:Int))) then (Zgz p2 x1772).bind fun r2782=>if r2782 then (atI p2 x1772).bind fun e2783=>(ZdX p0 p1 e2783).bind fun r2784=>k562 r2784 else k562 false else k562 false) (x1771,0) else ZE Zaq (fun f580 ((x2803,x2804):Int×(List Item))=>if (decide (x2803<(x1771.length:Int))) then (atI x1771 x2803).bind fun e2811=>(Zbo 72 x2804 [e2811.item]).bind fun l2812=>f580 ((w64 (x2803+1)),l2812) else (some x2804:Option (List Item))) (0,([]:List Item))) ([],0)
theorem ZkZ (p0:State) (p1:ByteArray) (p2:List Title) (r:List Item) (h:Zfq p0 p1 p2=some r):Zb Tryz.prog 55 [p0.pv,.str p1,.sl (List.map Title.cs p2)] (.sl (List.map Item.cs r)):=by{
refine Zl8 (R:=fun r=>.sl (List.map Item.cs r)) h mix Tryz.func55 (by kernel_rfl) rfl (by kernel_rfl) fun r h=>?_
unfold Zfq at h
refine Zal ?_
refine Zm (Zal ?_)
refine Zm (Zal ?_)
refine Zm (Zal ?_)
refine ZaP (Zal ?_)
refine Zk h fun f474 mf474 hf474 h=>?_
refine Zi (α:=Nat×((List Ent)×Int)) (fun a _=>mkS [(1,.str p1),(2,.sl (List.map Title.cs p2)),(3,.ptr 3 (1,3) 0),(7,.sl (List.map Ent.cs a.2.1)),(8,.int .i64 a.2.2)] [(3,some ((1,3),.box (State.cs p0)))] 2) (fun a=>ZE a.1 f474 a.2=some r) (fun a=>a.1) (mf474,[],0) 2 h (Shift.trans (Zjn 7 rfl rfl) (Zu [((1,3),(1,0))] ⟨rfl,rfl,rfl,rfl,rfl,trivial⟩ ⟨⟨rfl,rfl⟩,trivial⟩ rfl)) (fun a _ h=>?_)
obtain ⟨mf474,x1771,x1772⟩:=a
obtain ⟨mf474,rfl,h⟩:=Zl hf474 h
dsimp only at h ⊢
refine Zal ?_
refine Zm (Zal ?_)
refine ZjK rfl (M:=p2) (f:=Title.cs) rfl (Zal ?_)
refine Zav rfl (fun c=>Zal ?_) (fun c=>Zal ?_)
replace h:=ifT c h
refine ZaP (Zal ?_)
refine Zm (Zal ?_)
obtain ⟨e2532,h2009,h⟩:=bnd h
refine ZeR (f:=Title.cs) rfl h2009 rfl rfl rfl (Zal ?_)
obtain ⟨r2533,h2010,h⟩:=bnd h
refine Zc8 (Zem _ _ _ h2010) rfl rfl (Zal ?_)
refine Zm (Zal ?_)
refine ZaP (Zal ?_)
refine Zk h fun f561 mf561 hf561 h=>?_
refine Zi (α:=Nat×((List Ent)×Int)) (fun a _=>mkS [(1,.str p1),(2,.sl (List.map Title.cs p2)),(3,.ptr 3 (1,3) 0),(7,.sl (List.map Ent.cs a.2.1)),(8,.int .i64 x1772),(9,.ptr 9 (1,9) 0),(11,.int .i64 a.2.2)] [(3,some ((1,3),.box (State.cs p0))),(9,some ((1,9),.box (Stored.cs r2533.1)))] 2) (fun a=>ZE a.1 f561 a.2=some r) (fun a=>a.1) (mf561,x1771,0) 2 h (Zu [((1,3),(1,3)),((1,9),(3,9))] ⟨rfl,rfl,rfl,rfl,rfl,rfl,rfl,trivial⟩ ⟨⟨rfl,rfl⟩,⟨rfl,rfl⟩,trivial⟩ rfl) (fun a _ h=>?_)
obtain ⟨mf561,x2617,x2618⟩:=a
obtain ⟨mf561,rfl,h⟩:=Zl hf561 h
dsimp only at h ⊢
refine Zal ?_
refine Zag h fun k562 hk562 h=>?_
refine Zax (α:=Bool) (fun x2705 _=>mkS [(1,.str p1),(2,.sl (List.map Title.cs p2)),(3,.ptr 3 (1,3) 0),(7,.sl (List.map Ent.cs x2617)),(8,.int .i64 x1772),(9,.ptr 9 (1,9) 0),(11,.int .i64 x2618),(50,.bool x2705)] [(3,some ((1,3),.box (State.cs p0))),(9,some ((1,9),.box (Stored.cs r2533.1)))] 2) (fun x2705=>k562 x2705=some r) (Zal ?_) (fun a _ h=>?_)
refine Zm (Zal ?_)
refine ZjK rfl (M:=r2533.1.history) (f:=Revision.cs) rfl (Zal ?_)
refine ZqI 37 rfl (fun c=>Zal ?_) (fun c=>Zal ?_)
replace h:=ifT c h
obtain ⟨r2782,h2206,h⟩:=bnd h
refine Zc8 (ZpP _ _ _ h2206) rfl rfl (Zal ?_)
refine ZqI 42 rfl (fun c=>Zal ?_) (fun c=>Zal ?_)
replace h:=ifT c h
obtain ⟨e2783,h2207,h⟩:=bnd h
refine ZeR (f:=Title.cs) rfl h2207 rfl rfl rfl (Zal ?_)
obtain ⟨r2784,h2208,h⟩:=bnd h
refine Zc8 (ZlV _ _ _ _ h2208) rfl rfl (Zal ?_)
exact Zao r2784 2 h (Zu [((1,3),(1,3)),((1,9),(1,9))] ⟨rfl,rfl,rfl,rfl,rfl,rfl,rfl,rfl,trivial⟩ ⟨⟨rfl,rfl⟩,⟨rfl,rfl⟩,trivial⟩ rfl)
replace h:=ifF c h
iterate 7 refine Zg rfl (Zal ?_)
exact Zao false 2 h (Zu [((1,3),(1,3)),((1,9),(1,9))] ⟨rfl,rfl,rfl,rfl,rfl,rfl,rfl,rfl,trivial⟩ ⟨⟨rfl,rfl⟩,⟨rfl,rfl⟩,trivial⟩ rfl)
replace h:=ifF c h
iterate 10 refine Zg rfl (Zal ?_)
exact Zao false 2 h (Zu [((1,3),(1,3)),((1,9),(1,9))] ⟨rfl,rfl,rfl,rfl,rfl,rfl,rfl,rfl,trivial⟩ ⟨⟨rfl,rfl⟩,⟨rfl,rfl⟩,trivial⟩ rfl)
revert a;intro x2705 h
subst hk562
dsimp only at h ⊢
refine Zal ?_
refine Zav rfl (fun c=>Zal ?_) (fun c=>Zal ?_)
replace h:=ifT c h
refine ZaP (Zal ?_)
refine Zm (Zal ?_)
obtain ⟨e2744,h2176,h⟩:=bnd h
refine ZeR (f:=Revision.cs) rfl h2176 rfl rfl rfl (Zal ?_)
refine Zm (Zal ?_)
refine ZhP (cs:=[.int .i64 r2533.1.title.space,.str r2533.1.title.name,.int .i64 e2744.number,.str e2744.user,.str e2744.note,.int .i64 e2744.minute]) rfl (by kernel_rfl) (Zal ?_)
refine ZhP (cs:=[.int .i64 e2744.seq,.int .i64 r2533.1.title.space,.str r2533.1.title.name,.int .i64 e2744.number,.str e2744.user,.str e2744.note,.int .i64 e2744.minute]) rfl (by kernel_rfl) (Zal ?_)
refine Zm (Zal ?_)
refine ZaP (Zal ?_)
refine Zk h fun f577 mf577 hf577 h=>?_
refine Zi (α:=Nat×Int) (fun a _=>mkS [(1,.str p1),(2,.sl (List.map Title.cs p2)),(3,.ptr 3 (1,3) 0),(7,.sl (List.map Ent.cs x2617)),(8,.int .i64 x1772),(9,.ptr 9 (1,9) 0),(11,.int .i64 x2618),(13,.ptr 13 (1,13) 0),(14,.int .i64 a.2)] [(3,some ((1,3),.box (State.cs p0))),(9,some ((1,9),.box (Stored.cs r2533.1))),(13,some ((1,13),.box [.int .i64 e2744.seq,.int .i64 r2533.1.title.space,.str r2533.1.title.name,.int .i64 e2744.number,.str e2744.user,.str e2744.note,.int .i64 e2744.minute]))] 2) (fun a=>ZE a.1 f577 a.2=some r) (fun a=>a.1) (mf577,0) 2 h (Zu [((1,3),(1,3)),((1,9),(1,9)),((1,13),(3,14))] ⟨rfl,rfl,rfl,rfl,rfl,rfl,rfl,rfl,rfl,trivial⟩ ⟨⟨rfl,rfl⟩,⟨rfl,rfl⟩,⟨rfl,rfl⟩,trivial⟩ rfl) (fun a _ h=>?_)
obtain ⟨mf577,x2766⟩:=a
obtain ⟨mf577,rfl,h⟩:=Zl hf577 h
dsimp only at h ⊢
refine Zal ?_
refine Zag h fun k578 hk578 h=>?_
refine Zax (α:=Bool) (fun x2774 _=>mkS [(1,.str p1),(2,.sl (List.map Title.cs p2)),(3,.ptr 3 (1,3) 0),(7,.sl (List.map Ent.cs x2617)),(8,.int .i64 x1772),(9,.ptr 9 (1,9) 0),(11,.int .i64 x2618),(13,.ptr 13 (1,13) 0),(14,.int .i64 x2766),(84,.bool x2774)] [(3,some ((1,3),.box (State.cs p0))),(9,some ((1,9),.box (Stored.cs r2533.1))),(13,some ((1,13),.box [.int .i64 e2744.seq,.int .i64 r2533.1.title.space,.str r2533.1.title.name,.int .i64 e2744.number,.str e2744.user,.str e2744.note,.int .i64 e2744.minute]))] 2) (fun x2774=>k578 x2774=some r) (Zal ?_) (fun a _ h=>?_)
refine Zm (Zal ?_)
refine ZjK rfl (M:=x2617) (f:=Ent.cs) rfl (Zal ?_)
refine ZqI 76 rfl (fun c=>Zal ?_) (fun c=>Zal ?_)
replace h:=ifT c h
obtain ⟨e2780,h2204,h⟩:=bnd h
refine ZeR (f:=Ent.cs) rfl h2204 rfl rfl rfl (Zal ?_)
obtain ⟨r2781,h2205,h⟩:=bnd h
refine Zc8 (Zor _ _ _ h2205) rfl rfl (Zal ?_)
exact Zao (!r2781) 2 h (Zu [((1,3),(1,3)),((1,9),(1,9)),((1,13),(1,13))] ⟨rfl,rfl,rfl,rfl,rfl,rfl,rfl,rfl,rfl,rfl,trivial⟩ ⟨⟨rfl,rfl⟩,⟨rfl,rfl⟩,⟨rfl,rfl⟩,trivial⟩ rfl)
replace h:=ifF c h
iterate 7 refine Zg rfl (Zal ?_)
exact Zao false 2 h (Zu [((1,3),(1,3)),((1,9),(1,9)),((1,13),(1,13))] ⟨rfl,rfl,rfl,rfl,rfl,rfl,rfl,rfl,rfl,rfl,trivial⟩ ⟨⟨rfl,rfl⟩,⟨rfl,rfl⟩,⟨rfl,rfl⟩,trivial⟩ rfl)
revert a;intro x2774 h
subst hk578
dsimp only at h ⊢
refine Zal ?_
refine Zav rfl (fun c=>Zal ?_) (fun c=>Zal ?_)
replace h:=ifT c h
refine ZaP (Zal ?_)
refine Zm (Zal ?_)
exact ZY (mf577,(w64 (x2766+1))) 2 h (Nat.lt_succ_self mf577) (Zu [((1,3),(1,3)),((1,9),(1,9)),((1,13),(1,13))] ⟨rfl,rfl,rfl,rfl,rfl,rfl,rfl,rfl,rfl,trivial⟩ ⟨⟨rfl,rfl⟩,⟨rfl,rfl⟩,⟨rfl,rfl⟩,trivial⟩ rfl)
replace h:=ifF c h
refine Zm (Zal ?_)
obtain ⟨l2775,h2199,h⟩:=bnd h
refine ZmS (f:=Ent.cs) rfl h2199 (fun _=>rfl) rfl rfl rfl rfl (Zal ?_)
obtain ⟨l2776,h2200,h⟩:=bnd h
refine ZeS (f:=Ent.cs) rfl h2200 (fun _=>rfl) rfl rfl rfl (Zal ?_)
refine ZF (M:=([(⟨e2744.seq,(⟨r2533.1.title,e2744.number,e2744.user,e2744.note,e2744.minute⟩:Item)⟩:Ent)]:List Ent)) (f:=Ent.cs) rfl rfl rfl rfl (Nat.le_of_ble_eq_true rfl) rfl (Zal ?_)
obtain ⟨l2777,h2201,h⟩:=bnd h
refine Zl7 (f:=Ent.cs) rfl h2201 (fun _=>rfl) rfl rfl rfl rfl (Zal ?_)
obtain ⟨l2778,h2202,h⟩:=bnd h
refine ZmS (f:=Ent.cs) rfl h2202 (fun _=>rfl) rfl rfl rfl rfl (Zal ?_)
obtain ⟨l2779,h2203,h⟩:=bnd h
refine Zl7 (f:=Ent.cs) rfl h2203 (fun _=>rfl) rfl rfl rfl rfl (Zal ?_)
refine Zm (Zal ?_)
exact ZY (mf561,l2779,(w64 (x2618+1))) 2 h (Nat.lt_succ_self mf561) (Shift.trans (Zjn 7 rfl rfl) (Zu [((1,3),(1,3)),((1,9),(1,9))] ⟨rfl,rfl,rfl,rfl,rfl,rfl,rfl,trivial⟩ ⟨⟨rfl,rfl⟩,⟨rfl,rfl⟩,trivial⟩ rfl))
replace h:=ifF c h
refine Zm (Zal ?_)
exact ZY (mf474,x2617,(w64 (x1772+1))) 2 h (Nat.lt_succ_self mf474) (Zu [((1,3),(1,3))] ⟨rfl,rfl,rfl,rfl,rfl,trivial⟩ ⟨⟨rfl,rfl⟩,trivial⟩ rfl)
replace h:=ifF c h
refine Zm (Zal ?_)
refine Zm (Zal ?_)
refine ZaP (Zal ?_)
refine Zk h fun f580 mf580 hf580 h=>?_
refine Zi (α:=Nat×(Int×(List Item))) (fun a _=>mkS [(7,.sl (List.map Ent.cs x1771)),(15,.row 15 (1,15)),(16,.int .i64 a.2.1)] [(15,some ((1,15),.row 60 6 false (List.map Item.cs a.2.2)))] 2) (fun a=>ZE a.1 f580 a.2=some r) (fun a=>a.1) (mf580,0,([]:List Item)) 2 h (Zam [] 15 60 6 rfl ⟨rfl,rfl,rfl,trivial⟩ ⟨⟨rfl,rfl⟩,trivial⟩ rfl) (fun a _ h=>?_)
obtain ⟨mf580,x2803,x2804⟩:=a
obtain ⟨mf580,rfl,h⟩:=Zl hf580 h
dsimp only at h ⊢
refine Zal ?_
refine Zm (Zal ?_)
refine ZjK rfl (M:=x1771) (f:=Ent.cs) rfl (Zal ?_)
refine Zav rfl (fun c=>Zal ?_) (fun c=>Zal ?_)
replace h:=ifT c h
refine ZaP (Zal ?_)
refine Zm (Zal ?_)
obtain ⟨e2811,h2231,h⟩:=bnd h
refine ZeR (f:=Ent.cs) rfl h2231 rfl rfl rfl (Zal ?_)
refine ZF (M:=([e2811.item]:List Item)) (f:=Item.cs) rfl rfl rfl rfl (Nat.le_of_ble_eq_true rfl) rfl (Zal ?_)
obtain ⟨l2812,h2232,h⟩:=bnd h
refine Zl7 (f:=Item.cs) rfl h2232 (fun _=>rfl) rfl rfl rfl rfl (Zal ?_)
refine Zm (Zal ?_)
exact ZY (mf580,(w64 (x2803+1)),l2812) 2 h (Nat.lt_succ_self mf580) (Zu [((1,15),(3,7))] ⟨rfl,rfl,rfl,trivial⟩ ⟨⟨rfl,rfl⟩,trivial⟩ rfl)
replace h:=ifF c h
refine Zm (Zal ?_)
cases h
exact Zb8 rfl rfl rfl}
def Zit (p0:State) (p1:ByteArray) (p2:Int):Option (List Item):=(Zdd p0 p1).bind fun r1=>(Zfq p0 p1 r1).bind fun r2=>(Zgj r2 (if (r2.length:Int)<(if 0 > p2 then 0 else p2) then (r2.length:Int) else (if 0 > p2 then 0 else p2)) (r2.length:Int)).bind fun l3=>(some l3:Option (List Item))
theorem ZrJ (p0:State) (p1:ByteArray) (p2:Int) (r:List Item) (h:Zit p0 p1 p2=some r):Zb Tryz.prog 24 [p0.pv,.str p1,.int .i64 p2] (.sl (List.map Item.cs r)):=by{
refine cF (fun r=>.sl (List.map Item.cs r)) h mix Tryz.func24 fun r h=>?_
unfold Zit at h
refine Zf ?_
refine rg ?_
refine rg ?_
refine aC h (Zis _ _) fun r1 h=>?_
refine aC h (ZkZ _ _ _) fun r2 h=>?_
refine rg ?_
refine Zv2 rfl rfl rfl (Zf ?_)
refine lM Item.cs r2 ?_
refine Zum rfl rfl rfl (Zf ?_)
refine sM Item.cs h fun l3 h=>?_
cases h
exact rQ}
def Zfr (p0:State) (p1:ByteArray) (p2:Int):Option (List Item):=ZE Zaq (fun f2 ((x19,x20):Int×(List Title))=>if (decide (x19<(p0.pages.length:Int))) then (atI p0.pages x19).bind fun e27=>(Zbo 24 x20 [e27.title]).bind fun l28=>f2 ((w64 (x19+1)),l28) else (Zfq p0 p1 x20).bind fun r29=>ZE Zaq (fun f9 ((x52,x53):Int×(List Item))=>letk (fun (x59:Bool)=>if x59 then (atI r29 x52).bind fun e62=>(Zbo 72 x53 [e62]).bind fun l63=>f9 ((w64 (x52-1)),l63) else (some x53:Option (List Item))) fun k10=>if (decide (0<=x52)) then k10 (decide ((x53.length:Int)<p2)) else k10 false) ((w64 ((r29.length:Int)-1)),([]:List Item))) (0,([]:List Title))
theorem Zos (p0:State) (p1:ByteArray) (p2:Int) (r:List Item) (h:Zfr p0 p1 p2=some r):Zb Tryz.prog 25 [p0.pv,.str p1,.int .i64 p2] (.sl (List.map Item.cs r)):=by{
refine cF (fun r=>.sl (List.map Item.cs r)) h mix Tryz.func25 fun r h=>?_
unfold Zfr at h
refine Zf ?_
refine rg ?_
refine rg ?_
refine rg ?_
refine bl ?_
refine Zk h fun f2 mf2 hf2 h=>?_
refine Zi (α:=Nat×(Int×(List Title))) (fun a _=>mkS [(1,.str p1),(2,.int .i64 p2),(3,.ptr 3 (1,3) 0),(7,.row 7 (1,7)),(8,.int .i64 a.2.1)] [(3,some ((1,3),.box (State.cs p0))),(7,some ((1,7),.row 36 2 false (List.map Title.cs a.2.2)))] 2) (fun a=>ZE a.1 f2 a.2=some r) (fun a=>a.1) (mf2,0,([]:List Title)) 2 h (Zam [((1,3),(1,0))] 7 36 2 rfl ⟨rfl,rfl,rfl,rfl,rfl,trivial⟩ ⟨⟨rfl,rfl⟩,⟨rfl,rfl⟩,trivial⟩ rfl) (fun a _ h=>?_)
obtain ⟨mf2,x19,x20⟩:=a
obtain ⟨mf2,rfl,h⟩:=Zl hf2 h
dsimp only at h ⊢
refine Zf ?_
refine rg ?_
refine lM Stored.cs p0.pages ?_
refine cS h rfl (fun h=>?_) fun h=>?_
refine bl ?_
refine rg ?_
refine aI Stored.cs h fun e27 h=>?_
refine ZF (M:=([e27.title]:List Title)) (f:=Title.cs) rfl rfl rfl rfl (Nat.le_of_ble_eq_true rfl) rfl (Zf ?_)
refine pR Title.cs h fun l28 h=>?_
refine rg ?_
exact rn (mf2,(w64 (x19+1)),l28) h (sR [(3,1,3),(7,3,8)])
refine rg ?_
refine aC h (ZkZ _ _ _) fun r29 h=>?_
refine rg ?_
refine rg ?_
refine lM Item.cs r29 ?_
refine bl ?_
refine Zk h fun f9 mf9 hf9 h=>?_
refine Zi (α:=Nat×(Int×(List Item))) (fun a _=>mkS [(2,.int .i64 p2),(9,.sl (List.map Item.cs r29)),(10,.row 10 (1,10)),(11,.int .i64 a.2.1)] [(10,some ((1,10),.row 60 6 false (List.map Item.cs a.2.2)))] 2) (fun a=>ZE a.1 f9 a.2=some r) (fun a=>a.1) (mf9,(w64 ((r29.length:Int)-1)),([]:List Item)) 2 h (Zam [] 10 60 6 rfl ⟨rfl,rfl,rfl,rfl,trivial⟩ ⟨⟨rfl,rfl⟩,trivial⟩ rfl) (fun a _ h=>?_)
obtain ⟨mf9,x52,x53⟩:=a
obtain ⟨mf9,rfl,h⟩:=Zl hf9 h
dsimp only at h ⊢
refine Zf ?_
refine jL h (fun x59=>mkS [(2,.int .i64 p2),(9,.sl (List.map Item.cs r29)),(10,.row 10 (1,10)),(11,.int .i64 x52),(42,.bool x59)] [(10,some ((1,10),.row 60 6 false (List.map Item.cs x53)))] 2) (fun k10 h=>?_) fun x59 h=>?_
refine rg ?_
refine kS 37 h rfl (fun h=>?_) fun h=>?_
refine lM Item.cs x53 ?_
exact jn (decide ((x53.length:Int)<p2)) h (sR [(10,1,10)])
iterate 4 refine Zg rfl (Zf ?_)
exact jn false h (sR [(10,1,10)])
refine cS h rfl (fun h=>?_) fun h=>?_
refine bl ?_
refine rg ?_
refine aI Item.cs h fun e62 h=>?_
refine ZF (M:=([e62]:List Item)) (f:=Item.cs) rfl rfl rfl rfl (Nat.le_of_ble_eq_true rfl) rfl (Zf ?_)
refine pR Item.cs h fun l63 h=>?_
refine rg ?_
exact rn (mf9,(w64 (x52-1)),l63) h (sR [(10,2,6)])
refine rg ?_
cases h
exact rQ}
def Zhb (p0:State) (p1:Title) (p2:Int):Option (ByteArray×Bool):=if (decide (p2=0)) then (some ((⟨#[]⟩:ByteArray),true):Option (ByteArray×Bool)) else (ZdW p0 p1 p2).bind fun r1=>(some (r1.1.text,r1.2):Option (ByteArray×Bool))
theorem Zme (p0:State) (p1:Title) (p2:Int) (r:ByteArray×Bool) (h:Zhb p0 p1 p2=some r):Zb Tryz.prog 52 [p0.pv,p1.pv,.int .i64 p2] (.tup [.str r.1,.bool r.2]):=by{
refine cF (fun r=>.tup [.str r.1,.bool r.2]) h mix Tryz.func52 fun r h=>?_
unfold Zhb at h
refine Zf ?_
refine rg ?_
refine rg ?_
refine cS h rfl (fun h=>?_) fun h=>?_
refine rg ?_
cases h
exact rQ
refine rg ?_
refine aC h (ZlU _ _ _) fun r1 h=>?_
refine rg ?_
cases h
exact rQ}
def Zcn (p0:List ByteArray) (p1:List ByteArray):Option Bool:=if (!decide ((p0.length:Int)=(p1.length:Int))) then (some false:Option Bool) else ZE 9223372036854775808 (fun f2 (x18:Int)=>if (decide (x18<(p0.length:Int))) then (atI p0 x18).bind fun e25=>(atI p1 x18).bind fun e26=>if (!decide (e25=e26)) then (some false:Option Bool) else f2 (w64 (x18+1)) else (some true:Option Bool)) 0
theorem Zka (p0:List ByteArray) (p1:List ByteArray) (r:Bool) (h:Zcn p0 p1=some r):Zb Tryz.prog 56 [.sl (List.map csS p0),.sl (List.map csS p1)] (.bool r):=by{
refine cF (fun r=>.bool r) h mix Tryz.func56 fun r h=>?_
unfold Zcn at h
refine Zf ?_
refine rg ?_
refine rg ?_
refine lM csS p0 ?_
refine lM csS p1 ?_
refine cS h rfl (fun h=>?_) fun h=>?_
refine rg ?_
cases h
exact rQ
refine rg ?_
refine bl ?_
refine Zk h fun f2 mf2 hf2 h=>?_
refine Zi (α:=Nat×Int) (fun a _=>mkS [(0,.sl (List.map csS p0)),(1,.sl (List.map csS p1)),(5,.int .i64 a.2)] [] 2) (fun a=>ZE a.1 f2 a.2=some r) (fun a=>a.1) (mf2,0) 2 h (sR []) (fun a _ h=>?_)
obtain ⟨mf2,x18⟩:=a
obtain ⟨mf2,rfl,h⟩:=Zl hf2 h
dsimp only at h ⊢
refine Zf ?_
refine rg ?_
refine lM csS p0 ?_
refine cS h rfl (fun h=>?_) fun h=>?_
refine bl ?_
refine rg ?_
refine aI csS h fun e25 h=>?_
refine aI csS h fun e26 h=>?_
refine cS h rfl (fun h=>?_) fun h=>?_
refine rg ?_
cases h
exact rQ
refine rg ?_
exact rn (mf2,(w64 (x18+1))) h (sR [])
refine rg ?_
cases h
exact rQ}
def ZdY (p0:List Edit) (p1:List Edit):Option Bool:=if (!decide ((p0.length:Int)=(p1.length:Int))) then (some false:Option Bool) else ZE Zaq (fun f12 (x90:Int)=>if (decide (x90<(p0.length:Int))) then letk (fun (x129:Bool)=>if x129 then (some false:Option Bool) else f12 (w64 (x90+1))) fun k14=>(atI p0 x90).bind fun e130=>(atI p1 x90).bind fun e131=>if (!decide (e130.kind=e131.kind)) then k14 true else (atI p0 x90).bind fun e132=>(atI p1 x90).bind fun e133=>(Zcn e132.lines e133.lines).bind fun r134=>k14 (!r134) else (some true:Option Bool)) 0
theorem ZlW (p0:List Edit) (p1:List Edit) (r:Bool) (h:ZdY p0 p1=some r):Zb Tryz.prog 26 [.sl (List.map Edit.cs p0),.sl (List.map Edit.cs p1)] (.bool r):=by{
refine cF (fun r=>.bool r) h mix Tryz.func26 fun r h=>?_
unfold ZdY at h
refine Zf ?_
refine rg ?_
refine rg ?_
refine lM Edit.cs p0 ?_
refine lM Edit.cs p1 ?_
refine cS h rfl (fun h=>?_) fun h=>?_
refine rg ?_
cases h
exact rQ
refine rg ?_
refine bl ?_
refine Zk h fun f12 mf12 hf12 h=>?_
refine Zi (α:=Nat×Int) (fun a _=>mkS [(0,.sl (List.map Edit.cs p0)),(1,.sl (List.map Edit.cs p1)),(5,.int .i64 a.2)] [] 2) (fun a=>ZE a.1 f12 a.2=some r) (fun a=>a.1) (mf12,0) 2 h (sR []) (fun a _ h=>?_)
obtain ⟨mf12,x90⟩:=a
obtain ⟨mf12,rfl,h⟩:=Zl hf12 h
dsimp only at h ⊢
refine Zf ?_
refine rg ?_
refine lM Edit.cs p0 ?_
refine cS h rfl (fun h=>?_) fun h=>?_
refine bl ?_
refine jL h (fun x129=>mkS [(0,.sl (List.map Edit.cs p0)),(1,.sl (List.map Edit.cs p1)),(5,.int .i64 x90),(41,.bool x129)] [] 2) (fun k14 h=>?_) fun x129 h=>?_
refine rg ?_
refine aI Edit.cs h fun e130 h=>?_
refine aI Edit.cs h fun e131 h=>?_
refine kS 28 h rfl (fun h=>?_) fun h=>?_
iterate 12 refine Zg rfl (Zf ?_)
exact jn true h (sR [])
refine aI Edit.cs h fun e132 h=>?_
refine aI Edit.cs h fun e133 h=>?_
refine aC h (Zka _ _) fun r134 h=>?_
exact jn (!r134) h (sR [])
refine cS h rfl (fun h=>?_) fun h=>?_
refine rg ?_
cases h
exact rQ
refine rg ?_
exact rn (mf12,(w64 (x90+1))) h (sR [])
refine rg ?_
cases h
exact rQ}
end
section
open VL Go.RowKit
theorem Zu7:(Tryz.prog.info? 3).map (fun i=>(i.zero,i.size,i.bytes))=some (some (.int .i64 0),1,8):=by kernel_rfl
theorem Zu8:(Tryz.prog.info? 22).map (fun i=>(i.zero,i.size,i.bytes))=some (some (.slice none 0 0),1,24):=by kernel_rfl
def ctop (N m c:Nat):Nat->Value:=fun j=>if j<c then .slice (some ⟨N+1+j,0,none⟩) (m+1) (m+1) else .slice none 0 0
structure Tab (w wr:World) (n m c:Nat) (T:Nat->Nat->Int):Prop where
 since:w.Since w.heap.size wr
 size:wr.heap.size=w.heap.size+1+c
 top:wr.rowIs w.heap.size 22 (n+1) (ctop w.heap.size m c)
 done:∀ i,i<c->wr.rowIs (w.heap.size+1+i) 3 (m+1) (fun j=>.int .i64 (T i j))
theorem Zs9 (w:World) (n m:Nat) (T:Nat->Nat->Int):Tab w (w.alloc (.cells (madeCells #[.slice none 0 0] (n+1)) 22)) n m 0 T:=
 ⟨(World.Since.refl _ _).alloc (Nat.le_refl _) _,by simp,(World.rowIs_made w _ (n+1) 22).congr (fun j _=>by simp [ctop]),fun j hj=>absurd hj (Nat.not_lt_zero _)⟩
theorem Zxc {w wr:World} {n m c:Nat} (h:Tab w wr n m c (fun _ _=>0)) :
  Tab w ((wr.alloc (.cells (madeCells #[.int .i64 0] (m+1)) 3)).setCell ⟨w.heap.size,c,none⟩ (.slice (some ⟨w.heap.size+1+c,0,none⟩) (m+1) (m+1))) n m (c+1) (fun _ _=>0):=by{
have hnew:=World.rowIs_made wr (.int .i64 0) (m+1) 3
rw [h.size] at hnew
refine ⟨(h.since.alloc (by rw [h.size];omega) _).setCell (Nat.le_refl _) _,by simp [h.size];omega,((h.top.alloc _).set c _).congr (fun j _=>?_),fun j hj=>?_⟩
simp only [ctop]
by_cases e:j=c
subst e;simp
rw [if_neg e]
by_cases hlt:j<c
rw [if_pos hlt,if_pos (by omega)]
rw [if_neg hlt,if_neg (by omega)]
by_cases e:j=c
subst e
exact hnew.setOther (by show w.heap.size+1+j≠w.heap.size;omega) _
exact ((h.done j (by omega)).alloc _).setOther (by show w.heap.size+1+j≠w.heap.size;omega) _}
theorem Zta {w wr:World} {n m c:Nat} {T:Nat->Nat->Int} (h:Tab w wr n m c T) (i j:Nat) (v:Int) :
  Tab w (wr.setCell ⟨w.heap.size+1+i,j,none⟩ (.int .i64 v)) n m c (fun a b=>if a=i/\b=j then v else T a b):=by{
refine ⟨h.since.setCell (by show w.heap.size<=w.heap.size+1+i;omega) _,by simp [h.size],h.top.setOther (by show w.heap.size≠w.heap.size+1+i;omega) _,fun a ha=>?_⟩
by_cases e:a=i
subst e
refine ((h.done a ha).set j _).congr fun b _=>?_
by_cases e:b=j
rw [if_pos e,if_pos ⟨rfl,e⟩]
rw [if_neg e,if_neg (fun h=>e h.2)]
refine ((h.done a ha).setOther (by show w.heap.size+1+a≠w.heap.size+1+i;omega) _).congr fun b _=>?_
rw [if_neg (fun h=>e h.1)]}
theorem Tab.drew {w wr:World} {n m c:Nat} {T:Nat->Nat->Int} (h:Tab w wr n m c T):Tab w wr.drew n m c T:=
 ⟨h.since.drew,h.size,h.top.drew,fun i hi=>(h.done i hi).drew⟩
structure EndsOf (n m:Nat) (X Y:Nat->ByteArray) (L:Nat->Nat->Int):Prop where
 last:∀ b,L n b=0
 edge:∀ a,L a m=0
 step:∀ a b,a<n->b<m->L a b=if X a=Y b then L (a+1) (b+1)+1 else max (L (a+1) b) (L a (b+1))
 low:∀ a b,0<=L a b
 high:∀ a b,L a b<=1000000
def ZyT (n m i j:Nat) (L T:Nat->Nat->Int):Prop:=∀ a b,a<=n->b<=m->(i<a\/(a=i/\j<=b)\/b=m\/a=n)->T a b=L a b
theorem ZrG (n m:Nat) (X Y:Nat->ByteArray) (L:Nat->Nat->Int) (A B:Option Addr) (cx cy:Nat) (w:World) (hn:n<=1000000) (hm:m<=1000000) (hL:EndsOf n m X Y L)
  (hX:∀ i,i<n->∃ b o,A=some ⟨b,o,none⟩/\w.cell? ⟨b,o+i,none⟩=some (.string (X i))) (hY:∀ i,i<m->∃ b o,B=some ⟨b,o,none⟩/\w.cell? ⟨b,o+i,none⟩=some (.string (Y i))) :
  Calls Tryz.prog 111 #[.slice A n cx,.slice B m cy] w fun e w'=>e = .returned (.slice (some ⟨w.heap.size,0,none⟩) (n+1) (n+1))/\∃ T,Tab w w' n m (n+1) T/\ZyT n m 0 0 L T:=by{
have HL:=Lib.hid hL
have HX:=Lib.hid hX
have HY:=Lib.hid hY
clear hL hX hY
have hmk1:∀ W,(Instr.makeSlice 155 (.int .i64 ((n:Int)+1)) (.int .i64 ((n:Int)+1))).run Tryz.prog W = .ok (.slice (some ⟨W.heap.size,0,none⟩) (n+1) (n+1)) (W.alloc (.cells (madeCells #[.slice none 0 0] (n+1)) 22)):=fun W=>
 run_make_row' (P:=Tryz.prog) 155 22 (.slice none 0 0) 24 Tryz.underlying155 Zu8 rfl .i64 .i64 (n+1) (by omega) (by omega) W
have b1:(n:Int)<=1000000:=by omega
have b2:(m:Int)<=1000000:=by omega
go_enter Tryz.func111,Tryz.ntmps111
go_wp2_with fail
go_loopg [6] (n+1) (fun g i wr=>∃ c:Nat,c+g=n+1/\i = .int .i64 (c:Int)/\Tab w wr n m c (fun _ _=>0))
case atStart=>exact ⟨0,by omega,rfl,Zs9 w n m _⟩
case round=>
 obtain ⟨c,hc,rfl,hT⟩:=hrel
 have HT:=Lib.hid hT
 have hsz:=hT.size
 have hmk2:∀ W,(Instr.makeSlice 22 (.int .i64 ((m:Int)+1)) (.int .i64 ((m:Int)+1))).run Tryz.prog W = .ok (.slice (some ⟨W.heap.size,0,none⟩) (m+1) (m+1)) (W.alloc (.cells (madeCells #[.int .i64 0] (m+1)) 3)):=fun W=>
  run_make_row' (P:=Tryz.prog) 22 3 (.int .i64 0) 8 Tryz.underlying22 Zu7 rfl .i64 .i64 (m+1) (by omega) (by omega) W
 clear hmk1 hT
 by_cases hlt:c<=n
 ·have b3:(c:Int)<=n:=by omega
  have hst1:∀ o,(wr.alloc o).cell? ⟨w.heap.size,c,none⟩=some (ctop w.heap.size m c c):=fun o=>(HT.out.top.alloc o).cell (by omega)
  have hst2:∀ o,(wr.alloc o).frozen? ⟨w.heap.size,c,none⟩=false:=fun o=>(HT.out.top.alloc o).frozen c
  go_wp2_with fail
  go_roundg (gk-1)
  case measure=>omega
  case rel=>exact ⟨c+1,by omega,by simp,Zxc HT.out⟩
 ·have b3:(n:Int)<c:=by omega
  obtain rfl:c=n+1:=by omega
  clear hmk2 hsz
  go_wp2_with fail
  go_loopg [7,8] n (fun g i _ wx=>g<=n/\i = .int .i64 ((g:Int)-1)/\∃ T,Tab w wx n m (n+1) T/\ZyT n m g 0 L T)
  case atStart=>exact ⟨Nat.le_refl _,rfl,_,HT.out,fun a b ha hb h=>by
   rcases h with h | ⟨h,_⟩ | h | h
   omega
   rw [h];exact (HL.out.last b).symm
   rw [h];exact (HL.out.edge a).symm
   rw [h];exact (HL.out.last b).symm⟩
  case round=>
   clear HT
   obtain ⟨hq,rfl,T,hT,hD⟩:=hrel
   have HT:=Lib.hid hT
   have HD:=Lib.hid hD
   clear hT hD
   by_cases h0:gk=0
   ·subst h0
    go_wp2_with fail
    go_ret
    exact ⟨rfl,T,HT.out,HD.out⟩
   ·obtain ⟨p,rfl⟩:∃ p,gk=p+1:=⟨gk-1,by omega⟩
    have b4:(p:Int)+1<=n:=by omega
    have hp1:((p+1:Nat):Int)-1=p:=by omega
    rw [hp1]
    go_wp2_with fail
    go_loopg [8] m (fun g j wx=>g<=m/\j = .int .i64 ((g:Int)-1)/\∃ T,Tab w wx n m (n+1) T/\ZyT n m p g L T)
    case atStart=>exact ⟨Nat.le_refl _,rfl,T,HT.out,fun a b ha hb h=>HD.out a b ha hb (by omega)⟩
    case round=>
     clear HT HD
     obtain ⟨hq2,rfl,T2,hT,hD⟩:=hrel
     have HT:=Lib.hid hT
     have HD:=Lib.hid hD
     by_cases h0:gk=0
     ·subst h0
      clear hT hD
      go_wp2_with fail
      go_roundg p
      case measure=>omega
      case rel=>exact ⟨by omega,rfl,T2,HT.out,HD.out⟩
     ·obtain ⟨s,rfl⟩:∃ s,gk=s+1:=⟨gk-1,by omega⟩
      have b5:(s:Int)+1<=m:=by omega
      have hs1:((s+1:Nat):Int)-1=s:=by omega
      rw [hs1]
      have v0:T2 (p+1) s=L (p+1) s:=hD _ _ (by omega) (by omega) (.inl (by omega))
      have v1:T2 p (s+1)=L p (s+1):=hD _ _ (by omega) (by omega) (.inr (.inl ⟨rfl,by omega⟩))
      have t0:wr.cell? ⟨w.heap.size,p,none⟩=some (.slice (some ⟨w.heap.size+1+p,0,none⟩) (m+1) (m+1)):=(hT.top.cell (by omega)).trans (by rw [ctop,if_pos (by omega)])
      have t1:wr.cell? ⟨w.heap.size,p+1,none⟩=some (.slice (some ⟨w.heap.size+1+(p+1),0,none⟩) (m+1) (m+1)):=(hT.top.cell (by omega)).trans (by rw [ctop,if_pos (by omega)])
      have d0:wr.cell? ⟨w.heap.size+1+(p+1),s,none⟩=some (.int .i64 (L (p+1) s)):=by rw [<- v0];exact (hT.done (p+1) (by omega)).cell (by omega)
      have d1:wr.cell? ⟨w.heap.size+1+p,s+1,none⟩=some (.int .i64 (L p (s+1))):=by rw [<- v1];exact (hT.done p (by omega)).cell (by omega)
      have d2:wr.cell? ⟨w.heap.size+1+p,s,none⟩=some (.int .i64 (T2 p s)):=(hT.done p (by omega)).cell (by omega)
      have f0:wr.frozen? ⟨w.heap.size+1+p,s,none⟩=false:=(hT.done p (by omega)).frozen s
      clear hT hD v0 v1
      go_upto_region 12 with fail
      go_region
      clear t0 t1 d0 d1 d2 f0
      have hT3:=(Zta HT.out p s (max (L (p+1) s) (L p (s+1)))).drew
      have hD3:∀ a b,a<=n->b<=m->(p<a\/(a=p/\s+1<=b)\/b=m\/a=n)->(if a=p/\b=s then max (L (p+1) s) (L p (s+1)) else T2 a b)=L a b:=fun a b ha hb h=>by
       rw [if_neg (by omega)]
       exact HD.out a b ha hb h
      generalize (World.setCell wr _ _).drew=w3 at hT3 ⊢
      generalize hT3e:(fun a b=>if a=p/\b=s then max (L (p+1) s) (L p (s+1)) else T2 a b)=T3 at hT3
      have hD3:∀ a b,a<=n->b<=m->(p<a\/(a=p/\s+1<=b)\/b=m\/a=n)->T3 a b=L a b:=fun a b ha hb h=>by rw [<- hT3e];exact hD3 a b ha hb h
      have hD4:T3 p s=max (L (p+1) s) (L p (s+1)):=by rw [<- hT3e];exact if_pos ⟨rfl,rfl⟩
      clear hT3e HT HD
      have HT:=Lib.hid hT3
      have HD:=Lib.hid hD3
      have HD4:=Lib.hid hD4
      obtain ⟨bx,ox,rfl,hx⟩:=HX.out p (by omega)
      obtain ⟨by_,oy,rfl,hy⟩:=HY.out s (by omega)
      have x0:w3.cell? ⟨bx,ox+p,none⟩=some (.string (X p)):=(hT3.since.cell (a:=⟨bx,ox+p,none⟩) (World.block_lt_of_cell? _ _ hx)).trans hx
      have y0:w3.cell? ⟨by_,oy+s,none⟩=some (.string (Y s)):=(hT3.since.cell (a:=⟨by_,oy+s,none⟩) (World.block_lt_of_cell? _ _ hy)).trans hy
      have v2:T3 (p+1) (s+1)=L (p+1) (s+1):=hD3 _ _ (by omega) (by omega) (.inl (by omega))
      have t0:w3.drew.cell? ⟨w.heap.size,p,none⟩=some (.slice (some ⟨w.heap.size+1+p,0,none⟩) (m+1) (m+1)):=(hT3.top.cell (by omega)).trans (by rw [ctop,if_pos (by omega)])
      have t1:w3.drew.cell? ⟨w.heap.size,p+1,none⟩=some (.slice (some ⟨w.heap.size+1+(p+1),0,none⟩) (m+1) (m+1)):=(hT3.top.cell (by omega)).trans (by rw [ctop,if_pos (by omega)])
      have d0:w3.drew.cell? ⟨w.heap.size+1+(p+1),s+1,none⟩=some (.int .i64 (L (p+1) (s+1))):=by rw [<- v2];exact (hT3.done (p+1) (by omega)).cell (by omega)
      have d2:w3.drew.cell? ⟨w.heap.size+1+p,s,none⟩=some (.int .i64 (T3 p s)):=(hT3.done p (by omega)).cell (by omega)
      have f0:w3.drew.frozen? ⟨w.heap.size+1+p,s,none⟩=false:=(hT3.done p (by omega)).frozen s
      have b6:=HL.out.low (p+1) (s+1)
      have b7:=HL.out.high (p+1) (s+1)
      have hst:=HL.out.step p s (by omega) (by omega)
      have HST:=Lib.hid hst
      clear hT3 hD3 hD4 hx hy v2 hst
      by_cases he:X p=Y s
      ·have hfin:ZyT n m p s L (fun a b=>if a=p/\b=s then L (p+1) (s+1)+1 else T3 a b):=fun a b ha hb h=>by
        dsimp only
        by_cases e:a=p/\b=s
        rw [if_pos e,e.1,e.2,HST.out,if_pos he]
        rw [if_neg e]
        exact HD.out a b ha hb (by omega)
       have HFIN:=Lib.hid hfin
       clear hfin
       go_upto_region 13 with fail
       go_region
       go_upto_region 14 with fail
       go_region
       go_wp2_with fail
       go_roundg s
       case measure=>omega
       case rel=>exact ⟨by omega,rfl,_,(Zta HT.out.drew p s _).drew,HFIN.out⟩
      ·have hfin:ZyT n m p s L T3:=fun a b ha hb h=>by
        by_cases e:a=p/\b=s
        rw [e.1,e.2,HD4.out,HST.out,if_neg he]
        exact HD.out a b ha hb (by omega)
       have HFIN:=Lib.hid hfin
       clear hfin
       have he3:((X p).toList == (Y s).toList)=false:=beq_eq_false_iff_ne.2 fun e=>he (toList_inj e)
       go_upto_region 13 with fail
       go_region
       go_wp2_with fail
       go_roundg s
       case measure=>omega
       case rel=>exact ⟨by omega,rfl,_,HT.out.drew,HFIN.out⟩}
def Zg8 (p0 p1:List ByteArray):Option (List (List Int)):=if p0.length<=1000000/\p1.length<=1000000 then some (Zwq p0 p1) else none
theorem ZzX (x y:List ByteArray) (hx:x.length<=1000000):EndsOf x.length y.length (fun i=>x[i]?.getD ⟨#[]⟩) (fun i=>y[i]?.getD ⟨#[]⟩) (fun i j=>lcs (x.drop i) (y.drop j)):=by{
refine ⟨fun b=>by rw [List.drop_length,Zqs],fun a=>by rw [List.drop_length,ZnF],fun a b ha hb=>?_,fun a b=>(ZxT _ _).1,fun a b=>?_⟩
have h1:x[a]? = some x[a]:=List.getElem?_eq_getElem ha
have h2:y[b]? = some y[b]:=List.getElem?_eq_getElem hb
rw [h1,h2,ZaA h1,ZaA h2,ZnG]
rfl
have h1:=(ZxT (x.drop a) (y.drop b)).2
rw [List.length_drop] at h1
omega}
theorem strCells {W:World} {A:Option Addr} {n c:Nat} {xs:List ByteArray} (h:SlR W A n c xs):∀ i,i<xs.length->∃ b o,A=some ⟨b,o,none⟩/\W.cell? ⟨b,o+i,none⟩=some (.string (xs[i]?.getD ⟨#[]⟩)):=by{
intro i hi
obtain ⟨q1,q2,q3,q4⟩:=h
obtain ⟨b,off,css,hA,_,hlt,hx⟩:=q4 (by omega)
obtain ⟨p1,p2⟩:=hx i xs[i] (List.getElem?_eq_getElem hi)
have e1:css i = [.string xs[i]]:=p1
have:=p2 0 (.string xs[i]) (by rw [e1];rfl)
rw [List.getElem?_eq_getElem hi]
refine ⟨b,off,hA,?_⟩
rw [show off+i=off+i * Enc.k ByteArray+0 by show off+i=off+i * 1+0;omega]
exact this}
theorem Zol (p0:List ByteArray) (p1:List ByteArray) (r:List (List Int)) (h:Zg8 p0 p1=some r):Zb Tryz.prog 111 [.sl (List.map csS p0),.sl (List.map csS p1)] (.sl (List.map (fun y=>[PV.sl (y.map csI)]) r)):=by{
unfold Zg8 at h
split at h
·rename_i hc
 cases h
 refine ⟨by kernel_rfl,rfl,rfl,fun x vs hp hI=>?_⟩
 obtain ⟨v,w,rfl,h1,h2⟩:=args2 hp
 obtain ⟨A,n,c,rfl,hS⟩:=ZeE hp.flt h1
 obtain ⟨B,m,d,rfl,hS2⟩:=ZeE hp.flt h2
 obtain rfl:n=p0.length:=hS.1
 obtain rfl:m=p1.length:=hS2.1
 refine (ZrG p0.length p1.length _ _ _ A B c d x.W hc.1 hc.2 (ZzX p0 p1 hc.1) (strCells hS) (strCells hS2)).mono ?_
 rintro _ w' ⟨rfl,T,hT,hD⟩
 have hsz:=hT.size
 refine ⟨{ x with W:=w',F:=fun b o=>x.F b o\/(x.W.heap.size<=b/\b<w'.heap.size) },_,rfl,rfl,⟨fun _ h=>⟨h,rfl⟩,fun _ _ h=>.inl h,fun b o v hF hv=>(hT.since.cell (a:=⟨b,o,none⟩) (hp.flt b o hF)).trans hv⟩,⟨hT.since.os,hT.since.tape,hT.since.output,hT.since.size,fun b hb _=>hT.since.block b hb⟩,
  fun b o h=>h.imp id (·.1),fun b o h=>h.elim (fun h=>Nat.lt_of_lt_of_le (hp.flt b o h) hT.since.size) (·.2),?_,fun j os h=>by cases h⟩
 refine .sl _ _ _ _ 1 x.W.heap.size 0 (fun i _=>ctop x.W.heap.size p1.length (p0.length+1) i) (by rw [List.length_map,ZnH]) (Nat.le_refl _) (by omega) (fun e he=>by obtain ⟨z,_,rfl⟩:=List.mem_map.1 he;rfl) (fun _=>rfl) (fun i j e p he hp'=>?_) fun i j e p he hp'=>?_
 all_goals
  rw [List.getElem?_map] at he
  obtain ⟨z,hz,rfl⟩:=Option.map_eq_some_iff.1 he
  have hi:i<p0.length+1:=by
   have:=(List.getElem?_eq_some_iff.1 hz).1
   rwa [ZnH] at this
  obtain rfl:z=lrow p0 p1 i:=by
   rw [Zjz (by omega)] at hz
   injection hz with hz
   exact hz.symm
  obtain rfl:j=0:=by
   have:=(List.getElem?_eq_some_iff.1 hp').1
   simpa using this
  cases hp'
 refine ⟨rfl,.inr ⟨Nat.le_refl _,by rw [hsz];omega⟩,?_⟩
 rw [show 0+i * 1+0=i by omega]
 exact hT.top.cell hi
 ·rw [ctop,if_pos hi]
  refine .sl _ _ _ _ 1 (x.W.heap.size+1+i) 0 (fun j _=>.int .i64 (T i j)) (by rw [List.length_map,Zko]) (Nat.le_refl _) (by omega) (fun e he=>by obtain ⟨z,_,rfl⟩:=List.mem_map.1 he;rfl) (fun _=>rfl) (fun a j e p he hp'=>?_) fun a j e p he hp'=>?_
  all_goals
   rw [List.getElem?_map] at he
   obtain ⟨z,hz,rfl⟩:=Option.map_eq_some_iff.1 he
   have ha:a<p1.length+1:=by
    have:=(List.getElem?_eq_some_iff.1 hz).1
    rwa [Zko] at this
   obtain rfl:z=lcs (p0.drop i) (p1.drop a):=by
    rw [Zgb (by omega)] at hz
    injection hz with hz
    exact hz.symm
   obtain rfl:j=0:=by
    have:=(List.getElem?_eq_some_iff.1 hp').1
    simpa [csI] using this
   cases hp'
  refine ⟨rfl,.inr ⟨by show x.W.heap.size<=x.W.heap.size+1+i;omega,by rw [hsz];omega⟩,?_⟩
  rw [show 0+a * 1+0=a by omega]
  exact (hT.done i hi).cell ha
  rw [hD i a (by omega) (by omega) (by omega)]
  exact .int .i64 _
cases h}
end
namespace VL
theorem Zrk {tm:List (Nat×PV)} {ob:List (Nat×Option (Gen×VObj))} {ng:Nat} (t u E k:Nat) (h0:look tm t = .nil) :
  Shift (mkS tm ob ng) (mkS ((t,.row u (ng,0))::tm) ((u,some ((ng,0),.row E k false []))::ob) (ng+1)):=
 Zok (t:=t) (u:=u) (E:=E) (k:=k) h0
end VL
end Go.Proofs.YtpdaeclbndpabaaGreatDoor
