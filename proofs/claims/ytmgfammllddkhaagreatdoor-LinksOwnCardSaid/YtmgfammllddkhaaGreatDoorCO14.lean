/- Functions of the program as Lean functions. Written by -/
import Derived.Test.YtmgfammllddkhaaGreatDoorCO13
set_option linter.unusedSimpArgs false
set_option linter.unusedVariables false
set_option maxHeartbeats 4000000
set_option maxRecDepth 100000
namespace Go.Proofs.YtmgfammllddkhaaGreatDoor
section
open VL
def TN (p0:Q1):Q2 ((Q3 Tok)×Int):=if decide (8192<(p0.size:Int)) then some ([],3) else A3 A9 (fun f5 ((x18,x19,x20):Int×Int×(Q3 Tok))=>if decide (x19<(p0.size:Int)) then (T3 p0 x19).bind fun r26=>if decide (r26.1=0) then f5 (x18,(w64 (x19+1)),x20) else letk (fun (x28:Q3 Tok)=>(A8 24 x28 [(⟨r26.1,x19,r26.2⟩:Tok)]).bind fun l29=>f5 (r26.2,r26.2,l29)) fun k6=>if decide (x18<x19) then (A8 24 x20 [(⟨1,x18,x19⟩:Tok)]).bind fun l30=>k6 l30 else k6 x20 else letk (fun (x32:Q3 Tok)=>(some (x32,0):Q2 ((Q3 Tok)×Int))) fun k7=>if decide (x18<(p0.size:Int)) then (A8 24 x20 [(⟨1,x18,(p0.size:Int)⟩:Tok)]).bind fun l33=>k7 l33 else k7 x20) (0,0,([]:Q3 Tok))
theorem Zt0 (p0:Q1) (r:(Q3 Tok)×Int) (h:TN p0=some r):Zg Tryz.prog 73 [.str p0] (.tup [.sl (List.map Tok.cs r.1),.int .i64 r.2]):=by{
refine cF (fun r=>.tup [.sl (List.map Tok.cs r.1),.int .i64 r.2]) h mix Tryz.func73 fun r h=>?_
unfold TN at h
refine Zj ?_
refine rg ?_
refine rg ?_
refine cS h rfl (fun h=>?_) fun h=>?_
refine rg ?_
cases h
exact rQ
refine rg ?_
refine rg ?_
refine rg ?_
refine bl ?_
refine Zz h fun f5 mf5 hf5 h=>?_
refine Zu (α:=Nat×(Int×Int×(Q3 Tok))) (fun a _=>mkS [(0,.str p0),(4,.row 4 (1,4)),(5,.int .i64 a.2.1),(6,.int .i64 a.2.2.1)] [(4,some ((1,4),.row 105 3 false (List.map Tok.cs a.2.2.2)))] 2) (fun a=>A3 a.1 f5 a.2=some r) (fun a=>a.1) (mf5,0,0,([]:Q3 Tok)) 2 h (bA [] 4 105 3 rfl ⟨rfl,rfl,rfl,rfl,trivial⟩ ⟨⟨rfl,rfl⟩,trivial⟩ rfl) (fun a _ h=>?_)
obtain ⟨mf5,x18,x19,x20⟩:=a
obtain ⟨mf5,rfl,h⟩:=ZA hf5 h
dsimp only at h ⊢
refine Zj ?_
refine rg ?_
refine cS h rfl (fun h=>?_) fun h=>?_
refine bl ?_
refine rg ?_
refine aC h (zZ _ _) fun r26 h=>?_
refine rg ?_
refine cS h rfl (fun h=>?_) fun h=>?_
refine rg ?_
exact rn (mf5,x18,(w64 (x19+1)),x20) h (sR [(4,1,4)])
refine rg ?_
refine jL h (fun x28=>mkS [(0,.str p0),(4,.row 4 (1,4)),(6,.int .i64 x19),(7,.int .i64 r26.1),(8,.int .i64 r26.2)] [(4,some ((1,4),.row 105 3 false (List.map Tok.cs x28)))] 2) (fun k6 h=>?_) fun x28 h=>?_
refine cS h rfl (fun h=>?_) fun h=>?_
refine rg ?_
refine CT (M:=([(⟨1,x18,x19⟩:Tok)]:Q3 Tok)) (f:=Tok.cs) rfl rfl rfl rfl (Yk rfl) rfl (Zj ?_)
refine pR Tok.cs h fun l30 h=>?_
exact jn l30 h (sR [(4,6,5)])
exact jn x20 h (sR [(4,1,4)])
refine rg ?_
refine CT (M:=([(⟨r26.1,x19,r26.2⟩:Tok)]:Q3 Tok)) (f:=Tok.cs) rfl rfl rfl rfl (Yk rfl) rfl (Zj ?_)
refine pR Tok.cs h fun l29 h=>?_
refine rg ?_
exact rn (mf5,r26.2,r26.2,l29) h (sR [(4,2,6)])
refine rg ?_
refine jL h (fun x32=>mkS [(4,.row 4 (1,4))] [(4,some ((1,4),.row 105 3 false (List.map Tok.cs x32)))] 2) (fun k7 h=>?_) fun x32 h=>?_
refine cS h rfl (fun h=>?_) fun h=>?_
refine rg ?_
refine CT (M:=([(⟨1,x18,(p0.size:Int)⟩:Tok)]:Q3 Tok)) (f:=Tok.cs) rfl rfl rfl rfl (Yk rfl) rfl (Zj ?_)
refine pR Tok.cs h fun l33 h=>?_
exact jn l33 h (sR [(4,4,6)])
exact jn x20 h (sR [(4,1,4)])
refine rg ?_
cases h
exact rQ}
def KR (p0:Q1) (p1:Tok):Q2 Q1:=letk (fun (x1:Bool)=>if x1 then (some (⟨#[]⟩:Q1):Q2 Q1) else (AH p0 p1.from_ p1.to_).bind fun l2=>some l2) fun k1=>if decide (p1.from_<0) then k1 true else if decide (p1.to_<p1.from_) then k1 true else k1 (decide ((p0.size:Int)<p1.to_))
theorem X6 (p0:Q1) (p1:Tok) (r:Q1) (h:KR p0 p1=some r):Zg Tryz.prog 133 [.str p0,p1.pv] (.str r):=by{
refine cF (fun r=>.str r) h mix Tryz.func133 fun r h=>?_
unfold KR at h
refine Zj ?_
refine rg ?_
refine jL h (fun x1=>mkS [(0,.str p0),(3,.ptr 3 (1,3) 0),(21,.bool x1)] [(3,some ((1,3),.box (Tok.cs p1)))] 2) (fun k1 h=>?_) fun x1 h=>?_
refine rg ?_
refine kS 8 h rfl (fun h=>?_) fun h=>?_
iterate 10 refine Zw rfl (Zj ?_)
exact jn true h (sR [(3,1,0)])
refine kS 15 h rfl (fun h=>?_) fun h=>?_
iterate 5 refine Zw rfl (Zj ?_)
exact jn true h (sR [(3,1,0)])
exact jn (decide ((p0.size:Int)<p1.to_)) h (sR [(3,1,0)])
refine cS h rfl (fun h=>?_) fun h=>?_
refine rg ?_
cases h
exact rQ
refine rg ?_
refine sS h fun l2 h=>?_
cases h
exact rQ}
def NK (p0:Q1) (p1:Tok):Q2 Int:=A3 A9 (fun f12 (x106:Int)=>if decide (x106<=3) then letk (fun (x152:Bool)=>if x152 then some x106 else f12 (w64 (x106+1))) fun k14=>if decide (p1.kind=11) then (KR p0 p1).bind fun r153=>(ED x106 false).bind fun r154=>if decide (r153=r154) then k14 true else if decide (p1.kind=12) then (KR p0 p1).bind fun r155=>(ED x106 true).bind fun r156=>k14 (decide (r155=r156)) else k14 false else if decide (p1.kind=12) then (KR p0 p1).bind fun r157=>(ED x106 true).bind fun r158=>k14 (decide (r157=r158)) else k14 false else some 0) 1
theorem o8 (p0:Q1) (p1:Tok) (r:Int) (h:NK p0 p1=some r):Zg Tryz.prog 136 [.str p0,p1.pv] (.int .i64 r):=by{
refine cF (fun r=>.int .i64 r) h mix Tryz.func136 fun r h=>?_
unfold NK at h
refine Zj ?_
refine rg ?_
refine rg ?_
refine bl ?_
refine Zz h fun f12 mf12 hf12 h=>?_
refine Zu (α:=Nat×Int) (fun a _=>mkS [(0,.str p0),(3,.ptr 3 (1,3) 0),(5,.int .i64 a.2)] [(3,some ((1,3),.box (Tok.cs p1)))] 2) (fun a=>A3 a.1 f12 a.2=some r) (fun a=>a.1) (mf12,1) 2 h (sR [(3,1,0)]) (fun a _ h=>?_)
obtain ⟨mf12,x106⟩:=a
obtain ⟨mf12,rfl,h⟩:=ZA hf12 h
dsimp only at h ⊢
refine Zj ?_
refine rg ?_
refine cS h rfl (fun h=>?_) fun h=>?_
refine bl ?_
refine jL h (fun x152=>mkS [(0,.str p0),(3,.ptr 3 (1,3) 0),(5,.int .i64 x106),(33,.bool x152)] [(3,some ((1,3),.box (Tok.cs p1)))] 2) (fun k14 h=>?_) fun x152 h=>?_
refine rg ?_
refine kS 13 h rfl (fun h=>?_) fun h=>?_
refine aC h (X6 _ _) fun r153 h=>?_
refine aC h (PK _ _) fun r154 h=>?_
refine kS 21 h rfl (fun h=>?_) fun h=>?_
iterate 11 refine Zw rfl (Zj ?_)
exact jn true h (sR [(3,1,3)])
refine kS 25 h rfl (fun h=>?_) fun h=>?_
refine aC h (X6 _ _) fun r155 h=>?_
refine aC h (PK _ _) fun r156 h=>?_
exact jn (decide (r155=r156)) h (sR [(3,1,3)])
iterate 6 refine Zw rfl (Zj ?_)
exact jn false h (sR [(3,1,3)])
iterate 6 refine Zw rfl (Zj ?_)
refine kS 25 h rfl (fun h=>?_) fun h=>?_
refine aC h (X6 _ _) fun r157 h=>?_
refine aC h (PK _ _) fun r158 h=>?_
exact jn (decide (r157=r158)) h (sR [(3,1,3)])
iterate 6 refine Zw rfl (Zj ?_)
exact jn false h (sR [(3,1,3)])
refine cS h rfl (fun h=>?_) fun h=>?_
refine rg ?_
cases h
exact rQ
refine rg ?_
exact rn (mf12,(w64 (x106+1))) h (sR [(3,1,3)])
refine rg ?_
cases h
exact rQ}
def MA (p0:Q3 Node):Q2 (Q1×Bool):=A3 A9 (fun f17 ((x39,x40):Q1×Int)=>if decide (x40<(p0.length:Int)) then letk (fun (x54:Q1)=>f17 (x54,(w64 (x40+1)))) fun k19=>(atI p0 x40).bind fun e55=>letk (fun (x56:Bool)=>if x56 then (atI p0 x40).bind fun e57=>(BV x39 e57.text).bind fun s58=>k19 s58 else if decide (e55.kind=2) then k19 x39 else (some ((⟨#[]⟩:Q1),false):Q2 (Q1×Bool))) fun k20=>if decide (e55.kind=1) then k20 (decide (e55.kind=1)) else k20 (decide (e55.kind=3)) else some (x39,true)) ((⟨#[]⟩:Q1),0)
theorem ZrU (p0:Q3 Node) (r:Q1×Bool) (h:MA p0=some r):Zg Tryz.prog 77 [.sl (List.map Node.cs p0)] (.tup [.str r.1,.bool r.2]):=by{
refine cF (fun r=>.tup [.str r.1,.bool r.2]) h mix Tryz.func77 fun r h=>?_
unfold MA at h
refine Zj ?_
refine rg ?_
refine rg ?_
refine rg ?_
refine bl ?_
refine Zz h fun f17 mf17 hf17 h=>?_
refine Zu (α:=Nat×(Q1×Int)) (fun a _=>mkS [(0,.sl (List.map Node.cs p0)),(4,.str a.2.1),(5,.int .i64 a.2.2)] [] 2) (fun a=>A3 a.1 f17 a.2=some r) (fun a=>a.1) (mf17,⟨#[]⟩,0) 2 h (sR []) (fun a _ h=>?_)
obtain ⟨mf17,x39,x40⟩:=a
obtain ⟨mf17,rfl,h⟩:=ZA hf17 h
dsimp only at h ⊢
refine Zj ?_
refine rg ?_
refine lM Node.cs p0 ?_
refine cS h rfl (fun h=>?_) fun h=>?_
refine jL h (fun x54=>mkS [(0,.sl (List.map Node.cs p0)),(4,.str x54),(5,.int .i64 x40)] [] 2) (fun k19 h=>?_) fun x54 h=>?_
refine bl ?_
refine rg ?_
refine aI Node.cs h fun e55 h=>?_
refine bl ?_
refine rg ?_
refine jL h (fun x56=>mkS [(0,.sl (List.map Node.cs p0)),(4,.str x39),(5,.int .i64 x40),(16,.int .i64 e55.kind),(17,.bool x56)] [] 2) (fun k20 h=>?_) fun x56 h=>?_
refine cS h rfl (fun h=>?_) fun h=>?_
exact jn (decide (e55.kind=1)) h (sR [])
refine rg ?_
exact jn (decide (e55.kind=3)) h (sR [])
refine cS h rfl (fun h=>?_) fun h=>?_
refine rg ?_
refine aI Node.cs h fun e57 h=>?_
refine sT h fun s58 h=>?_
exact jn s58 h (sR [])
refine rg ?_
refine cS h rfl (fun h=>?_) fun h=>?_
exact jn x39 h (sR [])
refine rg ?_
cases h
exact rQ
refine rg ?_
exact rn (mf17,x54,(w64 (x40+1))) h (sR [])
refine rg ?_
cases h
exact rQ}
def JM (p0:Q1) (p1:Q1):Q2 Q1:=(LO p0 p1 0).bind fun r1=>if decide (0<=r1) then (AH p0 0 r1).bind fun l3=>some l3 else some p0
theorem eJ (p0:Q1) (p1:Q1) (r:Q1) (h:JM p0 p1=some r):Zg Tryz.prog 54 [.str p0,.str p1] (.str r):=by{
refine cF (fun r=>.str r) h mix Tryz.func54 fun r h=>?_
unfold JM at h
refine Zj ?_
refine rg ?_
refine rg ?_
refine aC h (WE _ _ _) fun r1 h=>?_
refine rg ?_
refine cS h rfl (fun h=>?_) fun h=>?_
refine rg ?_
refine sS h fun l3 h=>?_
cases h
exact rQ
refine rg ?_
cases h
exact rQ}
def NL (p0:Q1) (p1:Int):Q2 (Q1×Int×Bool):=A3 A9 (fun f22 (x98:Int)=>if decide (x98<(p0.size:Int)) then letk (fun (x137:Bool)=>if x137 then (AH p0 p1 x98).bind fun l139=>some (l139,x98,true) else letk (fun (x142:Bool)=>if x142 then (some ((⟨#[]⟩:Q1),0,false):Q2 (Q1×Int×Bool)) else f22 (w64 (x98+1))) fun k26=>(atS p0 x98).bind fun c143=>if decide (c143=10) then k26 true else (BB p0 x98 ⟨#[91,91]⟩).bind fun r144=>k26 r144) fun k25=>(atS p0 x98).bind fun c145=>if decide (c145=124) then k25 true else (BB p0 x98 ⟨#[93,93]⟩).bind fun r146=>k25 r146 else some (⟨#[]⟩,0,false)) p1
theorem o9 (p0:Q1) (p1:Int) (r:Q1×Int×Bool) (h:NL p0 p1=some r):Zg Tryz.prog 52 [.str p0,.int .i64 p1] (.tup [.str r.1,.int .i64 r.2.1,.bool r.2.2]):=by{
refine cF (fun r=>.tup [.str r.1,.int .i64 r.2.1,.bool r.2.2]) h mix Tryz.func52 fun r h=>?_
unfold NL at h
refine Zj ?_
refine rg ?_
refine rg ?_
refine bl ?_
refine Zz h fun f22 mf22 hf22 h=>?_
refine Zu (α:=Nat×Int) (fun a _=>mkS [(0,.str p0),(1,.int .i64 p1),(7,.int .i64 a.2)] [] 2) (fun a=>A3 a.1 f22 a.2=some r) (fun a=>a.1) (mf22,p1) 2 h (sR []) (fun a _ h=>?_)
obtain ⟨mf22,x98⟩:=a
obtain ⟨mf22,rfl,h⟩:=ZA hf22 h
dsimp only at h ⊢
refine Zj ?_
refine rg ?_
refine cS h rfl (fun h=>?_) fun h=>?_
refine bl ?_
refine jL h (fun x137=>mkS [(0,.str p0),(1,.int .i64 p1),(7,.int .i64 x98),(23,.bool x137)] [] 2) (fun k25 h=>?_) fun x137 h=>?_
refine rg ?_
refine aS h fun c145 h=>?_
refine kS 19 h rfl (fun h=>?_) fun h=>?_
iterate 3 refine Zw rfl (Zj ?_)
exact jn true h (sR [])
refine aC h (EZ _ _ _) fun r146 h=>?_
exact jn r146 h (sR [])
refine cS h rfl (fun h=>?_) fun h=>?_
refine rg ?_
refine sS h fun l139 h=>?_
cases h
exact rQ
refine jL h (fun x142=>mkS [(0,.str p0),(1,.int .i64 p1),(7,.int .i64 x98),(37,.bool x142)] [] 2) (fun k26 h=>?_) fun x142 h=>?_
refine rg ?_
refine aS h fun c143 h=>?_
refine kS 33 h rfl (fun h=>?_) fun h=>?_
iterate 3 refine Zw rfl (Zj ?_)
exact jn true h (sR [])
refine aC h (EZ _ _ _) fun r144 h=>?_
exact jn r144 h (sR [])
refine cS h rfl (fun h=>?_) fun h=>?_
refine rg ?_
cases h
exact rQ
refine rg ?_
exact rn (mf22,(w64 (x98+1))) h (sR [])
refine rg ?_
cases h
exact rQ}
def TO (p0:Q1):Q2 Bool:=(PJ p0 true).bind fun r1=>letk (fun (x3:Bool)=>some x3) fun k1=>if decide (r1<(p0.size:Int)) then (atS p0 r1).bind fun c4=>k1 (decide (c4=58)) else k1 false
theorem ZpN (p0:Q1) (r:Bool) (h:TO p0=some r):Zg Tryz.prog 79 [.str p0] (.bool r):=by{
refine cF (fun r=>.bool r) h mix Tryz.func79 fun r h=>?_
unfold TO at h
refine Zj ?_
refine rg ?_
refine rg ?_
refine aC h (zY _ _) fun r1 h=>?_
refine jL h (fun x3=>mkS [(2,.bool x3)] [] 2) (fun k1 h=>?_) fun x3 h=>?_
refine rg ?_
refine kS 10 h rfl (fun h=>?_) fun h=>?_
refine aS h fun c4 h=>?_
exact jn (decide (c4=58)) h (sR [])
iterate 4 refine Zw rfl (Zj ?_)
exact jn false h (sR [])
cases h
exact rQ}
def TP (p0:Q1) (p1:Int):Q2 Q1:=(atS p0 p1).bind fun c1=>if (!decide (c1=124)) then some ⟨#[]⟩ else (LO p0 ⟨#[93,93]⟩ (w64 (p1+1))).bind fun r2=>if decide (r2<0) then some ⟨#[]⟩ else (AH p0 (w64 (p1+1)) r2).bind fun l3=>(PM l3).bind fun r4=>some r4
theorem Znz (p0:Q1) (p1:Int) (r:Q1) (h:TP p0 p1=some r):Zg Tryz.prog 81 [.str p0,.int .i64 p1] (.str r):=by{
refine cF (fun r=>.str r) h mix Tryz.func81 fun r h=>?_
unfold TP at h
refine Zj ?_
refine rg ?_
refine rg ?_
refine aS h fun c1 h=>?_
refine cS h rfl (fun h=>?_) fun h=>?_
refine rg ?_
cases h
exact rQ
refine rg ?_
refine aC h (WE _ _ _) fun r2 h=>?_
refine rg ?_
refine cS h rfl (fun h=>?_) fun h=>?_
refine rg ?_
cases h
exact rQ
refine rg ?_
refine sS h fun l3 h=>?_
refine aC h (kP _) fun r4 h=>?_
cases h
exact rQ}
def QG (p0:Link) (p1:Link):Q2 Bool:=letk (fun (x2:Bool)=>some x2) fun k1=>if decide (p0.kind<p1.kind) then k1 true else if decide (p0.kind=p1.kind) then (cT p0.title p1.title).bind fun r3=>k1 (decide (r3<0)) else k1 false
theorem ZoH (p0:Link) (p1:Link) (r:Bool) (h:QG p0 p1=some r):Zg Tryz.prog 82 [p0.pv,p1.pv] (.bool r):=by{
refine cF (fun r=>.bool r) h mix Tryz.func82 fun r h=>?_
unfold QG at h
refine Zj ?_
refine rg ?_
refine jL h (fun x2=>mkS [(4,.bool x2)] [] 2) (fun k1 h=>?_) fun x2 h=>?_
refine rg ?_
refine kS 10 h rfl (fun h=>?_) fun h=>?_
iterate 13 refine Zw rfl (Zj ?_)
exact jn true h (sR [])
refine kS 16 h rfl (fun h=>?_) fun h=>?_
refine aC h (kA _ _) fun r3 h=>?_
exact jn (decide (r3<0)) h (sR [])
iterate 6 refine Zw rfl (Zj ?_)
exact jn false h (sR [])
cases h
exact rQ}
def H1 (p0:Q3 Link) (p1:Link):Q2 (Q3 Link):=A3 A9 (fun f7 (x22:Int)=>letk (fun (x30:Bool)=>if x30 then f7 (w64 (x22+1)) else letk (fun (x32:Bool)=>if x32 then some p0 else (CL p0 0 x22).bind fun l33=>(A8 32 [] l33).bind fun l34=>(A8 32 l34 [p1]).bind fun l35=>(CL p0 x22 (p0.length:Int)).bind fun l36=>(A8 32 l35 l36).bind fun l37=>some l37) fun k9=>if decide (x22<(p0.length:Int)) then (atI p0 x22).bind fun e38=>k9 (decide (e38=p1)) else k9 false) fun k8=>if decide (x22<(p0.length:Int)) then (atI p0 x22).bind fun e39=>(QG e39 p1).bind fun r40=>k8 r40 else k8 false) 0
theorem eK (p0:Q3 Link) (p1:Link) (r:Q3 Link) (h:H1 p0 p1=some r):Zg Tryz.prog 46 [.sl (List.map Link.cs p0),p1.pv] (.sl (List.map Link.cs r)):=by{
refine cF (fun r=>.sl (List.map Link.cs r)) h mix Tryz.func46 fun r h=>?_
unfold H1 at h
refine Zj ?_
refine rg ?_
refine rg ?_
refine bl ?_
refine Zz h fun f7 mf7 hf7 h=>?_
refine Zu (α:=Nat×Int) (fun a _=>mkS [(0,.sl (List.map Link.cs p0)),(3,.ptr 3 (1,3) 0),(5,.int .i64 a.2)] [(3,some ((1,3),.box (Link.cs p1)))] 2) (fun a=>A3 a.1 f7 a.2=some r) (fun a=>a.1) (mf7,0) 2 h (sR [(3,1,0)]) (fun a _ h=>?_)
obtain ⟨mf7,x22⟩:=a
obtain ⟨mf7,rfl,h⟩:=ZA hf7 h
dsimp only at h ⊢
refine Zj ?_
refine jL h (fun x30=>mkS [(0,.sl (List.map Link.cs p0)),(3,.ptr 3 (1,3) 0),(5,.int .i64 x22),(17,.bool x30)] [(3,some ((1,3),.box (Link.cs p1)))] 2) (fun k8 h=>?_) fun x30 h=>?_
refine rg ?_
refine lM Link.cs p0 ?_
refine kS 10 h rfl (fun h=>?_) fun h=>?_
refine aI Link.cs h fun e39 h=>?_
refine aC h (ZoH _ _) fun r40 h=>?_
exact jn r40 h (sR [(3,1,3)])
iterate 6 refine Zw rfl (Zj ?_)
exact jn false h (sR [(3,1,3)])
refine cS h rfl (fun h=>?_) fun h=>?_
refine bl ?_
refine rg ?_
exact rn (mf7,(w64 (x22+1))) h (sR [(3,1,3)])
refine jL h (fun x32=>mkS [(0,.sl (List.map Link.cs p0)),(3,.ptr 3 (1,3) 0),(5,.int .i64 x22),(31,.bool x32)] [(3,some ((1,3),.box (Link.cs p1)))] 2) (fun k9 h=>?_) fun x32 h=>?_
refine rg ?_
refine lM Link.cs p0 ?_
refine kS 24 h rfl (fun h=>?_) fun h=>?_
refine aI Link.cs h fun e38 h=>?_
refine LF (.inl rfl) rfl rfl rfl rfl rfl (fun W=>nZ e38 p1 W) (Zj ?_)
exact jn (decide (e38=p1)) h (sR [(3,1,3)])
iterate 6 refine Zw rfl (Zj ?_)
exact jn false h (sR [(3,1,3)])
refine cS h rfl (fun h=>?_) fun h=>?_
refine rg ?_
cases h
exact rQ
refine rg ?_
refine sM Link.cs h fun l33 h=>?_
obtain ⟨l34,h25,h⟩:=bnd h
refine JC (f:=Link.cs) rfl h25 (fun _=>rfl) rfl rfl rfl (Zj ?_)
refine CT (M:=([p1]:Q3 Link)) (f:=Link.cs) rfl rfl rfl rfl (Yk rfl) rfl (Zj ?_)
refine pR Link.cs h fun l35 h=>?_
refine sM Link.cs h fun l36 h=>?_
refine pR Link.cs h fun l37 h=>?_
cases h
exact rQ}
def TQ (p0:Q3 Memb) (p1:Memb):Q2 (Q3 Memb):=A3 A9 (fun f7 (x22:Int)=>letk (fun (x30:Bool)=>if x30 then f7 (w64 (x22+1)) else letk (fun (x32:Bool)=>if x32 then some p0 else (CL p0 0 x22).bind fun l33=>(A8 40 [] l33).bind fun l34=>(A8 40 l34 [p1]).bind fun l35=>(CL p0 x22 (p0.length:Int)).bind fun l36=>(A8 40 l35 l36).bind fun l37=>some l37) fun k9=>if decide (x22<(p0.length:Int)) then (atI p0 x22).bind fun e38=>k9 (decide (e38.category=p1.category)) else k9 false) fun k8=>if decide (x22<(p0.length:Int)) then (atI p0 x22).bind fun e39=>(cT e39.category p1.category).bind fun r40=>k8 (decide (r40<0)) else k8 false) 0
theorem Zlm (p0:Q3 Memb) (p1:Memb) (r:Q3 Memb) (h:TQ p0 p1=some r):Zg Tryz.prog 80 [.sl (List.map Memb.cs p0),p1.pv] (.sl (List.map Memb.cs r)):=by{
refine cF (fun r=>.sl (List.map Memb.cs r)) h mix Tryz.func80 fun r h=>?_
unfold TQ at h
refine Zj ?_
refine rg ?_
refine rg ?_
refine bl ?_
refine Zz h fun f7 mf7 hf7 h=>?_
refine Zu (α:=Nat×Int) (fun a _=>mkS [(0,.sl (List.map Memb.cs p0)),(3,.ptr 3 (1,3) 0),(5,.int .i64 a.2)] [(3,some ((1,3),.box (Memb.cs p1)))] 2) (fun a=>A3 a.1 f7 a.2=some r) (fun a=>a.1) (mf7,0) 2 h (sR [(3,1,0)]) (fun a _ h=>?_)
obtain ⟨mf7,x22⟩:=a
obtain ⟨mf7,rfl,h⟩:=ZA hf7 h
dsimp only at h ⊢
refine Zj ?_
refine jL h (fun x30=>mkS [(0,.sl (List.map Memb.cs p0)),(3,.ptr 3 (1,3) 0),(5,.int .i64 x22),(20,.bool x30)] [(3,some ((1,3),.box (Memb.cs p1)))] 2) (fun k8 h=>?_) fun x30 h=>?_
refine rg ?_
refine lM Memb.cs p0 ?_
refine kS 10 h rfl (fun h=>?_) fun h=>?_
refine aI Memb.cs h fun e39 h=>?_
refine aC h (kA _ _) fun r40 h=>?_
exact jn (decide (r40<0)) h (sR [(3,1,3)])
iterate 9 refine Zw rfl (Zj ?_)
exact jn false h (sR [(3,1,3)])
refine cS h rfl (fun h=>?_) fun h=>?_
refine bl ?_
refine rg ?_
exact rn (mf7,(w64 (x22+1))) h (sR [(3,1,3)])
refine jL h (fun x32=>mkS [(0,.sl (List.map Memb.cs p0)),(3,.ptr 3 (1,3) 0),(5,.int .i64 x22),(36,.bool x32)] [(3,some ((1,3),.box (Memb.cs p1)))] 2) (fun k9 h=>?_) fun x32 h=>?_
refine rg ?_
refine lM Memb.cs p0 ?_
refine kS 27 h rfl (fun h=>?_) fun h=>?_
refine aI Memb.cs h fun e38 h=>?_
refine LF (.inl rfl) rfl rfl rfl rfl rfl (fun W=>b9 e38.category p1.category W) (Zj ?_)
exact jn (decide (e38.category=p1.category)) h (sR [(3,1,3)])
iterate 8 refine Zw rfl (Zj ?_)
exact jn false h (sR [(3,1,3)])
refine cS h rfl (fun h=>?_) fun h=>?_
refine rg ?_
cases h
exact rQ
refine rg ?_
refine sM Memb.cs h fun l33 h=>?_
obtain ⟨l34,h25,h⟩:=bnd h
refine JC (f:=Memb.cs) rfl h25 (fun _=>rfl) rfl rfl rfl (Zj ?_)
refine CT (M:=([p1]:Q3 Memb)) (f:=Memb.cs) rfl rfl rfl rfl (Yk rfl) rfl (Zj ?_)
refine pR Memb.cs h fun l35 h=>?_
refine sM Memb.cs h fun l36 h=>?_
refine pR Memb.cs h fun l37 h=>?_
cases h
exact rQ}
def QH (p0:Q1) (p1:Q3 Link) (p2:Q3 Memb):Q2 ((Q3 Link)×(Q3 Memb)):=A3 A9 (fun f17 ((x92,x93,x94):(Q3 Link)×(Q3 Memb)×Int)=>if decide (x94<(p0.size:Int)) then letk (fun (x127:Q3 Link) (x128:Q3 Memb)=>f17 (x127,x128,(w64 (x94+1)))) fun k19=>(BB p0 x94 ⟨#[91,91]⟩).bind fun r129=>if (!r129) then k19 x92 x93 else (NL p0 (w64 (x94+2))).bind fun r130=>if (!r130.2.2) then k19 x92 x93 else (JM r130.1 ⟨#[35]⟩).bind fun r131=>(JG r131).bind fun r132=>if (!decide (r132.2=0)) then k19 x92 x93 else letk (fun (x134:Bool)=>if x134 then (TP p0 r130.2.1).bind fun r135=>(TQ x93 (⟨r132.1,r135⟩:Memb)).bind fun r136=>k19 x92 r136 else (H1 x92 (⟨1,r132.1⟩:Link)).bind fun r137=>k19 r137 x93) fun k20=>if decide (r132.1.space=4) then (TO r130.1).bind fun r138=>k20 (!r138) else k20 false else some (x92,x93)) (p1,p2,0)
theorem ZnA (p0:Q1) (p1:Q3 Link) (p2:Q3 Memb) (r:(Q3 Link)×(Q3 Memb)) (h:QH p0 p1 p2=some r):Zg Tryz.prog 45 [.str p0,.sl (List.map Link.cs p1),.sl (List.map Memb.cs p2)] (.tup [.sl (List.map Link.cs r.1),.sl (List.map Memb.cs r.2)]):=by{
refine cF (fun r=>.tup [.sl (List.map Link.cs r.1),.sl (List.map Memb.cs r.2)]) h mix Tryz.func45 fun r h=>?_
unfold QH at h
refine Zj ?_
refine rg ?_
refine rg ?_
refine bl ?_
refine Zz h fun f17 mf17 hf17 h=>?_
refine Zu (α:=Nat×((Q3 Link)×(Q3 Memb)×Int)) (fun a _=>mkS [(0,.str p0),(1,.sl (List.map Link.cs a.2.1)),(2,.sl (List.map Memb.cs a.2.2.1)),(8,.int .i64 a.2.2.2)] [] 2) (fun a=>A3 a.1 f17 a.2=some r) (fun a=>a.1) (mf17,p1,p2,0) 2 h (sR []) (fun a _ h=>?_)
obtain ⟨mf17,x92,x93,x94⟩:=a
obtain ⟨mf17,rfl,h⟩:=ZA hf17 h
dsimp only at h ⊢
refine Zj ?_
refine rg ?_
refine cS h rfl (fun h=>?_) fun h=>?_
refine FO h fun k19 hk19 h=>?_
refine DM (α:=(Q3 Link)×(Q3 Memb)) (fun a _=>mkS [(0,.str p0),(1,.sl (List.map Link.cs a.1)),(2,.sl (List.map Memb.cs a.2)),(8,.int .i64 x94)] [] 2) (fun a=>k19 a.1 a.2=some r) (Zj ?_) (fun a _ h=>?_)
refine bl ?_
refine rg ?_
refine aC h (EZ _ _ _) fun r129 h=>?_
refine cS h rfl (fun h=>?_) fun h=>?_
exact jn (x92,x93) h (sR [])
refine rg ?_
refine aC h (o9 _ _) fun r130 h=>?_
refine rg ?_
refine cS h rfl (fun h=>?_) fun h=>?_
exact jn (x92,x93) h (sR [])
refine rg ?_
refine aC h (eJ _ _) fun r131 h=>?_
refine aC h (cY _) fun r132 h=>?_
refine rg ?_
refine cS h rfl (fun h=>?_) fun h=>?_
exact jn (x92,x93) h (sR [])
refine jL h (fun x134=>mkS [(0,.str p0),(1,.sl (List.map Link.cs x92)),(2,.sl (List.map Memb.cs x93)),(8,.int .i64 x94),(10,.int .i64 r130.2.1),(12,.ptr 12 (1,12) 0),(49,.bool x134)] [(12,some ((1,12),.box (Title.cs r132.1)))] 2) (fun k20 h=>?_) fun x134 h=>?_
refine rg ?_
refine kS 45 h rfl (fun h=>?_) fun h=>?_
refine aC h (ZpN _) fun r138 h=>?_
exact jn (!r138) h (sR [(12,6,6)])
iterate 3 refine Zw rfl (Zj ?_)
exact jn false h (sR [(12,6,6)])
refine cS h rfl (fun h=>?_) fun h=>?_
refine rg ?_
refine aC h (Znz _ _) fun r135 h=>?_
refine aC h (Zlm _ _) fun r136 h=>?_
exact jn (x92,r136) h (sR [])
refine rg ?_
refine aC h (eK _ _) fun r137 h=>?_
exact jn (r137,x93) h (sR [])
obtain ⟨x127,x128⟩:=a
subst hk19
dsimp only at h ⊢
refine Zj ?_
refine rg ?_
exact rn (mf17,x127,x128,(w64 (x94+1))) h (sR [])
refine rg ?_
cases h
exact rQ}
def D7 (p0:Q1):Q2 (Title×Bool):=(PM p0).bind fun r1=>letk (fun (x4:Bool)=>if x4 then (some ((⟨0,(⟨#[]⟩:Q1)⟩:Title),false):Q2 (Title×Bool)) else (JM r1 ⟨#[35]⟩).bind fun r5=>(JG r5).bind fun r6=>if (!decide (r6.2=0)) then (some ((⟨0,(⟨#[]⟩:Q1)⟩:Title),false):Q2 (Title×Bool)) else letk (fun (x8:Bool)=>letk (fun (x9:Int)=>(some ((⟨x9,r6.1.name⟩:Title),true):Q2 (Title×Bool))) fun k3=>if x8 then k3 3 else k3 r6.1.space) fun k2=>if decide (r6.1.space=0) then (atS r1 0).bind fun c10=>k2 (!decide (c10=58)) else k2 false) fun k1=>if decide (r1=(⟨#[]⟩:Q1)) then k1 true else (atS r1 0).bind fun c11=>if decide (c11=35) then k1 true else (atS r1 0).bind fun c12=>k1 (decide (c12=47))
theorem ZoI (p0:Q1) (r:Title×Bool) (h:D7 p0=some r):Zg Tryz.prog 78 [.str p0] (.tup [r.1.pv,.bool r.2]):=by{
refine cF (fun r=>.tup [r.1.pv,.bool r.2]) h mix Tryz.func78 fun r h=>?_
unfold D7 at h
refine Zj ?_
refine rg ?_
refine rg ?_
refine aC h (kP _) fun r1 h=>?_
refine jL h (fun x4=>mkS [(0,.str r1),(2,.ptr 2 (1,2) 0),(19,.bool x4)] [(2,some ((1,2),.box [.int .i64 0,.str ⟨#[]⟩]))] 2) (fun k1 h=>?_) fun x4 h=>?_
refine rg ?_
refine kS 10 h rfl (fun h=>?_) fun h=>?_
iterate 6 refine Zw rfl (Zj ?_)
exact jn true h (sR [(2,1,0)])
refine aS h fun c11 h=>?_
refine kS 15 h rfl (fun h=>?_) fun h=>?_
iterate 3 refine Zw rfl (Zj ?_)
exact jn true h (sR [(2,1,0)])
refine aS h fun c12 h=>?_
exact jn (decide (c12=47)) h (sR [(2,1,0)])
refine cS h rfl (fun h=>?_) fun h=>?_
refine rg ?_
cases h
exact rQ
refine rg ?_
refine aC h (eJ _ _) fun r5 h=>?_
refine aC h (cY _) fun r6 h=>?_
refine rg ?_
refine cS h rfl (fun h=>?_) fun h=>?_
refine rg ?_
cases h
exact rQ
refine jL h (fun x8=>mkS [(2,.ptr 2 (1,2) 0),(4,.ptr 4 (1,4) 0),(37,.bool x8)] [(2,some ((1,2),.box [.int .i64 0,.str ⟨#[]⟩])),(4,some ((1,4),.box (Title.cs r6.1)))] 2) (fun k2 h=>?_) fun x8 h=>?_
refine rg ?_
refine kS 33 h rfl (fun h=>?_) fun h=>?_
refine aS h fun c10 h=>?_
exact jn (!decide (c10=58)) h (sR [(2,1,2),(4,2,6)])
iterate 3 refine Zw rfl (Zj ?_)
exact jn false h (sR [(2,1,2),(4,2,6)])
refine jL h (fun x9=>mkS [(2,.ptr 2 (1,2) 0),(4,.ptr 4 (1,4) 0)] [(2,some ((1,2),.box [.int .i64 0,.str ⟨#[]⟩])),(4,some ((1,4),.box [.int .i64 x9,.str r6.1.name]))] 2) (fun k3 h=>?_) fun x9 h=>?_
refine cS h rfl (fun h=>?_) fun h=>?_
refine rg ?_
exact jn 3 h (sR [(2,1,2),(4,1,4)])
exact jn r6.1.space h (sR [(2,1,2),(4,1,4)])
refine rg ?_
cases h
exact rQ}
def ZO:Nat->(Q3 Node)->(Q3 Link)->Q2 (Q3 Link) | 0,_,_=>none | mF+1,p0,p1=>A3 A9 (fun f47 ((x527,x528):(Q3 Link)×Int)=>if decide (x528<(p0.length:Int)) then letk (fun (x725:Q3 Link)=>f47 (x725,(w64 (x528+1)))) fun k52=>(atI p0 x528).bind fun e726=>letk (fun (x727:Bool)=>if x727 then k52 x527 else (AU e726.kids).bind fun l728=>(MA l728).bind fun r729=>letk (fun (x730:Bool)=>letk (fun (x733:Q3 Link)=>(AU e726.kids).bind fun l734=>(ZO mF l734 x733).bind fun r735=>A3 A9 (fun f56 ((x753,x754):(Q3 Link)×Int)=>(DP e726.args).bind fun l772=>if decide (x754<(l772.length:Int)) then (DP e726.args).bind fun l781=>(atI l781 x754).bind fun e782=>(DP e726.args).bind fun l783=>(atI l783 x754).bind fun e784=>(AU e784.name).bind fun l785=>(ZO mF l785 x753).bind fun r786=>(AU e782.value).bind fun l787=>(ZO mF l787 r786).bind fun r788=>f56 (r788,(w64 (x754+1))) else k52 x753) (r735,0)) fun k55=>if x730 then (D7 r729.1).bind fun r789=>if r789.2 then (H1 x527 (⟨2,r789.1⟩:Link)).bind fun r790=>k55 r790 else k55 x527 else k55 x527) fun k54=>if r729.2 then k54 (decide (e726.kind=4)) else k54 false) fun k53=>if decide (e726.kind=6) then k53 (decide (e726.tag=2)) else k53 false else some x527) (p1,0)
theorem Zln (mF:Nat):∀ (p0:Q3 Node) (p1:Q3 Link) (r:Q3 Link),ZO mF p0 p1=some r->Zg Tryz.prog 43 [.sl (List.map Node.cs p0),.sl (List.map Link.cs p1)] (.sl (List.map Link.cs r)):=by{
induction mF with
| zero=>intro p0 p1 r h;cases h
| succ mF ihF=>
intro p0 p1 r h
refine cF (fun r=>.sl (List.map Link.cs r)) h mix Tryz.func43 fun r h=>?_
simp only [ZO] at h
refine Zj ?_
refine rg ?_
refine rg ?_
refine bl ?_
refine Zz h fun f47 mf47 hf47 h=>?_
refine Zu (α:=Nat×((Q3 Link)×Int)) (fun a _=>mkS [(0,.sl (List.map Node.cs p0)),(1,.sl (List.map Link.cs a.2.1)),(5,.int .i64 a.2.2)] [] 2) (fun a=>A3 a.1 f47 a.2=some r) (fun a=>a.1) (mf47,p1,0) 2 h (sR []) (fun a _ h=>?_)
obtain ⟨mf47,x527,x528⟩:=a
obtain ⟨mf47,rfl,h⟩:=ZA hf47 h
dsimp only at h ⊢
refine Zj ?_
refine rg ?_
refine lM Node.cs p0 ?_
refine cS h rfl (fun h=>?_) fun h=>?_
refine jL h (fun x725=>mkS [(0,.sl (List.map Node.cs p0)),(1,.sl (List.map Link.cs x725)),(5,.int .i64 x528)] [] 2) (fun k52 h=>?_) fun x725 h=>?_
refine bl ?_
refine rg ?_
refine aI Node.cs h fun e726 h=>?_
refine jL h (fun x727=>mkS [(0,.sl (List.map Node.cs p0)),(1,.sl (List.map Link.cs x527)),(5,.int .i64 x528),(6,.ptr 6 (1,6) 0),(29,.bool x727)] [(6,some ((1,6),.box [.int .i64 e726.kind,.int .i64 e726.tag,.str e726.text,.sl e726.kids,.sl e726.args]))] 2) (fun k53 h=>?_) fun x727 h=>?_
refine rg ?_
refine kS 25 h rfl (fun h=>?_) fun h=>?_
exact jn (decide (e726.tag=2)) h (sR [(6,3,4)])
iterate 3 refine Zw rfl (Zj ?_)
exact jn false h (sR [(6,3,4)])
refine cS h rfl (fun h=>?_) fun h=>?_
exact jn x527 h (sR [])
refine rg ?_
obtain ⟨l728,h662,h⟩:=bnd h
refine EB 32 (GB h662) rfl (Zj ?_)
refine aC h (ZrU _) fun r729 h=>?_
refine jL h (fun x730=>mkS [(0,.sl (List.map Node.cs p0)),(1,.sl (List.map Link.cs x527)),(5,.int .i64 x528),(6,.ptr 6 (1,6) 0),(7,.str r729.1),(41,.bool x730)] [(6,some ((1,6),.box [.int .i64 e726.kind,.int .i64 e726.tag,.str e726.text,.sl e726.kids,.sl e726.args]))] 2) (fun k54 h=>?_) fun x730 h=>?_
refine rg ?_
refine kS 37 h rfl (fun h=>?_) fun h=>?_
exact jn (decide (e726.kind=4)) h (sR [(6,1,6)])
iterate 3 refine Zw rfl (Zj ?_)
exact jn false h (sR [(6,1,6)])
refine jL h (fun x733=>mkS [(0,.sl (List.map Node.cs p0)),(1,.sl (List.map Link.cs x733)),(5,.int .i64 x528),(6,.ptr 6 (1,6) 0)] [(6,some ((1,6),.box [.int .i64 e726.kind,.int .i64 e726.tag,.str e726.text,.sl e726.kids,.sl e726.args]))] 2) (fun k55 h=>?_) fun x733 h=>?_
refine cS h rfl (fun h=>?_) fun h=>?_
refine rg ?_
refine aC h (ZoI _) fun r789 h=>?_
refine rg ?_
refine cS h rfl (fun h=>?_) fun h=>?_
refine rg ?_
refine aC h (eK _ _) fun r790 h=>?_
exact jn r790 h (sR [(6,1,6)])
exact jn x527 h (sR [(6,1,6)])
exact jn x527 h (sR [(6,1,6)])
refine rg ?_
obtain ⟨l734,h666,h⟩:=bnd h
refine EB 53 (GB h666) rfl (Zj ?_)
obtain ⟨r735,h667,h⟩:=bnd h
refine DW (ihF _ _ _ h667) rfl rfl (Zj ?_)
refine rg ?_
refine bl ?_
refine Zz h fun f56 mf56 hf56 h=>?_
refine Zu (α:=Nat×((Q3 Link)×Int)) (fun a _=>mkS [(0,.sl (List.map Node.cs p0)),(1,.sl (List.map Link.cs a.2.1)),(5,.int .i64 x528),(6,.ptr 6 (1,6) 0),(11,.int .i64 a.2.2)] [(6,some ((1,6),.box [.int .i64 e726.kind,.int .i64 e726.tag,.str e726.text,.sl e726.kids,.sl e726.args]))] 2) (fun a=>A3 a.1 f56 a.2=some r) (fun a=>a.1) (mf56,r735,0) 2 h (sR [(6,1,6)]) (fun a _ h=>?_)
obtain ⟨mf56,x753,x754⟩:=a
obtain ⟨mf56,rfl,h⟩:=ZA hf56 h
dsimp only at h ⊢
refine Zj ?_
refine rg ?_
obtain ⟨l772,h702,h⟩:=bnd h
refine EB 58 (VW h702) rfl (Zj ?_)
refine lM Arg.cs l772 ?_
refine cS h rfl (fun h=>?_) fun h=>?_
refine bl ?_
refine rg ?_
obtain ⟨l781,h711,h⟩:=bnd h
refine EB 64 (VW h711) rfl (Zj ?_)
refine aI Arg.cs h fun e782 h=>?_
obtain ⟨l783,h713,h⟩:=bnd h
refine EB 70 (VW h713) rfl (Zj ?_)
refine aI Arg.cs h fun e784 h=>?_
obtain ⟨l785,h715,h⟩:=bnd h
refine EB 74 (GB h715) rfl (Zj ?_)
obtain ⟨r786,h716,h⟩:=bnd h
refine DW (ihF _ _ _ h716) rfl rfl (Zj ?_)
obtain ⟨l787,h717,h⟩:=bnd h
refine EB 68 (GB h717) rfl (Zj ?_)
obtain ⟨r788,h718,h⟩:=bnd h
refine DW (ihF _ _ _ h718) rfl rfl (Zj ?_)
refine rg ?_
exact rn (mf56,r788,(w64 (x754+1))) h (sR [(6,1,6)])
exact jn x753 h (sR [])
refine rg ?_
exact rn (mf47,x725,(w64 (x528+1))) h (sR [])
refine rg ?_
cases h
exact rQ}
def IR:Nat->(Q3 Node)->Q2 (Q3 Node) | 0,_=>none | mF+1,p0=>A3 A9 (fun f17 ((x111,x112):Int×(Q3 Node))=>if decide (x111<(p0.length:Int)) then letk (fun (x153:Q3 Node)=>f17 ((w64 (x111+1)),x153)) fun k19=>(atI p0 x111).bind fun e154=>(A8 80 x112 [e154]).bind fun l155=>letk (fun (x159:Bool)=>if x159 then (atI p0 x111).bind fun e160=>(AU e160.kids).bind fun l161=>(IR mF l161).bind fun r162=>(A8 80 l155 r162).bind fun l163=>k19 l163 else k19 l155) fun k20=>(atI p0 x111).bind fun e164=>if decide (e164.kind=6) then (atI p0 x111).bind fun e165=>if decide (e165.tag=1) then k20 true else (atI p0 x111).bind fun e166=>k20 (decide (e166.tag=3)) else k20 false else some x112) (0,([]:Q3 Node))
theorem Zt1 (mF:Nat):∀ (p0:Q3 Node) (r:Q3 Node),IR mF p0=some r->Zg Tryz.prog 44 [.sl (List.map Node.cs p0)] (.sl (List.map Node.cs r)):=by{
induction mF with
| zero=>intro p0 r h;cases h
| succ mF ihF=>
intro p0 r h
refine cF (fun r=>.sl (List.map Node.cs r)) h mix Tryz.func44 fun r h=>?_
simp only [IR] at h
refine Zj ?_
refine rg ?_
refine rg ?_
refine rg ?_
refine bl ?_
refine Zz h fun f17 mf17 hf17 h=>?_
refine Zu (α:=Nat×(Int×(Q3 Node))) (fun a _=>mkS [(0,.sl (List.map Node.cs p0)),(3,.row 3 (1,3)),(4,.int .i64 a.2.1)] [(3,some ((1,3),.row 78 5 false (List.map Node.cs a.2.2)))] 2) (fun a=>A3 a.1 f17 a.2=some r) (fun a=>a.1) (mf17,0,([]:Q3 Node)) 2 h (bA [] 3 78 5 rfl ⟨rfl,rfl,rfl,trivial⟩ ⟨⟨rfl,rfl⟩,trivial⟩ rfl) (fun a _ h=>?_)
obtain ⟨mf17,x111,x112⟩:=a
obtain ⟨mf17,rfl,h⟩:=ZA hf17 h
dsimp only at h ⊢
refine Zj ?_
refine rg ?_
refine lM Node.cs p0 ?_
refine cS h rfl (fun h=>?_) fun h=>?_
refine jL h (fun x153=>mkS [(0,.sl (List.map Node.cs p0)),(3,.row 3 (1,3)),(4,.int .i64 x111)] [(3,some ((1,3),.row 78 5 false (List.map Node.cs x153)))] 2) (fun k19 h=>?_) fun x153 h=>?_
refine bl ?_
refine rg ?_
refine aI Node.cs h fun e154 h=>?_
refine CT (M:=([e154]:Q3 Node)) (f:=Node.cs) rfl rfl rfl rfl (Yk rfl) rfl (Zj ?_)
refine pR Node.cs h fun l155 h=>?_
refine jL h (fun x159=>mkS [(0,.sl (List.map Node.cs p0)),(3,.row 3 (1,3)),(4,.int .i64 x111),(39,.bool x159)] [(3,some ((1,3),.row 78 5 false (List.map Node.cs l155)))] 2) (fun k20 h=>?_) fun x159 h=>?_
refine rg ?_
refine aI Node.cs h fun e164 h=>?_
refine kS 24 h rfl (fun h=>?_) fun h=>?_
refine aI Node.cs h fun e165 h=>?_
refine kS 31 h rfl (fun h=>?_) fun h=>?_
iterate 6 refine Zw rfl (Zj ?_)
exact jn true h (sR [(3,3,6)])
refine aI Node.cs h fun e166 h=>?_
exact jn (decide (e166.tag=3)) h (sR [(3,3,6)])
iterate 14 refine Zw rfl (Zj ?_)
exact jn false h (sR [(3,3,6)])
refine cS h rfl (fun h=>?_) fun h=>?_
refine rg ?_
refine aI Node.cs h fun e160 h=>?_
obtain ⟨l161,h139,h⟩:=bnd h
refine EB 45 (GB h139) rfl (Zj ?_)
obtain ⟨r162,h140,h⟩:=bnd h
refine DW (ihF _ _ h140) rfl rfl (Zj ?_)
refine pR Node.cs h fun l163 h=>?_
exact jn l163 h (sR [(3,2,7)])
exact jn l155 h (sR [(3,1,3)])
refine rg ?_
exact rn (mf17,(w64 (x111+1)),x153) h (sR [(3,1,3)])
refine rg ?_
cases h
exact rQ}
def FB (p0:Q1):Q2 (Title×Bool):=(BB p0 0 ⟨#[35,82,69,68,73,82,69,67,84]⟩).bind fun r1=>if (!r1) then some (⟨0,⟨#[]⟩⟩,false) else A3 A9 (fun f7 (x23:Int)=>letk (fun (x31:Bool)=>if x31 then f7 (w64 (x23+1)) else (BB p0 x23 ⟨#[91,91]⟩).bind fun r32=>if (!r32) then (some ((⟨0,(⟨#[]⟩:Q1)⟩:Title),false):Q2 (Title×Bool)) else (NL p0 (w64 (x23+2))).bind fun r33=>if (!r33.2.2) then (some ((⟨0,(⟨#[]⟩:Q1)⟩:Title),false):Q2 (Title×Bool)) else (JM r33.1 ⟨#[35]⟩).bind fun r34=>(JG r34).bind fun r35=>(some (r35.1,(decide (r35.2=0))):Q2 (Title×Bool))) fun k8=>if decide (x23<(p0.size:Int)) then (atS p0 x23).bind fun c36=>if decide (c36=9) then k8 true else (atS p0 x23).bind fun c37=>k8 (decide (c37=32)) else k8 false) 9
theorem oA (p0:Q1) (r:Title×Bool) (h:FB p0=some r):Zg Tryz.prog 14 [.str p0] (.tup [r.1.pv,.bool r.2]):=by{
refine cF (fun r=>.tup [r.1.pv,.bool r.2]) h mix Tryz.func14 fun r h=>?_
unfold FB at h
refine Zj ?_
refine rg ?_
refine rg ?_
refine aC h (EZ _ _ _) fun r1 h=>?_
refine cS h rfl (fun h=>?_) fun h=>?_
refine rg ?_
cases h
exact rQ
refine rg ?_
refine bl ?_
refine Zz h fun f7 mf7 hf7 h=>?_
refine Zu (α:=Nat×Int) (fun a _=>mkS [(0,.str p0),(2,.ptr 2 (1,2) 0),(4,.int .i64 a.2)] [(2,some ((1,2),.box [.int .i64 0,.str ⟨#[]⟩]))] 2) (fun a=>A3 a.1 f7 a.2=some r) (fun a=>a.1) (mf7,9) 2 h (sR [(2,1,0)]) (fun a _ h=>?_)
obtain ⟨mf7,x23⟩:=a
obtain ⟨mf7,rfl,h⟩:=ZA hf7 h
dsimp only at h ⊢
refine Zj ?_
refine jL h (fun x31=>mkS [(0,.str p0),(2,.ptr 2 (1,2) 0),(4,.int .i64 x23),(29,.bool x31)] [(2,some ((1,2),.box [.int .i64 0,.str ⟨#[]⟩]))] 2) (fun k8 h=>?_) fun x31 h=>?_
refine rg ?_
refine kS 18 h rfl (fun h=>?_) fun h=>?_
refine aS h fun c36 h=>?_
refine kS 23 h rfl (fun h=>?_) fun h=>?_
iterate 4 refine Zw rfl (Zj ?_)
exact jn true h (sR [(2,1,2)])
refine aS h fun c37 h=>?_
exact jn (decide (c37=32)) h (sR [(2,1,2)])
iterate 10 refine Zw rfl (Zj ?_)
exact jn false h (sR [(2,1,2)])
refine cS h rfl (fun h=>?_) fun h=>?_
refine bl ?_
refine rg ?_
exact rn (mf7,(w64 (x23+1))) h (sR [(2,1,2)])
refine rg ?_
refine aC h (EZ _ _ _) fun r32 h=>?_
refine cS h rfl (fun h=>?_) fun h=>?_
refine rg ?_
cases h
exact rQ
refine rg ?_
refine aC h (o9 _ _) fun r33 h=>?_
refine rg ?_
refine cS h rfl (fun h=>?_) fun h=>?_
refine rg ?_
cases h
exact rQ
refine rg ?_
refine aC h (eJ _ _) fun r34 h=>?_
refine aC h (cY _) fun r35 h=>?_
refine rg ?_
cases h
exact rQ}
end
end Go.Proofs.YtmgfammllddkhaaGreatDoor
