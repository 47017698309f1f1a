/- Functions of -/
import Derived.Test.YtmgfammllddkhaaGreatDoorCU09
import Derived.Shelf.SlSortCmp.NoneTotal
set_option linter.unusedSimpArgs false
set_option linter.unusedVariables false
set_option maxHeartbeats 4000000
set_option maxRecDepth 100000
namespace Go.Proofs.YtmgfammllddkhaaGreatDoor
section
open VL
def TV (p0:Q1):Q2 ((Q3 Tok)×Int):=if decide (8192<(p0.size:Int)) then some ([],3) else A4 A9 (fun f5 ((x18,x19,x20):Int×Int×(Q3 Tok))=>if decide (x19<(p0.size:Int)) then (TB p0 x19).bind fun r26=>if decide (r26.1=0) then f5 (x18,(w64 (x19+1)),x20) else letk (fun (x28:Q3 Tok)=>(AA 24 x28 [(⟨r26.1,x19,r26.2⟩:Tok)]).bind fun l29=>f5 (r26.2,r26.2,l29)) fun k6=>if decide (x18<x19) then (AA 24 x20 [(⟨1,x18,x19⟩:Tok)]).bind fun l30=>k6 l30 else k6 x20 else letk (fun (x32:Q3 Tok)=>(some (x32,0):Q2 ((Q3 Tok)×Int))) fun k7=>if decide (x18<(p0.size:Int)) then (AA 24 x20 [(⟨1,x18,(p0.size:Int)⟩:Tok)]).bind fun l33=>k7 l33 else k7 x20) (0,0,([]:Q3 Tok))
theorem Zuu (p0:Q1) (r:(Q3 Tok)×Int) (h:TV p0=some r):Zg Q7 73 [.str p0] (.tup [.sl (List.map Tok.cs r.1),.int .i64 r.2]):=by{
refine cF (fun r=>.tup [.sl (Q8 Tok.cs r.1),.int .i64 r.2]) h mix Tryz.func73 fun r h=>?_
unfold TV at h
refine Zi ?_
refine rg ?_
refine rg ?_
refine cS h rfl (fun h=>?_) fun h=>?_
refine rg ?_
cases h
exact rQ
refine rg ?_
refine rg ?_
refine rg ?_
refine bl ?_
refine Zy h fun f5 mf5 hf5 h=>?_
refine Zu (α:=Nat×(Int×Int×(Q3 Tok))) (fun a _=>mkS [(0,.str p0),(4,.row 4 (1,4)),(5,Q5 a.2.1),(6,Q5 a.2.2.1)] [(4,some ((1,4),.row 105 3 false (Q8 Tok.cs a.2.2.2)))] 2) (fun a=>A4 a.1 f5 a.2=some r) (fun a=>a.1) (mf5,0,0,([]:Q3 Tok)) 2 h (bI [] 4 105 3 rfl ⟨rfl,rfl,rfl,rfl,trivial⟩ ⟨⟨rfl,rfl⟩,trivial⟩ rfl) (fun a _ h=>?_)
obtain ⟨mf5,x18,x19,x20⟩:=a
obtain ⟨mf5,rfl,h⟩:=Zz hf5 h
dsimp only at h ⊢
refine Zi ?_
refine rg ?_
refine cS h rfl (fun h=>?_) fun h=>?_
refine bl ?_
refine rg ?_
refine aC h (Zos _ _) fun r26 h=>?_
refine rg ?_
refine cS h rfl (fun h=>?_) fun h=>?_
refine rg ?_
exact rn (mf5,x18,(w64 (x19+1)),x20) h (sR [(4,1,4)])
refine rg ?_
refine jL h (fun x28=>mkS [(0,.str p0),(4,.row 4 (1,4)),(6,Q5 x19),(7,Q5 r26.1),(8,Q5 r26.2)] [(4,some ((1,4),.row 105 3 false (Q8 Tok.cs x28)))] 2) (fun k6 h=>?_) fun x28 h=>?_
refine cS h rfl (fun h=>?_) fun h=>?_
refine rg ?_
refine CR (M:=([(⟨1,x18,x19⟩:Tok)]:Q3 Tok)) (f:=Tok.cs) rfl rfl rfl rfl (Yk rfl) rfl (Zi ?_)
refine pR Tok.cs h fun l30 h=>?_
exact jn l30 h (sR [(4,6,5)])
exact jn x20 h (sR [(4,1,4)])
refine rg ?_
refine CR (M:=([(⟨r26.1,x19,r26.2⟩:Tok)]:Q3 Tok)) (f:=Tok.cs) rfl rfl rfl rfl (Yk rfl) rfl (Zi ?_)
refine pR Tok.cs h fun l29 h=>?_
refine rg ?_
exact rn (mf5,r26.2,r26.2,l29) h (sR [(4,2,6)])
refine rg ?_
refine jL h (fun x32=>mkS [(4,.row 4 (1,4))] [(4,some ((1,4),.row 105 3 false (Q8 Tok.cs x32)))] 2) (fun k7 h=>?_) fun x32 h=>?_
refine cS h rfl (fun h=>?_) fun h=>?_
refine rg ?_
refine CR (M:=([(⟨1,x18,(p0.size:Int)⟩:Tok)]:Q3 Tok)) (f:=Tok.cs) rfl rfl rfl rfl (Yk rfl) rfl (Zi ?_)
refine pR Tok.cs h fun l33 h=>?_
exact jn l33 h (sR [(4,4,6)])
exact jn x20 h (sR [(4,1,4)])
refine rg ?_
cases h
exact rQ}
def KM (p0:Q1) (p1:Tok):Q2 Q1:=letk (fun (x1:Bool)=>if x1 then (some (⟨#[]⟩:Q1):Q2 Q1) else (AJ p0 p1.from_ p1.to_).bind fun l2=>some l2) fun k1=>if decide (p1.from_<0) then k1 true else if decide (p1.to_<p1.from_) then k1 true else k1 (decide ((p0.size:Int)<p1.to_))
theorem XH (p0:Q1) (p1:Tok) (r:Q1) (h:KM p0 p1=some r):Zg Q7 133 [.str p0,p1.pv] (.str r):=by{
refine cF (fun r=>.str r) h mix Tryz.func133 fun r h=>?_
unfold KM at h
refine Zi ?_
refine rg ?_
refine jL h (fun x1=>mkS [(0,.str p0),(3,.ptr 3 (1,3) 0),(21,.bool x1)] [(3,some ((1,3),.box (Tok.cs p1)))] 2) (fun k1 h=>?_) fun x1 h=>?_
refine rg ?_
refine kS 8 h rfl (fun h=>?_) fun h=>?_
iterate 10 refine Zw rfl (Zi ?_)
exact jn true h (sR [(3,1,0)])
refine kS 15 h rfl (fun h=>?_) fun h=>?_
iterate 5 refine Zw rfl (Zi ?_)
exact jn true h (sR [(3,1,0)])
exact jn (decide ((p0.size:Int)<p1.to_)) h (sR [(3,1,0)])
refine cS h rfl (fun h=>?_) fun h=>?_
refine rg ?_
cases h
exact rQ
refine rg ?_
refine sS h fun l2 h=>?_
cases h
exact rQ}
def NN (p0:Q1) (p1:Tok):Q2 Int:=A4 A9 (fun f12 (x106:Int)=>if decide (x106<=3) then letk (fun (x152:Bool)=>if x152 then some x106 else f12 (w64 (x106+1))) fun k14=>if decide (p1.kind=11) then (KM p0 p1).bind fun r153=>(EB x106 false).bind fun r154=>if decide (r153=r154) then k14 true else if decide (p1.kind=12) then (KM p0 p1).bind fun r155=>(EB x106 true).bind fun r156=>k14 (decide (r155=r156)) else k14 false else if decide (p1.kind=12) then (KM p0 p1).bind fun r157=>(EB x106 true).bind fun r158=>k14 (decide (r157=r158)) else k14 false else some 0) 1
theorem pA (p0:Q1) (p1:Tok) (r:Int) (h:NN p0 p1=some r):Zg Q7 136 [.str p0,p1.pv] (.int .i64 r):=by{
refine cF (fun r=>.int .i64 r) h mix Tryz.func136 fun r h=>?_
unfold NN at h
refine Zi ?_
refine rg ?_
refine rg ?_
refine bl ?_
refine Zy h fun f12 mf12 hf12 h=>?_
refine Zu (α:=Nat×Int) (fun a _=>mkS [(0,.str p0),(3,.ptr 3 (1,3) 0),(5,Q5 a.2)] [(3,some ((1,3),.box (Tok.cs p1)))] 2) (fun a=>A4 a.1 f12 a.2=some r) (fun a=>a.1) (mf12,1) 2 h (sR [(3,1,0)]) (fun a _ h=>?_)
obtain ⟨mf12,x106⟩:=a
obtain ⟨mf12,rfl,h⟩:=Zz hf12 h
dsimp only at h ⊢
refine Zi ?_
refine rg ?_
refine cS h rfl (fun h=>?_) fun h=>?_
refine bl ?_
refine jL h (fun x152=>mkS [(0,.str p0),(3,.ptr 3 (1,3) 0),(5,Q5 x106),(33,.bool x152)] [(3,some ((1,3),.box (Tok.cs p1)))] 2) (fun k14 h=>?_) fun x152 h=>?_
refine rg ?_
refine kS 13 h rfl (fun h=>?_) fun h=>?_
refine aC h (XH _ _) fun r153 h=>?_
refine aC h (PL _ _) fun r154 h=>?_
refine kS 21 h rfl (fun h=>?_) fun h=>?_
iterate 11 refine Zw rfl (Zi ?_)
exact jn true h (sR [(3,1,3)])
refine kS 25 h rfl (fun h=>?_) fun h=>?_
refine aC h (XH _ _) fun r155 h=>?_
refine aC h (PL _ _) fun r156 h=>?_
exact jn (decide (r155=r156)) h (sR [(3,1,3)])
iterate 6 refine Zw rfl (Zi ?_)
exact jn false h (sR [(3,1,3)])
iterate 6 refine Zw rfl (Zi ?_)
refine kS 25 h rfl (fun h=>?_) fun h=>?_
refine aC h (XH _ _) fun r157 h=>?_
refine aC h (PL _ _) fun r158 h=>?_
exact jn (decide (r157=r158)) h (sR [(3,1,3)])
iterate 6 refine Zw rfl (Zi ?_)
exact jn false h (sR [(3,1,3)])
refine cS h rfl (fun h=>?_) fun h=>?_
refine rg ?_
cases h
exact rQ
refine rg ?_
exact rn (mf12,(w64 (x106+1))) h (sR [(3,1,3)])
refine rg ?_
cases h
exact rQ}
def MA (p0:Q3 Node):Q2 (Q1×Bool):=A4 A9 (fun f17 ((x39,x40):Q1×Int)=>if decide (x40<(p0.length:Int)) then letk (fun (x54:Q1)=>f17 (x54,(w64 (x40+1)))) fun k19=>(atI p0 x40).bind fun e55=>letk (fun (x56:Bool)=>if x56 then (atI p0 x40).bind fun e57=>(A7 x39 e57.text).bind fun s58=>k19 s58 else if decide (e55.kind=2) then k19 x39 else (some ((⟨#[]⟩:Q1),false):Q2 (Q1×Bool))) fun k20=>if decide (e55.kind=1) then k20 (decide (e55.kind=1)) else k20 (decide (e55.kind=3)) else some (x39,true)) ((⟨#[]⟩:Q1),0)
theorem Zsl (p0:Q3 Node) (r:Q1×Bool) (h:MA p0=some r):Zg Q7 77 [.sl (List.map Node.cs p0)] (.tup [.str r.1,.bool r.2]):=by{
refine cF (fun r=>.tup [.str r.1,.bool r.2]) h mix Tryz.func77 fun r h=>?_
unfold MA at h
refine Zi ?_
refine rg ?_
refine rg ?_
refine rg ?_
refine bl ?_
refine Zy h fun f17 mf17 hf17 h=>?_
refine Zu (α:=Nat×(Q1×Int)) (fun a _=>mkS [(0,.sl (Q8 Node.cs p0)),(4,.str a.2.1),(5,Q5 a.2.2)] [] 2) (fun a=>A4 a.1 f17 a.2=some r) (fun a=>a.1) (mf17,⟨#[]⟩,0) 2 h (sR []) (fun a _ h=>?_)
obtain ⟨mf17,x39,x40⟩:=a
obtain ⟨mf17,rfl,h⟩:=Zz hf17 h
dsimp only at h ⊢
refine Zi ?_
refine rg ?_
refine lM Node.cs p0 ?_
refine cS h rfl (fun h=>?_) fun h=>?_
refine jL h (fun x54=>mkS [(0,.sl (Q8 Node.cs p0)),(4,.str x54),(5,Q5 x40)] [] 2) (fun k19 h=>?_) fun x54 h=>?_
refine bl ?_
refine rg ?_
refine aI Node.cs h fun e55 h=>?_
refine bl ?_
refine rg ?_
refine jL h (fun x56=>mkS [(0,.sl (Q8 Node.cs p0)),(4,.str x39),(5,Q5 x40),(16,Q5 e55.kind),(17,.bool x56)] [] 2) (fun k20 h=>?_) fun x56 h=>?_
refine cS h rfl (fun h=>?_) fun h=>?_
exact jn (decide (e55.kind=1)) h (sR [])
refine rg ?_
exact jn (decide (e55.kind=3)) h (sR [])
refine cS h rfl (fun h=>?_) fun h=>?_
refine rg ?_
refine aI Node.cs h fun e57 h=>?_
refine sT h fun s58 h=>?_
exact jn s58 h (sR [])
refine rg ?_
refine cS h rfl (fun h=>?_) fun h=>?_
exact jn x39 h (sR [])
refine rg ?_
cases h
exact rQ
refine rg ?_
exact rn (mf17,x54,(w64 (x40+1))) h (sR [])
refine rg ?_
cases h
exact rQ}
def JE (p0:Q1) (p1:Q1):Q2 Q1:=(LO p0 p1 0).bind fun r1=>if decide (0<=r1) then (AJ p0 0 r1).bind fun l3=>some l3 else some p0
theorem eT (p0:Q1) (p1:Q1) (r:Q1) (h:JE p0 p1=some r):Zg Q7 54 [.str p0,.str p1] (.str r):=by{
refine cF (fun r=>.str r) h mix Tryz.func54 fun r h=>?_
unfold JE at h
refine Zi ?_
refine rg ?_
refine rg ?_
refine aC h (WP _ _ _) fun r1 h=>?_
refine rg ?_
refine cS h rfl (fun h=>?_) fun h=>?_
refine rg ?_
refine sS h fun l3 h=>?_
cases h
exact rQ
refine rg ?_
cases h
exact rQ}
def NO (p0:Q1) (p1:Int):Q2 (Q1×Int×Bool):=A4 A9 (fun f22 (x98:Int)=>if decide (x98<(p0.size:Int)) then letk (fun (x137:Bool)=>if x137 then (AJ p0 p1 x98).bind fun l139=>some (l139,x98,true) else letk (fun (x142:Bool)=>if x142 then (some ((⟨#[]⟩:Q1),0,false):Q2 (Q1×Int×Bool)) else f22 (w64 (x98+1))) fun k26=>(atS p0 x98).bind fun c143=>if decide (c143=10) then k26 true else (BE p0 x98 ⟨#[91,91]⟩).bind fun r144=>k26 r144) fun k25=>(atS p0 x98).bind fun c145=>if decide (c145=124) then k25 true else (BE p0 x98 ⟨#[93,93]⟩).bind fun r146=>k25 r146 else some (⟨#[]⟩,0,false)) p1
theorem pB (p0:Q1) (p1:Int) (r:Q1×Int×Bool) (h:NO p0 p1=some r):Zg Q7 52 [.str p0,.int .i64 p1] (.tup [.str r.1,.int .i64 r.2.1,.bool r.2.2]):=by{
refine cF (fun r=>.tup [.str r.1,.int .i64 r.2.1,.bool r.2.2]) h mix Tryz.func52 fun r h=>?_
unfold NO at h
refine Zi ?_
refine rg ?_
refine rg ?_
refine bl ?_
refine Zy h fun f22 mf22 hf22 h=>?_
refine Zu (α:=Nat×Int) (fun a _=>mkS [(0,.str p0),(1,Q5 p1),(7,Q5 a.2)] [] 2) (fun a=>A4 a.1 f22 a.2=some r) (fun a=>a.1) (mf22,p1) 2 h (sR []) (fun a _ h=>?_)
obtain ⟨mf22,x98⟩:=a
obtain ⟨mf22,rfl,h⟩:=Zz hf22 h
dsimp only at h ⊢
refine Zi ?_
refine rg ?_
refine cS h rfl (fun h=>?_) fun h=>?_
refine bl ?_
refine jL h (fun x137=>mkS [(0,.str p0),(1,Q5 p1),(7,Q5 x98),(23,.bool x137)] [] 2) (fun k25 h=>?_) fun x137 h=>?_
refine rg ?_
refine aS h fun c145 h=>?_
refine kS 19 h rfl (fun h=>?_) fun h=>?_
iterate 3 refine Zw rfl (Zi ?_)
exact jn true h (sR [])
refine aC h (EU _ _ _) fun r146 h=>?_
exact jn r146 h (sR [])
refine cS h rfl (fun h=>?_) fun h=>?_
refine rg ?_
refine sS h fun l139 h=>?_
cases h
exact rQ
refine jL h (fun x142=>mkS [(0,.str p0),(1,Q5 p1),(7,Q5 x98),(37,.bool x142)] [] 2) (fun k26 h=>?_) fun x142 h=>?_
refine rg ?_
refine aS h fun c143 h=>?_
refine kS 33 h rfl (fun h=>?_) fun h=>?_
iterate 3 refine Zw rfl (Zi ?_)
exact jn true h (sR [])
refine aC h (EU _ _ _) fun r144 h=>?_
exact jn r144 h (sR [])
refine cS h rfl (fun h=>?_) fun h=>?_
refine rg ?_
cases h
exact rQ
refine rg ?_
exact rn (mf22,(w64 (x98+1))) h (sR [])
refine rg ?_
cases h
exact rQ}
def TW (p0:Q1):Q2 Bool:=(PK p0 true).bind fun r1=>letk (fun (x3:Bool)=>some x3) fun k1=>if decide (r1<(p0.size:Int)) then (atS p0 r1).bind fun c4=>k1 (decide (c4=58)) else k1 false
theorem Zqc (p0:Q1) (r:Bool) (h:TW p0=some r):Zg Q7 79 [.str p0] (.bool r):=by{
refine cF (fun r=>.bool r) h mix Tryz.func79 fun r h=>?_
unfold TW at h
refine Zi ?_
refine rg ?_
refine rg ?_
refine aC h (Ztn _ _) fun r1 h=>?_
refine jL h (fun x3=>mkS [(2,.bool x3)] [] 2) (fun k1 h=>?_) fun x3 h=>?_
refine rg ?_
refine kS 10 h rfl (fun h=>?_) fun h=>?_
refine aS h fun c4 h=>?_
exact jn (decide (c4=58)) h (sR [])
iterate 4 refine Zw rfl (Zi ?_)
exact jn false h (sR [])
cases h
exact rQ}
def TX (p0:Q1) (p1:Int):Q2 Q1:=(atS p0 p1).bind fun c1=>if (!decide (c1=124)) then some ⟨#[]⟩ else (LO p0 ⟨#[93,93]⟩ (w64 (p1+1))).bind fun r2=>if decide (r2<0) then some ⟨#[]⟩ else (AJ p0 (w64 (p1+1)) r2).bind fun l3=>(PN l3).bind fun r4=>some r4
theorem ZnX (p0:Q1) (p1:Int) (r:Q1) (h:TX p0 p1=some r):Zg Q7 81 [.str p0,.int .i64 p1] (.str r):=by{
refine cF (fun r=>.str r) h mix Tryz.func81 fun r h=>?_
unfold TX at h
refine Zi ?_
refine rg ?_
refine rg ?_
refine aS h fun c1 h=>?_
refine cS h rfl (fun h=>?_) fun h=>?_
refine rg ?_
cases h
exact rQ
refine rg ?_
refine aC h (WP _ _ _) fun r2 h=>?_
refine rg ?_
refine cS h rfl (fun h=>?_) fun h=>?_
refine rg ?_
cases h
exact rQ
refine rg ?_
refine sS h fun l3 h=>?_
refine aC h (m7 _) fun r4 h=>?_
cases h
exact rQ}
def QL (p0:Link) (p1:Link):Q2 Bool:=letk (fun (x2:Bool)=>some x2) fun k1=>if decide (p0.kind<p1.kind) then k1 true else if decide (p0.kind=p1.kind) then (dA p0.title p1.title).bind fun r3=>k1 (decide (r3<0)) else k1 false
theorem Zo5 (p0:Link) (p1:Link) (r:Bool) (h:QL p0 p1=some r):Zg Q7 82 [p0.pv,p1.pv] (.bool r):=by{
refine cF (fun r=>.bool r) h mix Tryz.func82 fun r h=>?_
unfold QL at h
refine Zi ?_
refine rg ?_
refine jL h (fun x2=>mkS [(4,.bool x2)] [] 2) (fun k1 h=>?_) fun x2 h=>?_
refine rg ?_
refine kS 10 h rfl (fun h=>?_) fun h=>?_
iterate 13 refine Zw rfl (Zi ?_)
exact jn true h (sR [])
refine kS 16 h rfl (fun h=>?_) fun h=>?_
refine aC h (lH _ _) fun r3 h=>?_
exact jn (decide (r3<0)) h (sR [])
iterate 6 refine Zw rfl (Zi ?_)
exact jn false h (sR [])
cases h
exact rQ}
def GT (p0:Q3 Link) (p1:Link):Q2 (Q3 Link):=A4 A9 (fun f7 (x22:Int)=>letk (fun (x30:Bool)=>if x30 then f7 (w64 (x22+1)) else letk (fun (x32:Bool)=>if x32 then some p0 else (CJ p0 0 x22).bind fun l33=>(AA 32 [] l33).bind fun l34=>(AA 32 l34 [p1]).bind fun l35=>(CJ p0 x22 (p0.length:Int)).bind fun l36=>(AA 32 l35 l36).bind fun l37=>some l37) fun k9=>if decide (x22<(p0.length:Int)) then (atI p0 x22).bind fun e38=>k9 (decide (e38=p1)) else k9 false) fun k8=>if decide (x22<(p0.length:Int)) then (atI p0 x22).bind fun e39=>(QL e39 p1).bind fun r40=>k8 r40 else k8 false) 0
theorem eU (p0:Q3 Link) (p1:Link) (r:Q3 Link) (h:GT p0 p1=some r):Zg Q7 46 [.sl (List.map Link.cs p0),p1.pv] (.sl (List.map Link.cs r)):=by{
refine cF (fun r=>.sl (Q8 Link.cs r)) h mix Tryz.func46 fun r h=>?_
unfold GT at h
refine Zi ?_
refine rg ?_
refine rg ?_
refine bl ?_
refine Zy h fun f7 mf7 hf7 h=>?_
refine Zu (α:=Nat×Int) (fun a _=>mkS [(0,.sl (Q8 Link.cs p0)),(3,.ptr 3 (1,3) 0),(5,Q5 a.2)] [(3,some ((1,3),.box (Link.cs p1)))] 2) (fun a=>A4 a.1 f7 a.2=some r) (fun a=>a.1) (mf7,0) 2 h (sR [(3,1,0)]) (fun a _ h=>?_)
obtain ⟨mf7,x22⟩:=a
obtain ⟨mf7,rfl,h⟩:=Zz hf7 h
dsimp only at h ⊢
refine Zi ?_
refine jL h (fun x30=>mkS [(0,.sl (Q8 Link.cs p0)),(3,.ptr 3 (1,3) 0),(5,Q5 x22),(17,.bool x30)] [(3,some ((1,3),.box (Link.cs p1)))] 2) (fun k8 h=>?_) fun x30 h=>?_
refine rg ?_
refine lM Link.cs p0 ?_
refine kS 10 h rfl (fun h=>?_) fun h=>?_
refine aI Link.cs h fun e39 h=>?_
refine aC h (Zo5 _ _) fun r40 h=>?_
exact jn r40 h (sR [(3,1,3)])
iterate 6 refine Zw rfl (Zi ?_)
exact jn false h (sR [(3,1,3)])
refine cS h rfl (fun h=>?_) fun h=>?_
refine bl ?_
refine rg ?_
exact rn (mf7,(w64 (x22+1))) h (sR [(3,1,3)])
refine jL h (fun x32=>mkS [(0,.sl (Q8 Link.cs p0)),(3,.ptr 3 (1,3) 0),(5,Q5 x22),(31,.bool x32)] [(3,some ((1,3),.box (Link.cs p1)))] 2) (fun k9 h=>?_) fun x32 h=>?_
refine rg ?_
refine lM Link.cs p0 ?_
refine kS 24 h rfl (fun h=>?_) fun h=>?_
refine aI Link.cs h fun e38 h=>?_
refine LF (.inl rfl) rfl rfl rfl rfl rfl (fun W=>p6 e38 p1 W) (Zi ?_)
exact jn (decide (e38=p1)) h (sR [(3,1,3)])
iterate 6 refine Zw rfl (Zi ?_)
exact jn false h (sR [(3,1,3)])
refine cS h rfl (fun h=>?_) fun h=>?_
refine rg ?_
cases h
exact rQ
refine rg ?_
refine sM Link.cs h fun l33 h=>?_
let ⟨l34,h25,h⟩:=bnd h
refine J4 (f:=Link.cs) rfl h25 (fun _=>rfl) rfl rfl rfl (Zi ?_)
refine CR (M:=([p1]:Q3 Link)) (f:=Link.cs) rfl rfl rfl rfl (Yk rfl) rfl (Zi ?_)
refine pR Link.cs h fun l35 h=>?_
refine sM Link.cs h fun l36 h=>?_
refine pR Link.cs h fun l37 h=>?_
cases h
exact rQ}
def TY (p0:Q3 Memb) (p1:Memb):Q2 (Q3 Memb):=A4 A9 (fun f7 (x22:Int)=>letk (fun (x30:Bool)=>if x30 then f7 (w64 (x22+1)) else letk (fun (x32:Bool)=>if x32 then some p0 else (CJ p0 0 x22).bind fun l33=>(AA 40 [] l33).bind fun l34=>(AA 40 l34 [p1]).bind fun l35=>(CJ p0 x22 (p0.length:Int)).bind fun l36=>(AA 40 l35 l36).bind fun l37=>some l37) fun k9=>if decide (x22<(p0.length:Int)) then (atI p0 x22).bind fun e38=>k9 (decide (e38.category=p1.category)) else k9 false) fun k8=>if decide (x22<(p0.length:Int)) then (atI p0 x22).bind fun e39=>(dA e39.category p1.category).bind fun r40=>k8 (decide (r40<0)) else k8 false) 0
theorem ZlG (p0:Q3 Memb) (p1:Memb) (r:Q3 Memb) (h:TY p0 p1=some r):Zg Q7 80 [.sl (List.map Memb.cs p0),p1.pv] (.sl (List.map Memb.cs r)):=by{
refine cF (fun r=>.sl (Q8 Memb.cs r)) h mix Tryz.func80 fun r h=>?_
unfold TY at h
refine Zi ?_
refine rg ?_
refine rg ?_
refine bl ?_
refine Zy h fun f7 mf7 hf7 h=>?_
refine Zu (α:=Nat×Int) (fun a _=>mkS [(0,.sl (Q8 Memb.cs p0)),(3,.ptr 3 (1,3) 0),(5,Q5 a.2)] [(3,some ((1,3),.box (Memb.cs p1)))] 2) (fun a=>A4 a.1 f7 a.2=some r) (fun a=>a.1) (mf7,0) 2 h (sR [(3,1,0)]) (fun a _ h=>?_)
obtain ⟨mf7,x22⟩:=a
obtain ⟨mf7,rfl,h⟩:=Zz hf7 h
dsimp only at h ⊢
refine Zi ?_
refine jL h (fun x30=>mkS [(0,.sl (Q8 Memb.cs p0)),(3,.ptr 3 (1,3) 0),(5,Q5 x22),(20,.bool x30)] [(3,some ((1,3),.box (Memb.cs p1)))] 2) (fun k8 h=>?_) fun x30 h=>?_
refine rg ?_
refine lM Memb.cs p0 ?_
refine kS 10 h rfl (fun h=>?_) fun h=>?_
refine aI Memb.cs h fun e39 h=>?_
refine aC h (lH _ _) fun r40 h=>?_
exact jn (decide (r40<0)) h (sR [(3,1,3)])
iterate 9 refine Zw rfl (Zi ?_)
exact jn false h (sR [(3,1,3)])
refine cS h rfl (fun h=>?_) fun h=>?_
refine bl ?_
refine rg ?_
exact rn (mf7,(w64 (x22+1))) h (sR [(3,1,3)])
refine jL h (fun x32=>mkS [(0,.sl (Q8 Memb.cs p0)),(3,.ptr 3 (1,3) 0),(5,Q5 x22),(36,.bool x32)] [(3,some ((1,3),.box (Memb.cs p1)))] 2) (fun k9 h=>?_) fun x32 h=>?_
refine rg ?_
refine lM Memb.cs p0 ?_
refine kS 27 h rfl (fun h=>?_) fun h=>?_
refine aI Memb.cs h fun e38 h=>?_
refine LF (.inl rfl) rfl rfl rfl rfl rfl (fun W=>bH e38.category p1.category W) (Zi ?_)
exact jn (decide (e38.category=p1.category)) h (sR [(3,1,3)])
iterate 8 refine Zw rfl (Zi ?_)
exact jn false h (sR [(3,1,3)])
refine cS h rfl (fun h=>?_) fun h=>?_
refine rg ?_
cases h
exact rQ
refine rg ?_
refine sM Memb.cs h fun l33 h=>?_
let ⟨l34,h25,h⟩:=bnd h
refine J4 (f:=Memb.cs) rfl h25 (fun _=>rfl) rfl rfl rfl (Zi ?_)
refine CR (M:=([p1]:Q3 Memb)) (f:=Memb.cs) rfl rfl rfl rfl (Yk rfl) rfl (Zi ?_)
refine pR Memb.cs h fun l35 h=>?_
refine sM Memb.cs h fun l36 h=>?_
refine pR Memb.cs h fun l37 h=>?_
cases h
exact rQ}
def QM (p0:Q1) (p1:Q3 Link) (p2:Q3 Memb):Q2 ((Q3 Link)×(Q3 Memb)):=A4 A9 (fun f17 ((x92,x93,x94):(Q3 Link)×(Q3 Memb)×Int)=>if decide (x94<(p0.size:Int)) then letk (fun (x127:Q3 Link) (x128:Q3 Memb)=>f17 (x127,x128,(w64 (x94+1)))) fun k19=>(BE p0 x94 ⟨#[91,91]⟩).bind fun r129=>if (!r129) then k19 x92 x93 else (NO p0 (w64 (x94+2))).bind fun r130=>if (!r130.2.2) then k19 x92 x93 else (JE r130.1 ⟨#[35]⟩).bind fun r131=>(J8 r131).bind fun r132=>if (!decide (r132.2=0)) then k19 x92 x93 else letk (fun (x134:Bool)=>if x134 then (TX p0 r130.2.1).bind fun r135=>(TY x93 (⟨r132.1,r135⟩:Memb)).bind fun r136=>k19 x92 r136 else (GT x92 (⟨1,r132.1⟩:Link)).bind fun r137=>k19 r137 x93) fun k20=>if decide (r132.1.space=4) then (TW r130.1).bind fun r138=>k20 (!r138) else k20 false else some (x92,x93)) (p1,p2,0)
theorem ZnY (p0:Q1) (p1:Q3 Link) (p2:Q3 Memb) (r:(Q3 Link)×(Q3 Memb)) (h:QM p0 p1 p2=some r):Zg Q7 45 [.str p0,.sl (List.map Link.cs p1),.sl (List.map Memb.cs p2)] (.tup [.sl (List.map Link.cs r.1),.sl (List.map Memb.cs r.2)]):=by{
refine cF (fun r=>.tup [.sl (Q8 Link.cs r.1),.sl (Q8 Memb.cs r.2)]) h mix Tryz.func45 fun r h=>?_
unfold QM at h
refine Zi ?_
refine rg ?_
refine rg ?_
refine bl ?_
refine Zy h fun f17 mf17 hf17 h=>?_
refine Zu (α:=Nat×((Q3 Link)×(Q3 Memb)×Int)) (fun a _=>mkS [(0,.str p0),(1,.sl (Q8 Link.cs a.2.1)),(2,.sl (Q8 Memb.cs a.2.2.1)),(8,Q5 a.2.2.2)] [] 2) (fun a=>A4 a.1 f17 a.2=some r) (fun a=>a.1) (mf17,p1,p2,0) 2 h (sR []) (fun a _ h=>?_)
obtain ⟨mf17,x92,x93,x94⟩:=a
obtain ⟨mf17,rfl,h⟩:=Zz hf17 h
dsimp only at h ⊢
refine Zi ?_
refine rg ?_
refine cS h rfl (fun h=>?_) fun h=>?_
refine ER h fun k19 hk19 h=>?_
refine DA (α:=(Q3 Link)×(Q3 Memb)) (fun a _=>mkS [(0,.str p0),(1,.sl (Q8 Link.cs a.1)),(2,.sl (Q8 Memb.cs a.2)),(8,Q5 x94)] [] 2) (fun a=>k19 a.1 a.2=some r) (Zi ?_) (fun a _ h=>?_)
refine bl ?_
refine rg ?_
refine aC h (EU _ _ _) fun r129 h=>?_
refine cS h rfl (fun h=>?_) fun h=>?_
exact jn (x92,x93) h (sR [])
refine rg ?_
refine aC h (pB _ _) fun r130 h=>?_
refine rg ?_
refine cS h rfl (fun h=>?_) fun h=>?_
exact jn (x92,x93) h (sR [])
refine rg ?_
refine aC h (eT _ _) fun r131 h=>?_
refine aC h (dF _) fun r132 h=>?_
refine rg ?_
refine cS h rfl (fun h=>?_) fun h=>?_
exact jn (x92,x93) h (sR [])
refine jL h (fun x134=>mkS [(0,.str p0),(1,.sl (Q8 Link.cs x92)),(2,.sl (Q8 Memb.cs x93)),(8,Q5 x94),(10,Q5 r130.2.1),(12,.ptr 12 (1,12) 0),(49,.bool x134)] [(12,some ((1,12),.box (Title.cs r132.1)))] 2) (fun k20 h=>?_) fun x134 h=>?_
refine rg ?_
refine kS 45 h rfl (fun h=>?_) fun h=>?_
refine aC h (Zqc _) fun r138 h=>?_
exact jn (!r138) h (sR [(12,6,6)])
iterate 3 refine Zw rfl (Zi ?_)
exact jn false h (sR [(12,6,6)])
refine cS h rfl (fun h=>?_) fun h=>?_
refine rg ?_
refine aC h (ZnX _ _) fun r135 h=>?_
refine aC h (ZlG _ _) fun r136 h=>?_
exact jn (x92,r136) h (sR [])
refine rg ?_
refine aC h (eU _ _) fun r137 h=>?_
exact jn (r137,x93) h (sR [])
obtain ⟨x127,x128⟩:=a
subst hk19
dsimp only at h ⊢
refine Zi ?_
refine rg ?_
exact rn (mf17,x127,x128,(w64 (x94+1))) h (sR [])
refine rg ?_
cases h
exact rQ}
def D3 (p0:Q1):Q2 (Title×Bool):=(PN p0).bind fun r1=>letk (fun (x4:Bool)=>if x4 then (some ((⟨0,(⟨#[]⟩:Q1)⟩:Title),false):Q2 (Title×Bool)) else (JE r1 ⟨#[35]⟩).bind fun r5=>(J8 r5).bind fun r6=>if (!decide (r6.2=0)) then (some ((⟨0,(⟨#[]⟩:Q1)⟩:Title),false):Q2 (Title×Bool)) else letk (fun (x8:Bool)=>letk (fun (x9:Int)=>(some ((⟨x9,r6.1.name⟩:Title),true):Q2 (Title×Bool))) fun k3=>if x8 then k3 3 else k3 r6.1.space) fun k2=>if decide (r6.1.space=0) then (atS r1 0).bind fun c10=>k2 (!decide (c10=58)) else k2 false) fun k1=>if decide (r1=(⟨#[]⟩:Q1)) then k1 true else (atS r1 0).bind fun c11=>if decide (c11=35) then k1 true else (atS r1 0).bind fun c12=>k1 (decide (c12=47))
theorem Zo6 (p0:Q1) (r:Title×Bool) (h:D3 p0=some r):Zg Q7 78 [.str p0] (.tup [r.1.pv,.bool r.2]):=by{
refine cF (fun r=>.tup [r.1.pv,.bool r.2]) h mix Tryz.func78 fun r h=>?_
unfold D3 at h
refine Zi ?_
refine rg ?_
refine rg ?_
refine aC h (m7 _) fun r1 h=>?_
refine jL h (fun x4=>mkS [(0,.str r1),(2,.ptr 2 (1,2) 0),(19,.bool x4)] [(2,some ((1,2),.box [Q5 0,.str ⟨#[]⟩]))] 2) (fun k1 h=>?_) fun x4 h=>?_
refine rg ?_
refine kS 10 h rfl (fun h=>?_) fun h=>?_
iterate 6 refine Zw rfl (Zi ?_)
exact jn true h (sR [(2,1,0)])
refine aS h fun c11 h=>?_
refine kS 15 h rfl (fun h=>?_) fun h=>?_
iterate 3 refine Zw rfl (Zi ?_)
exact jn true h (sR [(2,1,0)])
refine aS h fun c12 h=>?_
exact jn (decide (c12=47)) h (sR [(2,1,0)])
refine cS h rfl (fun h=>?_) fun h=>?_
refine rg ?_
cases h
exact rQ
refine rg ?_
refine aC h (eT _ _) fun r5 h=>?_
refine aC h (dF _) fun r6 h=>?_
refine rg ?_
refine cS h rfl (fun h=>?_) fun h=>?_
refine rg ?_
cases h
exact rQ
refine jL h (fun x8=>mkS [(2,.ptr 2 (1,2) 0),(4,.ptr 4 (1,4) 0),(37,.bool x8)] [(2,some ((1,2),.box [Q5 0,.str ⟨#[]⟩])),(4,some ((1,4),.box (Title.cs r6.1)))] 2) (fun k2 h=>?_) fun x8 h=>?_
refine rg ?_
refine kS 33 h rfl (fun h=>?_) fun h=>?_
refine aS h fun c10 h=>?_
exact jn (!decide (c10=58)) h (sR [(2,1,2),(4,2,6)])
iterate 3 refine Zw rfl (Zi ?_)
exact jn false h (sR [(2,1,2),(4,2,6)])
refine jL h (fun x9=>mkS [(2,.ptr 2 (1,2) 0),(4,.ptr 4 (1,4) 0)] [(2,some ((1,2),.box [Q5 0,.str ⟨#[]⟩])),(4,some ((1,4),.box [Q5 x9,.str r6.1.name]))] 2) (fun k3 h=>?_) fun x9 h=>?_
refine cS h rfl (fun h=>?_) fun h=>?_
refine rg ?_
exact jn 3 h (sR [(2,1,2),(4,1,4)])
exact jn r6.1.space h (sR [(2,1,2),(4,1,4)])
refine rg ?_
cases h
exact rQ}
def ZS:Nat->(Q3 Node)->(Q3 Link)->Q2 (Q3 Link) | 0,_,_=>none | mF+1,p0,p1=>A4 A9 (fun f47 ((x527,x528):(Q3 Link)×Int)=>if decide (x528<(p0.length:Int)) then letk (fun (x725:Q3 Link)=>f47 (x725,(w64 (x528+1)))) fun k52=>(atI p0 x528).bind fun e726=>letk (fun (x727:Bool)=>if x727 then k52 x527 else (AV e726.kids).bind fun l728=>(MA l728).bind fun r729=>letk (fun (x730:Bool)=>letk (fun (x733:Q3 Link)=>(AV e726.kids).bind fun l734=>(ZS mF l734 x733).bind fun r735=>A4 A9 (fun f56 ((x753,x754):(Q3 Link)×Int)=>(DM e726.args).bind fun l772=>if decide (x754<(l772.length:Int)) then (DM e726.args).bind fun l781=>(atI l781 x754).bind fun e782=>(DM e726.args).bind fun l783=>(atI l783 x754).bind fun e784=>(AV e784.name).bind fun l785=>(ZS mF l785 x753).bind fun r786=>(AV e782.value).bind fun l787=>(ZS mF l787 r786).bind fun r788=>f56 (r788,(w64 (x754+1))) else k52 x753) (r735,0)) fun k55=>if x730 then (D3 r729.1).bind fun r789=>if r789.2 then (GT x527 (⟨2,r789.1⟩:Link)).bind fun r790=>k55 r790 else k55 x527 else k55 x527) fun k54=>if r729.2 then k54 (decide (e726.kind=4)) else k54 false) fun k53=>if decide (e726.kind=6) then k53 (decide (e726.tag=2)) else k53 false else some x527) (p1,0)
theorem ZlH (mF:Nat):∀ (p0:Q3 Node) (p1:Q3 Link) (r:Q3 Link),ZS mF p0 p1=some r->Zg Q7 43 [.sl (List.map Node.cs p0),.sl (List.map Link.cs p1)] (.sl (List.map Link.cs r)):=by{
induction mF with
| zero=>intro p0 p1 r h;cases h
| succ mF ihF=>
intro p0 p1 r h
refine cF (fun r=>.sl (Q8 Link.cs r)) h mix Tryz.func43 fun r h=>?_
simp only [ZS] at h
refine Zi ?_
refine rg ?_
refine rg ?_
refine bl ?_
refine Zy h fun f47 mf47 hf47 h=>?_
refine Zu (α:=Nat×((Q3 Link)×Int)) (fun a _=>mkS [(0,.sl (Q8 Node.cs p0)),(1,.sl (Q8 Link.cs a.2.1)),(5,Q5 a.2.2)] [] 2) (fun a=>A4 a.1 f47 a.2=some r) (fun a=>a.1) (mf47,p1,0) 2 h (sR []) (fun a _ h=>?_)
obtain ⟨mf47,x527,x528⟩:=a
obtain ⟨mf47,rfl,h⟩:=Zz hf47 h
dsimp only at h ⊢
refine Zi ?_
refine rg ?_
refine lM Node.cs p0 ?_
refine cS h rfl (fun h=>?_) fun h=>?_
refine jL h (fun x725=>mkS [(0,.sl (Q8 Node.cs p0)),(1,.sl (Q8 Link.cs x725)),(5,Q5 x528)] [] 2) (fun k52 h=>?_) fun x725 h=>?_
refine bl ?_
refine rg ?_
refine aI Node.cs h fun e726 h=>?_
refine jL h (fun x727=>mkS [(0,.sl (Q8 Node.cs p0)),(1,.sl (Q8 Link.cs x527)),(5,Q5 x528),(6,.ptr 6 (1,6) 0),(29,.bool x727)] [(6,some ((1,6),.box [Q5 e726.kind,Q5 e726.tag,.str e726.text,.sl e726.kids,.sl e726.args]))] 2) (fun k53 h=>?_) fun x727 h=>?_
refine rg ?_
refine kS 25 h rfl (fun h=>?_) fun h=>?_
exact jn (decide (e726.tag=2)) h (sR [(6,3,4)])
iterate 3 refine Zw rfl (Zi ?_)
exact jn false h (sR [(6,3,4)])
refine cS h rfl (fun h=>?_) fun h=>?_
exact jn x527 h (sR [])
refine rg ?_
let ⟨l728,h662,h⟩:=bnd h
refine E9 32 (G6 h662) rfl (Zi ?_)
refine aC h (Zsl _) fun r729 h=>?_
refine jL h (fun x730=>mkS [(0,.sl (Q8 Node.cs p0)),(1,.sl (Q8 Link.cs x527)),(5,Q5 x528),(6,.ptr 6 (1,6) 0),(7,.str r729.1),(41,.bool x730)] [(6,some ((1,6),.box [Q5 e726.kind,Q5 e726.tag,.str e726.text,.sl e726.kids,.sl e726.args]))] 2) (fun k54 h=>?_) fun x730 h=>?_
refine rg ?_
refine kS 37 h rfl (fun h=>?_) fun h=>?_
exact jn (decide (e726.kind=4)) h (sR [(6,1,6)])
iterate 3 refine Zw rfl (Zi ?_)
exact jn false h (sR [(6,1,6)])
refine jL h (fun x733=>mkS [(0,.sl (Q8 Node.cs p0)),(1,.sl (Q8 Link.cs x733)),(5,Q5 x528),(6,.ptr 6 (1,6) 0)] [(6,some ((1,6),.box [Q5 e726.kind,Q5 e726.tag,.str e726.text,.sl e726.kids,.sl e726.args]))] 2) (fun k55 h=>?_) fun x733 h=>?_
refine cS h rfl (fun h=>?_) fun h=>?_
refine rg ?_
refine aC h (Zo6 _) fun r789 h=>?_
refine rg ?_
refine cS h rfl (fun h=>?_) fun h=>?_
refine rg ?_
refine aC h (eU _ _) fun r790 h=>?_
exact jn r790 h (sR [(6,1,6)])
exact jn x527 h (sR [(6,1,6)])
exact jn x527 h (sR [(6,1,6)])
refine rg ?_
let ⟨l734,h666,h⟩:=bnd h
refine E9 53 (G6 h666) rfl (Zi ?_)
let ⟨r735,h667,h⟩:=bnd h
refine DU (ihF _ _ _ h667) rfl rfl (Zi ?_)
refine rg ?_
refine bl ?_
refine Zy h fun f56 mf56 hf56 h=>?_
refine Zu (α:=Nat×((Q3 Link)×Int)) (fun a _=>mkS [(0,.sl (Q8 Node.cs p0)),(1,.sl (Q8 Link.cs a.2.1)),(5,Q5 x528),(6,.ptr 6 (1,6) 0),(11,Q5 a.2.2)] [(6,some ((1,6),.box [Q5 e726.kind,Q5 e726.tag,.str e726.text,.sl e726.kids,.sl e726.args]))] 2) (fun a=>A4 a.1 f56 a.2=some r) (fun a=>a.1) (mf56,r735,0) 2 h (sR [(6,1,6)]) (fun a _ h=>?_)
obtain ⟨mf56,x753,x754⟩:=a
obtain ⟨mf56,rfl,h⟩:=Zz hf56 h
dsimp only at h ⊢
refine Zi ?_
refine rg ?_
let ⟨l772,h702,h⟩:=bnd h
refine E9 58 (W9 h702) rfl (Zi ?_)
refine lM Arg.cs l772 ?_
refine cS h rfl (fun h=>?_) fun h=>?_
refine bl ?_
refine rg ?_
let ⟨l781,h711,h⟩:=bnd h
refine E9 64 (W9 h711) rfl (Zi ?_)
refine aI Arg.cs h fun e782 h=>?_
let ⟨l783,h713,h⟩:=bnd h
refine E9 70 (W9 h713) rfl (Zi ?_)
refine aI Arg.cs h fun e784 h=>?_
let ⟨l785,h715,h⟩:=bnd h
refine E9 74 (G6 h715) rfl (Zi ?_)
let ⟨r786,h716,h⟩:=bnd h
refine DU (ihF _ _ _ h716) rfl rfl (Zi ?_)
let ⟨l787,h717,h⟩:=bnd h
refine E9 68 (G6 h717) rfl (Zi ?_)
let ⟨r788,h718,h⟩:=bnd h
refine DU (ihF _ _ _ h718) rfl rfl (Zi ?_)
refine rg ?_
exact rn (mf56,r788,(w64 (x754+1))) h (sR [(6,1,6)])
exact jn x753 h (sR [])
refine rg ?_
exact rn (mf47,x725,(w64 (x528+1))) h (sR [])
refine rg ?_
cases h
exact rQ}
def IM:Nat->(Q3 Node)->Q2 (Q3 Node) | 0,_=>none | mF+1,p0=>A4 A9 (fun f17 ((x111,x112):Int×(Q3 Node))=>if decide (x111<(p0.length:Int)) then letk (fun (x153:Q3 Node)=>f17 ((w64 (x111+1)),x153)) fun k19=>(atI p0 x111).bind fun e154=>(AA 80 x112 [e154]).bind fun l155=>letk (fun (x159:Bool)=>if x159 then (atI p0 x111).bind fun e160=>(AV e160.kids).bind fun l161=>(IM mF l161).bind fun r162=>(AA 80 l155 r162).bind fun l163=>k19 l163 else k19 l155) fun k20=>(atI p0 x111).bind fun e164=>if decide (e164.kind=6) then (atI p0 x111).bind fun e165=>if decide (e165.tag=1) then k20 true else (atI p0 x111).bind fun e166=>k20 (decide (e166.tag=3)) else k20 false else some x112) (0,([]:Q3 Node))
theorem Zuv (mF:Nat):∀ (p0:Q3 Node) (r:Q3 Node),IM mF p0=some r->Zg Q7 44 [.sl (List.map Node.cs p0)] (.sl (List.map Node.cs r)):=by{
induction mF with
| zero=>intro p0 r h;cases h
| succ mF ihF=>
intro p0 r h
refine cF (fun r=>.sl (Q8 Node.cs r)) h mix Tryz.func44 fun r h=>?_
simp only [IM] at h
refine Zi ?_
refine rg ?_
refine rg ?_
refine rg ?_
refine bl ?_
refine Zy h fun f17 mf17 hf17 h=>?_
refine Zu (α:=Nat×(Int×(Q3 Node))) (fun a _=>mkS [(0,.sl (Q8 Node.cs p0)),(3,.row 3 (1,3)),(4,Q5 a.2.1)] [(3,some ((1,3),.row 78 5 false (Q8 Node.cs a.2.2)))] 2) (fun a=>A4 a.1 f17 a.2=some r) (fun a=>a.1) (mf17,0,([]:Q3 Node)) 2 h (bI [] 3 78 5 rfl ⟨rfl,rfl,rfl,trivial⟩ ⟨⟨rfl,rfl⟩,trivial⟩ rfl) (fun a _ h=>?_)
obtain ⟨mf17,x111,x112⟩:=a
obtain ⟨mf17,rfl,h⟩:=Zz hf17 h
dsimp only at h ⊢
refine Zi ?_
refine rg ?_
refine lM Node.cs p0 ?_
refine cS h rfl (fun h=>?_) fun h=>?_
refine jL h (fun x153=>mkS [(0,.sl (Q8 Node.cs p0)),(3,.row 3 (1,3)),(4,Q5 x111)] [(3,some ((1,3),.row 78 5 false (Q8 Node.cs x153)))] 2) (fun k19 h=>?_) fun x153 h=>?_
refine bl ?_
refine rg ?_
refine aI Node.cs h fun e154 h=>?_
refine CR (M:=([e154]:Q3 Node)) (f:=Node.cs) rfl rfl rfl rfl (Yk rfl) rfl (Zi ?_)
refine pR Node.cs h fun l155 h=>?_
refine jL h (fun x159=>mkS [(0,.sl (Q8 Node.cs p0)),(3,.row 3 (1,3)),(4,Q5 x111),(39,.bool x159)] [(3,some ((1,3),.row 78 5 false (Q8 Node.cs l155)))] 2) (fun k20 h=>?_) fun x159 h=>?_
refine rg ?_
refine aI Node.cs h fun e164 h=>?_
refine kS 24 h rfl (fun h=>?_) fun h=>?_
refine aI Node.cs h fun e165 h=>?_
refine kS 31 h rfl (fun h=>?_) fun h=>?_
iterate 6 refine Zw rfl (Zi ?_)
exact jn true h (sR [(3,3,6)])
refine aI Node.cs h fun e166 h=>?_
exact jn (decide (e166.tag=3)) h (sR [(3,3,6)])
iterate 14 refine Zw rfl (Zi ?_)
exact jn false h (sR [(3,3,6)])
refine cS h rfl (fun h=>?_) fun h=>?_
refine rg ?_
refine aI Node.cs h fun e160 h=>?_
let ⟨l161,h139,h⟩:=bnd h
refine E9 45 (G6 h139) rfl (Zi ?_)
let ⟨r162,h140,h⟩:=bnd h
refine DU (ihF _ _ h140) rfl rfl (Zi ?_)
refine pR Node.cs h fun l163 h=>?_
exact jn l163 h (sR [(3,2,7)])
exact jn l155 h (sR [(3,1,3)])
refine rg ?_
exact rn (mf17,(w64 (x111+1)),x153) h (sR [(3,1,3)])
refine rg ?_
cases h
exact rQ}
def F7 (p0:Q1):Q2 (Title×Bool):=(BE p0 0 ⟨#[35,82,69,68,73,82,69,67,84]⟩).bind fun r1=>if (!r1) then some (⟨0,⟨#[]⟩⟩,false) else A4 A9 (fun f7 (x23:Int)=>letk (fun (x31:Bool)=>if x31 then f7 (w64 (x23+1)) else (BE p0 x23 ⟨#[91,91]⟩).bind fun r32=>if (!r32) then (some ((⟨0,(⟨#[]⟩:Q1)⟩:Title),false):Q2 (Title×Bool)) else (NO p0 (w64 (x23+2))).bind fun r33=>if (!r33.2.2) then (some ((⟨0,(⟨#[]⟩:Q1)⟩:Title),false):Q2 (Title×Bool)) else (JE r33.1 ⟨#[35]⟩).bind fun r34=>(J8 r34).bind fun r35=>(some (r35.1,(decide (r35.2=0))):Q2 (Title×Bool))) fun k8=>if decide (x23<(p0.size:Int)) then (atS p0 x23).bind fun c36=>if decide (c36=9) then k8 true else (atS p0 x23).bind fun c37=>k8 (decide (c37=32)) else k8 false) 9
theorem pC (p0:Q1) (r:Title×Bool) (h:F7 p0=some r):Zg Q7 14 [.str p0] (.tup [r.1.pv,.bool r.2]):=by{
refine cF (fun r=>.tup [r.1.pv,.bool r.2]) h mix Tryz.func14 fun r h=>?_
unfold F7 at h
refine Zi ?_
refine rg ?_
refine rg ?_
refine aC h (EU _ _ _) fun r1 h=>?_
refine cS h rfl (fun h=>?_) fun h=>?_
refine rg ?_
cases h
exact rQ
refine rg ?_
refine bl ?_
refine Zy h fun f7 mf7 hf7 h=>?_
refine Zu (α:=Nat×Int) (fun a _=>mkS [(0,.str p0),(2,.ptr 2 (1,2) 0),(4,Q5 a.2)] [(2,some ((1,2),.box [Q5 0,.str ⟨#[]⟩]))] 2) (fun a=>A4 a.1 f7 a.2=some r) (fun a=>a.1) (mf7,9) 2 h (sR [(2,1,0)]) (fun a _ h=>?_)
obtain ⟨mf7,x23⟩:=a
obtain ⟨mf7,rfl,h⟩:=Zz hf7 h
dsimp only at h ⊢
refine Zi ?_
refine jL h (fun x31=>mkS [(0,.str p0),(2,.ptr 2 (1,2) 0),(4,Q5 x23),(29,.bool x31)] [(2,some ((1,2),.box [Q5 0,.str ⟨#[]⟩]))] 2) (fun k8 h=>?_) fun x31 h=>?_
refine rg ?_
refine kS 18 h rfl (fun h=>?_) fun h=>?_
refine aS h fun c36 h=>?_
refine kS 23 h rfl (fun h=>?_) fun h=>?_
iterate 4 refine Zw rfl (Zi ?_)
exact jn true h (sR [(2,1,2)])
refine aS h fun c37 h=>?_
exact jn (decide (c37=32)) h (sR [(2,1,2)])
iterate 10 refine Zw rfl (Zi ?_)
exact jn false h (sR [(2,1,2)])
refine cS h rfl (fun h=>?_) fun h=>?_
refine bl ?_
refine rg ?_
exact rn (mf7,(w64 (x23+1))) h (sR [(2,1,2)])
refine rg ?_
refine aC h (EU _ _ _) fun r32 h=>?_
refine cS h rfl (fun h=>?_) fun h=>?_
refine rg ?_
cases h
exact rQ
refine rg ?_
refine aC h (pB _ _) fun r33 h=>?_
refine rg ?_
refine cS h rfl (fun h=>?_) fun h=>?_
refine rg ?_
cases h
exact rQ
refine rg ?_
refine aC h (eT _ _) fun r34 h=>?_
refine aC h (dF _) fun r35 h=>?_
refine rg ?_
cases h
exact rQ}
def QN (o:Q2 Nat):Int:=match o with | none=>-1 | some n=>(n:Int)
theorem u8i {c k:Q4} {n:Int} (hn:n=(k.toNat:Int)):((c.toNat:Int)=n)↔c=k:=by
 subst hn
 exact ⟨fun h=>GG.1 (by omega),fun h=>by rw [h]⟩
theorem KN {s:Q3 Q4} {n:Nat} (h:n<s.length):∃ c,s[n]? = some c/\s.drop n=c::s.drop (n+1)/\(s.drop (n+1)).head? = s[n+1]?:=
 ⟨s[n],Yc h,Yt h,by rw [List.head?_drop]⟩
theorem eV (r:Q3 Q4) (h:r.length<=1000000):PZ (bs r)=some (QN (BH r)):=by{
refine ZK ?_
unfold PZ
have z:(bs r).size=r.length:=rfl
refine ZF (fun i=>∃ n:Nat,i=(n:Int)/\n<=r.length/\BH r=(BH (r.drop n)).map (· + n)) (fun i=>r.length-i.toNat) ⟨0,rfl,YJ _,by simp⟩ (by omega) ?_
rintro i rec ⟨n,rfl,hn,he⟩ ih
by_cases hl:n<r.length
refine Zb (fun _=>?_) fun h=>absurd (by omega) h
let ⟨x,hc,hd,hh⟩:=KN hl
rw [hd] at he
have hu:BH (x::r.drop (n+1))=if stop x (r.drop (n+1)) then some 0 else (BH (r.drop (n+1))).map (· + 1):=rfl
rw [hu] at he
refine Zt (fun q=>(stop x (r.drop (n+1))->Tot (q true) fun z=>z=QN (BH r))/\(¬ stop x (r.drop (n+1))->Tot (q false) fun z=>z=QN (BH r))) ⟨fun hs=>Zj (fun _=>Zd ?_) nofun,fun hs=>Zj nofun fun _=>?_⟩ fun k hk=>?_
rw [he,if_pos hs]
simp [QN]
rw [if_neg hs] at he
rw [ZH]
refine ih _ ⟨n+1,by omega,hl,?_⟩ (by omega)
rw [he,Option.map_map]
congr 1
funext m
simp only [Function.comp]
omega
refine Za (BF hc) (Zb (fun h=>hk.1 (.inl ((u8i (k:=124) (n:=124) rfl).1 h))) fun h124=>?_)
refine Za (BF hc) (Zb (fun h93=>?_) fun h93=>hk.2 ?_)
have hw:w64 ((n:Int)+1)=((n+1:Nat):Int):=by rw [ZH];omega
rw [hw]
refine Zb (fun hlt=>?_) fun hge=>hk.2 ?_
let ⟨y,hy,_⟩:=KN (s:=r) (n:=n+1) (by omega)
refine Za (BF hy) ?_
by_cases h2:y=93
rw [Yh ((u8i (k:=93) (n:=93) rfl).2 h2)]
exact hk.1 (.inr ⟨(u8i (k:=93) (n:=93) rfl).1 h93,by rw [hh,hy,h2]⟩)
rw [Yf fun h=>h2 ((u8i (k:=93) (n:=93) rfl).1 h)]
refine hk.2 ?_
rintro (h | ⟨_,h⟩)
exact h124 ((u8i (k:=124) (n:=124) rfl).2 h)
rw [hh,hy] at h
exact h2 (D7 h)
rintro (h | ⟨_,h⟩)
exact h124 ((u8i (k:=124) (n:=124) rfl).2 h)
rw [hh,YZ (by omega)] at h
cases h
rintro (h | ⟨h,_⟩)
exact h124 ((u8i (k:=124) (n:=124) rfl).2 h)
exact h93 ((u8i (k:=93) (n:=93) rfl).2 h)
refine Zb (fun h=>absurd h (by omega)) fun _=>Zd ?_
rw [YI (by omega)] at he
rw [he]
rfl}
def F8 (s:Q3 Q4) (i:Nat):Q1×Int×Bool:=match L3 (s.drop i) with | none=>(⟨#[]⟩,0,false) | some n=>(bs ((s.drop i).take n),((i+n:Nat):Int),true)
theorem pD (c d:Q4) (l:Q3 Q4) (h:d=c):([c,c]:Q3 Q4).isPrefixOf (d::l)=decide (l.head? = some c):=by{
subst h
cases l with
| nil=>simp [List.isPrefixOf]
| cons e l=>by_cases he:e=d<;>simp [List.isPrefixOf,he,JR]}
theorem pE {c d:Q4} (l:Q3 Q4) (h:¬ d=c):([c,c]:Q3 Q4).isPrefixOf (d::l)=false:=by
 simp [List.isPrefixOf,JR,h]
theorem pF (s:Q3 Q4) (i:Nat) (hi:i<=s.length) (h:s.length<=1000000):NO (bs s) (i:Int)=some (F8 s i):=by{
refine ZK ?_
unfold NO
have z:(bs s).size=s.length:=rfl
refine ZF (fun x=>∃ n:Nat,x=((i+n:Nat):Int)/\i+n<=s.length/\L3 (s.drop i)=(L3 (s.drop (i+n))).map (· + n)) (fun x=>s.length-x.toNat) ⟨0,rfl,by omega,by simp⟩ (by omega) ?_
rintro x rec ⟨n,rfl,hn,he⟩ ih
by_cases hl:i+n<s.length
refine Zb (fun _=>?_) fun h=>absurd (by omega) h
let ⟨x,hc,hd,hh⟩:=KN hl
rw [hd] at he
have hu:L3 (x::s.drop (i+n+1))=if stop x (s.drop (i+n+1)) then some 0 else if halt x (s.drop (i+n+1)) then none else (L3 (s.drop (i+n+1))).map (· + 1):=rfl
rw [hu] at he
have a91:=PT s [91,91] (i+n) (by omega) h
have a93:=PT s [93,93] (i+n) (by omega) h
rw [hd] at a91 a93
refine Zt (fun q=>(stop x (s.drop (i+n+1))->Tot (q true) fun z=>z=F8 s i)/\(¬ stop x (s.drop (i+n+1))->Tot (q false) fun z=>z=F8 s i)) ⟨fun hs=>Zj (fun _=>?_) nofun,fun hs=>Zj nofun fun _=>?_⟩ fun k hk=>?_
rw [if_pos hs] at he
refine Za (G8 s i (i+n) (by omega) (by omega)) (Zd ?_)
unfold F8
rw [he]
simp only [Yo,YY]
rw [show (s.take (i+n)).drop i=(s.drop i).take n by rw [KX];congr 1;omega]
rw [if_neg hs] at he
refine Zt (fun q=>(halt x (s.drop (i+n+1))->Tot (q true) fun z=>z=F8 s i)/\(¬ halt x (s.drop (i+n+1))->Tot (q false) fun z=>z=F8 s i)) ⟨fun hs=>Zj (fun _=>Zd ?_) nofun,fun hs=>Zj nofun fun _=>?_⟩ fun k2 hk2=>?_
rw [if_pos hs] at he
unfold F8
rw [he]
rfl
rw [if_neg hs] at he
rw [ZH]
refine ih _ ⟨n+1,by omega,by omega,?_⟩ (by omega)
rw [he,Option.map_map,show i+(n+1)=i+n+1 by omega]
congr 1
funext m
simp only [Function.comp]
omega
refine Za (BF hc) (Zb (fun h=>hk2.1 (.inl ((u8i (k:=10) (n:=10) rfl).1 h))) fun h10=>Za a91 ?_)
by_cases h91:x=91
rw [pD 91 x _ h91]
by_cases h2:(s.drop (i+n+1)).head? = some 91
rw [Yh h2]
exact hk2.1 (.inr ⟨h91,h2⟩)
rw [Yf h2]
refine hk2.2 ?_
rintro (h | ⟨_,h⟩)
exact h10 ((u8i (k:=10) (n:=10) rfl).2 h)
exact h2 h
rw [pE _ h91]
refine hk2.2 ?_
rintro (h | ⟨h,_⟩)
exact h10 ((u8i (k:=10) (n:=10) rfl).2 h)
exact h91 h
refine Za (BF hc) (Zb (fun h=>hk.1 (.inl ((u8i (k:=124) (n:=124) rfl).1 h))) fun h124=>Za a93 ?_)
by_cases h93:x=93
rw [pD 93 x _ h93]
by_cases h2:(s.drop (i+n+1)).head? = some 93
rw [Yh h2]
exact hk.1 (.inr ⟨h93,h2⟩)
rw [Yf h2]
refine hk.2 ?_
rintro (h | ⟨_,h⟩)
exact h124 ((u8i (k:=124) (n:=124) rfl).2 h)
exact h2 h
rw [pE _ h93]
refine hk.2 ?_
rintro (h | ⟨h,_⟩)
exact h124 ((u8i (k:=124) (n:=124) rfl).2 h)
exact h93 h
refine Zb (fun h=>absurd h (by omega)) fun _=>Zd ?_
have hnil:s.drop (i+n) = []:=YI (by omega)
rw [hnil] at he
unfold F8
rw [he]
rfl}
def BB (t:Q3 Q4):Q3 Q4:=if 0<=Lib.index t [35] then t.take (Lib.index t [35]).toNat else t
theorem XI (t:Q3 Q4):(BB t).length<=t.length:=by{
unfold BB
split
rw [YE];omega
exact Yn _}
theorem eW (t:Q3 Q4) (h:t.length<=1000000):JE (bs t) ⟨#[35]⟩=some (bs (BB t)):=by{
refine ZK ?_
unfold JE
refine Za (WV t [35] 0 (by simp) (by decide) (YJ _) h) ?_
unfold K9 BB
rw [MM]
have hle:=Lib.index_le t [35]
have hge:=Lib.index_ge t [35]
generalize Lib.index t [35]=q at hle hge ⊢
by_cases hq:q<0
have e1:(if q<0 then (-1:Int) else ((0:Nat):Int)+q) = -1:=if_pos hq
have e2:(if 0<=q then t.take q.toNat else t)=t:=if_neg (by omega)
rw [e1,e2]
exact Zb (fun h=>absurd h (by decide)) fun _=>Zd rfl
have e1:(if q<0 then (-1:Int) else ((0:Nat):Int)+q)=((0:Nat):Int)+q:=if_neg hq
have e2:(if 0<=q then t.take q.toNat else t)=t.take q.toNat:=if_pos (by omega)
rw [e1,e2]
refine Zb (fun _=>?_) fun h=>absurd (by omega) h
rw [show ((0:Nat):Int)+q=(q.toNat:Int) by omega]
exact Za (G8 t 0 q.toNat (YJ _) (by omega)) (Zd (by rw [MM]))}
theorem XJ (t:Q3 Q4) (h:t.length<=300000):NE (bs t)=some (BI (BB t)):=by{
refine ZK ?_
unfold NE
have z:(bs t).size=t.length:=rfl
have hc:strings_Cut (bs t) ⟨#[35]⟩=some (bs (Lib.cut t [35]).1,bs (Lib.cut t [35]).2.1,(Lib.cut t [35]).2.2):=by
 unfold strings_Cut
 rw [if_pos (by omega)]
 rfl
have e1:(Lib.cut t [35]).1=BB t:=by
 unfold Lib.cut BB
 split<;>rfl
refine Za hc ?_
rw [e1]
exact Za (ZnB _ (YX (XI t) h)) (Zd rfl)}
def GA (t:Q3 Q4):Bool:=([58]:Q3 Q4).isPrefixOf (t.dropWhile cutU.contains)
theorem pG (c:Q4):cutU.contains c=true↔c=32\/c=95\/c=9:=by{
unfold cutU
simp
constructor
rintro (h | h | h)<;>simp [h]
rintro (h | h | h)<;>simp [h]}
theorem ZzA (t:Q3 Q4) (h:t.length<=1000000):∃ n:Nat,PK (bs t) true=some (n:Int)/\n<=t.length/\t.drop n=t.dropWhile cutU.contains:=by{
have z:(bs t).size=t.length:=rfl
have:Tot (PK (bs t) true) fun x=>∃ n:Nat,x=(n:Int)/\n<=t.length/\t.drop n=t.dropWhile cutU.contains:=by
 unfold PK
 refine ZF (fun x=>∃ n:Nat,x=(n:Int)/\n<=t.length/\t.dropWhile cutU.contains=(t.drop n).dropWhile cutU.contains) (fun x=>t.length-x.toNat) ⟨0,rfl,YJ _,rfl⟩ (by omega) ?_
 rintro x rec ⟨n,rfl,hn,he⟩ ih
 refine Zt (fun q=>((∃ c l,t.drop n=c::l/\cutU.contains c=true)->Tot (q true) fun x=>∃ n:Nat,x=(n:Int)/\n<=t.length/\t.drop n=t.dropWhile cutU.contains)/\((t.drop n).dropWhile cutU.contains=t.drop n->Tot (q false) fun x=>∃ n:Nat,x=(n:Int)/\n<=t.length/\t.drop n=t.dropWhile cutU.contains)) ⟨fun ⟨c,l,h1,h2⟩=>Zj (fun _=>?_) nofun,fun h1=>Zj nofun fun _=>Zd ⟨n,rfl,hn,by rw [he,h1]⟩⟩ fun k hk=>?_
 have hlt:n<t.length:=by
  have:(t.drop n).length=l.length+1:=by rw [h1];rfl
  rw [Yx] at this
  omega
 rw [ZH]
 refine ih _ ⟨n+1,by omega,hlt,?_⟩ (by omega)
 rw [he,h1,O8 h2,<- JN,h1]
 rfl
 by_cases hlt:n<t.length
 let ⟨c,hc,hd,_⟩:=KN hlt
 refine Zb (fun _=>?_) fun h=>absurd (by omega) h
 have yes:(c=32\/c=95\/c=9)->Tot (k true) _:=fun h=>hk.1 ⟨c,_,hd,(pG c).2 h⟩
 refine Za (BF hc) (Zb (fun h=>yes (.inl ((u8i (k:=32) (n:=32) rfl).1 h))) fun h32=>?_)
 refine Za (BF hc) (Zb (fun h=>yes (.inr (.inl ((u8i (k:=95) (n:=95) rfl).1 h)))) fun h95=>?_)
 refine Zj (fun _=>Za (BF hc) ?_) nofun
 by_cases h9:c=9
 rw [Yh ((u8i (k:=9) (n:=9) rfl).2 h9)]
 exact yes (.inr (.inr h9))
 rw [Yf fun h=>h9 ((u8i (k:=9) (n:=9) rfl).1 h)]
 refine hk.2 ?_
 rw [hd,O9]
 intro hh
 rcases (pG c).1 hh with h | h | h
 exact h32 ((u8i (k:=32) (n:=32) rfl).2 h)
 exact h95 ((u8i (k:=95) (n:=95) rfl).2 h)
 exact h9 h
 refine Zb (fun h=>absurd h (by omega)) fun _=>hk.2 ?_
 rw [YI (by omega)]
 rfl
obtain ⟨_,h1,n,rfl,h2,h3⟩:=this
exact ⟨n,h1,h2,h3⟩}
theorem Zyl (t:Q3 Q4) (h:t.length<=1000000):TW (bs t)=some (GA t):=by{
let ⟨n,h1,h2,h3⟩:=ZzA t h
have z:(bs t).size=t.length:=rfl
refine ZK ?_
unfold TW
refine Za h1 (Zt (fun q=>∀ b,b=GA t->Tot (q b) fun z=>z=GA t) (fun b hb=>Zd hb) fun k hk=>?_)
unfold GA at hk ⊢
rw [<- h3] at hk ⊢
by_cases hlt:n<t.length
let ⟨c,hc,hd,_⟩:=KN hlt
refine Zb (fun _=>Za (BF hc) (hk _ ?_)) fun h=>absurd (by omega) h
rw [hd]
show decide ((c.toNat:Int)=58)=((58:Q4) == c&&true)
rw [MO,JR]
exact decide_eq_decide.2 (u8i (k:=58) (n:=58) rfl)
refine Zb (fun h=>absurd h (by omega)) fun _=>hk _ ?_
rw [YI (by omega)]
rfl}
theorem Zwj (t:Q3 Q4):((LV (bs t) ⟨#[9,32,95]⟩).bind fun r60=>ZV r60 ⟨#[58]⟩)=some (GA t):=by
 unfold LV
 rw [if_neg (by decide),if_pos rfl]
 exact IJ (t.dropWhile cutU.contains) [58]
def DX (t:Q3 Q4):Q3 Q4:=(FG cutW.contains t).dropWhile cutW.contains
theorem eX (t:Q3 Q4) (h:t.length<=1000000):PY (bs t)=some (bs (DX t)):=by{
have z:(bs t).size=t.length:=rfl
have e:TJ (bs t) ⟨#[9,10,13,32]⟩=some (DW cutW (EX cutW (bs t))):=by
 unfold TJ
 rw [if_pos ⟨by omega,rfl⟩]
have e2:DW cutW (EX cutW (bs t))=bs (DX t):=by
 unfold DX
 rw [<- S0]
 rfl
unfold PY
rw [e,e2]
rfl}
theorem pH (c:Q4):PM (c.toNat:Int)=some (cutW.contains c):=by{
refine ZK ?_
unfold PM
have hi:cutW.contains c=true↔c=9\/c=10\/c=13\/c=32:=by unfold cutW;simp
refine Zt (fun q=>∀ b,b=cutW.contains c->Tot (q b) fun z=>z=cutW.contains c) (fun b hb=>Zd hb) fun k hk=>?_
have yes:(c=9\/c=10\/c=13\/c=32)->Tot (k true) fun z=>z=cutW.contains c:=fun h=>hk true (hi.2 h).symm
refine Zb (fun h=>yes (.inl ((u8i (k:=9) (n:=9) rfl).1 h))) fun h9=>Zb (fun h=>yes (.inr (.inl ((u8i (k:=10) (n:=10) rfl).1 h)))) fun h10=>Zb (fun h=>yes (.inr (.inr (.inl ((u8i (k:=13) (n:=13) rfl).1 h))))) fun h13=>?_
by_cases h32:c=32
rw [Yh ((u8i (k:=32) (n:=32) rfl).2 h32)]
exact yes (.inr (.inr (.inr h32)))
rw [Yf fun h=>h32 ((u8i (k:=32) (n:=32) rfl).1 h)]
refine hk false ?_
cases hb:cutW.contains c with
| false=>rfl
| true=>
  rcases hi.1 hb with h | h | h | h
  exact absurd ((u8i (k:=9) (n:=9) rfl).2 h) h9
  exact absurd ((u8i (k:=10) (n:=10) rfl).2 h) h10
  exact absurd ((u8i (k:=13) (n:=13) rfl).2 h) h13
  exact absurd h h32}
theorem pI (p:Q4->Bool) (l:Q3 Q4) (c:Q4):FG p (l ++ [c])=if p c=true then FG p l else l ++ [c]:=by{
rw [<- S0,OB,List.reverse_singleton,Z5]
by_cases h:p c=true
rw [O8 h,S0,if_pos h]
rw [O9 h,if_neg h]
simp}
theorem pJ (t:Q3 Q4) (h:t.length<=1000000):PN (bs t)=some (bs (DX t)):=by{
refine ZK ?_
unfold PN
refine ZF (fun x=>∃ u:Q3 Q4,x=bs u/\u.length<=t.length/\u.dropWhile cutW.contains=t.dropWhile cutW.contains) (fun x=>x.size) ⟨t,rfl,Yn _,rfl⟩ (by have:(bs t).size=t.length:=rfl;omega) ?_
rintro x rec ⟨u,rfl,hu,he⟩ ih
have z:(bs u).size=u.length:=rfl
refine Zt (fun q=>((∃ c l,u=c::l/\cutW.contains c=true)->Tot (q true) fun z=>z=bs (DX t))/\(u.dropWhile cutW.contains=u->Tot (q false) fun z=>z=bs (DX t))) ⟨fun ⟨c,l,h1,h2⟩=>Zj (fun _=>?_) nofun,fun h1=>Zj nofun fun _=>?_⟩ fun k hk=>?_
subst h1
rw [O8 h2] at he
refine Za (EV (c::l) 1 (by simp)) (ih _ ⟨l,rfl,by simp at hu;omega,he⟩ ?_)
show l.length<(c::l).length
simp
have et:FG cutW.contains u=DX t:=by
 unfold DX
 rw [gL,<- he,h1]
refine ZF (fun x=>∃ v:Q3 Q4,x=bs v/\v.length<=u.length/\FG cutW.contains v=FG cutW.contains u) (fun x=>x.size) ⟨u,rfl,Yn _,rfl⟩ (by omega) ?_
rintro x rec2 ⟨v,rfl,hv,hev⟩ ih2
have zv:(bs v).size=v.length:=rfl
refine Zt (fun q=>((∃ l c,v=l ++ [c]/\cutW.contains c=true)->Tot (q true) fun z=>z=bs (DX t))/\(FG cutW.contains v=v->Tot (q false) fun z=>z=bs (DX t))) ⟨fun ⟨l,c,h1,h2⟩=>Zj (fun _=>?_) nofun,fun h1=>Zj nofun fun _=>Zd (by rw [<- et,<- hev,h1])⟩ fun k hk=>?_
subst h1
rw [Yb,YC] at hv
have hlen:(bs (l ++ [c])).size=l.length+1:=by rw [zv];simp
rw [hlen,ZH,show ((l.length+1:Nat):Int)-1=(l.length:Int) by omega]
refine Za (G8 (l ++ [c]) 0 l.length (YJ _) (by simp)) (ih2 _ ⟨l,by rw [MN];rfl,by omega,?_⟩ ?_)
rw [<- hev,pI,if_pos h2]
show ((l ++ [c]).take l.length).length<_
rw [MN,hlen]
omega
by_cases hv0:v = []
subst hv0
exact Zb (fun h=>absurd h (by decide)) fun _=>hk.2 rfl
obtain ⟨l,c,rfl⟩:∃ l c,v=l ++ [c]:=⟨v.dropLast,v.getLast hv0,(Z3 hv0).symm⟩
rw [Yb,YC] at hv
have hlen:(bs (l ++ [c])).size=l.length+1:=by rw [zv];simp
rw [hlen,ZH,show ((l.length+1:Nat):Int)-1=(l.length:Int) by omega]
refine Zb (fun _=>?_) fun h=>absurd (by omega) h
refine Za (BF (c:=c) (by simp)) (Za (pH c) ?_)
cases hb:cutW.contains c with
| true=>exact hk.1 ⟨l,c,rfl,hb⟩
| false=>exact hk.2 (by rw [pI,if_neg (by rw [hb];decide)])
cases u with
| nil=>exact Zb (fun h=>absurd h (by decide)) fun _=>hk.2 rfl
| cons c l=>
  refine Zb (fun _=>?_) fun h=>absurd (by rw [z,Yr];omega) h
  refine Za (BF (L:=c::l) (n:=0) rfl) (Za (pH c) ?_)
  cases hb:cutW.contains c with
  | true=>exact hk.1 ⟨c,l,rfl,hb⟩
  | false=>exact hk.2 (by rw [O9 (by rw [hb];decide)])}
def MB:Q3 Q4->Q1 | []=>⟨#[]⟩ | c::l=>if c=124 then (if Lib.index l [93,93]<0 then ⟨#[]⟩ else bs (DX (l.take (Lib.index l [93,93]).toNat))) else ⟨#[]⟩
theorem pK (c:Q4) (l:Q3 Q4):MB (c::l)=if c=124 then (if Lib.index l [93,93]<0 then ⟨#[]⟩ else bs (DX (l.take (Lib.index l [93,93]).toNat))) else ⟨#[]⟩:=rfl
theorem ZAr (c:Q4) (l:Q3 Q4) (h:(c::l).length<=1000000):Q0 (bs (c::l))=some (MB (c::l)):=by{
refine ZK ?_
unfold Q0
rw [pK]
rw [Yr] at h
have z:(bs l).size=l.length:=rfl
refine Za (BF (L:=c::l) (n:=0) rfl) (CK (fun hc=>?_) fun hc=>?_)
rw [if_neg fun e=>hc ((u8i (k:=124) (n:=124) rfl).2 e)]
exact Zd rfl
rw [if_pos ((u8i (k:=124) (n:=124) rfl).1 hc)]
have hcut:strings_Cut (bs l) ⟨#[93,93]⟩=some (bs (Lib.cut l [93,93]).1,bs (Lib.cut l [93,93]).2.1,(Lib.cut l [93,93]).2.2):=by
 unfold strings_Cut
 rw [if_pos (by omega)]
 rfl
refine Za (EV (c::l) 1 (by simp)) (Za hcut ?_)
by_cases hi:0<=Lib.index l [93,93]
have e1:Lib.cut l [93,93]=(l.take (Lib.index l [93,93]).toNat,l.drop ((Lib.index l [93,93]).toNat+2),true):=by
 unfold Lib.cut
 rw [if_pos hi]
 rfl
have e2:(if Lib.index l [93,93]<0 then (⟨#[]⟩:Q1) else bs (DX (l.take (Lib.index l [93,93]).toNat)))=bs (DX (l.take (Lib.index l [93,93]).toNat)):=if_neg (by omega)
rw [e1,e2]
refine Zj nofun fun _=>Za (eX _ (by rw [YE];omega)) (Zd rfl)
have e1:Lib.cut l [93,93]=(l,[],false):=by
 unfold Lib.cut
 rw [if_neg hi]
have e2:(if Lib.index l [93,93]<0 then (⟨#[]⟩:Q1) else bs (DX (l.take (Lib.index l [93,93]).toNat)))=⟨#[]⟩:=if_pos (by omega)
rw [e1,e2]
exact Zj (fun _=>Zd rfl) nofun}
theorem ZAs (s:Q3 Q4) (k:Nat) (hk:k<s.length) (h:s.length<=1000000):TX (bs s) (k:Int)=some (MB (s.drop k)):=by{
let ⟨c,hc,hd,_⟩:=KN hk
refine ZK ?_
unfold TX
rw [hd,pK]
refine Za (BF hc) (CK (fun hc=>?_) fun hc=>?_)
rw [if_neg fun e=>hc ((u8i (k:=124) (n:=124) rfl).2 e)]
exact Zd rfl
rw [if_pos ((u8i (k:=124) (n:=124) rfl).1 hc)]
have hw:w64 ((k:Int)+1)=((k+1:Nat):Int):=by rw [ZH];omega
rw [hw]
refine Za (WV s [93,93] (k+1) (by simp) (by decide) hk h) ?_
unfold K9
have hle:=Lib.index_le (s.drop (k+1)) [93,93]
rw [Yx] at hle
generalize Lib.index (s.drop (k+1)) [93,93]=q at hle ⊢
by_cases hq:q<0
rw [if_pos hq,if_pos hq]
exact Zb (fun _=>Zd rfl) fun h=>absurd (by decide) h
rw [if_neg hq,if_neg hq]
refine Zb (fun h=>absurd h (by omega)) fun _=>?_
rw [show ((k+1:Nat):Int)+q=((k+1+q.toNat:Nat):Int) by omega]
refine Za (G8 s (k+1) (k+1+q.toNat) (by omega) (by omega)) ?_
rw [show (s.take (k+1+q.toNat)).drop (k+1)=(s.drop (k+1)).take q.toNat by rw [KX];congr 1;omega]
exact Za (pJ _ (by rw [YE,Yx];omega)) (Zd rfl)}
end
namespace VL
open Go.RowKit Go.Sort
theorem Zlx {P:Program} [WInv P] {f g:FuncId} {E k:Nat} {els els':Q3 (Q3 PV)} (hg:isGo P f=true) (len:∀ e ∈ els',e.length=k) (pure:∀ e ∈ els',∀ p ∈ e,p.pure=true) (plain:(BU els.flatten).isSome=true)
  (calls:∀ (W:World) (v:Value) (vs:Q3 Value),W.ownsRow 0 E k v els.length vs->BU els.flatten=some vs->Calls P f #[v,.func (.func g) #[] #[]] W fun e W'=>
   ∃ vs',e = .returned (.tuple #[])/\BU els'.flatten=some vs'/\W'.ownsRow 0 E k v els'.length vs'/\Gr (fun b=>blk v=some b) W W'):ContractR P f [.fn g []] E k els (.tup []) els':=by{
refine ⟨hg,fun x vs hpre hinv=>?_⟩
have hsz:2=vs.size:=hpre.size
obtain ⟨v,u,rfl⟩:∃ v u,vs = #[v,u]:=by
 obtain ⟨l⟩:=vs
 match l,hsz with
 | [v,u],_=>exact ⟨v,u,rfl⟩
have r0:=hpre.rep 0 _ v rfl rfl
have r1:=hpre.rep 1 _ u rfl rfl
obtain ⟨hG,hO⟩:=hpre.ob
obtain ⟨h1,h2,ws,h3,h4,h5⟩:=hO
have hρ:x.ρ (0,0)=v:=by cases r0 with | row _ _ A n c _ hvv=>exact hvv
obtain rfl:u = .func (.func g) #[] #[]:=by
 cases r1 with
 | fn _ _ cs hl _=>
   have:cs = #[]:=Array.eq_empty_of_size_eq_zero hl.symm
   rw [this]
rw [hρ] at h3
obtain ⟨vs0,hp0⟩:=RJ.1 plain
have hvs:ws=vs0:=aX _ hp0 ws (by rw [BM els h1];exact h3.1.symm) h4
rw [<- hvs] at hp0
refine (calls x.W v ws h3 hp0).mono ?_
rintro e' W' ⟨vs',rfl,hp',hown',hgr⟩
have hnF:∀ b o,x.F b o->¬ blk v=some b:=fun b o hF hb=>by
 have:=((h5 b (by rw [hρ];exact hb)).2 o hF).1
 cases this
have hD:∀ b,¬ Dr x b->¬ blk v=some b:=fun b hb e=>hb (by unfold Dr;rw [hρ];exact e)
refine ⟨⟨x.G,x.F,W',x.ρ⟩,.tuple #[],rfl,rfl,⟨⟨fun _ h=>⟨h,rfl⟩,fun _ _ h=>h,fun b o w hF hw=>(World.cell?_of_block (hgr.block b (hpre.flt b o hF) (hnF b o hF))).trans hw⟩,⟨hgr.os,hgr.tape,hgr.output,hgr.size,fun b hb hn=>hgr.block b hb (hD b hn)⟩,fun _ _ h=>.inl h,fun b o hb=>YU (hpre.flt b o hb) hgr.size,.tup [] #[] rfl (fun i p v hp=>by simp at hp),⟨len,pure,vs',?_,fun m p w hm hw=>?_,fun b hb=>⟨(h5 b hb).1,fun o ho=>absurd ((h5 b hb).2 o ho).1 (by simp)⟩⟩⟩⟩
show W'.ownsRow 0 E k (x.ρ (0,0)) els'.length vs'
rw [hρ]
exact hown'
obtain ⟨w2,h6,h7⟩:=SN hp' hm
rw [hw] at h6
cases h6
rw [<- h7]
exact V7 _ w}
section
variable {α:Type} (le:α->α->Bool)
def BX (x:α):Q3 α->Q3 α | []=>[x] | y::l=>if le x y=true then x::y::l else y::BX x l
def AL:Q3 α->Q3 α | []=>[] | x::l=>BX le x (AL l)
theorem eY (x:α):∀ l:Q3 α,(BX le x l).Perm (x::l)
 | []=>.refl _
 | y::l=>by
   unfold BX
   split
   exact .refl _
   exact ((eY x l).cons y).trans (.swap x y l)
theorem TZ:∀ l:Q3 α,(AL le l).Perm l
 | []=>.refl _
 | x::l=>(eY le x _).trans ((TZ l).cons x)
variable {le}
theorem pL (ht:∀ a b c,le a b=true->le b c=true->le a c=true) (hl:∀ a b,(le a b||le b a)=true) (x:α):∀ l:Q3 α,l.Pairwise (fun a b=>le a b=true)->(BX le x l).Pairwise fun a b=>le a b=true
 | [],_=>by simp [BX]
 | y::l,h=>by
   unfold BX
   have hy:=YV.1 h
   split
   rename_i hx
   exact YV.2 ⟨fun z hz=>by
    rcases Ys.1 hz with rfl | hz
    exact hx
    exact ht _ _ _ hx (hy.1 z hz),h⟩
   rename_i hx
   refine YV.2 ⟨fun z hz=>?_,pL ht hl x l hy.2⟩
   rcases Ys.1 ((eY le x l).mem_iff.1 hz) with rfl | hz
   have:=hl z y
   simp only [Bool.or_eq_true] at this
   exact this.resolve_left hx
   exact hy.1 z hz
theorem QO (ht:∀ a b c,le a b=true->le b c=true->le a c=true) (hl:∀ a b,(le a b||le b a)=true):∀ l:Q3 α,(AL le l).Pairwise fun a b=>le a b=true
 | []=>.nil
 | x::l=>pL ht hl x _ (QO ht hl l)
theorem ZoV (ht:∀ a b c,le a b=true->le b c=true->le a c=true) (hl:∀ a b,(le a b||le b a)=true) (ha:∀ a b,le a b=true->le b a=true->a=b) (l:Q3 α):l.mergeSort le=AL le l:=
 List.Perm.eq_of_pairwise (fun _ _ _ _ h k=>ha _ _ h k) (List.pairwise_mergeSort ht hl l) (QO ht hl l) ((List.mergeSort_perm l le).trans (TZ le l).symm)
end
def leC {α:Type} (cf:α->α->Int) (x y:α):Bool:=!ltOf cf y x
theorem eZ {α:Type} {cf:α->α->Int} (hO:SWO (ltOf cf)) (a b c:α) (h:leC cf a b=true) (k:leC cf b c=true):leC cf a c=true:=by
 unfold leC at *
 simp only [I5] at *
 exact hO.ntrans _ _ _ k h
theorem fA {α:Type} {cf:α->α->Int} (hO:SWO (ltOf cf)) (a b:α):(leC cf a b||leC cf b a)=true:=by{
unfold leC
cases h:ltOf cf b a with
| false=>rfl
| true=>
  cases h2:ltOf cf a b with
  | false=>rfl
  | true=>
    have:=hO.trans _ _ _ h h2
    rw [hO.irrefl] at this
    cases this}
theorem pM {α:Type} {cf:α->α->Int} (hT:∀ x y,ltOf cf x y=false->ltOf cf y x=false->x=y) (a b:α) (h:leC cf a b=true) (k:leC cf b a=true):a=b:=by
 unfold leC at *
 simp only [I5] at *
 exact hT a b k h
theorem Zmn {α:Type} [Inhabited α] (enc:α->Q3 Value) (k:Nat) (hk:∀ x,(enc x).length=k) {w:World} {g cap n:Nat} {cur:Array Value} {E:TypeId} {M:Q3 α} (os:Array Obj) (hb:w.heap[g]? = some (.cells cur E (0,0))) (h1:M.length<=cap) (h2:cap<=maxLen) (h3:cur.size=cap * k) :
  (sortWorldK enc k w g 0 n M.toArray os).ownsRow 0 E k (.slice (some ⟨g,0,none⟩) M.length cap) M.length (M.flatMap enc)/\Gr (fun b=>blk (.slice (some ⟨g,0,none⟩) M.length cap)=some b) w (sortWorldK enc k w g 0 n M.toArray os):=by{
obtain ⟨o1,o2⟩:=zH (n:=n) enc k hk (M:=M) hb h1 h2 h3
have hg:g<w.heap.size:=(GV.1 hb).1
have hold:∀ b,b<(putRowK enc k (Sort.ahead w n) g 0 M.toArray).heap.size->(sortWorldK enc k w g 0 n M.toArray os).heap[b]? = (putRowK enc k (Sort.ahead w n) g 0 M.toArray).heap[b]?:=fun b hb=>by
 show (_++os)[b]? = _
 rw [Array.getElem?_append_left hb]
have hsz:w.heap.size<=(putRowK enc k (Sort.ahead w n) g 0 M.toArray).heap.size:=o2.size
refine ⟨⟨o1.1,?_⟩,o2.os,o2.tape,o2.output,YX hsz (by show _<=(_++os).size;simp),fun b hb hn=>(hold b (YU hb hsz)).trans (o2.block b hb hn)⟩
rcases o1.2 with h | ⟨b,c,cu,q1,q2,q3,q4⟩
exact .inl h
injection q1 with q5 q6 q7
injection q5 with q5
injection q5 with q5
subst q5 q7
exact .inr ⟨g,cap,cu,rfl,q2,by rw [hold g (YU hg hsz)];exact q3,q4⟩}
theorem Zsf {P:Program} [WInv P] {α:Type} [Inhabited α] {f g:FuncId} {E k:Nat} {cs:α->Q3 PV} {enc:α->Q3 Value} (hg:isGo P f=true) (hpl:∀ x,BU (cs x)=some (enc x)) (hk:∀ x,(enc x).length=k) (hc:∀ x,(cs x).length=k) (hp:∀ x,∀ p ∈ cs x,p.pure=true) {cf:α->α->Int} (hO:SWO (ltOf cf)) (hT:∀ x y,ltOf cf x y=false->ltOf cf y x=false->x=y)
  (hnone:∀ (cap:Nat) (W:World) (A:Q2 Addr),Calls P f #[.slice A 0 cap,.func (.func g) #[] #[]] W fun e w'=>e = .returned (.tuple #[])/\w'=W)
  (hsort:∀ (blk off cap:Nat) (d:Array α) (w:World),HoldsK enc k w blk off d->blk<w.heap.size->d.size<4611686018427387904->Calls P f #[.slice (some ⟨blk,off,none⟩) d.size cap,.func (.func g) #[] #[]] w fun e w'=>e = .returned (.tuple #[])/\∃ n os,w'=sortWorldK enc k w blk off n (d.toList.mergeSort fun x y=>!(ltOf cf) y x).toArray os)
  (M:Q3 α) (hM:M.length<4611686018427387904):ContractR P f [.fn g []] E k (M.map cs) (.tup []) ((AL (leC cf) M).map cs):=by{
refine Zlx hg (fun e he=>?_) (fun e he p hpp=>?_) (by rw [SY hpl];rfl) fun W v vs hown hvs=>?_
obtain ⟨x,_,rfl⟩:=Yy.1 he
exact hc x
obtain ⟨x,_,rfl⟩:=Yy.1 he
exact hp x p hpp
rw [SY hpl] at hvs
cases hvs
rw [Yv] at hown
have hlen:(AL (leC cf) M).length=M.length:=(TZ _ M).length_eq
rcases hown.2 with ⟨hn,h0⟩ | ⟨b,cap,cur,hv,hB,hh,h1,h2,h3,ht⟩
obtain rfl:M = []:=Yl h0
subst hn
refine (hnone 0 W none).mono ?_
rintro e w' ⟨rfl,rfl⟩
exact ⟨[],rfl,rfl,World.ownsRow_nil _ _ _ _,Gr.refl _ _⟩
subst hv
have hH:=zG enc k hk hh ht
have:=hsort b 0 cap M.toArray W hH (GV.1 hh).1 (by simpa using hM)
refine Calls.mono this ?_
rintro e w' ⟨rfl,n,os,rfl⟩
rw [show M.toArray.toList=M from rfl,ZoV (le:=fun x y=>!(ltOf cf) y x) (eZ hO) (fA hO) (pM hT)]
obtain ⟨o1,o2⟩:=Zmn (n:=n) enc k hk (M:=AL (leC cf) M) os hh (by omega) h2 h3
rw [hlen] at o1 o2
refine ⟨(AL (leC cf) M).flatMap enc,rfl,SY hpl _,?_,?_⟩
rw [Yv,hlen]
exact o1
exact o2}
open Go.Sort
structure CmpLaws {α:Type} (c:α->α->Int):Prop where
 zero:∀ x y,c x y=0↔x=y
 neg:∀ x y,c x y<0↔0<c y x
 trans:∀ x y z,c x y<0->c y z<0->c x z<0
theorem CmpLaws.swo {α:Type} {c:α->α->Int} (h:CmpLaws c):SWO (ltOf c) where
 irrefl x:=by
  have:=(h.zero x x).2 rfl
  unfold ltOf
  rw [this]
  rfl
 trans x y z h1 h2:=by
  unfold ltOf at *
  simp only [YT] at *
  exact h.trans x y z h1 h2
 ntrans x y z h1 h2:=by
  unfold ltOf at *
  simp only [Z4] at *
  intro h3
  by_cases e1:x=y
  ·subst e1
   exact h2 h3
  by_cases e2:y=z
  ·subst e2
   exact h1 h3
  have n1:c y x<0:=(h.neg y x).2 (by have:¬ c x y=0:=fun e=>e1 ((h.zero x y).1 e)
                                     omega)
  have n2:c z y<0:=(h.neg z y).2 (by have:¬ c y z=0:=fun e=>e2 ((h.zero y z).1 e)
                                     omega)
  have n3:=h.trans z y x n2 n1
  have:=(h.neg x z).1 h3
  omega
theorem CmpLaws.tot {α:Type} {c:α->α->Int} (h:CmpLaws c) (x y:α) (h1:ltOf c x y=false) (h2:ltOf c y x=false):x=y:=by{
unfold ltOf at *
simp only [Z4] at *
have:=(h.neg y x).2
exact (h.zero x y).1 (by omega)}
def IP (a b:Int):Int:=if a=0 then b else a
theorem CmpLaws.lex {α β γ:Type} {c:β->β->Int} {d:γ->γ->Int} (hc:CmpLaws c) (hd:CmpLaws d) {f:α->β} {g:α->γ} (hi:∀ x y,f x=f y->g x=g y->x=y):CmpLaws fun x y=>IP (c (f x) (f y)) (d (g x) (g y)) where
 zero x y:=by
  unfold IP
  by_cases h:c (f x) (f y)=0
  ·rw [if_pos h]
   exact ⟨fun h2=>hi x y ((hc.zero _ _).1 h) ((hd.zero _ _).1 h2),fun h2=>by rw [h2];exact (hd.zero _ _).2 rfl⟩
  ·rw [if_neg h]
   exact ⟨fun h2=>absurd h2 h,fun h2=>absurd ((hc.zero _ _).2 (by rw [h2])) h⟩
 neg x y:=by
  unfold IP
  by_cases h:f x=f y
  ·rw [if_pos ((hc.zero _ _).2 h),if_pos ((hc.zero _ _).2 h.symm)]
   exact hd.neg _ _
  ·rw [if_neg (fun e=>h ((hc.zero _ _).1 e)),if_neg (fun e=>h ((hc.zero _ _).1 e).symm)]
   exact hc.neg _ _
 trans x y z:=by
  unfold IP
  by_cases h1:f x=f y
  ·rw [if_pos ((hc.zero _ _).2 h1),h1]
   by_cases h2:c (f y) (f z)=0
   ·rw [if_pos h2,if_pos h2]
    exact hd.trans _ _ _
   ·rw [if_neg h2,if_neg h2]
    exact fun _ h=>h
  ·rw [if_neg (fun e=>h1 ((hc.zero _ _).1 e))]
   by_cases h2:f y=f z
   ·rw [if_pos ((hc.zero _ _).2 h2),<- h2,if_neg (fun e=>h1 ((hc.zero _ _).1 e))]
    exact fun h _=>h
   ·rw [if_neg (fun e=>h2 ((hc.zero _ _).1 e))]
    intro h3 h4
    have h5:=hc.trans _ _ _ h3 h4
    rw [if_neg (by omega)]
    exact h5
theorem cmpInt_laws:CmpLaws Lib.compareInt where
 zero x y:=by
  unfold Lib.compareInt
  split
  ·omega
  ·split<;>omega
 neg x y:=by
  unfold Lib.compareInt
  split<;>split<;>(try split)<;>omega
 trans x y z:=by
  unfold Lib.compareInt
  intro h1 h2
  split at h1
  ·split at h2
   ·rw [if_pos (by omega)];decide
   ·split at h2<;>omega
  ·split at h1<;>omega
theorem pN:∀ a b:Q3 Q4,Lib.compareBytes a b=0↔a=b
 | [],[]=>by simp [Lib.compareBytes]
 | [],_::_=>by simp [Lib.compareBytes]
 | _::_,[]=>by simp [Lib.compareBytes]
 | a::l,b::m=>by
   unfold Lib.compareBytes
   split
   rename_i h
   refine Iff.intro (fun h2=>absurd h2 (by decide)) (fun h2=>?_)
   have h3:a=b:=(List.cons.inj h2).1
   rw [h3] at h
   exact absurd h (UInt8.lt_irrefl _)
   split
   rename_i h
   refine Iff.intro (fun h2=>absurd h2 (by decide)) (fun h2=>?_)
   have h3:a=b:=(List.cons.inj h2).1
   rw [h3] at h
   exact absurd h (UInt8.lt_irrefl _)
   rename_i h1 h2
   rw [pN l m]
   have:a=b:=aA (OG.1 h2) (OG.1 h1)
   rw [this]
   simp
theorem pO:∀ a b:Q3 Q4,Lib.compareBytes a b<0↔0<Lib.compareBytes b a
 | [],[]=>by simp [Lib.compareBytes]
 | [],_::_=>by simp [Lib.compareBytes]
 | _::_,[]=>by simp [Lib.compareBytes]
 | a::l,b::m=>by
   unfold Lib.compareBytes
   by_cases h:a<b
   rw [if_pos h,if_neg (fun h2=>UInt8.lt_irrefl _ (UInt8.lt_trans h h2)),if_pos h]
   decide
   rw [if_neg h]
   by_cases h2:b<a
   rw [if_pos h2,if_pos h2]
   decide
   rw [if_neg h2,if_neg h2,if_neg h]
   exact pO l m
theorem pP:∀ a b c:Q3 Q4,Lib.compareBytes a b<0->Lib.compareBytes b c<0->Lib.compareBytes a c<0
 | _,[],[],_,h2=>by simp [Lib.compareBytes] at h2
 | [],_,_::_,_,_=>by simp [Lib.compareBytes]
 | _::_,[],_,h1,_=>by simp [Lib.compareBytes] at h1
 | _,_::_,[],_,h2=>by simp [Lib.compareBytes] at h2
 | a::l,b::m,c::n,h1,h2=>by
   unfold Lib.compareBytes at *
   by_cases hab:a<b
   by_cases hbc:b<c
   rw [if_pos (UInt8.lt_trans hab hbc)];decide
   rw [if_neg hbc] at h2
   by_cases hcb:c<b
   rw [if_pos hcb] at h2;exact absurd h2 (by decide)
   have:b=c:=aA (OG.1 hcb) (OG.1 hbc)
   rw [if_pos (by rw [<- this];exact hab)];decide
   rw [if_neg hab] at h1
   by_cases hba:b<a
   rw [if_pos hba] at h1;exact absurd h1 (by decide)
   have e:a=b:=aA (OG.1 hba) (OG.1 hab)
   subst e
   rw [if_neg hba] at h1
   by_cases hbc:a<c
   rw [if_pos hbc];decide
   rw [if_neg hbc] at h2 ⊢
   by_cases hcb:c<a
   rw [if_pos hcb] at h2;exact absurd h2 (by decide)
   rw [if_neg hcb] at h2 ⊢
   exact pP l m n h1 h2
theorem Zp2:CmpLaws fun a b:Q1=>Lib.compareBytes a.data.toList b.data.toList where
 zero x y:=by
  rw [pN]
  exact ⟨fun h=>by obtain ⟨⟨x⟩⟩:=x;obtain ⟨⟨y⟩⟩:=y;exact CC (fun l:Q3 Q4=>(⟨⟨l⟩⟩:Q1)) h,fun h=>by rw [h]⟩
 neg x y:=pO _ _
 trans x y z:=pP _ _ _
end VL
section
open VL
theorem pQ {α:Type} {lt:α->α->Prop} (asy:∀ a b,lt a b->¬ lt b a):∀ {l r:Q3 α},l.Pairwise lt->r.Pairwise lt->(∀ x,x ∈ l↔x ∈ r)->l=r
 | [],[],_,_,_=>rfl
 | [],y::r,_,_,h=>absurd ((h y).2 (Yi ..)) (by simp)
 | x::l,[],_,_,h=>absurd ((h x).1 (Yi ..)) (by simp)
 | x::l,y::r,hl,hr,h=>by
   obtain ⟨l1,l2⟩:=YV.1 hl
   obtain ⟨r1,r2⟩:=YV.1 hr
   have e:x=y:=by
    rcases Ys.1 ((h x).1 (Yi ..)) with e | hx
    ·exact e
    ·rcases Ys.1 ((h y).2 (Yi ..)) with e | hy
     ·exact e.symm
     ·exact absurd (l1 y hy) (asy _ _ (r1 x hx))
   subst e
   refine CC _ (pQ asy l2 r2 fun z=>⟨fun hz=>?_,fun hz=>?_⟩)
   ·rcases Ys.1 ((h z).1 (Yg _ hz)) with e | h
    ·subst e;exact absurd (l1 z hz) (asy _ _ (l1 z hz))
    ·exact h
   ·rcases Ys.1 ((h z).2 (Yg _ hz)) with e | h
    ·subst e;exact absurd (r1 z hz) (asy _ _ (r1 z hz))
    ·exact h
theorem pS {α:Type} {p:α->Bool} {y:α}:∀ l:Q3 α,y ∈ l.takeWhile p->p y=true
 | [],h=>by cases h
 | x::l,h=>by
   rw [List.takeWhile_cons] at h
   by_cases hx:p x=true
   rw [if_pos hx] at h
   rcases Ys.1 h with rfl | h
   exact hx
   exact pS l h
   rw [if_neg hx] at h
   cases h
section
variable {α κ:Type} [DecidableEq κ] {c:κ->κ->Int} {key:α->κ}
abbrev Asc (c:κ->κ->Int) (key:α->κ) (l:Q3 α):Prop:=l.Pairwise fun a b=>c (key a) (key b)<0
def DE (c:κ->κ->Int) (key:α->κ) (l:Q3 α) (x:α):Q3 α:=match l.dropWhile (fun y=>decide (c (key y) (key x)<0)) with | []=>l ++ [x] | y::b=>if key y=key x then l else l.takeWhile (fun y=>decide (c (key y) (key x)<0))++x::y::b
omit [DecidableEq κ] in
theorem Zyg (h:CmpLaws c) (a b:κ) (k:c a b<0):¬ c b a<0:=by
 have:=(h.neg a b).1 k
 omega
omit [DecidableEq κ] in
theorem fB (h:CmpLaws c) {a b:κ} (k:c a b<0):a≠b:=fun e=>by
 have:=(h.zero a b).2 e
 omega
theorem XK (h:CmpLaws c):∀ {l:Q3 α},Asc c key l->∀ e ∈ l,l.find? (fun x=>decide (key x=key e))=some e
 | [],_,e,h=>by cases h
 | y::l,hp,e,he=>by
   obtain ⟨h1,h2⟩:=YV.1 hp
   rw [EJ]
   rcases Ys.1 he with rfl | he
   rw [Yh rfl]
   rw [Yf (fB h (h1 e he))]
   exact XK h h2 e he
theorem pT (h:CmpLaws c) {l r:Q3 α} (hl:Asc c key l) (hr:Asc c key r) (e:∀ k,l.find? (fun x=>decide (key x=k))=r.find? (fun x=>decide (key x=k))):l=r:=by
 refine pQ (fun a b=>Zyg h _ _) hl hr fun x=>⟨fun hx=>?_,fun hx=>?_⟩
 exact UO ((e (key x)).symm.trans (XK h hl x hx))
 exact UO ((e (key x)).trans (XK h hr x hx))
theorem XL (c:κ->κ->Int) (key:α->κ) (l:Q3 α) (x:α):∃ A B,l=A++B/\(∀ y ∈ A,c (key y) (key x)<0)/\l.takeWhile (fun y=>decide (c (key y) (key x)<0))=A/\((B = []/\DE c key l x=l ++ [x])\/∃ y b,B=y::b/\¬ c (key y) (key x)<0/\((key y=key x/\DE c key l x=l)\/(¬ key y=key x/\DE c key l x=A++x::y::b))):=by{
refine ⟨l.takeWhile (fun y=>decide (c (key y) (key x)<0)),l.dropWhile (fun y=>decide (c (key y) (key x)<0)),(List.takeWhile_append_dropWhile ..).symm,fun y hy=>?_,rfl,?_⟩
exact FE (p:=c (key y) (key x)<0) (pS (p:=fun y=>decide (c (key y) (key x)<0)) l hy)
unfold DE
cases hd:l.dropWhile (fun y=>decide (c (key y) (key x)<0)) with
| nil=>exact .inl ⟨rfl,rfl⟩
| cons y b=>
  refine .inr ⟨y,b,rfl,fun hlt=>?_,?_⟩
  have:=List.head?_dropWhile_not (fun y=>decide (c (key y) (key x)<0)) l
  rw [hd] at this
  simp at this
  omega
  by_cases hq:key y=key x
  exact .inl ⟨hq,if_pos hq⟩
  exact .inr ⟨hq,if_neg hq⟩}
theorem Zyh (h:CmpLaws c) {l:Q3 α} (hl:Asc c key l) (x:α):Asc c key (DE c key l x):=by{
obtain ⟨A,B,rfl,hA,_,⟨rfl,e⟩ | ⟨y,b,rfl,hy,⟨hk,e⟩ | ⟨hk,e⟩⟩⟩:=XL c key l x
rw [e]
refine I3.2 ⟨hl,List.pairwise_singleton _ _,fun a ha b hb=>?_⟩
rw [YG.1 hb]
rw [YB] at ha
exact hA a ha
rw [e];exact hl
rw [e]
obtain ⟨p1,p2,p3⟩:=I3.1 hl
obtain ⟨q1,q2⟩:=YV.1 p2
have hxy:c (key x) (key y)<0:=by
 have h0:¬ c (key y) (key x)=0:=fun e=>hk ((h.zero _ _).1 e)
 exact (h.neg _ _).2 (by omega)
refine I3.2 ⟨p1,YV.2 ⟨fun z hz=>?_,p2⟩,fun a ha z hz=>?_⟩
rcases Ys.1 hz with rfl | hz
exact hxy
exact h.trans _ _ _ hxy (q1 z hz)
rcases Ys.1 hz with rfl | hz
exact hA a ha
exact p3 a ha z hz}
theorem Zwg (h:CmpLaws c) {l:Q3 α} (hl:Asc c key l) (x:α) (k:κ):(DE c key l x).find? (fun z=>decide (key z=k))=(l ++ [x]).find? (fun z=>decide (key z=k)):=by{
obtain ⟨A,B,rfl,hA,_,⟨rfl,e⟩ | ⟨y,b,rfl,hy,⟨hk,e⟩ | ⟨hk,e⟩⟩⟩:=XL c key l x
rw [e]
rw [e]
by_cases hx:key x=k
have:(A++y::b).find? (fun z=>decide (key z=k))=some y:=by
 have:=XK h hl y (by simp)
 rwa [hk,hx] at this
rw [RR (xs:=A++y::b),this]
rfl
refine Eq.trans ?_ List.find?_append.symm
simp [hx]
rw [e]
by_cases hx:key x=k
subst hx
have hn:A.find? (fun z=>decide (key z=key x))=none:=List.find?_eq_none.2 fun a ha=>by simp [fB h (hA a ha)]
obtain ⟨p1,p2,p3⟩:=I3.1 hl
obtain ⟨q1,q2⟩:=YV.1 p2
have hxy:c (key x) (key y)<0:=by
 have h0:¬ c (key y) (key x)=0:=fun e=>hk ((h.zero _ _).1 e)
 exact (h.neg _ _).2 (by omega)
have hb:b.find? (fun z=>decide (key z=key x))=none:=List.find?_eq_none.2 fun a ha=>by simp [(fB h (h.trans _ _ _ hxy (q1 a ha))).symm]
simp [RR,hn,hb,hk]
simp [RR,EJ,hx]}
theorem Zyi (l:Q3 α) (x:α):(DE c key l x).length<=l.length+1:=by{
obtain ⟨A,B,rfl,hA,_,⟨rfl,e⟩ | ⟨y,b,rfl,hy,⟨hk,e⟩ | ⟨hk,e⟩⟩⟩:=XL c key l x
rw [e];simp
rw [e];omega
rw [e];simp;omega}
theorem fC (h:CmpLaws c):∀ (xs l:Q3 α),Asc c key l->Asc c key (xs.foldl (DE c key) l)/\∀ k,(xs.foldl (DE c key) l).find? (fun z=>decide (key z=k))=(l++xs).find? (fun z=>decide (key z=k))
 | [],l,hl=>⟨hl,fun k=>by rw [YB];rfl⟩
 | x::xs,l,hl=>by
   obtain ⟨h1,h2⟩:=fC h xs (DE c key l x) (Zyh h hl x)
   refine ⟨h1,fun k=>(h2 k).trans ?_⟩
   rw [RR,Zwg h hl,<- RR,YM]
   rfl
theorem QP (xs:Q3 α):∀ l:Q3 α,(xs.foldl (DE c key) l).length<=l.length+xs.length:=by{
induction xs with
| nil=>intro l;exact Yn _
| cons x xs ih=>
  intro l
  have h1:=ih (DE c key l x)
  have h2:=Zyi (c:=c) (key:=key) l x
  simp only [List.foldl_cons,Yr]
  omega}
end
end
end Go.Proofs.YtmgfammllddkhaaGreatDoor
