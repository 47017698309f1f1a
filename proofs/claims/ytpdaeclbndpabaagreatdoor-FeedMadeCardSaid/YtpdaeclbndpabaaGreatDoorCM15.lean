/- Functions of the program as Lean functions. Written by -/
import Derived.Test.YtpdaeclbndpabaaGreatDoorCM03
set_option linter.unusedVariables false
set_option maxHeartbeats 4000000
set_option maxRecDepth 100000
namespace Go.Proofs.YtpdaeclbndpabaaGreatDoor
section
open VL
def ZiJ (p0:ByteArray):Option (List ByteArray):=ZE Zaq (fun f7 ((x36,x37,x38):Int×Int×(List ByteArray))=>if (decide (x37<(p0.size:Int))) then letk (fun (x50:Int) (x51:List ByteArray)=>f7 (x50,(w64 (x37+1)),x51)) fun k8=>(atS p0 x37).bind fun c52=>if (decide (c52=10)) then (Zff p0 x36 x37).bind fun l53=>(Zbo 16 x38 [l53]).bind fun l54=>k8 (w64 (x37+1)) l54 else k8 x36 x38 else (Zff p0 x36 (p0.size:Int)).bind fun l55=>(Zbo 16 x38 [l55]).bind fun l56=>(some l56:Option (List ByteArray))) (0,0,[])
theorem Zqa (p0:ByteArray) (r:List ByteArray) (h:ZiJ p0=some r):Zb Tryz.prog 128 [.str p0] (.sl (List.map csS r)):=by{
refine cF (fun r=>.sl (List.map csS r)) h mix Tryz.func128 fun r h=>?_
unfold ZiJ at h
refine Zf ?_
refine rg ?_
refine rg ?_
refine bM csS ([]:List ByteArray) ?_
refine rg ?_
refine rg ?_
refine bl ?_
refine Zk h fun f7 mf7 hf7 h=>?_
refine Zi (α:=Nat×(Int×Int×(List ByteArray))) (fun a _=>mkS [(0,.str p0),(3,.row 6 (1,6)),(4,.int .i64 a.2.1),(5,.int .i64 a.2.2.1)] [(6,some ((1,6),.row 9 1 false (List.map csS a.2.2.2)))] 2) (fun a=>ZE a.1 f7 a.2=some r) (fun a=>a.1) (mf7,0,0,[]) 2 h (sR [(6,2,0)]) (fun a _ h=>?_)
obtain ⟨mf7,x36,x37,x38⟩:=a
obtain ⟨mf7,rfl,h⟩:=Zl hf7 h
dsimp only at h ⊢
refine Zf ?_
refine rg ?_
refine cS h rfl (fun h=>?_) fun h=>?_
refine Zag h fun k8 hk8 h=>?_
refine Zax (α:=Int×(List ByteArray)) (fun a _=>mkS [(0,.str p0),(3,.row 6 (1,6)),(4,.int .i64 a.1),(5,.int .i64 x37)] [(6,some ((1,6),.row 9 1 false (List.map csS a.2)))] 2) (fun a=>k8 a.1 a.2=some r) (Zf ?_) (fun a _ h=>?_)
refine bl ?_
refine rg ?_
refine aS h fun c52 h=>?_
refine cS h rfl (fun h=>?_) fun h=>?_
refine rg ?_
refine sS h fun l53 h=>?_
refine bM csS ([l53]:List ByteArray) ?_
refine pR csS h fun l54 h=>?_
refine rg ?_
exact jn ((w64 (x37+1)),l54) h (sR [(6,4,6)])
exact jn (x36,x38) h (sR [(6,1,6)])
obtain ⟨x50,x51⟩:=a
subst hk8
dsimp only at h ⊢
refine Zf ?_
refine rg ?_
exact rn (mf7,x50,(w64 (x37+1)),x51) h (sR [(6,1,6)])
refine rg ?_
refine sS h fun l55 h=>?_
refine bM csS ([l55]:List ByteArray) ?_
refine pR csS h fun l56 h=>?_
cases h
exact rQ}
def Zlj (p0:ByteArray):Option (List ByteArray):=ZE Zaq (fun f37 ((x116,x117,x118):ByteArray×Int×(List ByteArray))=>if (decide (x117<(p0.size:Int))) then letk (fun (x160:ByteArray) (x161:List ByteArray)=>f37 (x160,(w64 (x117+1)),x161)) fun k41=>letk (fun (x164:Bool)=>if x164 then letk (fun (x169:List ByteArray)=>k41 (⟨#[]⟩:ByteArray) x169) fun k44=>if (!decide (x116=(⟨#[]⟩:ByteArray))) then (Zbo 16 x118 [x116]).bind fun l170=>k44 l170 else k44 x118 else (Zff p0 x117 (w64 (x117+1))).bind fun l171=>(Zl6 x116 l171).bind fun s172=>k41 s172 x118) fun k42=>(atS p0 x117).bind fun c173=>if (decide (c173=9)) then k42 true else (atS p0 x117).bind fun c174=>k42 (decide (c174=32)) else letk (fun (x176:List ByteArray)=>(some x176:Option (List ByteArray))) fun k45=>if (!decide (x116=(⟨#[]⟩:ByteArray))) then (Zbo 16 x118 [x116]).bind fun l177=>k45 l177 else k45 x118) ((⟨#[]⟩:ByteArray),0,([]:List ByteArray))
theorem Zqb (p0:ByteArray) (r:List ByteArray) (h:Zlj p0=some r):Zb Tryz.prog 163 [.str p0] (.sl (List.map csS r)):=by{
refine cF (fun r=>.sl (List.map csS r)) h mix Tryz.func163 fun r h=>?_
unfold Zlj at h
refine Zf ?_
refine rg ?_
refine rg ?_
refine rg ?_
refine rg ?_
refine bl ?_
refine Zk h fun f37 mf37 hf37 h=>?_
refine Zi (α:=Nat×(ByteArray×Int×(List ByteArray))) (fun a _=>mkS [(0,.str p0),(3,.row 3 (1,3)),(4,.str a.2.1),(5,.int .i64 a.2.2.1)] [(3,some ((1,3),.row 9 1 false (List.map csS a.2.2.2)))] 2) (fun a=>ZE a.1 f37 a.2=some r) (fun a=>a.1) (mf37,(⟨#[]⟩:ByteArray),0,([]:List ByteArray)) 2 h (Zam [] 3 9 1 rfl ⟨rfl,rfl,rfl,rfl,trivial⟩ ⟨⟨rfl,rfl⟩,trivial⟩ rfl) (fun a _ h=>?_)
obtain ⟨mf37,x116,x117,x118⟩:=a
obtain ⟨mf37,rfl,h⟩:=Zl hf37 h
dsimp only at h ⊢
refine Zf ?_
refine rg ?_
refine cS h rfl (fun h=>?_) fun h=>?_
refine Zag h fun k41 hk41 h=>?_
refine Zax (α:=ByteArray×(List ByteArray)) (fun a _=>mkS [(0,.str p0),(3,.row 3 (1,3)),(4,.str a.1),(5,.int .i64 x117)] [(3,some ((1,3),.row 9 1 false (List.map csS a.2)))] 2) (fun a=>k41 a.1 a.2=some r) (Zf ?_) (fun a _ h=>?_)
refine bl ?_
refine jL h (fun x164=>mkS [(0,.str p0),(3,.row 3 (1,3)),(4,.str x116),(5,.int .i64 x117),(21,.bool x164)] [(3,some ((1,3),.row 9 1 false (List.map csS x118)))] 2) (fun k42 h=>?_) fun x164 h=>?_
refine rg ?_
refine aS h fun c173 h=>?_
refine kS 16 h rfl (fun h=>?_) fun h=>?_
iterate 4 refine Zg rfl (Zf ?_)
exact jn true h (sR [(3,1,3)])
refine aS h fun c174 h=>?_
exact jn (decide (c174=32)) h (sR [(3,1,3)])
refine cS h rfl (fun h=>?_) fun h=>?_
refine rg ?_
refine jL h (fun x169=>mkS [(0,.str p0),(3,.row 3 (1,3)),(5,.int .i64 x117)] [(3,some ((1,3),.row 9 1 false (List.map csS x169)))] 2) (fun k44 h=>?_) fun x169 h=>?_
refine cS h rfl (fun h=>?_) fun h=>?_
refine rg ?_
refine bM csS ([x116]:List ByteArray) ?_
refine pR csS h fun l170 h=>?_
exact jn l170 h (sR [(3,3,3)])
exact jn x118 h (sR [(3,1,3)])
refine rg ?_
exact jn ((⟨#[]⟩:ByteArray),x169) h (sR [(3,1,3)])
refine rg ?_
refine sS h fun l171 h=>?_
refine sT h fun s172 h=>?_
exact jn (s172,x118) h (sR [(3,1,3)])
obtain ⟨x160,x161⟩:=a
subst hk41
dsimp only at h ⊢
refine Zf ?_
refine rg ?_
exact rn (mf37,x160,(w64 (x117+1)),x161) h (sR [(3,1,3)])
refine rg ?_
refine jL h (fun x176=>mkS [(3,.row 3 (1,3))] [(3,some ((1,3),.row 9 1 false (List.map csS x176)))] 2) (fun k45 h=>?_) fun x176 h=>?_
refine cS h rfl (fun h=>?_) fun h=>?_
refine rg ?_
refine bM csS ([x116]:List ByteArray) ?_
refine pR csS h fun l177 h=>?_
exact jn l177 h (sR [(3,4,3)])
exact jn x118 h (sR [(3,1,3)])
refine rg ?_
cases h
exact rQ}
def Zf2 (p0:ByteArray):Option Int:=ZE Zaq (fun f2 (x10:Int)=>if (decide (x10<([(⟨#[]⟩:ByteArray),(⟨#[114,101,97,100]⟩:ByteArray),(⟨#[101,100,105,116]⟩:ByteArray),(⟨#[109,111,118,101]⟩:ByteArray),(⟨#[100,101,108,101,116,101]⟩:ByteArray),(⟨#[114,101,118,105,101,119]⟩:ByteArray)].length:Int))) then (atI [(⟨#[]⟩:ByteArray),(⟨#[114,101,97,100]⟩:ByteArray),(⟨#[101,100,105,116]⟩:ByteArray),(⟨#[109,111,118,101]⟩:ByteArray),(⟨#[100,101,108,101,116,101]⟩:ByteArray),(⟨#[114,101,118,105,101,119]⟩:ByteArray)] x10).bind fun e14=>if (decide (e14=p0)) then (some x10:Option Int) else f2 (w64 (x10+1)) else (some 0:Option Int)) 1
theorem ZiK (p0:ByteArray) (r:Int) (h:Zf2 p0=some r):Zb Tryz.prog 164 [.str p0] (.int .i64 r):=by{
refine cF (fun r=>.int .i64 r) h mix Tryz.func164 fun r h=>?_
unfold Zf2 at h
refine Zf ?_
refine rg ?_
refine rg ?_
refine bM csS ([(⟨#[]⟩:ByteArray),(⟨#[114,101,97,100]⟩:ByteArray),(⟨#[101,100,105,116]⟩:ByteArray),(⟨#[109,111,118,101]⟩:ByteArray),(⟨#[100,101,108,101,116,101]⟩:ByteArray),(⟨#[114,101,118,105,101,119]⟩:ByteArray)]:List ByteArray) ?_
refine rg ?_
refine bl ?_
refine Zk h fun f2 mf2 hf2 h=>?_
refine Zi (α:=Nat×Int) (fun a _=>mkS [(0,.str p0),(3,.row 5 (1,5)),(4,.int .i64 a.2)] [(5,some ((1,5),.row 9 1 false (List.map csS [(⟨#[]⟩:ByteArray),(⟨#[114,101,97,100]⟩:ByteArray),(⟨#[101,100,105,116]⟩:ByteArray),(⟨#[109,111,118,101]⟩:ByteArray),(⟨#[100,101,108,101,116,101]⟩:ByteArray),(⟨#[114,101,118,105,101,119]⟩:ByteArray)])))] 2) (fun a=>ZE a.1 f2 a.2=some r) (fun a=>a.1) (mf2,1) 2 h (sR [(5,2,0)]) (fun a _ h=>?_)
obtain ⟨mf2,x10⟩:=a
obtain ⟨mf2,rfl,h⟩:=Zl hf2 h
dsimp only at h ⊢
refine Zf ?_
refine rg ?_
refine lM csS [(⟨#[]⟩:ByteArray),(⟨#[114,101,97,100]⟩:ByteArray),(⟨#[101,100,105,116]⟩:ByteArray),(⟨#[109,111,118,101]⟩:ByteArray),(⟨#[100,101,108,101,116,101]⟩:ByteArray),(⟨#[114,101,118,105,101,119]⟩:ByteArray)] ?_
refine cS h rfl (fun h=>?_) fun h=>?_
refine bl ?_
refine rg ?_
obtain ⟨e14,h12,h⟩:=bnd h
refine ZA rfl h12 rfl rfl rfl (Zf ?_)
refine Zaj rfl h12 rfl rfl rfl (Zf ?_)
refine cS h rfl (fun h=>?_) fun h=>?_
refine rg ?_
cases h
exact rQ
refine rg ?_
exact rn (mf2,(w64 (x10+1))) h (sR [(5,1,5)])
refine rg ?_
cases h
exact rQ}
def Zjt (p0:ByteArray):Option ByteArray:=ZE Zaq (fun f7 (x26:ByteArray)=>letk (fun (x35:Bool)=>if x35 then (Zff x26 0 (w64 ((x26.size:Int)-1))).bind fun l36=>f7 l36 else (some x26:Option ByteArray)) fun k8=>if (decide (0<(x26.size:Int))) then (atS x26 (w64 ((x26.size:Int)-1))).bind fun c37=>if (decide (c37=9)) then k8 true else (atS x26 (w64 ((x26.size:Int)-1))).bind fun c38=>k8 (decide (c38=32)) else k8 false) p0
theorem ZoM (p0:ByteArray) (r:ByteArray) (h:Zjt p0=some r):Zb Tryz.prog 245 [.str p0] (.str r):=by{
refine cF (fun r=>.str r) h mix Tryz.func245 fun r h=>?_
unfold Zjt at h
refine Zf ?_
refine rg ?_
refine bl ?_
refine Zk h fun f7 mf7 hf7 h=>?_
refine Zi (α:=Nat×ByteArray) (fun a _=>mkS [(0,.str a.2)] [] 2) (fun a=>ZE a.1 f7 a.2=some r) (fun a=>a.1) (mf7,p0) 2 h (sR []) (fun a _ h=>?_)
obtain ⟨mf7,x26⟩:=a
obtain ⟨mf7,rfl,h⟩:=Zl hf7 h
dsimp only at h ⊢
refine Zf ?_
refine jL h (fun x35=>mkS [(0,.str x26),(21,.bool x35)] [] 2) (fun k8 h=>?_) fun x35 h=>?_
refine rg ?_
refine kS 6 h rfl (fun h=>?_) fun h=>?_
refine aS h fun c37 h=>?_
refine kS 13 h rfl (fun h=>?_) fun h=>?_
iterate 6 refine Zg rfl (Zf ?_)
exact jn true h (sR [])
refine aS h fun c38 h=>?_
exact jn (decide (c38=32)) h (sR [])
iterate 14 refine Zg rfl (Zf ?_)
exact jn false h (sR [])
refine cS h rfl (fun h=>?_) fun h=>?_
refine bl ?_
refine rg ?_
refine sS h fun l36 h=>?_
exact rn (mf7,l36) h (sR [])
refine rg ?_
cases h
exact rQ}
def Zh0 (p0:ByteArray):Option ByteArray:=ZE Zaq (fun f7 (x26:ByteArray)=>letk (fun (x35:Bool)=>if x35 then (Zff x26 1 (x26.size:Int)).bind fun l36=>f7 l36 else (Zjt x26).bind fun r37=>(some r37:Option ByteArray)) fun k8=>if (decide (0<(x26.size:Int))) then (atS x26 0).bind fun c38=>if (decide (c38=9)) then k8 true else (atS x26 0).bind fun c39=>k8 (decide (c39=32)) else k8 false) p0
theorem ZgN (p0:ByteArray) (r:ByteArray) (h:Zh0 p0=some r):Zb Tryz.prog 211 [.str p0] (.str r):=by{
refine cF (fun r=>.str r) h mix Tryz.func211 fun r h=>?_
unfold Zh0 at h
refine Zf ?_
refine rg ?_
refine bl ?_
refine Zk h fun f7 mf7 hf7 h=>?_
refine Zi (α:=Nat×ByteArray) (fun a _=>mkS [(0,.str a.2)] [] 2) (fun a=>ZE a.1 f7 a.2=some r) (fun a=>a.1) (mf7,p0) 2 h (sR []) (fun a _ h=>?_)
obtain ⟨mf7,x26⟩:=a
obtain ⟨mf7,rfl,h⟩:=Zl hf7 h
dsimp only at h ⊢
refine Zf ?_
refine jL h (fun x35=>mkS [(0,.str x26),(15,.bool x35)] [] 2) (fun k8 h=>?_) fun x35 h=>?_
refine rg ?_
refine kS 6 h rfl (fun h=>?_) fun h=>?_
refine aS h fun c38 h=>?_
refine kS 10 h rfl (fun h=>?_) fun h=>?_
iterate 3 refine Zg rfl (Zf ?_)
exact jn true h (sR [])
refine aS h fun c39 h=>?_
exact jn (decide (c39=32)) h (sR [])
iterate 8 refine Zg rfl (Zf ?_)
exact jn false h (sR [])
refine cS h rfl (fun h=>?_) fun h=>?_
refine bl ?_
refine rg ?_
refine sS h fun l36 h=>?_
exact rn (mf7,l36) h (sR [])
refine rg ?_
refine aC h (ZoM _) fun r37 h=>?_
cases h
exact rQ}
def ZbT (p0:Int):Option ByteArray:=letk (fun (x1:Bool)=>if x1 then (some (⟨#[]⟩:ByteArray):Option ByteArray) else (atI [(⟨#[]⟩:ByteArray),(⟨#[84,97,108,107]⟩:ByteArray),(⟨#[85,115,101,114]⟩:ByteArray),(⟨#[84,101,109,112,108,97,116,101]⟩:ByteArray),(⟨#[67,97,116,101,103,111,114,121]⟩:ByteArray),(⟨#[80,114,111,106,101,99,116]⟩:ByteArray)] p0).bind fun e2=>(some e2:Option ByteArray)) fun k1=>if (decide (p0<0)) then k1 true else k1 (decide (([(⟨#[]⟩:ByteArray),(⟨#[84,97,108,107]⟩:ByteArray),(⟨#[85,115,101,114]⟩:ByteArray),(⟨#[84,101,109,112,108,97,116,101]⟩:ByteArray),(⟨#[67,97,116,101,103,111,114,121]⟩:ByteArray),(⟨#[80,114,111,106,101,99,116]⟩:ByteArray)].length:Int)<=p0))
theorem Ze9 (p0:Int) (r:ByteArray) (h:ZbT p0=some r):Zb Tryz.prog 152 [.int .i64 p0] (.str r):=by{
refine cF (fun r=>.str r) h mix Tryz.func152 fun r h=>?_
unfold ZbT at h
refine Zf ?_
refine rg ?_
refine rg ?_
refine bM csS ([(⟨#[]⟩:ByteArray),(⟨#[84,97,108,107]⟩:ByteArray),(⟨#[85,115,101,114]⟩:ByteArray),(⟨#[84,101,109,112,108,97,116,101]⟩:ByteArray),(⟨#[67,97,116,101,103,111,114,121]⟩:ByteArray),(⟨#[80,114,111,106,101,99,116]⟩:ByteArray)]:List ByteArray) ?_
refine jL h (fun x1=>mkS [(0,.int .i64 p0),(3,.row 4 (1,4)),(12,.bool x1)] [(4,some ((1,4),.row 9 1 false (List.map csS [(⟨#[]⟩:ByteArray),(⟨#[84,97,108,107]⟩:ByteArray),(⟨#[85,115,101,114]⟩:ByteArray),(⟨#[84,101,109,112,108,97,116,101]⟩:ByteArray),(⟨#[67,97,116,101,103,111,114,121]⟩:ByteArray),(⟨#[80,114,111,106,101,99,116]⟩:ByteArray)])))] 2) (fun k1 h=>?_) fun x1 h=>?_
refine rg ?_
refine kS 7 h rfl (fun h=>?_) fun h=>?_
iterate 4 refine Zg rfl (Zf ?_)
exact jn true h (sR [(4,2,0)])
refine lM csS [(⟨#[]⟩:ByteArray),(⟨#[84,97,108,107]⟩:ByteArray),(⟨#[85,115,101,114]⟩:ByteArray),(⟨#[84,101,109,112,108,97,116,101]⟩:ByteArray),(⟨#[67,97,116,101,103,111,114,121]⟩:ByteArray),(⟨#[80,114,111,106,101,99,116]⟩:ByteArray)] ?_
exact jn (decide (([(⟨#[]⟩:ByteArray),(⟨#[84,97,108,107]⟩:ByteArray),(⟨#[85,115,101,114]⟩:ByteArray),(⟨#[84,101,109,112,108,97,116,101]⟩:ByteArray),(⟨#[67,97,116,101,103,111,114,121]⟩:ByteArray),(⟨#[80,114,111,106,101,99,116]⟩:ByteArray)].length:Int)<=p0)) h (sR [(4,2,0)])
refine cS h rfl (fun h=>?_) fun h=>?_
refine rg ?_
cases h
exact rQ
refine rg ?_
obtain ⟨e2,h1,h⟩:=bnd h
refine ZA rfl h1 rfl rfl rfl (Zf ?_)
refine Zaj rfl h1 rfl rfl rfl (Zf ?_)
cases h
exact rQ}
def Zf3 (p0:Int):Option ByteArray:=if (decide (p0=0)) then (some (⟨#[60,77,97,105,110,62]⟩:ByteArray):Option ByteArray) else (ZbT p0).bind fun r1=>(Zl6 (⟨#[60]⟩:ByteArray) r1).bind fun s2=>(Zl6 s2 (⟨#[62]⟩:ByteArray)).bind fun s3=>(some s3:Option ByteArray)
theorem Zlk (p0:Int) (r:ByteArray) (h:Zf3 p0=some r):Zb Tryz.prog 209 [.int .i64 p0] (.str r):=by{
refine cF (fun r=>.str r) h mix Tryz.func209 fun r h=>?_
unfold Zf3 at h
refine Zf ?_
refine rg ?_
refine rg ?_
refine cS h rfl (fun h=>?_) fun h=>?_
refine rg ?_
cases h
exact rQ
refine rg ?_
refine aC h (Ze9 _) fun r1 h=>?_
refine sT h fun s2 h=>?_
refine sT h fun s3 h=>?_
cases h
exact rQ}
def Zhh (p0:ByteArray) (p1:ByteArray) (p2:Int):Option Int:=ZE Zaq (fun f2 (x10:Int)=>if (decide ((w64 (x10+(p1.size:Int)))<=(p0.size:Int))) then (Zff p0 x10 (w64 (x10+(p1.size:Int)))).bind fun l14=>if (decide (l14=p1)) then (some x10:Option Int) else f2 (w64 (x10+1)) else (some (-1):Option Int)) p2
theorem Zhi (p0:ByteArray) (p1:ByteArray) (p2:Int) (r:Int) (h:Zhh p0 p1 p2=some r):Zb Tryz.prog 100 [.str p0,.str p1,.int .i64 p2] (.int .i64 r):=by{
refine cF (fun r=>.int .i64 r) h mix Tryz.func100 fun r h=>?_
unfold Zhh at h
refine Zf ?_
refine rg ?_
refine rg ?_
refine bl ?_
refine Zk h fun f2 mf2 hf2 h=>?_
refine Zi (α:=Nat×Int) (fun a _=>mkS [(0,.str p0),(1,.str p1),(7,.int .i64 a.2)] [] 2) (fun a=>ZE a.1 f2 a.2=some r) (fun a=>a.1) (mf2,p2) 2 h (sR []) (fun a _ h=>?_)
obtain ⟨mf2,x10⟩:=a
obtain ⟨mf2,rfl,h⟩:=Zl hf2 h
dsimp only at h ⊢
refine Zf ?_
refine rg ?_
refine cS h rfl (fun h=>?_) fun h=>?_
refine bl ?_
refine rg ?_
refine sS h fun l14 h=>?_
refine cS h rfl (fun h=>?_) fun h=>?_
refine rg ?_
cases h
exact rQ
refine rg ?_
exact rn (mf2,(w64 (x10+1))) h (sR [])
refine rg ?_
cases h
exact rQ}
def Zkl (p0:Int):Option Int:=letk (fun (x1:Bool)=>if x1 then (some (IntKind.wrap .u8 (p0+32)):Option Int) else (some p0:Option Int)) fun k1=>if (decide (65<=p0)) then k1 (decide (p0<=90)) else k1 false
theorem Zmt (p0:Int) (r:Int) (h:Zkl p0=some r):Zb Tryz.prog 207 [.int .u8 p0] (.int .u8 r):=by{
refine cF (fun r=>.int .u8 r) h mix Tryz.func207 fun r h=>?_
unfold Zkl at h
refine Zf ?_
refine rg ?_
refine jL h (fun x1=>mkS [(0,.int .u8 p0),(8,.bool x1)] [] 2) (fun k1 h=>?_) fun x1 h=>?_
refine rg ?_
refine kS 5 h rfl (fun h=>?_) fun h=>?_
exact jn (decide (p0<=90)) h (sR [])
iterate 2 refine Zg rfl (Zf ?_)
exact jn false h (sR [])
refine cS h rfl (fun h=>?_) fun h=>?_
refine rg ?_
cases h
exact rQ
refine rg ?_
cases h
exact rQ}
def Zfa (p0:ByteArray) (p1:ByteArray):Option Bool:=if (!decide ((p0.size:Int)=(p1.size:Int))) then (some false:Option Bool) else ZE Zaq (fun f2 (x34:Int)=>if (decide (x34<(p0.size:Int))) then (atS p0 x34).bind fun c47=>(Zkl c47).bind fun r48=>(atS p1 x34).bind fun c49=>(Zkl c49).bind fun r50=>if (!decide (r48=r50)) then (some false:Option Bool) else f2 (w64 (x34+1)) else (some true:Option Bool)) 0
theorem Zj6 (p0:ByteArray) (p1:ByteArray) (r:Bool) (h:Zfa p0 p1=some r):Zb Tryz.prog 151 [.str p0,.str p1] (.bool r):=by{
refine cF (fun r=>.bool r) h mix Tryz.func151 fun r h=>?_
unfold Zfa at h
refine Zf ?_
refine rg ?_
refine rg ?_
refine cS h rfl (fun h=>?_) fun h=>?_
refine rg ?_
cases h
exact rQ
refine rg ?_
refine bl ?_
refine Zk h fun f2 mf2 hf2 h=>?_
refine Zi (α:=Nat×Int) (fun a _=>mkS [(0,.str p0),(1,.str p1),(5,.int .i64 a.2)] [] 2) (fun a=>ZE a.1 f2 a.2=some r) (fun a=>a.1) (mf2,0) 2 h (sR []) (fun a _ h=>?_)
obtain ⟨mf2,x34⟩:=a
obtain ⟨mf2,rfl,h⟩:=Zl hf2 h
dsimp only at h ⊢
refine Zf ?_
refine rg ?_
refine cS h rfl (fun h=>?_) fun h=>?_
refine bl ?_
refine rg ?_
refine aS h fun c47 h=>?_
refine aC h (Zmt _) fun r48 h=>?_
refine aS h fun c49 h=>?_
refine aC h (Zmt _) fun r50 h=>?_
refine cS h rfl (fun h=>?_) fun h=>?_
refine rg ?_
cases h
exact rQ
refine rg ?_
exact rn (mf2,(w64 (x34+1))) h (sR [])
refine rg ?_
cases h
exact rQ}
def Zh1 (p0:ByteArray):Option (Int×Int):=(Zhh p0 (⟨#[58]⟩:ByteArray) 0).bind fun r1=>if (decide (r1<0)) then (some (0,0):Option (Int×Int)) else (Zff p0 0 r1).bind fun l2=>letk (fun (x4:Bool)=>letk (fun (x6:ByteArray)=>ZE Zaq (fun f4 (x24:Int)=>if (decide (x24<6)) then (ZbT x24).bind fun r31=>(Zfa x6 r31).bind fun r32=>if r32 then (some (x24,r1):Option (Int×Int)) else f4 (w64 (x24+1)) else (some (0,0):Option (Int×Int))) 1) fun k2=>if x4 then (Zff l2 0 (w64 ((l2.size:Int)-1))).bind fun l33=>k2 l33 else k2 l2) fun k1=>if (decide (0<(l2.size:Int))) then (atS l2 (w64 ((l2.size:Int)-1))).bind fun c34=>k1 (decide (c34=32)) else k1 false
theorem Zno (p0:ByteArray) (r:Int×Int) (h:Zh1 p0=some r):Zb Tryz.prog 102 [.str p0] (.tup [.int .i64 r.1,.int .i64 r.2]):=by{
refine cF (fun r=>.tup [.int .i64 r.1,.int .i64 r.2]) h mix Tryz.func102 fun r h=>?_
unfold Zh1 at h
refine Zf ?_
refine rg ?_
refine rg ?_
refine aC h (Zhi _ _ _) fun r1 h=>?_
refine rg ?_
refine cS h rfl (fun h=>?_) fun h=>?_
refine rg ?_
cases h
exact rQ
refine rg ?_
refine sS h fun l2 h=>?_
refine jL h (fun x4=>mkS [(4,.int .i64 r1),(5,.str l2),(24,.bool x4)] [] 2) (fun k1 h=>?_) fun x4 h=>?_
refine rg ?_
refine kS 17 h rfl (fun h=>?_) fun h=>?_
refine aS h fun c34 h=>?_
exact jn (decide (c34=32)) h (sR [])
iterate 6 refine Zg rfl (Zf ?_)
exact jn false h (sR [])
refine jL h (fun x6=>mkS [(4,.int .i64 r1),(5,.str x6)] [] 2) (fun k2 h=>?_) fun x6 h=>?_
refine cS h rfl (fun h=>?_) fun h=>?_
refine rg ?_
refine sS h fun l33 h=>?_
exact jn l33 h (sR [])
exact jn l2 h (sR [])
refine rg ?_
refine bl ?_
refine Zk h fun f4 mf4 hf4 h=>?_
refine Zi (α:=Nat×Int) (fun a _=>mkS [(4,.int .i64 r1),(5,.str x6),(6,.int .i64 a.2)] [] 2) (fun a=>ZE a.1 f4 a.2=some r) (fun a=>a.1) (mf4,1) 2 h (sR []) (fun a _ h=>?_)
obtain ⟨mf4,x24⟩:=a
obtain ⟨mf4,rfl,h⟩:=Zl hf4 h
dsimp only at h ⊢
refine Zf ?_
refine rg ?_
refine cS h rfl (fun h=>?_) fun h=>?_
refine bl ?_
refine rg ?_
refine aC h (Ze9 _) fun r31 h=>?_
refine aC h (Zj6 _ _) fun r32 h=>?_
refine cS h rfl (fun h=>?_) fun h=>?_
refine rg ?_
cases h
exact rQ
refine rg ?_
exact rn (mf4,(w64 (x24+1))) h (sR [])
refine rg ?_
cases h
exact rQ}
def Zq6 (p0:ByteArray) (p1:Int):Option ByteArray:=(Zff p0 p1 (p0.size:Int)).bind fun l1=>letk (fun (x3:Bool)=>letk (fun (x5:ByteArray)=>(some x5:Option ByteArray)) fun k2=>if x3 then (Zff l1 1 (l1.size:Int)).bind fun l6=>k2 l6 else k2 l1) fun k1=>if (decide (0<(l1.size:Int))) then (atS l1 0).bind fun c7=>k1 (decide (c7=32)) else k1 false
theorem Zq7 (p0:ByteArray) (p1:Int) (r:ByteArray) (h:Zq6 p0 p1=some r):Zb Tryz.prog 244 [.str p0,.int .i64 p1] (.str r):=by{
refine cF (fun r=>.str r) h mix Tryz.func244 fun r h=>?_
unfold Zq6 at h
refine Zf ?_
refine rg ?_
refine rg ?_
refine sS h fun l1 h=>?_
refine jL h (fun x3=>mkS [(0,.str l1),(15,.bool x3)] [] 2) (fun k1 h=>?_) fun x3 h=>?_
refine rg ?_
refine kS 11 h rfl (fun h=>?_) fun h=>?_
refine aS h fun c7 h=>?_
exact jn (decide (c7=32)) h (sR [])
iterate 3 refine Zg rfl (Zf ?_)
exact jn false h (sR [])
refine jL h (fun x5=>mkS [(0,.str x5)] [] 2) (fun k2 h=>?_) fun x5 h=>?_
refine cS h rfl (fun h=>?_) fun h=>?_
refine rg ?_
refine sS h fun l6 h=>?_
exact jn l6 h (sR [])
exact jn l1 h (sR [])
refine rg ?_
cases h
exact rQ}
def Zkk (p0:ByteArray) (p1:Int):Option ByteArray:=ZE Zaq (fun f42 ((x163,x164):ByteArray×Int)=>if (decide (x164<p1)) then (Zh0 x163).bind fun r225=>ZE Zaq (fun f49 (x232:ByteArray)=>letk (fun (x241:Bool)=>if x241 then (Zff x232 1 (x232.size:Int)).bind fun l242=>f49 l242 else f42 (x232,(w64 (x164+1)))) fun k50=>if (decide (0<(x232.size:Int))) then (atS x232 0).bind fun c243=>if (!decide (c243=9)) then (atS x232 0).bind fun c244=>k50 (!decide (c244=32)) else k50 false else k50 false) r225 else (Zh0 x163).bind fun r245=>(some r245:Option ByteArray)) (p0,0)
theorem Zml (p0:ByteArray) (p1:Int) (r:ByteArray) (h:Zkk p0 p1=some r):Zb Tryz.prog 166 [.str p0,.int .i64 p1] (.str r):=by{
refine cF (fun r=>.str r) h mix Tryz.func166 fun r h=>?_
unfold Zkk at h
refine Zf ?_
refine rg ?_
refine rg ?_
refine bl ?_
refine Zk h fun f42 mf42 hf42 h=>?_
refine Zi (α:=Nat×(ByteArray×Int)) (fun a _=>mkS [(0,.str a.2.1),(1,.int .i64 p1),(5,.int .i64 a.2.2)] [] 2) (fun a=>ZE a.1 f42 a.2=some r) (fun a=>a.1) (mf42,p0,0) 2 h (sR []) (fun a _ h=>?_)
obtain ⟨mf42,x163,x164⟩:=a
obtain ⟨mf42,rfl,h⟩:=Zl hf42 h
dsimp only at h ⊢
refine Zf ?_
refine rg ?_
refine cS h rfl (fun h=>?_) fun h=>?_
refine bl ?_
refine rg ?_
refine aC h (ZgN _) fun r225 h=>?_
refine bl ?_
refine Zk h fun f49 mf49 hf49 h=>?_
refine Zi (α:=Nat×ByteArray) (fun a _=>mkS [(0,.str a.2),(1,.int .i64 p1),(5,.int .i64 x164)] [] 2) (fun a=>ZE a.1 f49 a.2=some r) (fun a=>a.1) (mf49,r225) 2 h (sR []) (fun a _ h=>?_)
obtain ⟨mf49,x232⟩:=a
obtain ⟨mf49,rfl,h⟩:=Zl hf49 h
dsimp only at h ⊢
refine Zf ?_
refine jL h (fun x241=>mkS [(0,.str x232),(1,.int .i64 p1),(5,.int .i64 x164),(25,.bool x241)] [] 2) (fun k50 h=>?_) fun x241 h=>?_
refine rg ?_
refine kS 16 h rfl (fun h=>?_) fun h=>?_
refine aS h fun c243 h=>?_
refine kS 21 h rfl (fun h=>?_) fun h=>?_
refine aS h fun c244 h=>?_
exact jn (!decide (c244=32)) h (sR [])
iterate 3 refine Zg rfl (Zf ?_)
exact jn false h (sR [])
iterate 6 refine Zg rfl (Zf ?_)
exact jn false h (sR [])
refine cS h rfl (fun h=>?_) fun h=>?_
refine bl ?_
refine rg ?_
refine sS h fun l242 h=>?_
exact rn (mf49,l242) h (sR [])
refine rg ?_
exact rn (mf42,x232,(w64 (x164+1))) h (sR [])
refine rg ?_
refine aC h (ZgN _) fun r245 h=>?_
cases h
exact rQ}
def Zk8 (p0:ByteArray):Option ByteArray:=ZE Zaq (fun f27 ((x55,x56):ByteArray×Int)=>if (decide (x56<(p0.size:Int))) then letk (fun (x76:ByteArray)=>f27 (x76,(w64 (x56+1)))) fun k30=>(Zff p0 x56 (w64 (x56+1))).bind fun l77=>letk (fun (x78:ByteArray)=>letk (fun (x80:Bool)=>if x80 then k30 x55 else (Zl6 x55 x78).bind fun s81=>k30 s81) fun k32=>if (decide (x78=(⟨#[32]⟩:ByteArray))) then if (decide (x55=(⟨#[]⟩:ByteArray))) then k32 true else (atS x55 (w64 ((x55.size:Int)-1))).bind fun c82=>k32 (decide (c82=32)) else k32 false) fun k31=>if (decide (l77=(⟨#[95]⟩:ByteArray))) then k31 (⟨#[32]⟩:ByteArray) else k31 l77 else letk (fun (x84:Bool)=>letk (fun (x86:ByteArray)=>(some x86:Option ByteArray)) fun k34=>if x84 then (Zff x55 0 (w64 ((x55.size:Int)-1))).bind fun l87=>k34 l87 else k34 x55) fun k33=>if (decide (0<(x55.size:Int))) then (atS x55 (w64 ((x55.size:Int)-1))).bind fun c88=>k33 (decide (c88=32)) else k33 false) ((⟨#[]⟩:ByteArray),0)
theorem ZpX (p0:ByteArray) (r:ByteArray) (h:Zk8 p0=some r):Zb Tryz.prog 243 [.str p0] (.str r):=by{
refine cF (fun r=>.str r) h mix Tryz.func243 fun r h=>?_
unfold Zk8 at h
refine Zf ?_
refine rg ?_
refine rg ?_
refine rg ?_
refine bl ?_
refine Zk h fun f27 mf27 hf27 h=>?_
refine Zi (α:=Nat×(ByteArray×Int)) (fun a _=>mkS [(0,.str p0),(3,.str a.2.1),(4,.int .i64 a.2.2)] [] 2) (fun a=>ZE a.1 f27 a.2=some r) (fun a=>a.1) (mf27,(⟨#[]⟩:ByteArray),0) 2 h (sR []) (fun a _ h=>?_)
obtain ⟨mf27,x55,x56⟩:=a
obtain ⟨mf27,rfl,h⟩:=Zl hf27 h
dsimp only at h ⊢
refine Zf ?_
refine rg ?_
refine cS h rfl (fun h=>?_) fun h=>?_
refine jL h (fun x76=>mkS [(0,.str p0),(3,.str x76),(4,.int .i64 x56)] [] 2) (fun k30 h=>?_) fun x76 h=>?_
refine bl ?_
refine rg ?_
refine sS h fun l77 h=>?_
refine rg ?_
refine jL h (fun x78=>mkS [(0,.str p0),(3,.str x55),(4,.int .i64 x56),(5,.str x78)] [] 2) (fun k31 h=>?_) fun x78 h=>?_
refine cS h rfl (fun h=>?_) fun h=>?_
refine rg ?_
exact jn (⟨#[32]⟩:ByteArray) h (sR [])
exact jn l77 h (sR [])
refine jL h (fun x80=>mkS [(0,.str p0),(3,.str x55),(4,.int .i64 x56),(5,.str x78),(32,.bool x80)] [] 2) (fun k32 h=>?_) fun x80 h=>?_
refine rg ?_
refine kS 21 h rfl (fun h=>?_) fun h=>?_
refine kS 24 h rfl (fun h=>?_) fun h=>?_
iterate 6 refine Zg rfl (Zf ?_)
exact jn true h (sR [])
refine aS h fun c82 h=>?_
exact jn (decide (c82=32)) h (sR [])
iterate 10 refine Zg rfl (Zf ?_)
exact jn false h (sR [])
refine cS h rfl (fun h=>?_) fun h=>?_
exact jn x55 h (sR [])
refine rg ?_
refine sT h fun s81 h=>?_
exact jn s81 h (sR [])
refine rg ?_
exact rn (mf27,x76,(w64 (x56+1))) h (sR [])
refine jL h (fun x84=>mkS [(3,.str x55),(46,.bool x84)] [] 2) (fun k33 h=>?_) fun x84 h=>?_
refine rg ?_
refine kS 39 h rfl (fun h=>?_) fun h=>?_
refine aS h fun c88 h=>?_
exact jn (decide (c88=32)) h (sR [])
iterate 6 refine Zg rfl (Zf ?_)
exact jn false h (sR [])
refine jL h (fun x86=>mkS [(3,.str x86)] [] 2) (fun k34 h=>?_) fun x86 h=>?_
refine cS h rfl (fun h=>?_) fun h=>?_
refine rg ?_
refine sS h fun l87 h=>?_
exact jn l87 h (sR [])
exact jn x55 h (sR [])
refine rg ?_
cases h
exact rQ}
def ZhT (p0:ByteArray):Option Bool:=letk (fun (x1:Bool)=>(some x1:Option Bool)) fun k1=>if (decide (p0=(⟨#[97,108,108]⟩:ByteArray))) then k1 true else k1 (decide (p0=(⟨#[117,115,101,114,115]⟩:ByteArray)))
theorem Zne (p0:ByteArray) (r:Bool) (h:ZhT p0=some r):Zb Tryz.prog 212 [.str p0] (.bool r):=by{
refine cF (fun r=>.bool r) h mix Tryz.func212 fun r h=>?_
unfold ZhT at h
refine Zf ?_
refine rg ?_
refine jL h (fun x1=>mkS [(2,.bool x1)] [] 2) (fun k1 h=>?_) fun x1 h=>?_
refine rg ?_
refine kS 5 h rfl (fun h=>?_) fun h=>?_
iterate 2 refine Zg rfl (Zf ?_)
exact jn true h (sR [])
exact jn (decide (p0=(⟨#[117,115,101,114,115]⟩:ByteArray))) h (sR [])
cases h
exact rQ}
def Zen (p0:List Group) (p1:ByteArray):Option Bool:=ZE Zaq (fun f2 (x10:Int)=>if (decide (x10<(p0.length:Int))) then (atI p0 x10).bind fun e14=>if (decide (e14.name=p1)) then (some true:Option Bool) else f2 (w64 (x10+1)) else (ZhT p1).bind fun r15=>(some r15:Option Bool)) 0
theorem Ze0 (p0:List Group) (p1:ByteArray) (r:Bool) (h:Zen p0 p1=some r):Zb Tryz.prog 169 [.sl (List.map Group.cs p0),.str p1] (.bool r):=by{
refine cF (fun r=>.bool r) h mix Tryz.func169 fun r h=>?_
unfold Zen at h
refine Zf ?_
refine rg ?_
refine rg ?_
refine bl ?_
refine Zk h fun f2 mf2 hf2 h=>?_
refine Zi (α:=Nat×Int) (fun a _=>mkS [(0,.sl (List.map Group.cs p0)),(1,.str p1),(5,.int .i64 a.2)] [] 2) (fun a=>ZE a.1 f2 a.2=some r) (fun a=>a.1) (mf2,0) 2 h (sR []) (fun a _ h=>?_)
obtain ⟨mf2,x10⟩:=a
obtain ⟨mf2,rfl,h⟩:=Zl hf2 h
dsimp only at h ⊢
refine Zf ?_
refine rg ?_
refine lM Group.cs p0 ?_
refine cS h rfl (fun h=>?_) fun h=>?_
refine bl ?_
refine rg ?_
refine aI Group.cs h fun e14 h=>?_
refine cS h rfl (fun h=>?_) fun h=>?_
refine rg ?_
cases h
exact rQ
refine rg ?_
exact rn (mf2,(w64 (x10+1))) h (sR [])
refine rg ?_
refine aC h (Zne _) fun r15 h=>?_
cases h
exact rQ}
def ZfW (p0:ByteArray):Option Bool:=letk (fun (x2:Bool)=>if x2 then (some false:Option Bool) else letk (fun (x5:Bool)=>(some x5:Option Bool)) fun k2=>(Zhh p0 (⟨#[10]⟩:ByteArray) 0).bind fun r6=>if (decide (r6<0)) then (Zhh p0 (⟨#[124]⟩:ByteArray) 0).bind fun r7=>k2 (decide (r7<0)) else k2 false) fun k1=>if (decide (100<(p0.size:Int))) then k1 true else (Zh0 p0).bind fun r8=>k1 (!decide (r8=p0))
theorem Zk9 (p0:ByteArray) (r:Bool) (h:ZfW p0=some r):Zb Tryz.prog 171 [.str p0] (.bool r):=by{
refine cF (fun r=>.bool r) h mix Tryz.func171 fun r h=>?_
unfold ZfW at h
refine Zf ?_
refine rg ?_
refine jL h (fun x2=>mkS [(0,.str p0),(11,.bool x2)] [] 2) (fun k1 h=>?_) fun x2 h=>?_
refine rg ?_
refine kS 6 h rfl (fun h=>?_) fun h=>?_
iterate 4 refine Zg rfl (Zf ?_)
exact jn true h (sR [])
refine aC h (ZgN _) fun r8 h=>?_
exact jn (!decide (r8=p0)) h (sR [])
refine cS h rfl (fun h=>?_) fun h=>?_
refine rg ?_
cases h
exact rQ
refine jL h (fun x5=>mkS [(2,.bool x5)] [] 2) (fun k2 h=>?_) fun x5 h=>?_
refine rg ?_
refine aC h (Zhi _ _ _) fun r6 h=>?_
refine kS 15 h rfl (fun h=>?_) fun h=>?_
refine aC h (Zhi _ _ _) fun r7 h=>?_
exact jn (decide (r7<0)) h (sR [])
iterate 3 refine Zg rfl (Zf ?_)
exact jn false h (sR [])
cases h
exact rQ}
end
end Go.Proofs.YtpdaeclbndpabaaGreatDoor
