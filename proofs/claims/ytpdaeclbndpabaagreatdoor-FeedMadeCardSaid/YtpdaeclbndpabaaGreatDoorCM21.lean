/- Functions of the program as Lean functions. Written by -/
import Derived.Test.YtpdaeclbndpabaaGreatDoorCM20
set_option linter.unusedSimpArgs false
set_option linter.unusedVariables false
set_option maxHeartbeats 4000000
set_option maxRecDepth 100000
namespace Go.Proofs.YtpdaeclbndpabaaGreatDoor
section
open VL
def Zex (p0:Int):Option Int:=letk (fun (x2:Int) (x3:Int)=>letk (fun (x5:Int) (x6:Int)=>letk (fun (x8:Int) (x9:Int)=>(atS (⟨#[0,1,2,2,3,3,3,3,4,4,4,4,4,4,4,4,5,5,5,5,5,5,5,5,5,5,5,5,5,5,5,5,6,6,6,6,6,6,6,6,6,6,6,6,6,6,6,6,6,6,6,6,6,6,6,6,6,6,6,6,6,6,6,6,7,7,7,7,7,7,7,7,7,7,7,7,7,7,7,7,7,7,7,7,7,7,7,7,7,7,7,7,7,7,7,7,7,7,7,7,7,7,7,7,7,7,7,7,7,7,7,7,7,7,7,7,7,7,7,7,7,7,7,7,7,7,7,7,8,8,8,8,8,8,8,8,8,8,8,8,8,8,8,8,8,8,8,8,8,8,8,8,8,8,8,8,8,8,8,8,8,8,8,8,8,8,8,8,8,8,8,8,8,8,8,8,8,8,8,8,8,8,8,8,8,8,8,8,8,8,8,8,8,8,8,8,8,8,8,8,8,8,8,8,8,8,8,8,8,8,8,8,8,8,8,8,8,8,8,8,8,8,8,8,8,8,8,8,8,8,8,8,8,8,8,8,8,8,8,8,8,8,8,8,8,8,8,8,8,8,8,8,8,8,8,8]⟩:ByteArray) (IntKind.wrap .u8 x8)).bind fun c10=>(some (w64 (x9+(IntKind.wrap .i64 c10))):Option Int)) fun k3=>if (decide (256<=x5)) then (ZmW .u64 x5 8).bind fun q11=>k3 q11 (w64 (x6+8)) else k3 x5 x6) fun k2=>if (decide (65536<=x2)) then (ZmW .u64 x2 16).bind fun q12=>k2 q12 (w64 (x3+16)) else k2 x2 x3) fun k1=>if (decide (4294967296<=p0)) then (ZmW .u64 p0 32).bind fun q13=>k1 q13 32 else k1 p0 0
theorem Zjh (p0:Int) (r:Int) (h:Zex p0=some r):Zb Tryz.prog 184 [.int .u64 p0] (.int .i64 r):=by{
refine cF (fun r=>.int .i64 r) h mix Tryz.func184 fun r h=>?_
unfold Zex at h
refine Zf ?_
refine rg ?_
refine rg ?_
refine Zag h fun k1 hk1 h=>?_
refine Zax (α:=Int×Int) (fun a _=>mkS [(0,.int .u64 a.1),(2,.int .i64 a.2)] [] 2) (fun a=>k1 a.1 a.2=some r) (Zf ?_) (fun a _ h=>?_)
refine cS h rfl (fun h=>?_) fun h=>?_
refine rg ?_
obtain ⟨q13,h7,h⟩:=bnd h
refine Zil rfl h7 rfl rfl (Zf ?_)
refine rg ?_
exact jn (q13,32) h (sR [])
exact jn (p0,0) h (sR [])
obtain ⟨x2,x3⟩:=a
subst hk1
dsimp only at h ⊢
refine Zf ?_
refine rg ?_
refine Zag h fun k2 hk2 h=>?_
refine Zax (α:=Int×Int) (fun a _=>mkS [(0,.int .u64 a.1),(2,.int .i64 a.2)] [] 2) (fun a=>k2 a.1 a.2=some r) (Zf ?_) (fun a _ h=>?_)
refine cS h rfl (fun h=>?_) fun h=>?_
refine rg ?_
obtain ⟨q12,h6,h⟩:=bnd h
refine Zil rfl h6 rfl rfl (Zf ?_)
refine rg ?_
exact jn (q12,(w64 (x3+16))) h (sR [])
exact jn (x2,x3) h (sR [])
obtain ⟨x5,x6⟩:=a
subst hk2
dsimp only at h ⊢
refine Zf ?_
refine rg ?_
refine Zag h fun k3 hk3 h=>?_
refine Zax (α:=Int×Int) (fun a _=>mkS [(0,.int .u64 a.1),(2,.int .i64 a.2)] [] 2) (fun a=>k3 a.1 a.2=some r) (Zf ?_) (fun a _ h=>?_)
refine cS h rfl (fun h=>?_) fun h=>?_
refine rg ?_
obtain ⟨q11,h5,h⟩:=bnd h
refine Zil rfl h5 rfl rfl (Zf ?_)
refine rg ?_
exact jn (q11,(w64 (x6+8))) h (sR [])
exact jn (x5,x6) h (sR [])
obtain ⟨x8,x9⟩:=a
subst hk3
dsimp only at h ⊢
refine Zf ?_
refine rg ?_
refine aS h fun c10 h=>?_
cases h
exact rQ}
def ZcH (p0:Int):Option Int:=(Zex p0).bind fun r1=>(some r1:Option Int)
theorem ZkP (p0:Int) (r:Int) (h:ZcH p0=some r):Zb Tryz.prog 135 [.int .u64 p0] (.int .i64 r):=by{
refine cF (fun r=>.int .i64 r) h mix Tryz.func135 fun r h=>?_
unfold ZcH at h
refine Zf ?_
refine rg ?_
refine ZS rfl rfl (Zf ?_)
refine rg ?_
refine aC h (Zjh _) fun r1 h=>?_
cases h
exact rQ}
def ZX (p0:List Title) (p1:Int) (p2:Int):Option (List Title):=ZE Zaq (fun f17 ((x95,x96):Int×(List Title))=>if (decide (x95<p2)) then ZE Zaq (fun f24 ((x253,x254):Int×(List Title))=>letk (fun (x273:Bool)=>if x273 then (atI x254 (w64 (x253-1))).bind fun e278=>(atI x254 x253).bind fun e279=>(atI x254 x253).bind fun e280=>(atI (ZbF x254 x253 e278) (w64 (x253-1))).bind fun e281=>f24 ((w64 (x253-1)),(ZbF (ZbF x254 x253 e278) (w64 (x253-1)) e279)) else f17 ((w64 (x95+1)),x254)) fun k25=>if (decide (p1<x253)) then (atI x254 x253).bind fun e282=>(atI x254 (w64 (x253-1))).bind fun e283=>(Zbd e282 e283).bind fun r284=>k25 (decide (r284<0)) else k25 false) (x95,x96) else (some x96:Option (List Title))) ((w64 (p1+1)),p0)
theorem Zcr (p0:List Title) (p1:Int) (p2:Int) (r:List Title) (h:ZX p0 p1 p2=some r):ContractR Tryz.prog 175 [.int .i64 p1,.int .i64 p2,.fn 79 []] 36 2 (List.map Title.cs p0) (.tup []) (List.map Title.cs r):=by{
refine ZaT (R:=fun r=>.tup []) (O:=fun r=>(List.map Title.cs r)) h mix Tryz.func175 (by kernel_rfl) rfl (by kernel_rfl) fun r h=>?_
unfold ZX at h
refine Zf ?_
refine rg ?_
refine bl ?_
refine Zk h fun f17 mf17 hf17 h=>?_
refine Zi (α:=Nat×(Int×(List Title))) (fun a _=>mkS [(0,.row 0 (0,0)),(1,.int .i64 p1),(2,.int .i64 p2),(3,.fn 79 []),(8,.int .i64 a.2.1)] [(0,some ((0,0),.row 36 2 false (List.map Title.cs a.2.2)))] 2) (fun a=>ZE a.1 f17 a.2=some r) (fun a=>a.1) (mf17,(w64 (p1+1)),p0) 2 h (Zt [] ⟨rfl,rfl,rfl,rfl,rfl,trivial⟩ ⟨⟨rfl,rfl⟩,trivial⟩ rfl) (fun a _ h=>?_)
obtain ⟨mf17,x95,x96⟩:=a
obtain ⟨mf17,rfl,h⟩:=Zl hf17 h
dsimp only at h ⊢
refine Zf ?_
refine rg ?_
refine cS h rfl (fun h=>?_) fun h=>?_
refine bl ?_
refine rg ?_
refine bl ?_
refine Zk h fun f24 mf24 hf24 h=>?_
refine Zi (α:=Nat×(Int×(List Title))) (fun a _=>mkS [(0,.row 0 (0,0)),(1,.int .i64 p1),(2,.int .i64 p2),(3,.fn 79 []),(8,.int .i64 x95),(9,.int .i64 a.2.1)] [(0,some ((0,0),.row 36 2 false (List.map Title.cs a.2.2)))] 2) (fun a=>ZE a.1 f24 a.2=some r) (fun a=>a.1) (mf24,x95,x96) 2 h (Zt [] ⟨rfl,rfl,rfl,rfl,rfl,rfl,trivial⟩ ⟨⟨rfl,rfl⟩,trivial⟩ rfl) (fun a _ h=>?_)
obtain ⟨mf24,x253,x254⟩:=a
obtain ⟨mf24,rfl,h⟩:=Zl hf24 h
dsimp only at h ⊢
refine Zf ?_
refine jL h (fun x273=>mkS [(0,.row 0 (0,0)),(1,.int .i64 p1),(2,.int .i64 p2),(3,.fn 79 []),(8,.int .i64 x95),(9,.int .i64 x253),(34,.bool x273)] [(0,some ((0,0),.row 36 2 false (List.map Title.cs x254)))] 2) (fun k25 h=>?_) fun x273 h=>?_
refine rg ?_
refine kS 21 h rfl (fun h=>?_) fun h=>?_
obtain ⟨e282,h250,h⟩:=bnd h
refine ZA rfl h250 rfl rfl rfl (Zf ?_)
refine Zaj rfl h250 rfl rfl rfl (Zf ?_)
obtain ⟨e283,h251,h⟩:=bnd h
refine ZA rfl h251 rfl rfl rfl (Zf ?_)
refine Zaj rfl h251 rfl rfl rfl (Zf ?_)
obtain ⟨r284,h252,h⟩:=bnd h
refine Zgd (Lc:=[]) (args1:=[e282.pv,e283.pv]) (ZgP _ _ _ h252) rfl rfl rfl rfl (Zf ?_)
exact jn (decide (r284<0)) h (Zt [] ⟨rfl,rfl,rfl,rfl,rfl,rfl,rfl,trivial⟩ ⟨⟨rfl,rfl⟩,trivial⟩ rfl)
iterate 12 refine Zg rfl (Zf ?_)
exact jn false h (Zt [] ⟨rfl,rfl,rfl,rfl,rfl,rfl,rfl,trivial⟩ ⟨⟨rfl,rfl⟩,trivial⟩ rfl)
refine cS h rfl (fun h=>?_) fun h=>?_
refine bl ?_
refine rg ?_
obtain ⟨e278,h246,h⟩:=bnd h
refine ZA rfl h246 rfl rfl rfl (Zf ?_)
refine Zaj rfl h246 rfl rfl rfl (Zf ?_)
obtain ⟨e279,h247,h⟩:=bnd h
refine ZA rfl h247 rfl rfl rfl (Zf ?_)
refine Zaj rfl h247 rfl rfl rfl (Zf ?_)
obtain ⟨e280,h248,h⟩:=bnd h
refine ZA rfl h248 rfl rfl rfl (Zf ?_)
refine ZaR (e':=e278) rfl h248 rfl rfl rfl rfl rfl rfl (Nat.le_of_ble_eq_true rfl) rfl rfl (Zf ?_)
obtain ⟨e281,h249,h⟩:=bnd h
refine ZA rfl h249 rfl rfl rfl (Zf ?_)
refine ZaR (e':=e279) rfl h249 rfl rfl rfl rfl rfl rfl (Nat.le_of_ble_eq_true rfl) rfl rfl (Zf ?_)
refine rg ?_
exact rn (mf24,(w64 (x253-1)),(ZbF (ZbF x254 x253 e278) (w64 (x253-1)) e279)) h (Zt [] ⟨rfl,rfl,rfl,rfl,rfl,rfl,trivial⟩ ⟨⟨rfl,rfl⟩,trivial⟩ rfl)
refine rg ?_
exact rn (mf17,(w64 (x95+1)),x254) h (Zt [] ⟨rfl,rfl,rfl,rfl,rfl,trivial⟩ ⟨⟨rfl,rfl⟩,trivial⟩ rfl)
cases h
exact Zcl rfl rfl rfl}
def Zau (p0:List Title) (p1:Int) (p2:Int) (p3:Int):Option (List Title):=ZE Zaq (fun f1 (_:Unit)=>if (decide ((w64 (p2-p1))<=12)) then (ZX p0 p1 p2).bind fun r4=>(some r4:Option (List Title)) else if (decide (p3=0)) then (none:Option (List Title)) else (none:Option (List Title))) ()
theorem Zd1 (p0:List Title) (p1:Int) (p2:Int) (p3:Int) (r:List Title) (h:Zau p0 p1 p2 p3=some r):ContractR Tryz.prog 134 [.int .i64 p1,.int .i64 p2,.int .i64 p3,.fn 79 []] 36 2 (List.map Title.cs p0) (.tup []) (List.map Title.cs r):=by{
refine ZaT (R:=fun r=>.tup []) (O:=fun r=>(List.map Title.cs r)) h mix Tryz.func134 (by kernel_rfl) rfl (by kernel_rfl) fun r h=>?_
unfold Zau at h
refine Zf ?_
refine rg ?_
refine rg ?_
refine bl ?_
refine Zk h fun f1 mf1 hf1 h=>?_
refine Zi (α:=Nat×Unit) (fun a _=>mkS [(0,.row 0 (0,0)),(1,.int .i64 p1),(2,.int .i64 p2),(3,.int .i64 p3),(4,.fn 79 []),(10,.bool true),(11,.bool true)] [(0,some ((0,0),.row 36 2 false (List.map Title.cs p0)))] 2) (fun a=>ZE a.1 f1 a.2=some r) (fun a=>a.1) (mf1,()) 2 h (Zt [] ⟨rfl,rfl,rfl,rfl,rfl,rfl,rfl,trivial⟩ ⟨⟨rfl,rfl⟩,trivial⟩ rfl) (fun a _ h=>?_)
obtain ⟨mf1,_⟩:=a
obtain ⟨mf1,rfl,hG⟩:=Zl hf1 h
replace h:=hG
refine Zf ?_
refine bl ?_
refine rg ?_
refine rg ?_
refine cS h rfl (fun h=>?_) fun h=>?_
refine rg ?_
obtain ⟨r4,h4,h⟩:=bnd h
refine Zcd (Zcr _ _ _ _ h4) rfl rfl rfl rfl rfl (Zf ?_)
cases h
exact ZmA rfl rfl rfl
refine rg ?_
refine cS h rfl (fun h=>?_) fun h=>?_
cases h
cases h}
def ZaK (p0:List Title):Option (List Title):=(ZcH (IntKind.wrap .u64 (p0.length:Int))).bind fun r1=>(Zau p0 0 (p0.length:Int) r1).bind fun r2=>(some r2:Option (List Title))
theorem ZfN (p0:List Title) (r:List Title) (h:ZaK p0=some r):ContractR Tryz.prog 80 [.fn 79 []] 36 2 (List.map Title.cs p0) (.tup []) (List.map Title.cs r):=by{
refine ZaT (R:=fun r=>.tup []) (O:=fun r=>(List.map Title.cs r)) h mix Tryz.func80 (by kernel_rfl) rfl (by kernel_rfl) fun r h=>?_
unfold ZaK at h
refine Zf ?_
refine rg ?_
refine lM Title.cs p0 ?_
refine rg ?_
refine aC h (ZkP _) fun r1 h=>?_
obtain ⟨r2,h2,h⟩:=bnd h
refine Zcd (Zd1 _ _ _ _ _ h2) rfl rfl rfl rfl rfl (Zf ?_)
cases h
exact Zcl rfl rfl rfl}
def ZaW (p0:List Title):Option (List Title):=if (decide ((p0.length:Int)<2)) then (some p0:Option (List Title)) else ZE Zaq (fun f22 (x434:Int)=>if (decide (x434<(p0.length:Int))) then (atI p0 x434).bind fun e597=>(atI p0 (w64 (x434-1))).bind fun e598=>if (decide (e597=e598)) then (Zgj p0 x434 (p0.length:Int)).bind fun l599=>ZE Zaq (fun f26 (x633:Int)=>if (decide (x633<(l599.length:Int))) then (atI l599 x633).bind fun e646=>(atI l599 (w64 (x633-1))).bind fun e647=>if (!decide (e646=e647)) then (atI l599 x633).bind fun e648=>(atI p0 x434).bind fun e649=>(none:Option (List Title)) else f26 (w64 (x633+1)) else (Zgj p0 x434 (p0.length:Int)).bind fun l650=>(none:Option (List Title))) 1 else f22 (w64 (x434+1)) else (some p0:Option (List Title))) 1
theorem Zgk (p0:List Title) (r:List Title) (h:ZaW p0=some r):ContractR Tryz.prog 81 [] 36 2 (List.map Title.cs p0) (.row 0 (0,0)) (List.map Title.cs r):=by{
refine ZaT (R:=fun r=>.row 0 (0,0)) (O:=fun r=>(List.map Title.cs r)) h mix Tryz.func81 (by kernel_rfl) rfl (by kernel_rfl) fun r h=>?_
unfold ZaW at h
refine Zf ?_
refine rg ?_
refine rg ?_
refine lM Title.cs p0 ?_
refine cS h rfl (fun h=>?_) fun h=>?_
refine rg ?_
cases h
exact ZmA rfl rfl rfl
refine rg ?_
refine bl ?_
refine Zk h fun f22 mf22 hf22 h=>?_
refine Zi (α:=Nat×Int) (fun a _=>mkS [(0,.row 0 (0,0)),(3,.int .i64 a.2)] [(0,some ((0,0),.row 36 2 false (List.map Title.cs p0)))] 2) (fun a=>ZE a.1 f22 a.2=some r) (fun a=>a.1) (mf22,1) 2 h (sR []) (fun a _ h=>?_)
obtain ⟨mf22,x434⟩:=a
obtain ⟨mf22,rfl,h⟩:=Zl hf22 h
dsimp only at h ⊢
refine Zf ?_
refine rg ?_
refine lM Title.cs p0 ?_
refine cS h rfl (fun h=>?_) fun h=>?_
refine bl ?_
refine rg ?_
obtain ⟨e597,h573,h⟩:=bnd h
refine ZA rfl h573 rfl rfl rfl (Zf ?_)
refine Zaj rfl h573 rfl rfl rfl (Zf ?_)
obtain ⟨e598,h574,h⟩:=bnd h
refine ZA rfl h574 rfl rfl rfl (Zf ?_)
refine Zaj rfl h574 rfl rfl rfl (Zf ?_)
refine ZeM (.inl rfl) rfl rfl rfl rfl rfl (fun W=>ZcM e597 e598 W) (Zf ?_)
refine cS h rfl (fun h=>?_) fun h=>?_
refine rg ?_
refine sM Title.cs h fun l599 h=>?_
refine rg ?_
refine bl ?_
refine Zk h fun f26 mf26 hf26 h=>?_
refine Zi (α:=Nat×Int) (fun a _=>mkS [(0,.row 0 (0,0)),(3,.int .i64 x434),(4,.sl (List.map Title.cs l599)),(5,.int .i64 a.2)] [(0,some ((0,0),.row 36 2 true (List.map Title.cs p0)))] 2) (fun a=>ZE a.1 f26 a.2=some r) (fun a=>a.1) (mf26,1) 2 h (sR []) (fun a _ h=>?_)
obtain ⟨mf26,x633⟩:=a
obtain ⟨mf26,rfl,h⟩:=Zl hf26 h
dsimp only at h ⊢
refine Zf ?_
refine rg ?_
refine lM Title.cs l599 ?_
refine cS h rfl (fun h=>?_) fun h=>?_
refine bl ?_
refine rg ?_
refine aI Title.cs h fun e646 h=>?_
refine aI Title.cs h fun e647 h=>?_
refine ZeM (.inr rfl) rfl rfl rfl rfl rfl (fun W=>ZeX e646 e647 W) (Zf ?_)
refine cS h rfl (fun h=>?_) fun h=>?_
refine rg ?_
refine aI Title.cs h fun e648 h=>?_
obtain ⟨e649,h623,h⟩:=bnd h
refine ZA rfl h623 rfl rfl rfl (Zf ?_)
cases h
refine rg ?_
exact rn (mf26,(w64 (x633+1))) h (sR [])
refine rg ?_
refine sM Title.cs h fun l650 h=>?_
cases h
refine rg ?_
exact rn (mf22,(w64 (x434+1))) h (sR [])
refine rg ?_
cases h
exact ZmA rfl rfl rfl}
def Zfn (p0:List Title):Option (List Title):=(ZaK p0).bind fun r1=>(ZaW r1).bind fun r2=>(some r2:Option (List Title))
theorem ZkQ (p0:List Title) (r:List Title) (h:Zfn p0=some r):ContractR Tryz.prog 38 [] 36 2 (List.map Title.cs p0) (.row 0 (0,0)) (List.map Title.cs r):=by{
refine ZaT (R:=fun r=>.row 0 (0,0)) (O:=fun r=>(List.map Title.cs r)) h mix Tryz.func38 (by kernel_rfl) rfl (by kernel_rfl) fun r h=>?_
unfold Zfn at h
refine Zf ?_
refine rg ?_
refine rg ?_
obtain ⟨r1,h1,h⟩:=bnd h
refine Zcd (ZfN _ _ h1) rfl rfl rfl rfl rfl (Zf ?_)
refine rg ?_
obtain ⟨r2,h2,h⟩:=bnd h
refine ZnJ (Zgk _ _ h2) rfl rfl rfl rfl (Zf ?_)
cases h
exact ZmA rfl rfl rfl}
def ZbN (p0:List Item):Option (List Item):=(neL p0).bind fun u1=>(Zbo 72 [] p0).bind fun l2=>(some l2:Option (List Item))
theorem Zhp (p0:List Item) (r:List Item) (h:ZbN p0=some r):Zb Tryz.prog 39 [.sl (List.map Item.cs p0)] (.sl (List.map Item.cs r)):=by{
refine cF (fun r=>.sl (List.map Item.cs r)) h mix Tryz.func39 fun r h=>?_
unfold ZbN at h
refine Zf ?_
refine rg ?_
refine rg ?_
obtain ⟨u1,h1,h⟩:=bnd h
refine ZsK rfl h1 rfl (Zf ?_)
refine ZS rfl rfl (Zf ?_)
refine rg ?_
refine ZF (M:=([]:List Item)) (f:=Item.cs) rfl rfl rfl rfl (Nat.le_of_ble_eq_true rfl) rfl (Zf ?_)
refine pR Item.cs h fun l2 h=>?_
cases h
exact rQ}
end
section
open VL Go.RowKit
theorem Zqg (a:Addr) (c:Nat) (w:World):Calls Tryz.prog 39 #[.slice (some a) 0 c] w fun e w'=>∃ v',e = .returned v'/\w'.ownsRow w.heap.size 60 6 v' 0 []/\Below w.heap.size w w':=by{
obtain ⟨i0,hi0⟩:∃ i,Tryz.prog.info? 60=some i:=⟨_,rfl⟩
have q22:∀ (w:World) (a:Option Addr) (n c n' c':Nat),(binOp .eql 54 (.slice a n c) (.slice none n' c')).run Tryz.prog w = .ok (.bool a.isNone) w:=fun w a n c n' c'=>Lib.run_eql_slice_nil w _ 60 a n c n' c' (by kernel_rfl)
have u22:∀ w,Sem.run Tryz.prog (underlying 54) w = .ok (TypeDesc.slice 60) w:=run_underlying (by kernel_rfl)
go_enter Tryz.func39,Tryz.ntmps39
go_wp2_with (at_builtin;refine wpList_append_own _ rfl _ _ 54 rfl w.heap.size 60 _ _ 6 _ (by kernel_rfl) rfl rfl rfl rfl rfl (by decide) _ _ _ rfl (World.ownsRow_made w #[] 0 (Nat.le_refl _) (Nat.zero_le _) (by simp)) a 0 c [] rfl ?qc1 ?qc2 ?qc3 ?qc4 ?qc5 ?qc6 ?_)
case qc1=>rfl
case qc2=>
 intro j u hj
 simp at hj
case qc3=>simp
case qc4=>simp [maxLen]
case qc5=>simp
case qc6=>simp
intro v' w1 hown hgrow hnil
go_wp2
go_ret
exact ⟨v',rfl,by simpa using hown,((Below.refl _ w).alloc (Nat.le_refl _) _).grown hgrow (by simp) (by intro k hk;simp [Value.ownBlock] at hk;omega)⟩}
theorem Zqh (c:Nat) (w:World):Calls Tryz.prog 39 #[.slice none 0 c] w fun e w'=>e = .returned (.slice none 0 0)/\Below w.heap.size w w':=by{
have q22:∀ (w:World) (a:Option Addr) (n c n' c':Nat),(binOp .eql 54 (.slice a n c) (.slice none n' c')).run Tryz.prog w = .ok (.bool a.isNone) w:=fun w a n c n' c'=>Lib.run_eql_slice_nil w _ 60 a n c n' c' (by kernel_rfl)
go_enter Tryz.func39,Tryz.ntmps39
go_wp2
go_ret
exact ⟨rfl,Below.refl _ _⟩}
theorem ZvO:Zb Tryz.prog 39 [.sl []] (.sl []):=by{
refine ⟨by kernel_rfl,rfl,rfl,fun x vs hpre hI=>?_⟩
obtain ⟨v,rfl⟩:∃ v,vs = #[v]:=by
 obtain ⟨l⟩:=vs
 have hs:=hpre.size
 match l,hs with
 | [v],_=>exact ⟨v,rfl⟩
 | [],hs=>simp at hs
 | _::_::_,hs=>simp at hs
have hv:=hpre.rep 0 (.sl []) v rfl rfl
have fin:∀ (w':World) (v':Value),Below x.W.heap.size x.W w'->(∀ y:Ctx,Rep y (.sl []) v')->∃ y v,y.W=w'/\Ending.returned v' = .returned v/\Post x y none (.sl []) [] v:=fun w' v' hb hr=>by
 have hF:∀ b o v,x.F b o->x.W.cell? ⟨b,o,none⟩=some v->w'.cell? ⟨b,o,none⟩=some v:=fun b o v hF hv=>(World.cell?_of_block (hb.block b (hpre.flt b o hF))).trans hv
 exact ⟨{ x with W:=w' },v',rfl,rfl,⟨fun _ h=>⟨h,rfl⟩,fun _ _ h=>h,hF⟩,⟨hb.os,hb.tape,hb.output,hb.size,fun b hlt _=>hb.block b hlt⟩,fun _ _ h=>.inl h,fun b o h=>Nat.lt_of_lt_of_le (hpre.flt b o h) hb.size,hr _,fun j os h=>by cases h⟩
have slE:∀ (A:Option Addr) (c:Nat) (hm:c<=9223372036854775807) (y:Ctx),Rep y (.sl []) (.slice A 0 c):=fun A c hm y=>.sl [] A 0 c 0 0 0 (fun _ _=>undef) rfl (Nat.zero_le _) hm (by simp) (by omega) (fun i j e p he=>by simp at he) (fun i j e p he=>by simp at he)
cases hv with
| sl _ A n c k b off f hn hc hm hk hA hcell hh=>
obtain rfl:n=0:=hn
cases A with
| none=>
  refine (Zqh c x.W).mono ?_
  rintro e w' ⟨rfl,hb⟩
  exact fin w' _ hb (slE none 0 (by omega))
| some a=>
  refine (Zqg a c x.W).mono ?_
  rintro e w' ⟨v',rfl,hown,hb⟩
  refine fin w' v' hb ?_
  rcases hown.2 with ⟨hn,_⟩ | ⟨g,cap,cur,hv,_,_,_,hcap,_⟩
  rw [hn]
  exact slE none 0 (by omega)
  rw [hv]
  exact slE _ cap (by unfold maxLen at hcap;omega)}
def Za2 (l:List Item):Option (List Item):=if l.length<=1000000 then some l else none
theorem ZvP (l:List Item) (h0:l≠[]) (hl:l.length<=1000000):ZbN l=some l:=by{
unfold ZbN
have e1:neL l=some ():=by
 unfold neL
 cases l with
 | nil=>exact absurd rfl h0
 | cons x l=>rfl
rw [e1,Option.bind_some,Zth l.length (by simp) (by omega) (by omega),Option.bind_some]
rfl}
theorem ZeH (l r:List Item) (h:Za2 l=some r):Zb Tryz.prog 39 [.sl (List.map Item.cs l)] (.sl (List.map Item.cs r)):=by{
unfold Za2 at h
split at h
rename_i hl
injection h with h
subst h
by_cases h0:l = []
subst h0
exact ZvO
exact Zhp l l (ZvP l h0 hl)
cases h}
end
section
open VL
def ZbV (p0:State) (p1:ByteArray):Option (List Title):=ZE Zaq (fun f7 ((x23,x24):Int×(List Title))=>if (decide (x23<(p0.watches.length:Int))) then letk (fun (x32:List Title)=>f7 ((w64 (x23+1)),x32)) fun k8=>(atI p0.watches x23).bind fun e33=>if (decide (e33.user=p1)) then (Zbo 24 x24 [e33.title]).bind fun l34=>k8 l34 else k8 x24 else (some x24:Option (List Title))) (0,([]:List Title))
theorem Zfd (p0:State) (p1:ByteArray) (r:List Title) (h:ZbV p0 p1=some r):ContractN Tryz.prog 20 [p0.pv,.str p1] (.row 36 2 false (List.map Title.cs r)):=by{
refine Zid (O:=fun r=>.row 36 2 false (List.map Title.cs r)) h mix Tryz.func20 (by kernel_rfl) rfl (by kernel_rfl) fun r h=>?_
unfold ZbV at h
refine Zf ?_
refine rg ?_
refine rg ?_
refine rg ?_
refine lM Watch.cs p0.watches ?_
refine bl ?_
refine Zk h fun f7 mf7 hf7 h=>?_
refine Zi (α:=Nat×(Int×(List Title))) (fun a _=>mkS [(1,.str p1),(5,.row 5 (1,5)),(9,.sl (List.map Watch.cs p0.watches)),(10,.int .i64 (p0.watches.length:Int)),(11,.int .i64 a.2.1)] [(5,some ((1,5),.row 36 2 false (List.map Title.cs a.2.2)))] 2) (fun a=>ZE a.1 f7 a.2=some r) (fun a=>a.1) (mf7,0,([]:List Title)) 2 h (Zam [] 5 36 2 rfl ⟨rfl,rfl,rfl,rfl,rfl,trivial⟩ ⟨⟨rfl,rfl⟩,trivial⟩ rfl) (fun a _ h=>?_)
obtain ⟨mf7,x23,x24⟩:=a
obtain ⟨mf7,rfl,h⟩:=Zl hf7 h
dsimp only at h ⊢
refine Zf ?_
refine rg ?_
refine cS h rfl (fun h=>?_) fun h=>?_
refine jL h (fun x32=>mkS [(1,.str p1),(5,.row 5 (1,5)),(9,.sl (List.map Watch.cs p0.watches)),(10,.int .i64 (p0.watches.length:Int)),(11,.int .i64 x23)] [(5,some ((1,5),.row 36 2 false (List.map Title.cs x32)))] 2) (fun k8 h=>?_) fun x32 h=>?_
refine bl ?_
refine rg ?_
refine aI Watch.cs h fun e33 h=>?_
refine rg ?_
refine cS h rfl (fun h=>?_) fun h=>?_
refine rg ?_
refine ZF (M:=([e33.title]:List Title)) (f:=Title.cs) rfl rfl rfl rfl (Nat.le_of_ble_eq_true rfl) rfl (Zf ?_)
refine pR Title.cs h fun l34 h=>?_
exact jn l34 h (sR [(5,5,4)])
exact jn x24 h (sR [(5,1,5)])
refine rg ?_
exact rn (mf7,(w64 (x23+1)),x32) h (sR [(5,1,5)])
refine rg ?_
injection h with h
subst h
exact Zup (t:=5) (g:=(1,5)) (o2:=.row 36 2 false (List.map Title.cs x24)) rfl rfl rfl}
def Zer (p0:State) (p1:ByteArray) (p2:List Title):Option (List Item):=ZE Zaq (fun f17 ((x143,x144):Int×(List Num))=>if (decide (x143<(p2.length:Int))) then letk (fun (x197:List Num)=>f17 ((w64 (x143+1)),x197)) fun k19=>(atI p2 x143).bind fun e198=>(ZbH p0 p1 e198).bind fun r199=>if (!r199) then k19 x144 else (Zbs p0 e198).bind fun r200=>ZE Zaq (fun f20 ((x205,x206):Int×(List Num))=>if (decide (x205<(r200.1.history.length:Int))) then (atI r200.1.history x205).bind fun e213=>(Zbo 80 x206 [(⟨(⟨e198,e213.number,e213.user,e213.note,e213.minute⟩:Item),e213.seq⟩:Num)]).bind fun l214=>f20 ((w64 (x205+1)),l214) else k19 x206) (0,x144) else (ZQ x144).bind fun r215=>ZE Zaq (fun f22 ((x234,x235):Int×(List Item))=>if (decide (x234<(r215.length:Int))) then (atI r215 x234).bind fun e242=>(Zbo 72 x235 [e242.item]).bind fun l243=>f22 ((w64 (x234+1)),l243) else (some x235:Option (List Item))) (0,([]:List Item))) (0,([]:List Num))
theorem ZjU (p0:State) (p1:ByteArray) (p2:List Title) (r:List Item) (h:Zer p0 p1 p2=some r):ContractN Tryz.prog 37 [p0.pv,.str p1,.sl (List.map Title.cs p2)] (.row 60 6 false (List.map Item.cs r)):=by{
refine Zid (O:=fun r=>.row 60 6 false (List.map Item.cs r)) h mix Tryz.func37 (by kernel_rfl) rfl (by kernel_rfl) fun r h=>?_
unfold Zer at h
refine Zal ?_
refine Zm (Zal ?_)
refine Zm (Zal ?_)
refine Zm (Zal ?_)
refine ZjK rfl (M:=p2) (f:=Title.cs) rfl (Zal ?_)
refine ZaP (Zal ?_)
refine Zk h fun f17 mf17 hf17 h=>?_
refine Zi (α:=Nat×(Int×(List Num))) (fun a _=>mkS [(1,.str p1),(3,.ptr 3 (1,3) 0),(7,.row 7 (1,7)),(17,.sl (List.map Title.cs p2)),(18,.int .i64 (p2.length:Int)),(19,.int .i64 a.2.1)] [(3,some ((1,3),.box (State.cs p0))),(7,some ((1,7),.row 117 7 false (List.map Num.cs a.2.2)))] 2) (fun a=>ZE a.1 f17 a.2=some r) (fun a=>a.1) (mf17,0,([]:List Num)) 2 h (Zam [((1,3),(1,0))] 7 117 7 rfl ⟨rfl,rfl,rfl,rfl,rfl,rfl,trivial⟩ ⟨⟨rfl,rfl⟩,⟨rfl,rfl⟩,trivial⟩ rfl) (fun a _ h=>?_)
obtain ⟨mf17,x143,x144⟩:=a
obtain ⟨mf17,rfl,h⟩:=Zl hf17 h
dsimp only at h ⊢
refine Zal ?_
refine Zm (Zal ?_)
refine Zav rfl (fun c=>Zal ?_) (fun c=>Zal ?_)
replace h:=ifT c h
refine Zag h fun k19 hk19 h=>?_
refine Zax (α:=List Num) (fun x197 _=>mkS [(1,.str p1),(3,.ptr 3 (1,3) 0),(7,.row 7 (1,7)),(17,.sl (List.map Title.cs p2)),(18,.int .i64 (p2.length:Int)),(19,.int .i64 x143)] [(3,some ((1,3),.box (State.cs p0))),(7,some ((1,7),.row 117 7 false (List.map Num.cs x197)))] 2) (fun x197=>k19 x197=some r) (Zal ?_) (fun a _ h=>?_)
refine ZaP (Zal ?_)
refine Zm (Zal ?_)
obtain ⟨e198,h166,h⟩:=bnd h
refine ZeR (f:=Title.cs) rfl h166 rfl rfl rfl (Zal ?_)
refine Zm (Zal ?_)
obtain ⟨r199,h167,h⟩:=bnd h
refine Zc8 (Ziz _ _ _ _ h167) rfl rfl (Zal ?_)
refine Zav rfl (fun c=>Zal ?_) (fun c=>Zal ?_)
replace h:=ifT c h
exact Zao x144 2 h (Zu [((1,3),(1,3)),((1,7),(1,7))] ⟨rfl,rfl,rfl,rfl,rfl,rfl,trivial⟩ ⟨⟨rfl,rfl⟩,⟨rfl,rfl⟩,trivial⟩ rfl)
replace h:=ifF c h
refine Zm (Zal ?_)
obtain ⟨r200,h168,h⟩:=bnd h
refine Zc8 (ZdP _ _ _ h168) rfl rfl (Zal ?_)
refine Zm (Zal ?_)
refine ZjK rfl (M:=r200.1.history) (f:=Revision.cs) rfl (Zal ?_)
refine ZaP (Zal ?_)
refine Zk h fun f20 mf20 hf20 h=>?_
refine Zi (α:=Nat×(Int×(List Num))) (fun a _=>mkS [(1,.str p1),(3,.ptr 3 (1,3) 0),(7,.row 7 (1,7)),(9,.ptr 9 (1,9) 0),(17,.sl (List.map Title.cs p2)),(18,.int .i64 (p2.length:Int)),(19,.int .i64 x143),(35,.sl (List.map Revision.cs r200.1.history)),(36,.int .i64 (r200.1.history.length:Int)),(37,.int .i64 a.2.1)] [(3,some ((1,3),.box (State.cs p0))),(7,some ((1,7),.row 117 7 false (List.map Num.cs a.2.2))),(9,some ((1,9),.box (Title.cs e198)))] 2) (fun a=>ZE a.1 f20 a.2=some r) (fun a=>a.1) (mf20,0,x144) 2 h (Zu [((1,3),(1,3)),((1,7),(1,7)),((1,9),(3,2))] ⟨rfl,rfl,rfl,rfl,rfl,rfl,rfl,rfl,rfl,rfl,trivial⟩ ⟨⟨rfl,rfl⟩,⟨rfl,rfl⟩,⟨rfl,rfl⟩,trivial⟩ rfl) (fun a _ h=>?_)
obtain ⟨mf20,x205,x206⟩:=a
obtain ⟨mf20,rfl,h⟩:=Zl hf20 h
dsimp only at h ⊢
refine Zal ?_
refine Zm (Zal ?_)
refine Zav rfl (fun c=>Zal ?_) (fun c=>Zal ?_)
replace h:=ifT c h
refine ZaP (Zal ?_)
refine Zm (Zal ?_)
obtain ⟨e213,h179,h⟩:=bnd h
refine ZeR (f:=Revision.cs) rfl h179 rfl rfl rfl (Zal ?_)
refine Zm (Zal ?_)
refine ZhP (cs:=[.int .i64 e198.space,.str e198.name,.int .i64 e213.number,.str e213.user,.str e213.note,.int .i64 e213.minute]) rfl (by kernel_rfl) (Zal ?_)
refine ZhP (cs:=[.int .i64 e198.space,.str e198.name,.int .i64 e213.number,.str e213.user,.str e213.note,.int .i64 e213.minute,.int .i64 e213.seq]) rfl (by kernel_rfl) (Zal ?_)
refine ZF (M:=([(⟨(⟨e198,e213.number,e213.user,e213.note,e213.minute⟩:Item),e213.seq⟩:Num)]:List Num)) (f:=Num.cs) rfl rfl rfl rfl (Nat.le_of_ble_eq_true rfl) rfl (Zal ?_)
obtain ⟨l214,h180,h⟩:=bnd h
refine Zl7 (f:=Num.cs) rfl h180 (fun _=>rfl) rfl rfl rfl rfl (Zal ?_)
refine Zm (Zal ?_)
exact ZY (mf20,(w64 (x205+1)),l214) 2 h (Nat.lt_succ_self mf20) (Zu [((1,3),(1,3)),((1,7),(4,15)),((1,9),(1,9))] ⟨rfl,rfl,rfl,rfl,rfl,rfl,rfl,rfl,rfl,rfl,trivial⟩ ⟨⟨rfl,rfl⟩,⟨rfl,rfl⟩,⟨rfl,rfl⟩,trivial⟩ rfl)
replace h:=ifF c h
exact Zao x206 2 h (Zu [((1,3),(1,3)),((1,7),(1,7))] ⟨rfl,rfl,rfl,rfl,rfl,rfl,trivial⟩ ⟨⟨rfl,rfl⟩,⟨rfl,rfl⟩,trivial⟩ rfl)
revert a;intro x197 h
subst hk19
dsimp only at h ⊢
refine Zal ?_
refine Zm (Zal ?_)
exact ZY (mf17,(w64 (x143+1)),x197) 2 h (Nat.lt_succ_self mf17) (Zu [((1,3),(1,3)),((1,7),(1,7))] ⟨rfl,rfl,rfl,rfl,rfl,rfl,trivial⟩ ⟨⟨rfl,rfl⟩,⟨rfl,rfl⟩,trivial⟩ rfl)
replace h:=ifF c h
refine Zm (Zal ?_)
obtain ⟨r215,h181,h⟩:=bnd h
refine Zcd (Zc6 _ _ h181) rfl rfl rfl rfl rfl (Zal ?_)
refine Zm (Zal ?_)
refine Zm (Zal ?_)
refine ZjK rfl (M:=r215) (f:=Num.cs) rfl (Zal ?_)
refine ZaP (Zal ?_)
refine Zk h fun f22 mf22 hf22 h=>?_
refine Zi (α:=Nat×(Int×(List Item))) (fun a _=>mkS [(14,.row 14 (1,14)),(61,.row 7 (1,7)),(62,.int .i64 (r215.length:Int)),(63,.int .i64 a.2.1)] [(7,some ((1,7),.row 117 7 false (List.map Num.cs r215))),(14,some ((1,14),.row 60 6 false (List.map Item.cs a.2.2)))] 2) (fun a=>ZE a.1 f22 a.2=some r) (fun a=>a.1) (mf22,0,([]:List Item)) 2 h (Zam [((1,7),(1,7))] 14 60 6 rfl ⟨rfl,rfl,rfl,rfl,trivial⟩ ⟨⟨rfl,rfl⟩,⟨rfl,rfl⟩,trivial⟩ rfl) (fun a _ h=>?_)
obtain ⟨mf22,x234,x235⟩:=a
obtain ⟨mf22,rfl,h⟩:=Zl hf22 h
dsimp only at h ⊢
refine Zal ?_
refine Zm (Zal ?_)
refine Zav rfl (fun c=>Zal ?_) (fun c=>Zal ?_)
replace h:=ifT c h
refine ZaP (Zal ?_)
refine Zm (Zal ?_)
obtain ⟨e242,h204,h⟩:=bnd h
refine ZA rfl h204 rfl rfl rfl (Zal ?_)
refine Zaj rfl h204 rfl rfl rfl (Zal ?_)
refine Zm (Zal ?_)
refine ZF (M:=([e242.item]:List Item)) (f:=Item.cs) rfl rfl rfl rfl (Nat.le_of_ble_eq_true rfl) rfl (Zal ?_)
obtain ⟨l243,h205,h⟩:=bnd h
refine Zl7 (f:=Item.cs) rfl h205 (fun _=>rfl) rfl rfl rfl rfl (Zal ?_)
refine Zm (Zal ?_)
exact ZY (mf22,(w64 (x234+1)),l243) 2 h (Nat.lt_succ_self mf22) (Zu [((1,7),(1,7)),((1,14),(4,4))] ⟨rfl,rfl,rfl,rfl,trivial⟩ ⟨⟨rfl,rfl⟩,⟨rfl,rfl⟩,trivial⟩ rfl)
replace h:=ifF c h
refine Zm (Zal ?_)
injection h with h
subst h
exact Zup (t:=14) (g:=(1,14)) (o2:=.row 60 6 false (List.map Item.cs x235)) rfl rfl rfl}
def Za7 (p0:List Item):Option (List Item):=ZE Zaq (fun f1 ((x9,x10,x11):Int×Int×(List Item))=>if (decide (x9<x10)) then (atI x11 x10).bind fun e24=>(atI x11 x9).bind fun e25=>(atI x11 x9).bind fun e26=>(atI (ZbF x11 x9 e24) x10).bind fun e27=>f1 ((w64 (x9+1)),(w64 (x10-1)),(ZbF (ZbF x11 x9 e24) x10 e25)) else (some x11:Option (List Item))) (0,(w64 ((p0.length:Int)-1)),p0)
theorem ZgR (p0:List Item) (r:List Item) (h:Za7 p0=some r):ContractR Tryz.prog 48 [] 60 6 (List.map Item.cs p0) (.tup []) (List.map Item.cs r):=by{
refine ZaT (R:=fun r=>.tup []) (O:=fun r=>(List.map Item.cs r)) h mix Tryz.func48 (by kernel_rfl) rfl (by kernel_rfl) fun r h=>?_
unfold Za7 at h
refine Zf ?_
refine rg ?_
refine lM Item.cs p0 ?_
refine bl ?_
refine Zk h fun f1 mf1 hf1 h=>?_
refine Zi (α:=Nat×(Int×Int×(List Item))) (fun a _=>mkS [(0,.row 0 (0,0)),(2,.int .i64 a.2.1),(3,.int .i64 a.2.2.1)] [(0,some ((0,0),.row 60 6 false (List.map Item.cs a.2.2.2)))] 2) (fun a=>ZE a.1 f1 a.2=some r) (fun a=>a.1) (mf1,0,(w64 ((p0.length:Int)-1)),p0) 2 h (sR []) (fun a _ h=>?_)
obtain ⟨mf1,x9,x10,x11⟩:=a
obtain ⟨mf1,rfl,h⟩:=Zl hf1 h
dsimp only at h ⊢
refine Zf ?_
refine rg ?_
refine cS h rfl (fun h=>?_) fun h=>?_
refine bl ?_
refine rg ?_
obtain ⟨e24,h21,h⟩:=bnd h
refine ZA rfl h21 rfl rfl rfl (Zf ?_)
refine Zaj rfl h21 rfl rfl rfl (Zf ?_)
obtain ⟨e25,h22,h⟩:=bnd h
refine ZA rfl h22 rfl rfl rfl (Zf ?_)
refine Zaj rfl h22 rfl rfl rfl (Zf ?_)
obtain ⟨e26,h23,h⟩:=bnd h
refine ZA rfl h23 rfl rfl rfl (Zf ?_)
refine ZaR (e':=e24) rfl h23 rfl rfl rfl rfl rfl rfl (Nat.le_of_ble_eq_true rfl) rfl rfl (Zf ?_)
obtain ⟨e27,h24,h⟩:=bnd h
refine ZA rfl h24 rfl rfl rfl (Zf ?_)
refine ZaR (e':=e25) rfl h24 rfl rfl rfl rfl rfl rfl (Nat.le_of_ble_eq_true rfl) rfl rfl (Zf ?_)
refine rg ?_
exact rn (mf1,(w64 (x9+1)),(w64 (x10-1)),(ZbF (ZbF x11 x9 e24) x10 e25)) h (sR [])
cases h
exact Zcl rfl rfl rfl}
def Zdn (p0:State) (p1:ByteArray) (p2:Int):Option (List Item):=ZE Zaq (fun f2 ((x19,x20):Int×(List Title))=>if (decide (x19<(p0.pages.length:Int))) then (atI p0.pages x19).bind fun e27=>(Zbo 24 x20 [e27.title]).bind fun l28=>f2 ((w64 (x19+1)),l28) else (Zfn x20).bind fun r29=>(Zer p0 p1 r29).bind fun r30=>(Za7 r30).bind fun r31=>(Zgj r31 0 (if (if (r31.length:Int)<p2 then (r31.length:Int) else p2) > 0 then (if (r31.length:Int)<p2 then (r31.length:Int) else p2) else 0)).bind fun l32=>(Za2 l32).bind fun r33=>(some r33:Option (List Item))) (0,([]:List Title))
theorem ZiP (p0:State) (p1:ByteArray) (p2:Int) (r:List Item) (h:Zdn p0 p1 p2=some r):Zb Tryz.prog 18 [p0.pv,.str p1,.int .i64 p2] (.sl (List.map Item.cs r)):=by{
refine cF (fun r=>.sl (List.map Item.cs r)) h mix Tryz.func18 fun r h=>?_
unfold Zdn at h
refine Zf ?_
refine rg ?_
refine rg ?_
refine rg ?_
refine lM Stored.cs p0.pages ?_
refine bl ?_
refine Zk h fun f2 mf2 hf2 h=>?_
refine Zi (α:=Nat×(Int×(List Title))) (fun a _=>mkS [(1,.str p1),(2,.int .i64 p2),(3,.ptr 3 (1,3) 0),(7,.row 7 (1,7)),(12,.sl (List.map Stored.cs p0.pages)),(13,.int .i64 (p0.pages.length:Int)),(14,.int .i64 a.2.1)] [(3,some ((1,3),.box (State.cs p0))),(7,some ((1,7),.row 36 2 false (List.map Title.cs a.2.2)))] 2) (fun a=>ZE a.1 f2 a.2=some r) (fun a=>a.1) (mf2,0,([]:List Title)) 2 h (Zam [((1,3),(1,0))] 7 36 2 rfl ⟨rfl,rfl,rfl,rfl,rfl,rfl,rfl,trivial⟩ ⟨⟨rfl,rfl⟩,⟨rfl,rfl⟩,trivial⟩ rfl) (fun a _ h=>?_)
obtain ⟨mf2,x19,x20⟩:=a
obtain ⟨mf2,rfl,h⟩:=Zl hf2 h
dsimp only at h ⊢
refine Zf ?_
refine rg ?_
refine cS h rfl (fun h=>?_) fun h=>?_
refine bl ?_
refine rg ?_
refine aI Stored.cs h fun e27 h=>?_
refine rg ?_
refine ZF (M:=([e27.title]:List Title)) (f:=Title.cs) rfl rfl rfl rfl (Nat.le_of_ble_eq_true rfl) rfl (Zf ?_)
refine pR Title.cs h fun l28 h=>?_
refine rg ?_
exact rn (mf2,(w64 (x19+1)),l28) h (sR [(3,1,3),(7,4,4)])
refine rg ?_
obtain ⟨r29,h25,h⟩:=bnd h
refine ZnJ (ZkQ _ _ h25) rfl rfl rfl rfl (Zf ?_)
refine aN h (ZjU _ _ _) fun r30 h=>?_
refine rg ?_
obtain ⟨r31,h27,h⟩:=bnd h
refine Zcd (ZgR _ _ h27) rfl rfl rfl rfl rfl (Zf ?_)
refine rg ?_
refine lM Item.cs r31 ?_
refine Zum rfl rfl rfl (Zf ?_)
refine Zv2 rfl rfl rfl (Zf ?_)
refine sM Item.cs h fun l32 h=>?_
refine aC h (ZeH _) fun r33 h=>?_
cases h
exact rQ}
def ZeG (p0:State) (p1:ByteArray) (p2:Int):Option (List Item):=(ZbV p0 p1).bind fun r1=>(Zfn r1).bind fun r2=>(Zer p0 p1 r2).bind fun r3=>(Zgj r3 (if (if (r3.length:Int)<p2 then (r3.length:Int) else p2) > 0 then (if (r3.length:Int)<p2 then (r3.length:Int) else p2) else 0) (r3.length:Int)).bind fun l4=>(Za2 l4).bind fun r5=>(some r5:Option (List Item))
theorem Zh3 (p0:State) (p1:ByteArray) (p2:Int) (r:List Item) (h:ZeG p0 p1 p2=some r):Zb Tryz.prog 16 [p0.pv,.str p1,.int .i64 p2] (.sl (List.map Item.cs r)):=by{
refine cF (fun r=>.sl (List.map Item.cs r)) h mix Tryz.func16 fun r h=>?_
unfold ZeG at h
refine Zf ?_
refine rg ?_
refine rg ?_
refine aN h (Zfd _ _) fun r1 h=>?_
obtain ⟨r2,h2,h⟩:=bnd h
refine ZnJ (ZkQ _ _ h2) rfl rfl rfl rfl (Zf ?_)
refine aN h (ZjU _ _ _) fun r3 h=>?_
refine rg ?_
refine lM Item.cs r3 ?_
refine Zum rfl rfl rfl (Zf ?_)
refine Zv2 rfl rfl rfl (Zf ?_)
refine sM Item.cs h fun l4 h=>?_
refine aC h (ZeH _) fun r5 h=>?_
cases h
exact rQ}
def ZnT (p0:List ByteArray) (p1:ByteArray):Option (List ByteArray):=ZE Zaq (fun f7 (x14:Int)=>letk (fun (x19:Bool)=>if x19 then f7 (w64 (x14+1)) else letk (fun (x21:Bool)=>if x21 then (some p0:Option (List ByteArray)) else (Zgj p0 0 x14).bind fun l22=>(Zbo 16 [] l22).bind fun l23=>(Zbo 16 l23 [p1]).bind fun l24=>(Zgj p0 x14 (p0.length:Int)).bind fun l25=>(Zbo 16 l24 l25).bind fun l26=>(some l26:Option (List ByteArray))) fun k9=>if (decide (x14<(p0.length:Int))) then (atI p0 x14).bind fun e27=>k9 (decide (e27=p1)) else k9 false) fun k8=>if (decide (x14<(p0.length:Int))) then (atI p0 x14).bind fun e28=>k8 (ltS e28 p1) else k8 false) 0
theorem Zpc (p0:List ByteArray) (p1:ByteArray) (r:List ByteArray) (h:ZnT p0 p1=some r):Zb Tryz.prog 158 [.sl (List.map csS p0),.str p1] (.sl (List.map csS r)):=by{
refine cF (fun r=>.sl (List.map csS r)) h mix Tryz.func158 fun r h=>?_
unfold ZnT at h
refine Zf ?_
refine rg ?_
refine rg ?_
refine bl ?_
refine Zk h fun f7 mf7 hf7 h=>?_
refine Zi (α:=Nat×Int) (fun a _=>mkS [(0,.sl (List.map csS p0)),(1,.str p1),(5,.int .i64 a.2)] [] 2) (fun a=>ZE a.1 f7 a.2=some r) (fun a=>a.1) (mf7,0) 2 h (sR []) (fun a _ h=>?_)
obtain ⟨mf7,x14⟩:=a
obtain ⟨mf7,rfl,h⟩:=Zl hf7 h
dsimp only at h ⊢
refine Zf ?_
refine jL h (fun x19=>mkS [(0,.sl (List.map csS p0)),(1,.str p1),(5,.int .i64 x14),(17,.bool x19)] [] 2) (fun k8 h=>?_) fun x19 h=>?_
refine rg ?_
refine lM csS p0 ?_
refine kS 10 h rfl (fun h=>?_) fun h=>?_
refine aI csS h fun e28 h=>?_
exact jn (ltS e28 p1) h (sR [])
iterate 6 refine Zg rfl (Zf ?_)
exact jn false h (sR [])
refine cS h rfl (fun h=>?_) fun h=>?_
refine bl ?_
refine rg ?_
exact rn (mf7,(w64 (x14+1))) h (sR [])
refine jL h (fun x21=>mkS [(0,.sl (List.map csS p0)),(1,.str p1),(5,.int .i64 x14),(31,.bool x21)] [] 2) (fun k9 h=>?_) fun x21 h=>?_
refine rg ?_
refine lM csS p0 ?_
refine kS 24 h rfl (fun h=>?_) fun h=>?_
refine aI csS h fun e27 h=>?_
exact jn (decide (e27=p1)) h (sR [])
iterate 6 refine Zg rfl (Zf ?_)
exact jn false h (sR [])
refine cS h rfl (fun h=>?_) fun h=>?_
refine rg ?_
cases h
exact rQ
refine rg ?_
refine sM csS h fun l22 h=>?_
obtain ⟨l23,h14,h⟩:=bnd h
refine ZeS (f:=csS) rfl h14 (fun _=>rfl) rfl rfl rfl (Zf ?_)
refine bM csS ([p1]:List ByteArray) ?_
refine pR csS h fun l24 h=>?_
refine sM csS h fun l25 h=>?_
refine pR csS h fun l26 h=>?_
cases h
exact rQ}
def Zie (p0:Group) (p1:ByteArray) (p2:List ByteArray):Option Bool:=ZE Zaq (fun f12 (x130:Int)=>if (decide (x130<(p0.members.length:Int))) then (atI p0.members x130).bind fun e179=>letk (fun (x187:Bool)=>if x187 then (some true:Option Bool) else f12 (w64 (x130+1))) fun k14=>(Zaz p1).bind fun r188=>if r188 then if (decide (e179=p1)) then k14 true else if (decide (0<(e179.size:Int))) then (atS e179 0).bind fun c189=>if (decide (c189=64)) then (Zff e179 1 (e179.size:Int)).bind fun l190=>(ZpS p2 l190).bind fun r191=>k14 r191 else k14 false else k14 false else if (decide (0<(e179.size:Int))) then (atS e179 0).bind fun c192=>if (decide (c192=64)) then (Zff e179 1 (e179.size:Int)).bind fun l193=>(ZpS p2 l193).bind fun r194=>k14 r194 else k14 false else k14 false else (some false:Option Bool)) 0
theorem ZnU (p0:Group) (p1:ByteArray) (p2:List ByteArray) (r:Bool) (h:Zie p0 p1 p2=some r):Zb Tryz.prog 159 [p0.pv,.str p1,.sl (List.map csS p2)] (.bool r):=by{
refine cF (fun r=>.bool r) h mix Tryz.func159 fun r h=>?_
unfold Zie at h
refine Zf ?_
refine rg ?_
refine rg ?_
refine bl ?_
refine Zk h fun f12 mf12 hf12 h=>?_
refine Zi (α:=Nat×Int) (fun a _=>mkS [(1,.str p1),(2,.sl (List.map csS p2)),(3,.ptr 3 (1,3) 0),(7,.int .i64 a.2)] [(3,some ((1,3),.box (Group.cs p0)))] 2) (fun a=>ZE a.1 f12 a.2=some r) (fun a=>a.1) (mf12,0) 2 h (sR [(3,1,0)]) (fun a _ h=>?_)
obtain ⟨mf12,x130⟩:=a
obtain ⟨mf12,rfl,h⟩:=Zl hf12 h
dsimp only at h ⊢
refine Zf ?_
refine rg ?_
refine lM csS p0.members ?_
refine cS h rfl (fun h=>?_) fun h=>?_
refine bl ?_
refine rg ?_
refine aI csS h fun e179 h=>?_
refine jL h (fun x187=>mkS [(1,.str p1),(2,.sl (List.map csS p2)),(3,.ptr 3 (1,3) 0),(7,.int .i64 x130),(43,.bool x187)] [(3,some ((1,3),.box (Group.cs p0)))] 2) (fun k14 h=>?_) fun x187 h=>?_
refine rg ?_
refine aC h (ZaZ _) fun r188 h=>?_
refine kS 23 h rfl (fun h=>?_) fun h=>?_
refine kS 28 h rfl (fun h=>?_) fun h=>?_
iterate 14 refine Zg rfl (Zf ?_)
exact jn true h (sR [(3,1,3)])
refine kS 32 h rfl (fun h=>?_) fun h=>?_
refine aS h fun c189 h=>?_
refine kS 37 h rfl (fun h=>?_) fun h=>?_
refine sS h fun l190 h=>?_
refine aC h (Zoz _ _) fun r191 h=>?_
exact jn r191 h (sR [(3,1,3)])
iterate 4 refine Zg rfl (Zf ?_)
exact jn false h (sR [(3,1,3)])
iterate 7 refine Zg rfl (Zf ?_)
exact jn false h (sR [(3,1,3)])
iterate 3 refine Zg rfl (Zf ?_)
refine kS 32 h rfl (fun h=>?_) fun h=>?_
refine aS h fun c192 h=>?_
refine kS 37 h rfl (fun h=>?_) fun h=>?_
refine sS h fun l193 h=>?_
refine aC h (Zoz _ _) fun r194 h=>?_
exact jn r194 h (sR [(3,1,3)])
iterate 4 refine Zg rfl (Zf ?_)
exact jn false h (sR [(3,1,3)])
iterate 7 refine Zg rfl (Zf ?_)
exact jn false h (sR [(3,1,3)])
refine cS h rfl (fun h=>?_) fun h=>?_
refine rg ?_
cases h
exact rQ
refine rg ?_
exact rn (mf12,(w64 (x130+1))) h (sR [(3,1,3)])
refine rg ?_
cases h
exact rQ}
def Zev (p0:Policy) (p1:ByteArray):Option (List ByteArray):=(Zaz p1).bind fun r1=>letk (fun (x3:List ByteArray)=>ZE Zaq (fun f23 ((x122,x123):(List ByteArray)×Int)=>if (decide (x123<(x122.length:Int))) then ZE Zaq (fun f26 ((x162,x163):(List ByteArray)×Int)=>if (decide (x163<(p0.groups.length:Int))) then letk (fun (x177:List ByteArray)=>f26 (x177,(w64 (x163+1)))) fun k27=>(atI p0.groups x163).bind fun e178=>(Zie e178 p1 x162).bind fun r179=>if r179 then (atI p0.groups x163).bind fun e180=>(ZnT x162 e180.name).bind fun r181=>k27 r181 else k27 x162 else f23 (x162,(x122.length:Int))) (x122,0) else (some x122:Option (List ByteArray))) (x3,(-1))) fun k1=>if r1 then (ZnT [(⟨#[97,108,108]⟩:ByteArray)] (⟨#[117,115,101,114,115]⟩:ByteArray)).bind fun r182=>k1 r182 else k1 [(⟨#[97,108,108]⟩:ByteArray)]
theorem Zpd (p0:Policy) (p1:ByteArray) (r:List ByteArray) (h:Zev p0 p1=some r):Zb Tryz.prog 106 [p0.pv,.str p1] (.sl (List.map csS r)):=by{
refine cF (fun r=>.sl (List.map csS r)) h mix Tryz.func106 fun r h=>?_
unfold Zev at h
refine Zf ?_
refine rg ?_
refine rg ?_
refine bM csS ([(⟨#[97,108,108]⟩:ByteArray)]:List ByteArray) ?_
refine rg ?_
refine aC h (ZaZ _) fun r1 h=>?_
refine jL h (fun x3=>mkS [(1,.str p1),(2,.ptr 2 (1,2) 0),(5,.sl (List.map csS x3))] [(2,some ((1,2),.box (Policy.cs p0)))] 2) (fun k1 h=>?_) fun x3 h=>?_
refine cS h rfl (fun h=>?_) fun h=>?_
refine rg ?_
refine aC h (Zpc _ _) fun r182 h=>?_
exact jn r182 h (sR [(2,1,0)])
exact jn [(⟨#[97,108,108]⟩:ByteArray)] h (Shift.trans (Zjn 5 rfl rfl) (sR [(2,1,0)]))
refine rg ?_
refine bl ?_
refine Zk h fun f23 mf23 hf23 h=>?_
refine Zi (α:=Nat×((List ByteArray)×Int)) (fun a _=>mkS [(1,.str p1),(2,.ptr 2 (1,2) 0),(5,.sl (List.map csS a.2.1)),(6,.int .i64 a.2.2)] [(2,some ((1,2),.box (Policy.cs p0)))] 2) (fun a=>ZE a.1 f23 a.2=some r) (fun a=>a.1) (mf23,x3,(-1)) 2 h (sR [(2,1,2)]) (fun a _ h=>?_)
obtain ⟨mf23,x122,x123⟩:=a
obtain ⟨mf23,rfl,h⟩:=Zl hf23 h
dsimp only at h ⊢
refine Zf ?_
refine rg ?_
refine lM csS x122 ?_
refine cS h rfl (fun h=>?_) fun h=>?_
refine bl ?_
refine rg ?_
refine lM csS x122 ?_
refine rg ?_
refine bl ?_
refine Zk h fun f26 mf26 hf26 h=>?_
refine Zi (α:=Nat×((List ByteArray)×Int)) (fun a _=>mkS [(1,.str p1),(2,.ptr 2 (1,2) 0),(5,.sl (List.map csS a.2.1)),(6,.int .i64 (x122.length:Int)),(7,.int .i64 a.2.2)] [(2,some ((1,2),.box (Policy.cs p0)))] 2) (fun a=>ZE a.1 f26 a.2=some r) (fun a=>a.1) (mf26,x122,0) 2 h (sR [(2,1,2)]) (fun a _ h=>?_)
obtain ⟨mf26,x162,x163⟩:=a
obtain ⟨mf26,rfl,h⟩:=Zl hf26 h
dsimp only at h ⊢
refine Zf ?_
refine rg ?_
refine lM Group.cs p0.groups ?_
refine cS h rfl (fun h=>?_) fun h=>?_
refine jL h (fun x177=>mkS [(1,.str p1),(2,.ptr 2 (1,2) 0),(5,.sl (List.map csS x177)),(6,.int .i64 (x122.length:Int)),(7,.int .i64 x163)] [(2,some ((1,2),.box (Policy.cs p0)))] 2) (fun k27 h=>?_) fun x177 h=>?_
refine bl ?_
refine rg ?_
refine aI Group.cs h fun e178 h=>?_
refine aC h (ZnU _ _ _) fun r179 h=>?_
refine cS h rfl (fun h=>?_) fun h=>?_
refine rg ?_
refine aI Group.cs h fun e180 h=>?_
refine aC h (Zpc _ _) fun r181 h=>?_
exact jn r181 h (sR [(2,1,2)])
exact jn x162 h (sR [(2,1,2)])
refine rg ?_
exact rn (mf26,x177,(w64 (x163+1))) h (sR [(2,1,2)])
exact rn (mf23,x162,(x122.length:Int)) h (sR [(2,1,2)])
refine rg ?_
cases h
exact rQ}
def Zcz (p0:State):Option Policy:=(Zjm).bind fun r1=>(Zkj p0 r1).bind fun r2=>if (!r2.2) then (some (⟨[],[],[]⟩:Policy):Option Policy) else (ZW r2.1).bind fun r3=>if (!decide (r3.2.2=0)) then (some (⟨[],[],[]⟩:Policy):Option Policy) else (some r3.1:Option Policy)
theorem ZlH (p0:State) (r:Policy) (h:Zcz p0=some r):Zb Tryz.prog 104 [p0.pv] (r.pv):=by{
refine cF (fun r=>r.pv) h mix Tryz.func104 fun r h=>?_
unfold Zcz at h
refine Zf ?_
refine rg ?_
refine rg ?_
refine aC h Zox fun r1 h=>?_
refine aC h (ZrN _ _) fun r2 h=>?_
refine rg ?_
refine cS h rfl (fun h=>?_) fun h=>?_
refine rg ?_
cases h
exact rQ
refine rg ?_
refine aC h (ZhO _) fun r3 h=>?_
refine rg ?_
refine cS h rfl (fun h=>?_) fun h=>?_
refine rg ?_
cases h
exact rQ
refine rg ?_
cases h
exact rQ}
def ZhM (p0:State) (p1:ByteArray) (p2:Int) (p3:Title):Option Bool:=(Zcz p0).bind fun r1=>(Zev r1 p1).bind fun r2=>(Zls r1 r2 p2 p3).bind fun r3=>(some r3:Option Bool)
theorem Zoe (p0:State) (p1:ByteArray) (p2:Int) (p3:Title) (r:Bool) (h:ZhM p0 p1 p2 p3=some r):Zb Tryz.prog 51 [p0.pv,.str p1,.int .i64 p2,p3.pv] (.bool r):=by{
refine cF (fun r=>.bool r) h mix Tryz.func51 fun r h=>?_
unfold ZhM at h
refine Zf ?_
refine rg ?_
refine rg ?_
refine aC h (ZlH _) fun r1 h=>?_
refine rg ?_
refine aC h (Zpd _ _) fun r2 h=>?_
refine aC h (ZtY _ _ _ _) fun r3 h=>?_
cases h
exact rQ}
end
end Go.Proofs.YtpdaeclbndpabaaGreatDoor
