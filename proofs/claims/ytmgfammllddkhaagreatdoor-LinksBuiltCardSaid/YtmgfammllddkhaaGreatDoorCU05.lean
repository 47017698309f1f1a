/- Functions of -/
import Derived.Test.YtmgfammllddkhaaGreatDoorCU04
set_option linter.unusedSimpArgs false
set_option linter.unusedVariables false
set_option maxHeartbeats 4000000
set_option maxRecDepth 100000
namespace Go.Proofs.YtmgfammllddkhaaGreatDoor
section
open VL
def WL (p0:Q1) (p1:Q1):Q2 Bool:=letk (fun (x2:Bool)=>some x2) fun k1=>if decide ((p1.size:Int)<=(p0.size:Int)) then (AJ p0 (w64 ((p0.size:Int)-(p1.size:Int))) (p0.size:Int)).bind fun l3=>k1 (decide (l3=p1)) else k1 false
theorem ZdL (p0:Q1) (p1:Q1) (r:Bool) (h:WL p0 p1=some r):Zg Q7 219 [.str p0,.str p1] (.bool r):=by{
refine cF (fun r=>.bool r) h mix Tryz.func219 fun r h=>?_
unfold WL at h
refine Zi ?_
refine rg ?_
refine jL h (fun x2=>mkS [(4,.bool x2)] [] 2) (fun k1 h=>?_) fun x2 h=>?_
refine rg ?_
refine kS 10 h rfl (fun h=>?_) fun h=>?_
refine sS h fun l3 h=>?_
exact jn (decide (l3=p1)) h (sR [])
iterate 9 refine Zw rfl (Zi ?_)
exact jn false h (sR [])
cases h
exact rQ}
def WM (p0:Q1) (p1:Q1):Q2 Q1:=(WL p0 p1).bind fun r1=>if r1 then (AJ p0 0 (w64 ((p0.size:Int)-(p1.size:Int)))).bind fun l3=>some l3 else some p0
theorem ZdE (p0:Q1) (p1:Q1) (r:Q1) (h:WM p0 p1=some r):Zg Q7 214 [.str p0,.str p1] (.str r):=by{
refine cF (fun r=>.str r) h mix Tryz.func214 fun r h=>?_
unfold WM at h
refine Zi ?_
refine rg ?_
refine rg ?_
refine aC h (ZdL _ _) fun r1 h=>?_
refine cS h rfl (fun h=>?_) fun h=>?_
refine rg ?_
refine sS h fun l3 h=>?_
cases h
exact rQ
refine rg ?_
cases h
exact rQ}
def strings_TrimSuffix (p0:Q1) (p1:Q1):Q2 Q1:=(WM p0 p1).bind fun r1=>some r1
theorem ZhU (p0:Q1) (p1:Q1) (r:Q1) (h:strings_TrimSuffix p0 p1=some r):Zg Q7 192 [.str p0,.str p1] (.str r):=by{
refine cF (fun r=>.str r) h mix Tryz.func192 fun r h=>?_
unfold strings_TrimSuffix at h
refine Zi ?_
refine rg ?_
refine rg ?_
refine aC h (ZdE _ _) fun r1 h=>?_
cases h
exact rQ}
def T3 (p0:Q1):Q2 Q1:=(WA 1 (p0.size:Int)).bind fun _=>A4 A9 (fun f17 ((x63,x64):Int×(Q3 Int))=>if decide (x63<(p0.size:Int)) then letk (fun (x87:Q3 Int)=>f17 ((w64 (x63+1)),x87)) fun k19=>letk (fun (x90:Bool)=>if x90 then (atS p0 x63).bind fun c91=>(AA 1 x64 [c91]).bind fun l92=>k19 l92 else k19 x64) fun k20=>(atS p0 x63).bind fun c93=>if (!decide (c93=32)) then k20 true else if decide (0<(x64.length:Int)) then (atI x64 (w64 ((x64.length:Int)-1))).bind fun e94=>k20 (!decide (e94=32)) else k20 false else (strings_TrimSuffix (strOfNums x64) ⟨#[32]⟩).bind fun r95=>some r95) (0,([]:Q3 Int))
theorem Zmu (p0:Q1) (r:Q1) (h:T3 p0=some r):Zg Q7 152 [.str p0] (.str r):=by{
refine cF (fun r=>.str r) h mix Tryz.func152 fun r h=>?_
unfold T3 at h
refine Zi ?_
refine rg ?_
refine rg ?_
let ⟨_,h1,h⟩:=bnd h
refine zE csB rfl rfl rfl h1 (Zi ?_)
refine rg ?_
refine bl ?_
refine Zy h fun f17 mf17 hf17 h=>?_
refine Zu (α:=Nat×(Int×(Q3 Int))) (fun a _=>mkS [(0,.str p0),(3,.row 7 (1,7)),(4,Q5 a.2.1)] [(7,some ((1,7),.row 5 1 false (Q8 csB a.2.2)))] 2) (fun a=>A4 a.1 f17 a.2=some r) (fun a=>a.1) (mf17,0,([]:Q3 Int)) 2 h (sR [(7,2,2)]) (fun a _ h=>?_)
obtain ⟨mf17,x63,x64⟩:=a
obtain ⟨mf17,rfl,h⟩:=Zz hf17 h
dsimp only at h ⊢
refine Zi ?_
refine rg ?_
refine cS h rfl (fun h=>?_) fun h=>?_
refine jL h (fun x87=>mkS [(0,.str p0),(3,.row 7 (1,7)),(4,Q5 x63)] [(7,some ((1,7),.row 5 1 false (Q8 csB x87)))] 2) (fun k19 h=>?_) fun x87 h=>?_
refine bl ?_
refine jL h (fun x90=>mkS [(0,.str p0),(3,.row 7 (1,7)),(4,Q5 x63),(31,.bool x90)] [(7,some ((1,7),.row 5 1 false (Q8 csB x64)))] 2) (fun k20 h=>?_) fun x90 h=>?_
refine rg ?_
refine aS h fun c93 h=>?_
refine kS 18 h rfl (fun h=>?_) fun h=>?_
iterate 12 refine Zw rfl (Zi ?_)
exact jn true h (sR [(7,1,7)])
refine lM csB x64 ?_
refine kS 22 h rfl (fun h=>?_) fun h=>?_
refine lM csB x64 ?_
let ⟨e94,h73,h⟩:=bnd h
refine ZT rfl h73 rfl rfl rfl (Zi ?_)
refine B9 rfl h73 rfl rfl rfl (Zi ?_)
exact jn (!decide (e94=32)) h (sR [(7,1,7)])
iterate 7 refine Zw rfl (Zi ?_)
exact jn false h (sR [(7,1,7)])
refine cS h rfl (fun h=>?_) fun h=>?_
refine rg ?_
refine aS h fun c91 h=>?_
refine bM csB ([c91]:Q3 Int) ?_
refine pR csB h fun l92 h=>?_
exact jn l92 h (sR [(7,2,5)])
exact jn x64 h (sR [(7,1,7)])
refine rg ?_
exact rn (mf17,(w64 (x63+1)),x87) h (sR [(7,1,7)])
refine rg ?_
refine cK (l:=x64) rfl rfl (Zi ?_)
refine aC h (ZhU _ _) fun r95 h=>?_
cases h
exact rQ}
def ZB (p0:Q1) (p1:Q1):Q2 Bool:=letk (fun (x2:Bool)=>some x2) fun k1=>if decide ((p1.size:Int)<=(p0.size:Int)) then (AJ p0 0 (p1.size:Int)).bind fun l3=>k1 (decide (l3=p1)) else k1 false
theorem dE (p0:Q1) (p1:Q1) (r:Bool) (h:ZB p0 p1=some r):Zg Q7 148 [.str p0,.str p1] (.bool r):=by{
refine cF (fun r=>.bool r) h mix Tryz.func148 fun r h=>?_
unfold ZB at h
refine Zi ?_
refine rg ?_
refine jL h (fun x2=>mkS [(4,.bool x2)] [] 2) (fun k1 h=>?_) fun x2 h=>?_
refine rg ?_
refine kS 10 h rfl (fun h=>?_) fun h=>?_
refine sS h fun l3 h=>?_
exact jn (decide (l3=p1)) h (sR [])
iterate 6 refine Zw rfl (Zi ?_)
exact jn false h (sR [])
cases h
exact rQ}
def ZV (p0:Q1) (p1:Q1):Q2 Bool:=(ZB p0 p1).bind fun r1=>some r1
theorem LN (p0:Q1) (p1:Q1) (r:Bool) (h:ZV p0 p1=some r):Zg Q7 115 [.str p0,.str p1] (.bool r):=by{
refine cF (fun r=>.bool r) h mix Tryz.func115 fun r h=>?_
unfold ZV at h
refine Zi ?_
refine rg ?_
refine rg ?_
refine aC h (dE _ _) fun r1 h=>?_
cases h
exact rQ}
def WN (p0:Q1) (p1:Q1):Q2 Q1:=(ZB p0 p1).bind fun r1=>if r1 then (AJ p0 (p1.size:Int) (p0.size:Int)).bind fun l3=>some l3 else some p0
theorem ZdF (p0:Q1) (p1:Q1) (r:Q1) (h:WN p0 p1=some r):Zg Q7 194 [.str p0,.str p1] (.str r):=by{
refine cF (fun r=>.str r) h mix Tryz.func194 fun r h=>?_
unfold WN at h
refine Zi ?_
refine rg ?_
refine rg ?_
refine aC h (dE _ _) fun r1 h=>?_
refine cS h rfl (fun h=>?_) fun h=>?_
refine rg ?_
refine sS h fun l3 h=>?_
cases h
exact rQ
refine rg ?_
cases h
exact rQ}
def PJ (p0:Q1) (p1:Q1):Q2 Q1:=(WN p0 p1).bind fun r1=>some r1
theorem m0 (p0:Q1) (p1:Q1) (r:Q1) (h:PJ p0 p1=some r):Zg Q7 154 [.str p0,.str p1] (.str r):=by{
refine cF (fun r=>.str r) h mix Tryz.func154 fun r h=>?_
unfold PJ at h
refine Zi ?_
refine rg ?_
refine rg ?_
refine aC h (ZdF _ _) fun r1 h=>?_
cases h
exact rQ}
def T4 (p0:Q1) (p1:Int):Q2 Q1:=A4 A9 (fun f7 (x18:Q1)=>letk (fun (x24:Bool)=>if x24 then (AJ x18 1 (x18.size:Int)).bind fun l25=>f7 l25 else some x18) fun k8=>if decide (0<(x18.size:Int)) then (atS x18 0).bind fun c26=>k8 (decide (c26=p1)) else k8 false) p0
theorem ZgT (p0:Q1) (p1:Int) (r:Q1) (h:T4 p0 p1=some r):Zg Q7 84 [.str p0,.int .u8 p1] (.str r):=by{
refine cF (fun r=>.str r) h mix Tryz.func84 fun r h=>?_
unfold T4 at h
refine Zi ?_
refine rg ?_
refine bl ?_
refine Zy h fun f7 mf7 hf7 h=>?_
refine Zu (α:=Nat×Q1) (fun a _=>mkS [(0,.str a.2),(1,.int .u8 p1)] [] 2) (fun a=>A4 a.1 f7 a.2=some r) (fun a=>a.1) (mf7,p0) 2 h (sR []) (fun a _ h=>?_)
obtain ⟨mf7,x18⟩:=a
obtain ⟨mf7,rfl,h⟩:=Zz hf7 h
dsimp only at h ⊢
refine Zi ?_
refine jL h (fun x24=>mkS [(0,.str x18),(1,.int .u8 p1),(13,.bool x24)] [] 2) (fun k8 h=>?_) fun x24 h=>?_
refine rg ?_
refine kS 8 h rfl (fun h=>?_) fun h=>?_
refine aS h fun c26 h=>?_
exact jn (decide (c26=p1)) h (sR [])
iterate 4 refine Zw rfl (Zi ?_)
exact jn false h (sR [])
refine cS h rfl (fun h=>?_) fun h=>?_
refine bl ?_
refine rg ?_
refine sS h fun l25 h=>?_
exact rn (mf7,l25) h (sR [])
refine rg ?_
cases h
exact rQ}
def T5 (p0:Q1) (p1:Q1):Q2 Q1:=letk (fun (x1:Bool)=>if x1 then some p0 else letk (fun (x3:Bool)=>if x3 then (atS p1 0).bind fun c6=>(T4 p0 c6).bind fun r7=>some r7 else (none:Q2 Q1)) fun k2=>if decide ((p1.size:Int)=1) then (atS p1 0).bind fun c8=>k2 (decide (c8<128)) else k2 false) fun k1=>if decide (p0=(⟨#[]⟩:Q1)) then k1 true else k1 (decide (p1=(⟨#[]⟩:Q1)))
theorem Zjk (p0:Q1) (p1:Q1) (r:Q1) (h:T5 p0 p1=some r):Zg Q7 48 [.str p0,.str p1] (.str r):=by{
refine cF (fun r=>.str r) h mix Tryz.func48 fun r h=>?_
unfold T5 at h
refine Zi ?_
refine rg ?_
refine jL h (fun x1=>mkS [(0,.str p0),(1,.str p1),(12,.bool x1)] [] 2) (fun k1 h=>?_) fun x1 h=>?_
refine rg ?_
refine kS 9 h rfl (fun h=>?_) fun h=>?_
iterate 2 refine Zw rfl (Zi ?_)
exact jn true h (sR [])
exact jn (decide (p1=(⟨#[]⟩:Q1))) h (sR [])
refine cS h rfl (fun h=>?_) fun h=>?_
refine rg ?_
cases h
exact rQ
refine jL h (fun x3=>mkS [(0,.str p0),(1,.str p1),(21,.bool x3)] [] 2) (fun k2 h=>?_) fun x3 h=>?_
refine rg ?_
refine kS 17 h rfl (fun h=>?_) fun h=>?_
refine aS h fun c8 h=>?_
exact jn (decide (c8<128)) h (sR [])
iterate 3 refine Zw rfl (Zi ?_)
exact jn false h (sR [])
refine cS h rfl (fun h=>?_) fun h=>?_
refine rg ?_
refine aS h fun c6 h=>?_
refine aC h (ZgT _ _) fun r7 h=>?_
cases h
exact rQ
cases h}
def T6 (p0:Q1) (p1:Int):Q2 Q1:=A4 A9 (fun f7 (x18:Q1)=>letk (fun (x24:Bool)=>if x24 then (AJ x18 0 (w64 ((x18.size:Int)-1))).bind fun l25=>f7 l25 else some x18) fun k8=>if decide (0<(x18.size:Int)) then (atS x18 (w64 ((x18.size:Int)-1))).bind fun c26=>k8 (decide (c26=p1)) else k8 false) p0
theorem ZgH (p0:Q1) (p1:Int) (r:Q1) (h:T6 p0 p1=some r):Zg Q7 209 [.str p0,.int .u8 p1] (.str r):=by{
refine cF (fun r=>.str r) h mix Tryz.func209 fun r h=>?_
unfold T6 at h
refine Zi ?_
refine rg ?_
refine bl ?_
refine Zy h fun f7 mf7 hf7 h=>?_
refine Zu (α:=Nat×Q1) (fun a _=>mkS [(0,.str a.2),(1,.int .u8 p1)] [] 2) (fun a=>A4 a.1 f7 a.2=some r) (fun a=>a.1) (mf7,p0) 2 h (sR []) (fun a _ h=>?_)
obtain ⟨mf7,x18⟩:=a
obtain ⟨mf7,rfl,h⟩:=Zz hf7 h
dsimp only at h ⊢
refine Zi ?_
refine jL h (fun x24=>mkS [(0,.str x18),(1,.int .u8 p1),(16,.bool x24)] [] 2) (fun k8 h=>?_) fun x24 h=>?_
refine rg ?_
refine kS 8 h rfl (fun h=>?_) fun h=>?_
refine aS h fun c26 h=>?_
exact jn (decide (c26=p1)) h (sR [])
iterate 7 refine Zw rfl (Zi ?_)
exact jn false h (sR [])
refine cS h rfl (fun h=>?_) fun h=>?_
refine bl ?_
refine rg ?_
refine sS h fun l25 h=>?_
exact rn (mf7,l25) h (sR [])
refine rg ?_
cases h
exact rQ}
def T7 (p0:Q1) (p1:Q1):Q2 Q1:=letk (fun (x1:Bool)=>if x1 then some p0 else letk (fun (x3:Bool)=>if x3 then (atS p1 0).bind fun c6=>(T6 p0 c6).bind fun r7=>some r7 else (none:Q2 Q1)) fun k2=>if decide ((p1.size:Int)=1) then (atS p1 0).bind fun c8=>k2 (decide (c8<128)) else k2 false) fun k1=>if decide (p0=(⟨#[]⟩:Q1)) then k1 true else k1 (decide (p1=(⟨#[]⟩:Q1)))
theorem Ziy (p0:Q1) (p1:Q1) (r:Q1) (h:T7 p0 p1=some r):Zg Q7 198 [.str p0,.str p1] (.str r):=by{
refine cF (fun r=>.str r) h mix Tryz.func198 fun r h=>?_
unfold T7 at h
refine Zi ?_
refine rg ?_
refine jL h (fun x1=>mkS [(0,.str p0),(1,.str p1),(12,.bool x1)] [] 2) (fun k1 h=>?_) fun x1 h=>?_
refine rg ?_
refine kS 9 h rfl (fun h=>?_) fun h=>?_
iterate 2 refine Zw rfl (Zi ?_)
exact jn true h (sR [])
exact jn (decide (p1=(⟨#[]⟩:Q1))) h (sR [])
refine cS h rfl (fun h=>?_) fun h=>?_
refine rg ?_
cases h
exact rQ
refine jL h (fun x3=>mkS [(0,.str p0),(1,.str p1),(21,.bool x3)] [] 2) (fun k2 h=>?_) fun x3 h=>?_
refine rg ?_
refine kS 17 h rfl (fun h=>?_) fun h=>?_
refine aS h fun c8 h=>?_
exact jn (decide (c8<128)) h (sR [])
iterate 3 refine Zw rfl (Zi ?_)
exact jn false h (sR [])
refine cS h rfl (fun h=>?_) fun h=>?_
refine rg ?_
refine aS h fun c6 h=>?_
refine aC h (ZgH _ _) fun r7 h=>?_
cases h
exact rQ
cases h}
def T8 (p0:Q1):Q2 Q1:=(strings_Split p0 ⟨#[47]⟩).bind fun r1=>A4 A9 (fun f13 ((x60,x61):Int×(Q3 Q1))=>if decide (x60<(r1.length:Int)) then letk (fun (x93:Q3 Q1)=>f13 ((w64 (x60+1)),x93)) fun k15=>letk (fun (x97:Q3 Q1)=>if decide (x60<(w64 ((x97.length:Int)-1))) then (atI x97 x60).bind fun e98=>(T7 e98 ⟨#[32]⟩).bind fun r99=>(atI x97 x60).bind fun e100=>k15 (AQ x97 x60 r99) else k15 x97) fun k16=>if decide (0<x60) then (atI x61 x60).bind fun e101=>(T5 e101 ⟨#[32]⟩).bind fun r102=>(atI x61 x60).bind fun e103=>k16 (AQ x61 x60 r102) else k16 x61 else (strings_Join x61 ⟨#[47]⟩).bind fun r104=>some r104) (0,r1)
theorem ZlZ (p0:Q1) (r:Q1) (h:T8 p0=some r):Zg Q7 156 [.str p0] (.str r):=by{
refine cF (fun r=>.str r) h mix Tryz.func156 fun r h=>?_
unfold T8 at h
refine Zi ?_
refine rg ?_
refine rg ?_
refine aN h (ZlD _ _) fun r1 h=>?_
refine rg ?_
refine lM csS r1 ?_
refine bl ?_
refine Zy h fun f13 mf13 hf13 h=>?_
refine Zu (α:=Nat×(Int×(Q3 Q1))) (fun a _=>mkS [(3,.row 6 (1,6)),(8,Q5 (r1.length:Int)),(9,Q5 a.2.1)] [(6,some ((1,6),.row 9 1 false (Q8 csS a.2.2)))] 2) (fun a=>A4 a.1 f13 a.2=some r) (fun a=>a.1) (mf13,0,r1) 2 h (sR [(6,2,1)]) (fun a _ h=>?_)
obtain ⟨mf13,x60,x61⟩:=a
obtain ⟨mf13,rfl,h⟩:=Zz hf13 h
dsimp only at h ⊢
refine Zi ?_
refine rg ?_
refine cS h rfl (fun h=>?_) fun h=>?_
refine jL h (fun x93=>mkS [(3,.row 6 (1,6)),(8,Q5 (r1.length:Int)),(9,Q5 x60)] [(6,some ((1,6),.row 9 1 false (Q8 csS x93)))] 2) (fun k15 h=>?_) fun x93 h=>?_
refine bl ?_
refine rg ?_
refine rg ?_
refine jL h (fun x97=>mkS [(3,.row 6 (1,6)),(4,Q5 x60),(8,Q5 (r1.length:Int)),(9,Q5 x60)] [(6,some ((1,6),.row 9 1 false (Q8 csS x97)))] 2) (fun k16 h=>?_) fun x97 h=>?_
refine cS h rfl (fun h=>?_) fun h=>?_
refine rg ?_
let ⟨e101,h83,h⟩:=bnd h
refine ZT rfl h83 rfl rfl rfl (Zi ?_)
refine B9 rfl h83 rfl rfl rfl (Zi ?_)
refine aC h (Zjk _ _) fun r102 h=>?_
let ⟨e103,h85,h⟩:=bnd h
refine ZT rfl h85 rfl rfl rfl (Zi ?_)
refine FM (e':=r102) rfl h85 rfl rfl rfl rfl rfl rfl (Yk rfl) rfl rfl (Zi ?_)
exact jn (AQ x61 x60 r102) h (sR [(6,1,6)])
exact jn x61 h (sR [(6,1,6)])
refine rg ?_
refine lM csS x97 ?_
refine cS h rfl (fun h=>?_) fun h=>?_
refine rg ?_
let ⟨e98,h80,h⟩:=bnd h
refine ZT rfl h80 rfl rfl rfl (Zi ?_)
refine B9 rfl h80 rfl rfl rfl (Zi ?_)
refine aC h (Ziy _ _) fun r99 h=>?_
let ⟨e100,h82,h⟩:=bnd h
refine ZT rfl h82 rfl rfl rfl (Zi ?_)
refine FM (e':=r99) rfl h82 rfl rfl rfl rfl rfl rfl (Yk rfl) rfl rfl (Zi ?_)
exact jn (AQ x97 x60 r99) h (sR [(6,1,6)])
exact jn x97 h (sR [(6,1,6)])
refine rg ?_
exact rn (mf13,(w64 (x60+1)),x93) h (sR [(6,1,6)])
refine rg ?_
refine aL h (Zmo _ _) fun r104 h=>?_
cases h
exact rQ}
def T9 (p0:Q1):Q2 (Title×Int):=(T1 p0 ⟨#[95]⟩ ⟨#[32]⟩).bind fun r1=>(T3 r1).bind fun r2=>(ZV r2 ⟨#[58]⟩).bind fun r3=>letk (fun (x6:Q1)=>(T0 x6).bind fun r7=>letk (fun (x9:Q1) (x10:Int)=>(T8 x9).bind fun r11=>letk (fun (x14:Bool)=>letk (fun (x18:Q1)=>if decide (100<(x18.size:Int)) then (some ((⟨0,(⟨#[]⟩:Q1)⟩:Title),3):Q2 (Title×Int)) else (d9 (⟨x10,x18⟩:Title)).bind fun r19=>if (!r19) then (some ((⟨0,(⟨#[]⟩:Q1)⟩:Title),1):Q2 (Title×Int)) else (some ((⟨x10,x18⟩:Title),0):Q2 (Title×Int))) fun k4=>if x14 then (atS r11 0).bind fun c20=>(AJ r11 1 (r11.size:Int)).bind fun l21=>(A7 (strOfNums [(IntKind.wrap .u8 (c20-32))]) l21).bind fun s22=>k4 s22 else k4 r11) fun k3=>if (!decide (r11=(⟨#[]⟩:Q1))) then (atS r11 0).bind fun c23=>if decide (97<=c23) then (atS r11 0).bind fun c24=>k3 (decide (c24<=122)) else k3 false else k3 false) fun k2=>if r7.2.2 then (PJ r7.2.1 ⟨#[32]⟩).bind fun r25=>k2 r25 r7.1 else k2 x6 0) fun k1=>if r3 then (AJ r2 1 (r2.size:Int)).bind fun l26=>(PJ l26 ⟨#[32]⟩).bind fun r27=>k1 r27 else k1 r2
theorem Zoc (p0:Q1) (r:Title×Int) (h:T9 p0=some r):Zg Q7 89 [.str p0] (.tup [r.1.pv,.int .i64 r.2]):=by{
refine cF (fun r=>.tup [r.1.pv,.int .i64 r.2]) h mix Tryz.func89 fun r h=>?_
unfold T9 at h
refine Zi ?_
refine rg ?_
refine rg ?_
refine aC h (ZgW _ _ _) fun r1 h=>?_
refine aC h (Zmu _) fun r2 h=>?_
refine rg ?_
refine aC h (LN _ _) fun r3 h=>?_
refine jL h (fun x6=>mkS [(0,.str x6),(2,.ptr 2 (1,2) 0)] [(2,some ((1,2),.box [Q5 0,.str ⟨#[]⟩]))] 2) (fun k1 h=>?_) fun x6 h=>?_
refine cS h rfl (fun h=>?_) fun h=>?_
refine rg ?_
refine sS h fun l26 h=>?_
refine aC h (m0 _ _) fun r27 h=>?_
exact jn r27 h (sR [(2,1,0)])
exact jn r2 h (sR [(2,1,0)])
refine rg ?_
refine rg ?_
refine aC h (Zmp _) fun r7 h=>?_
refine rg ?_
refine ER h fun k2 hk2 h=>?_
refine DA (α:=Q1×Int) (fun a _=>mkS [(0,.str a.1),(2,.ptr 2 (1,2) 0),(4,.ptr 4 (1,4) 0)] [(2,some ((1,2),.box [Q5 0,.str ⟨#[]⟩])),(4,some ((1,4),.box [Q5 a.2,.str ⟨#[]⟩]))] 2) (fun a=>k2 a.1 a.2=some r) (Zi ?_) (fun a _ h=>?_)
refine cS h rfl (fun h=>?_) fun h=>?_
refine rg ?_
refine aC h (m0 _ _) fun r25 h=>?_
exact jn (r25,r7.1) h (sR [(2,1,2),(4,2,1)])
exact jn (x6,0) h (sR [(2,1,2),(4,2,1)])
obtain ⟨x9,x10⟩:=a
subst hk2
dsimp only at h ⊢
refine Zi ?_
refine rg ?_
refine aC h (ZlZ _) fun r11 h=>?_
refine jL h (fun x14=>mkS [(0,.str r11),(2,.ptr 2 (1,2) 0),(4,.ptr 4 (1,4) 0),(41,.bool x14)] [(2,some ((1,2),.box [Q5 0,.str ⟨#[]⟩])),(4,some ((1,4),.box [Q5 x10,.str ⟨#[]⟩]))] 2) (fun k3 h=>?_) fun x14 h=>?_
refine rg ?_
refine kS 32 h rfl (fun h=>?_) fun h=>?_
refine aS h fun c23 h=>?_
refine kS 37 h rfl (fun h=>?_) fun h=>?_
refine aS h fun c24 h=>?_
exact jn (decide (c24<=122)) h (sR [(2,1,2),(4,1,4)])
iterate 3 refine Zw rfl (Zi ?_)
exact jn false h (sR [(2,1,2),(4,1,4)])
iterate 6 refine Zw rfl (Zi ?_)
exact jn false h (sR [(2,1,2),(4,1,4)])
refine jL h (fun x18=>mkS [(0,.str x18),(2,.ptr 2 (1,2) 0),(4,.ptr 4 (1,4) 0)] [(2,some ((1,2),.box [Q5 0,.str ⟨#[]⟩])),(4,some ((1,4),.box [Q5 x10,.str ⟨#[]⟩]))] 2) (fun k4 h=>?_) fun x18 h=>?_
refine cS h rfl (fun h=>?_) fun h=>?_
refine rg ?_
refine aS h fun c20 h=>?_
refine bM csB ([(IntKind.wrap .u8 (c20-32))]:Q3 Int) ?_
refine cK (l:=[(IntKind.wrap .u8 (c20-32))]) rfl rfl (Zi ?_)
refine sS h fun l21 h=>?_
refine sT h fun s22 h=>?_
exact jn s22 h (sR [(2,1,2),(4,1,4)])
exact jn r11 h (sR [(2,1,2),(4,1,4)])
refine rg ?_
refine rg ?_
refine cS h rfl (fun h=>?_) fun h=>?_
refine rg ?_
cases h
exact rQ
refine rg ?_
refine aC h (ZnT _) fun r19 h=>?_
refine cS h rfl (fun h=>?_) fun h=>?_
refine rg ?_
cases h
exact rQ
refine rg ?_
cases h
exact rQ}
end
section
open VL Go.RowKit
theorem ZAh {x:Ctx} (a b:Int):Rep x (.tup [.int .i64 a,.int .i64 b]) (.tuple #[.int .i64 a,.int .i64 b]):=.tup _ _ rfl fun i p v hp hv=>by
 match i,hp,hv with
 | 0,hp,hv=>injection hp with hp;injection hv with hv;subst hp hv;exact .int _ _
 | 1,hp,hv=>injection hp with hp;injection hv with hv;subst hp hv;exact .int _ _
 | i+2,hp,_=>simp at hp
def WO (s:Q1):Q2 (Int×Int):=if s.size<=4611686018427387904 then some (GN s) else none
theorem Zns (s:Q1) (r:Int×Int) (h:WO s=some r):Zg Q7 92 [.str s] (.tup [.int .i64 r.1,.int .i64 r.2]):=by{
unfold WO at h
split at h
rename_i hc
cases h
exact H3 (vals:=[.string s]) (by kernel_rfl) rfl rfl (fun x=>ZAh _ _) fun w hw=>l7 s w hc
cases h}
end
end Go.Proofs.YtmgfammllddkhaaGreatDoor
