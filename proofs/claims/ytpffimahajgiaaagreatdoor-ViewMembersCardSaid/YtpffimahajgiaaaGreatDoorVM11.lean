/- Functions of the program as Lean functions. Written by fxgen.py. | Functions of the program as Lean functions. Written by fxgen.py. | Sorted lists into which elements are put one by one, beside those that are sorted at once. | Stable sorting by insertion, and merging. No program is named. | The library's stable sorting at memberships: exchanging and turning stretches. | The scanner on lists of bytes. | The library's stable sorting at memberships: insertion. | The library's stable sorting at memberships: merging in place. -/
import Derived.Test.YtpffimahajgiaaaGreatDoorVM10
import Derived.Test.YtpffimahajgiaaaGreatDoorVM05
import Derived.Test.YtpffimahajgiaaaGreatDoorVM04
import Derived.Test.YtpffimahajgiaaaGreatDoorVM08
import Derived.Test.YtpffimahajgiaaaGreatDoorVM09
import Derived.Test.YtpffimahajgiaaaGreatDoorVM03
import Derived.Test.YtpffimahajgiaaaGreatDoorVM06
import Derived.Lib.IndexMore
set_option linter.unusedVariables false
set_option maxHeartbeats 4000000
set_option maxRecDepth 100000
namespace Go.Proofs.YtpffimahajgiaaaGreatDoor
open VL
def Zg0 (p0:List ByteArray) (p1:ByteArray):Option (List ByteArray):=ZaF Zcp (fun f7 (x14:Int)=>letk (fun (x19:Bool)=>if x19 then f7 (w64 (x14+1)) else letk (fun (x21:Bool)=>if x21 then (some p0:Option (List ByteArray)) else (Zkf p0 0 x14).bind fun l22=>(ZeI 16 [] l22).bind fun l23=>(ZeI 16 l23 [p1]).bind fun l24=>(Zkf p0 x14 (p0.length:Int)).bind fun l25=>(ZeI 16 l24 l25).bind fun l26=>(some l26:Option (List ByteArray))) fun k9=>if (decide (x14<(p0.length:Int))) then (atI p0 x14).bind fun e27=>k9 (decide (e27=p1)) else k9 false) fun k8=>if (decide (x14<(p0.length:Int))) then (atI p0 x14).bind fun e28=>k8 (ltS e28 p1) else k8 false) 0
theorem ZmV (p0:List ByteArray) (p1:ByteArray) (r:List ByteArray) (h:Zg0 p0 p1=some r):Zg Tryz.prog 65 [.sl (List.map csS p0),.str p1] (.sl (List.map csS r)):=by{
refine cF (fun r=>.sl (List.map csS r)) h mix Tryz.func65 fun r h=>?_
unfold Zg0 at h
refine Zn ?_
refine rg ?_
refine rg ?_
refine bl ?_
refine ZB h fun f7 mf7 hf7 h=>?_
refine Zv (α:=Nat×Int) (fun a _=>mkS [(0,.sl (List.map csS p0)),(1,.str p1),(5,.int .i64 a.2)] [] 2) (fun a=>ZaF a.1 f7 a.2=some r) (fun a=>a.1) (mf7,0) 2 h (sR []) (fun a _ h=>?_)
obtain ⟨mf7,x14⟩:=a
obtain ⟨mf7,rfl,h⟩:=ZC hf7 h
dsimp only at h ⊢
refine Zn ?_
refine jL h (fun x19=>mkS [(0,.sl (List.map csS p0)),(1,.str p1),(5,.int .i64 x14),(17,.bool x19)] [] 2) (fun k8 h=>?_) fun x19 h=>?_
refine rg ?_
refine lM csS p0 ?_
refine kS 10 h rfl (fun h=>?_) fun h=>?_
refine aI csS h fun e28 h=>?_
exact jn (ltS e28 p1) h (sR [])
iterate 6 refine ZE rfl (Zn ?_)
exact jn false h (sR [])
refine cS h rfl (fun h=>?_) fun h=>?_
refine bl ?_
refine rg ?_
exact rn (mf7,(w64 (x14+1))) h (sR [])
refine jL h (fun x21=>mkS [(0,.sl (List.map csS p0)),(1,.str p1),(5,.int .i64 x14),(31,.bool x21)] [] 2) (fun k9 h=>?_) fun x21 h=>?_
refine rg ?_
refine lM csS p0 ?_
refine kS 24 h rfl (fun h=>?_) fun h=>?_
refine aI csS h fun e27 h=>?_
exact jn (decide (e27=p1)) h (sR [])
iterate 6 refine ZE rfl (Zn ?_)
exact jn false h (sR [])
refine cS h rfl (fun h=>?_) fun h=>?_
refine rg ?_
cases h
exact rQ
refine rg ?_
refine sM csS h fun l22 h=>?_
obtain ⟨l23,h14,h⟩:=bnd h
refine ZkQ (f:=csS) rfl h14 (fun _=>rfl) rfl rfl rfl (Zn ?_)
refine bM csS ([p1]:List ByteArray) ?_
refine pR csS h fun l24 h=>?_
refine sM csS h fun l25 h=>?_
refine pR csS h fun l26 h=>?_
cases h
exact rQ}
def Zet (p0:Group) (p1:ByteArray) (p2:List ByteArray):Option Bool:=ZaF Zcp (fun f12 (x130:Int)=>if (decide (x130<(p0.members.length:Int))) then (atI p0.members x130).bind fun e179=>letk (fun (x187:Bool)=>if x187 then (some true:Option Bool) else f12 (w64 (x130+1))) fun k14=>(Zfc p1).bind fun r188=>if r188 then if (decide (e179=p1)) then k14 true else if (decide (0<(e179.size:Int))) then (atS e179 0).bind fun c189=>if (decide (c189=64)) then (ZfI e179 1 (e179.size:Int)).bind fun l190=>(ZlH p2 l190).bind fun r191=>k14 r191 else k14 false else k14 false else if (decide (0<(e179.size:Int))) then (atS e179 0).bind fun c192=>if (decide (c192=64)) then (ZfI e179 1 (e179.size:Int)).bind fun l193=>(ZlH p2 l193).bind fun r194=>k14 r194 else k14 false else k14 false else (some false:Option Bool)) 0
theorem ZlF (p0:Group) (p1:ByteArray) (p2:List ByteArray) (r:Bool) (h:Zet p0 p1 p2=some r):Zg Tryz.prog 66 [p0.pv,.str p1,.sl (List.map csS p2)] (.bool r):=by{
refine cF (fun r=>.bool r) h mix Tryz.func66 fun r h=>?_
unfold Zet at h
refine Zn ?_
refine rg ?_
refine rg ?_
refine bl ?_
refine ZB h fun f12 mf12 hf12 h=>?_
refine Zv (α:=Nat×Int) (fun a _=>mkS [(1,.str p1),(2,.sl (List.map csS p2)),(3,.ptr 3 (1,3) 0),(7,.int .i64 a.2)] [(3,some ((1,3),.box (Group.cs p0)))] 2) (fun a=>ZaF a.1 f12 a.2=some r) (fun a=>a.1) (mf12,0) 2 h (sR [(3,1,0)]) (fun a _ h=>?_)
obtain ⟨mf12,x130⟩:=a
obtain ⟨mf12,rfl,h⟩:=ZC hf12 h
dsimp only at h ⊢
refine Zn ?_
refine rg ?_
refine lM csS p0.members ?_
refine cS h rfl (fun h=>?_) fun h=>?_
refine bl ?_
refine rg ?_
refine aI csS h fun e179 h=>?_
refine jL h (fun x187=>mkS [(1,.str p1),(2,.sl (List.map csS p2)),(3,.ptr 3 (1,3) 0),(7,.int .i64 x130),(43,.bool x187)] [(3,some ((1,3),.box (Group.cs p0)))] 2) (fun k14 h=>?_) fun x187 h=>?_
refine rg ?_
refine aC h (Ziy _) fun r188 h=>?_
refine kS 23 h rfl (fun h=>?_) fun h=>?_
refine kS 28 h rfl (fun h=>?_) fun h=>?_
iterate 14 refine ZE rfl (Zn ?_)
exact jn true h (sR [(3,1,3)])
refine kS 32 h rfl (fun h=>?_) fun h=>?_
refine aS h fun c189 h=>?_
refine kS 37 h rfl (fun h=>?_) fun h=>?_
refine sS h fun l190 h=>?_
refine aC h (ZmX _ _) fun r191 h=>?_
exact jn r191 h (sR [(3,1,3)])
iterate 4 refine ZE rfl (Zn ?_)
exact jn false h (sR [(3,1,3)])
iterate 7 refine ZE rfl (Zn ?_)
exact jn false h (sR [(3,1,3)])
iterate 3 refine ZE rfl (Zn ?_)
refine kS 32 h rfl (fun h=>?_) fun h=>?_
refine aS h fun c192 h=>?_
refine kS 37 h rfl (fun h=>?_) fun h=>?_
refine sS h fun l193 h=>?_
refine aC h (ZmX _ _) fun r194 h=>?_
exact jn r194 h (sR [(3,1,3)])
iterate 4 refine ZE rfl (Zn ?_)
exact jn false h (sR [(3,1,3)])
iterate 7 refine ZE rfl (Zn ?_)
exact jn false h (sR [(3,1,3)])
refine cS h rfl (fun h=>?_) fun h=>?_
refine rg ?_
cases h
exact rQ
refine rg ?_
exact rn (mf12,(w64 (x130+1))) h (sR [(3,1,3)])
refine rg ?_
cases h
exact rQ}
def Zfb (p0:Policy) (p1:ByteArray):Option (List ByteArray):=(Zfc p1).bind fun r1=>letk (fun (x3:List ByteArray)=>ZaF Zcp (fun f23 ((x122,x123):(List ByteArray)×Int)=>if (decide (x123<(x122.length:Int))) then ZaF Zcp (fun f26 ((x162,x163):(List ByteArray)×Int)=>if (decide (x163<(p0.groups.length:Int))) then letk (fun (x177:List ByteArray)=>f26 (x177,(w64 (x163+1)))) fun k27=>(atI p0.groups x163).bind fun e178=>(Zet e178 p1 x162).bind fun r179=>if r179 then (atI p0.groups x163).bind fun e180=>(Zg0 x162 e180.name).bind fun r181=>k27 r181 else k27 x162 else f23 (x162,(x122.length:Int))) (x122,0) else (some x122:Option (List ByteArray))) (x3,(-1))) fun k1=>if r1 then (Zg0 [(⟨#[97,108,108]⟩:ByteArray)] (⟨#[117,115,101,114,115]⟩:ByteArray)).bind fun r182=>k1 r182 else k1 [(⟨#[97,108,108]⟩:ByteArray)]
theorem ZmW (p0:Policy) (p1:ByteArray) (r:List ByteArray) (h:Zfb p0 p1=some r):Zg Tryz.prog 24 [p0.pv,.str p1] (.sl (List.map csS r)):=by{
refine cF (fun r=>.sl (List.map csS r)) h mix Tryz.func24 fun r h=>?_
unfold Zfb at h
refine Zn ?_
refine rg ?_
refine rg ?_
refine bM csS ([(⟨#[97,108,108]⟩:ByteArray)]:List ByteArray) ?_
refine rg ?_
refine aC h (Ziy _) fun r1 h=>?_
refine jL h (fun x3=>mkS [(1,.str p1),(2,.ptr 2 (1,2) 0),(5,.sl (List.map csS x3))] [(2,some ((1,2),.box (Policy.cs p0)))] 2) (fun k1 h=>?_) fun x3 h=>?_
refine cS h rfl (fun h=>?_) fun h=>?_
refine rg ?_
refine aC h (ZmV _ _) fun r182 h=>?_
exact jn r182 h (sR [(2,1,0)])
exact jn [(⟨#[97,108,108]⟩:ByteArray)] h (Shift.trans (Zqk 5 rfl rfl) (sR [(2,1,0)]))
refine rg ?_
refine bl ?_
refine ZB h fun f23 mf23 hf23 h=>?_
refine Zv (α:=Nat×((List ByteArray)×Int)) (fun a _=>mkS [(1,.str p1),(2,.ptr 2 (1,2) 0),(5,.sl (List.map csS a.2.1)),(6,.int .i64 a.2.2)] [(2,some ((1,2),.box (Policy.cs p0)))] 2) (fun a=>ZaF a.1 f23 a.2=some r) (fun a=>a.1) (mf23,x3,(-1)) 2 h (sR [(2,1,2)]) (fun a _ h=>?_)
obtain ⟨mf23,x122,x123⟩:=a
obtain ⟨mf23,rfl,h⟩:=ZC hf23 h
dsimp only at h ⊢
refine Zn ?_
refine rg ?_
refine lM csS x122 ?_
refine cS h rfl (fun h=>?_) fun h=>?_
refine bl ?_
refine rg ?_
refine lM csS x122 ?_
refine rg ?_
refine bl ?_
refine ZB h fun f26 mf26 hf26 h=>?_
refine Zv (α:=Nat×((List ByteArray)×Int)) (fun a _=>mkS [(1,.str p1),(2,.ptr 2 (1,2) 0),(5,.sl (List.map csS a.2.1)),(6,.int .i64 (x122.length:Int)),(7,.int .i64 a.2.2)] [(2,some ((1,2),.box (Policy.cs p0)))] 2) (fun a=>ZaF a.1 f26 a.2=some r) (fun a=>a.1) (mf26,x122,0) 2 h (sR [(2,1,2)]) (fun a _ h=>?_)
obtain ⟨mf26,x162,x163⟩:=a
obtain ⟨mf26,rfl,h⟩:=ZC hf26 h
dsimp only at h ⊢
refine Zn ?_
refine rg ?_
refine lM Group.cs p0.groups ?_
refine cS h rfl (fun h=>?_) fun h=>?_
refine jL h (fun x177=>mkS [(1,.str p1),(2,.ptr 2 (1,2) 0),(5,.sl (List.map csS x177)),(6,.int .i64 (x122.length:Int)),(7,.int .i64 x163)] [(2,some ((1,2),.box (Policy.cs p0)))] 2) (fun k27 h=>?_) fun x177 h=>?_
refine bl ?_
refine rg ?_
refine aI Group.cs h fun e178 h=>?_
refine aC h (ZlF _ _ _) fun r179 h=>?_
refine cS h rfl (fun h=>?_) fun h=>?_
refine rg ?_
refine aI Group.cs h fun e180 h=>?_
refine aC h (ZmV _ _) fun r181 h=>?_
exact jn r181 h (sR [(2,1,2)])
exact jn x162 h (sR [(2,1,2)])
refine rg ?_
exact rn (mf26,x177,(w64 (x163+1))) h (sR [(2,1,2)])
exact rn (mf23,x162,(x122.length:Int)) h (sR [(2,1,2)])
refine rg ?_
cases h
exact rQ}
def Zdx (p0:TapeF):Option (ByteArray×TapeF):=(Zy p0 [(⟨#[97,110,110]⟩:ByteArray),(⟨#[98,111,98]⟩:ByteArray),(⟨#[115,116,97,102,102]⟩:ByteArray),(⟨#[109,111,100,115]⟩:ByteArray),(⟨#[122,111,101]⟩:ByteArray)]).bind fun r1=>(some (r1.1,r1.2):Option (ByteArray×TapeF))
theorem Zkk (p0:TapeF) (r:ByteArray×TapeF) (h:Zdx p0=some r):Contract Tryz.prog 64 [.ptr 0 (0,0) 0] (some (0,p0.cs)) (.str r.1) (r.2).cs:=by{
refine Zbb (R:=fun r=>.str r.1) (O:=fun r=>(r.2).cs) h mix Tryz.func64 (by kernel_rfl) rfl (by kernel_rfl) fun r h=>?_
unfold Zdx at h
refine Zn ?_
refine rg ?_
refine rg ?_
refine bM csS ([(⟨#[97,110,110]⟩:ByteArray),(⟨#[98,111,98]⟩:ByteArray),(⟨#[115,116,97,102,102]⟩:ByteArray),(⟨#[109,111,100,115]⟩:ByteArray),(⟨#[122,111,101]⟩:ByteArray)]:List ByteArray) ?_
refine aO h (Zx _ _) fun r1 h=>?_
cases h
exact Za5 rfl rfl rfl rfl rfl}
def Zcg (p0:TapeF):Option (Title×TapeF):=(ZL p0 6).bind fun r1=>(Zy r1.2 [(⟨#[65]⟩:ByteArray),(⟨#[66]⟩:ByteArray),(⟨#[65,47,66]⟩:ByteArray),(⟨#[67]⟩:ByteArray),(⟨#[84]⟩:ByteArray),(⟨#[85,47,120]⟩:ByteArray),(⟨#[65,47,66,47,99]⟩:ByteArray),(⟨#[76,111,110,103,32,110,97,109,101]⟩:ByteArray),(⟨#[49]⟩:ByteArray),(⟨#[88]⟩:ByteArray)]).bind fun r2=>(some ((⟨r1.1,r2.1⟩:Title),r2.2):Option (Title×TapeF))
theorem ZfU (p0:TapeF) (r:Title×TapeF) (h:Zcg p0=some r):Contract Tryz.prog 30 [.ptr 0 (0,0) 0] (some (0,p0.cs)) (r.1.pv) (r.2).cs:=by{
refine Zbb (R:=fun r=>r.1.pv) (O:=fun r=>(r.2).cs) h mix Tryz.func30 (by kernel_rfl) rfl (by kernel_rfl) fun r h=>?_
unfold Zcg at h
refine Zn ?_
refine rg ?_
refine rg ?_
refine aO h (ZI _ _) fun r1 h=>?_
refine Zdb ([(⟨#[65]⟩:ByteArray),(⟨#[66]⟩:ByteArray),(⟨#[65,47,66]⟩:ByteArray),(⟨#[67]⟩:ByteArray),(⟨#[84]⟩:ByteArray),(⟨#[85,47,120]⟩:ByteArray),(⟨#[65,47,66,47,99]⟩:ByteArray),(⟨#[76,111,110,103,32,110,97,109,101]⟩:ByteArray),(⟨#[49]⟩:ByteArray),(⟨#[88]⟩:ByteArray)]:List ByteArray) rfl rfl rfl rfl (by decide) (Zn ?_)
refine aO h (Zx _ _) fun r2 h=>?_
cases h
exact Za5 rfl rfl rfl rfl rfl}
def ZbE (p0:TapeF):Option (Title×TapeF):=(Zy p0 [(⟨#[65]⟩:ByteArray),(⟨#[66]⟩:ByteArray),(⟨#[65,47,66]⟩:ByteArray),(⟨#[67]⟩:ByteArray),(⟨#[68]⟩:ByteArray)]).bind fun r1=>(some ((⟨0,r1.1⟩:Title),r1.2):Option (Title×TapeF))
theorem ZgM (p0:TapeF) (r:Title×TapeF) (h:ZbE p0=some r):Contract Tryz.prog 26 [.ptr 0 (0,0) 0] (some (0,p0.cs)) (r.1.pv) (r.2).cs:=by{
refine Zbb (R:=fun r=>r.1.pv) (O:=fun r=>(r.2).cs) h mix Tryz.func26 (by kernel_rfl) rfl (by kernel_rfl) fun r h=>?_
unfold ZbE at h
refine Zn ?_
refine rg ?_
refine rg ?_
refine bM csS ([(⟨#[65]⟩:ByteArray),(⟨#[66]⟩:ByteArray),(⟨#[65,47,66]⟩:ByteArray),(⟨#[67]⟩:ByteArray),(⟨#[68]⟩:ByteArray)]:List ByteArray) ?_
refine aO h (Zx _ _) fun r1 h=>?_
cases h
exact Za5 rfl rfl rfl rfl rfl}
def Zct (p0:TapeF):Option (Policy×TapeF):=(ZL p0 4).bind fun r1=>ZaF Zcp (fun f262 ((x1582,x1583,x1584,x1585):Int×(List Int)×Int×(List Group))=>if (decide (x1582<r1.1)) then (atI [(⟨#[115,116,97,102,102]⟩:ByteArray),(⟨#[109,111,100,115]⟩:ByteArray),(⟨#[103,111,108,100]⟩:ByteArray)] x1582).bind fun e2177=>ZaF Zcp (fun f310 ((x2306,x2307,x2308,x2309):Int×(List Int)×Int×(List ByteArray))=>(ZL (⟨x2307,x2308⟩:TapeF) 3).bind fun r2341=>if (decide (x2306<r2341.1)) then (Zdx r2341.2).bind fun r2357=>(ZL r2357.2 3).bind fun r2358=>letk (fun (x2362:ByteArray) (x2363:List Int) (x2364:Int)=>(ZL (⟨x2363,x2364⟩:TapeF) 9).bind fun r2365=>letk (fun (x2366:ByteArray)=>(ZeI 16 [] x2309).bind fun l2367=>(ZeI 16 l2367 [x2366]).bind fun l2368=>f310 ((w64 (x2306+1)),r2365.2.l,r2365.2.pos,l2368)) fun k314=>if (decide (r2365.1=0)) then k314 (⟨#[64,117,115,101,114,115]⟩:ByteArray) else k314 x2362) fun k313=>if (decide (r2358.1=0)) then (ZL r2358.2 r1.1).bind fun r2369=>(atI [(⟨#[115,116,97,102,102]⟩:ByteArray),(⟨#[109,111,100,115]⟩:ByteArray),(⟨#[103,111,108,100]⟩:ByteArray)] r2369.1).bind fun e2370=>(Zbs (⟨#[64]⟩:ByteArray) e2370).bind fun s2371=>k313 s2371 r2369.2.l r2369.2.pos else k313 r2357.1 r2358.2.l r2358.2.pos else (ZeI 40 [] x1585).bind fun l2372=>(ZeI 40 l2372 [(⟨e2177,x2309⟩:Group)]).bind fun l2373=>f262 ((w64 (x1582+1)),r2341.2.l,r2341.2.pos,l2373)) (0,x1583,x1584,[]) else (Zkf [(⟨#[115,116,97,102,102]⟩:ByteArray),(⟨#[109,111,100,115]⟩:ByteArray),(⟨#[103,111,108,100]⟩:ByteArray)] 0 r1.1).bind fun l2374=>(ZeI 16 [(⟨#[97,108,108]⟩:ByteArray),(⟨#[117,115,101,114,115]⟩:ByteArray)] l2374).bind fun l2375=>ZaF Zcp (fun f326 ((x2504,x2505,x2506,x2507):Int×(List Int)×Int×(List Rule))=>(ZL (⟨x2505,x2506⟩:TapeF) 7).bind fun r2539=>if (decide (x2504<r2539.1)) then (ZL r2539.2 3).bind fun r2555=>(ZL r2555.2 5).bind fun r2556=>(Zy r2556.2 l2375).bind fun r2557=>(ZL r2557.2 3).bind fun r2558=>letk (fun (x2561:List Int) (x2562:Int) (x2563:Int) (x2564:Int) (x2565:ByteArray)=>(ZeI 64 [] x2507).bind fun l2566=>(ZeI 64 l2566 [(⟨(decide (0<r2555.1)),(w64 (1+r2556.1)),r2557.1,(⟨x2563,(⟨x2564,x2565⟩:Title)⟩:Scope)⟩:Rule)]).bind fun l2567=>f326 ((w64 (x2504+1)),x2561,x2562,l2567)) fun k328=>if (decide (r2558.1=0)) then k328 r2558.2.l r2558.2.pos 1 0 (⟨#[]⟩:ByteArray) else if (decide (r2558.1=1)) then (ZL r2558.2 6).bind fun r2568=>k328 r2568.2.l r2568.2.pos 2 r2568.1 (⟨#[]⟩:ByteArray) else (Zcg r2558.2).bind fun r2569=>k328 r2569.2.l r2569.2.pos 3 r2569.1.space r2569.1.name else ZaF Zcp (fun f330 ((x2626,x2627,x2628,x2629):Int×(List Int)×Int×(List Guard))=>(ZL (⟨x2627,x2628⟩:TapeF) 4).bind fun r2643=>if (decide (x2626<r2643.1)) then (ZL r2643.2 3).bind fun r2650=>(Zy r2650.2 l2375).bind fun r2651=>(Zcg r2651.2).bind fun r2652=>(Zy r2652.2 [(⟨#[]⟩:ByteArray),(⟨#[115]⟩:ByteArray),(⟨#[116]⟩:ByteArray),(⟨#[97,32,98]⟩:ByteArray)]).bind fun r2653=>(ZeI 64 [] x2629).bind fun l2654=>(ZeI 64 l2654 [(⟨(decide (r2650.1=0)),r2651.1,r2652.1,r2653.1⟩:Guard)]).bind fun l2655=>f330 ((w64 (x2626+1)),r2653.2.l,r2653.2.pos,l2655) else (some ((⟨x1585,x2507,x2629⟩:Policy),r2643.2):Option (Policy×TapeF))) (0,r2539.2.l,r2539.2.pos,[])) (0,x1583,x1584,[(⟨true,1,(⟨#[97,108,108]⟩:ByteArray),(⟨1,(⟨0,(⟨#[]⟩:ByteArray)⟩:Title)⟩:Scope)⟩:Rule)])) (0,r1.2.l,r1.2.pos,[])
theorem ZiI (p0:TapeF) (r:Policy×TapeF) (h:Zct p0=some r):Contract Tryz.prog 22 [.ptr 0 (0,0) 0] (some (0,p0.cs)) (r.1.pv) (r.2).cs:=by{
refine Zbb (R:=fun r=>r.1.pv) (O:=fun r=>(r.2).cs) h mix Tryz.func22 (by kernel_rfl) rfl (by kernel_rfl) fun r h=>?_
unfold Zct at h
refine Zn ?_
refine rg ?_
refine rg ?_
refine rg ?_
refine bM csS ([(⟨#[115,116,97,102,102]⟩:ByteArray),(⟨#[109,111,100,115]⟩:ByteArray),(⟨#[103,111,108,100]⟩:ByteArray)]:List ByteArray) ?_
refine rg ?_
refine aO h (ZI _ _) fun r1 h=>?_
refine rg ?_
refine bl ?_
refine ZB h fun f262 mf262 hf262 h=>?_
refine Zv (α:=Nat×(Int×(List Int)×Int×(List Group))) (fun a _=>mkS [(0,.ptr 0 (0,0) 0),(2,.ptr 2 (1,2) 0),(3,.ptr 3 (1,3) 0),(4,.row 15 (1,15)),(5,.int .i64 r1.1),(6,.int .i64 a.2.1)] [(0,some ((0,0),.box [.sl (List.map csI a.2.2.1),.int .i64 a.2.2.2.1])),(2,some ((1,2),.box [.nil,.nil,.nil])),(3,some ((1,3),.box [.sl (List.map Group.cs a.2.2.2.2),.sl (List.map Rule.cs []),.sl (List.map Guard.cs [])])),(15,some ((1,15),.row 9 1 false (List.map csS [(⟨#[115,116,97,102,102]⟩:ByteArray),(⟨#[109,111,100,115]⟩:ByteArray),(⟨#[103,111,108,100]⟩:ByteArray)])))] 2) (fun a=>ZaF a.1 f262 a.2=some r) (fun a=>a.1) (mf262,0,r1.2.l,r1.2.pos,[]) 2 h (Shift.trans (ZeT 3 rfl rfl) (sR [(2,1,0),(3,2,0),(15,3,0)])) (fun a _ h=>?_)
obtain ⟨mf262,x1582,x1583,x1584,x1585⟩:=a
obtain ⟨mf262,rfl,h⟩:=ZC hf262 h
dsimp only at h ⊢
refine Zn ?_
refine rg ?_
refine cS h rfl (fun h=>?_) fun h=>?_
refine bl ?_
refine rg ?_
obtain ⟨e2177,h1553,h⟩:=bnd h
refine Zaa rfl h1553 rfl rfl rfl (Zn ?_)
refine ZaJ rfl h1553 rfl rfl rfl (Zn ?_)
refine rg ?_
refine bl ?_
refine ZB h fun f310 mf310 hf310 h=>?_
refine Zv (α:=Nat×(Int×(List Int)×Int×(List ByteArray))) (fun a _=>mkS [(0,.ptr 0 (0,0) 0),(2,.ptr 2 (1,2) 0),(3,.ptr 3 (1,3) 0),(4,.row 15 (1,15)),(5,.int .i64 r1.1),(6,.int .i64 x1582),(7,.ptr 7 (1,7) 0),(8,.int .i64 a.2.1)] [(0,some ((0,0),.box [.sl (List.map csI a.2.2.1),.int .i64 a.2.2.2.1])),(2,some ((1,2),.box [.nil,.nil,.nil])),(3,some ((1,3),.box [.sl (List.map Group.cs x1585),.sl (List.map Rule.cs []),.sl (List.map Guard.cs [])])),(7,some ((1,7),.box [.str e2177,.sl (List.map csS a.2.2.2.2)])),(15,some ((1,15),.row 9 1 false (List.map csS [(⟨#[115,116,97,102,102]⟩:ByteArray),(⟨#[109,111,100,115]⟩:ByteArray),(⟨#[103,111,108,100]⟩:ByteArray)])))] 2) (fun a=>ZaF a.1 f310 a.2=some r) (fun a=>a.1) (mf310,0,x1583,x1584,[]) 2 h (Shift.trans (ZeT 7 rfl rfl) (sR [(2,1,2),(3,1,3),(7,3,5),(15,1,15)])) (fun a _ h=>?_)
obtain ⟨mf310,x2306,x2307,x2308,x2309⟩:=a
obtain ⟨mf310,rfl,h⟩:=ZC hf310 h
dsimp only at h ⊢
refine Zn ?_
refine rg ?_
refine aO h (ZI _ _) fun r2341 h=>?_
refine cS h rfl (fun h=>?_) fun h=>?_
refine bl ?_
refine rg ?_
refine aO h (Zkk _) fun r2357 h=>?_
refine rg ?_
refine aO h (ZI _ _) fun r2358 h=>?_
refine ZbG h fun k313 hk313 h=>?_
refine Zbv (α:=ByteArray×(List Int)×Int) (fun a _=>mkS [(0,.ptr 0 (0,0) 0),(2,.ptr 2 (1,2) 0),(3,.ptr 3 (1,3) 0),(4,.row 15 (1,15)),(5,.int .i64 r1.1),(6,.int .i64 x1582),(7,.ptr 7 (1,7) 0),(8,.int .i64 x2306),(9,.str a.1)] [(0,some ((0,0),.box [.sl (List.map csI a.2.1),.int .i64 a.2.2])),(2,some ((1,2),.box [.nil,.nil,.nil])),(3,some ((1,3),.box [.sl (List.map Group.cs x1585),.sl (List.map Rule.cs []),.sl (List.map Guard.cs [])])),(7,some ((1,7),.box [.str e2177,.sl (List.map csS x2309)])),(15,some ((1,15),.row 9 1 false (List.map csS [(⟨#[115,116,97,102,102]⟩:ByteArray),(⟨#[109,111,100,115]⟩:ByteArray),(⟨#[103,111,108,100]⟩:ByteArray)])))] 2) (fun a=>k313 a.1 a.2.1 a.2.2=some r) (Zn ?_) (fun a _ h=>?_)
refine cS h rfl (fun h=>?_) fun h=>?_
refine rg ?_
refine aO h (ZI _ _) fun r2369 h=>?_
obtain ⟨e2370,h1690,h⟩:=bnd h
refine Zaa rfl h1690 rfl rfl rfl (Zn ?_)
refine ZaJ rfl h1690 rfl rfl rfl (Zn ?_)
refine sT h fun s2371 h=>?_
exact jn (s2371,r2369.2.l,r2369.2.pos) h (sR [(2,1,2),(3,1,3),(7,1,7),(15,1,15)])
exact jn (r2357.1,r2358.2.l,r2358.2.pos) h (sR [(2,1,2),(3,1,3),(7,1,7),(15,1,15)])
obtain ⟨x2362,x2363,x2364⟩:=a
subst hk313
dsimp only at h ⊢
refine Zn ?_
refine rg ?_
refine aO h (ZI _ _) fun r2365 h=>?_
refine jL h (fun x2366=>mkS [(0,.ptr 0 (0,0) 0),(2,.ptr 2 (1,2) 0),(3,.ptr 3 (1,3) 0),(4,.row 15 (1,15)),(5,.int .i64 r1.1),(6,.int .i64 x1582),(7,.ptr 7 (1,7) 0),(8,.int .i64 x2306),(9,.str x2366)] [(0,some ((0,0),.box (TapeF.cs r2365.2))),(2,some ((1,2),.box [.nil,.nil,.nil])),(3,some ((1,3),.box [.sl (List.map Group.cs x1585),.sl (List.map Rule.cs []),.sl (List.map Guard.cs [])])),(7,some ((1,7),.box [.str e2177,.sl (List.map csS x2309)])),(15,some ((1,15),.row 9 1 false (List.map csS [(⟨#[115,116,97,102,102]⟩:ByteArray),(⟨#[109,111,100,115]⟩:ByteArray),(⟨#[103,111,108,100]⟩:ByteArray)])))] 2) (fun k314 h=>?_) fun x2366 h=>?_
refine cS h rfl (fun h=>?_) fun h=>?_
refine rg ?_
exact jn (⟨#[64,117,115,101,114,115]⟩:ByteArray) h (sR [(2,1,2),(3,1,3),(7,1,7),(15,1,15)])
exact jn x2362 h (sR [(2,1,2),(3,1,3),(7,1,7),(15,1,15)])
refine rg ?_
obtain ⟨l2367,h1687,h⟩:=bnd h
refine ZkQ (f:=csS) rfl h1687 (fun _=>rfl) rfl rfl rfl (Zn ?_)
refine bM csS ([x2366]:List ByteArray) ?_
refine pR csS h fun l2368 h=>?_
refine rg ?_
exact rn (mf310,(w64 (x2306+1)),r2365.2.l,r2365.2.pos,l2368) h (Shift.trans (ZeT 7 rfl rfl) (sR [(2,1,2),(3,1,3),(7,1,7),(15,1,15)]))
refine rg ?_
obtain ⟨l2372,h1692,h⟩:=bnd h
refine ZkQ (f:=Group.cs) rfl h1692 (fun _=>rfl) rfl rfl rfl (Zn ?_)
refine ZbS (M:=([(⟨e2177,x2309⟩:Group)]:List Group)) (f:=Group.cs) rfl rfl rfl rfl (Nat.le_of_ble_eq_true rfl) rfl (Zn ?_)
refine pR Group.cs h fun l2373 h=>?_
refine rg ?_
exact rn (mf262,(w64 (x1582+1)),r2341.2.l,r2341.2.pos,l2373) h (Shift.trans (ZeT 3 rfl rfl) (sR [(2,1,2),(3,1,3),(15,1,15)]))
refine rg ?_
refine bM csS ([(⟨#[97,108,108]⟩:ByteArray),(⟨#[117,115,101,114,115]⟩:ByteArray)]:List ByteArray) ?_
refine sM csS h fun l2374 h=>?_
refine pR csS h fun l2375 h=>?_
refine rg ?_
refine ZbS (M:=([(⟨true,1,(⟨#[97,108,108]⟩:ByteArray),(⟨1,(⟨0,(⟨#[]⟩:ByteArray)⟩:Title)⟩:Scope)⟩:Rule)]:List Rule)) (f:=Rule.cs) rfl rfl rfl rfl (Nat.le_of_ble_eq_true rfl) rfl (Zn ?_)
refine rg ?_
refine bl ?_
refine ZB h fun f326 mf326 hf326 h=>?_
refine Zv (α:=Nat×(Int×(List Int)×Int×(List Rule))) (fun a _=>mkS [(0,.ptr 0 (0,0) 0),(2,.ptr 2 (1,2) 0),(3,.ptr 3 (1,3) 0),(10,.row 63 (1,63)),(11,.int .i64 a.2.1)] [(0,some ((0,0),.box [.sl (List.map csI a.2.2.1),.int .i64 a.2.2.2.1])),(2,some ((1,2),.box [.nil,.nil,.nil])),(3,some ((1,3),.box [.sl (List.map Group.cs x1585),.sl (List.map Rule.cs a.2.2.2.2),.sl (List.map Guard.cs [])])),(63,some ((1,63),.row 9 1 true (List.map csS l2375)))] 2) (fun a=>ZaF a.1 f326 a.2=some r) (fun a=>a.1) (mf326,0,x1583,x1584,[(⟨true,1,(⟨#[97,108,108]⟩:ByteArray),(⟨1,(⟨0,(⟨#[]⟩:ByteArray)⟩:Title)⟩:Scope)⟩:Rule)]) 2 h (Shift.trans (ZeT 3 rfl rfl) (Shift.trans (Zq5 63 rfl) (sR [(2,1,2),(3,1,3),(63,3,4)]))) (fun a _ h=>?_)
obtain ⟨mf326,x2504,x2505,x2506,x2507⟩:=a
obtain ⟨mf326,rfl,h⟩:=ZC hf326 h
dsimp only at h ⊢
refine Zn ?_
refine rg ?_
refine aO h (ZI _ _) fun r2539 h=>?_
refine cS h rfl (fun h=>?_) fun h=>?_
refine bl ?_
refine rg ?_
refine aO h (ZI _ _) fun r2555 h=>?_
refine aO h (ZI _ _) fun r2556 h=>?_
refine aO h (Zx _ _) fun r2557 h=>?_
refine rg ?_
refine aO h (ZI _ _) fun r2558 h=>?_
refine ZbG h fun k328 hk328 h=>?_
refine Zbv (α:=(List Int)×Int×Int×Int×ByteArray) (fun a _=>mkS [(0,.ptr 0 (0,0) 0),(2,.ptr 2 (1,2) 0),(3,.ptr 3 (1,3) 0),(10,.row 63 (1,63)),(11,.int .i64 x2504),(12,.ptr 12 (1,12) 0)] [(0,some ((0,0),.box [.sl (List.map csI a.1),.int .i64 a.2.1])),(2,some ((1,2),.box [.nil,.nil,.nil])),(3,some ((1,3),.box [.sl (List.map Group.cs x1585),.sl (List.map Rule.cs x2507),.sl (List.map Guard.cs [])])),(12,some ((1,12),.box [.bool (decide (0<r2555.1)),.int .i64 (w64 (1+r2556.1)),.str r2557.1,.int .i64 a.2.2.1,.int .i64 a.2.2.2.1,.str a.2.2.2.2])),(63,some ((1,63),.row 9 1 true (List.map csS l2375)))] 2) (fun a=>k328 a.1 a.2.1 a.2.2.1 a.2.2.2.1 a.2.2.2.2=some r) (Zn ?_) (fun a _ h=>?_)
refine bl ?_
refine rg ?_
refine cS h rfl (fun h=>?_) fun h=>?_
refine rg ?_
exact jn (r2558.2.l,r2558.2.pos,1,0,(⟨#[]⟩:ByteArray)) h (sR [(2,1,2),(3,1,3),(12,3,10),(63,1,63)])
refine rg ?_
refine cS h rfl (fun h=>?_) fun h=>?_
refine rg ?_
refine aO h (ZI _ _) fun r2568 h=>?_
exact jn (r2568.2.l,r2568.2.pos,2,r2568.1,(⟨#[]⟩:ByteArray)) h (sR [(2,1,2),(3,1,3),(12,3,10),(63,1,63)])
refine rg ?_
refine aO h (ZfU _) fun r2569 h=>?_
exact jn (r2569.2.l,r2569.2.pos,3,r2569.1.space,r2569.1.name) h (sR [(2,1,2),(3,1,3),(12,3,10),(63,1,63)])
obtain ⟨x2561,x2562,x2563,x2564,x2565⟩:=a
subst hk328
dsimp only at h ⊢
refine Zn ?_
refine rg ?_
obtain ⟨l2566,h1818,h⟩:=bnd h
refine ZkQ (f:=Rule.cs) rfl h1818 (fun _=>rfl) rfl rfl rfl (Zn ?_)
refine ZbS (M:=([(⟨(decide (0<r2555.1)),(w64 (1+r2556.1)),r2557.1,(⟨x2563,(⟨x2564,x2565⟩:Title)⟩:Scope)⟩:Rule)]:List Rule)) (f:=Rule.cs) rfl rfl rfl rfl (Nat.le_of_ble_eq_true rfl) rfl (Zn ?_)
refine pR Rule.cs h fun l2567 h=>?_
refine rg ?_
exact rn (mf326,(w64 (x2504+1)),x2561,x2562,l2567) h (Shift.trans (ZeT 3 rfl rfl) (sR [(2,1,2),(3,1,3),(63,1,63)]))
refine rg ?_
refine bl ?_
refine ZB h fun f330 mf330 hf330 h=>?_
refine Zv (α:=Nat×(Int×(List Int)×Int×(List Guard))) (fun a _=>mkS [(0,.ptr 0 (0,0) 0),(2,.ptr 2 (1,2) 0),(3,.ptr 3 (1,3) 0),(10,.row 63 (1,63)),(13,.int .i64 a.2.1)] [(0,some ((0,0),.box [.sl (List.map csI a.2.2.1),.int .i64 a.2.2.2.1])),(2,some ((1,2),.box [.nil,.nil,.nil])),(3,some ((1,3),.box [.sl (List.map Group.cs x1585),.sl (List.map Rule.cs x2507),.sl (List.map Guard.cs a.2.2.2.2)])),(63,some ((1,63),.row 9 1 true (List.map csS l2375)))] 2) (fun a=>ZaF a.1 f330 a.2=some r) (fun a=>a.1) (mf330,0,r2539.2.l,r2539.2.pos,[]) 2 h (sR [(2,1,2),(3,1,3),(63,1,63)]) (fun a _ h=>?_)
obtain ⟨mf330,x2626,x2627,x2628,x2629⟩:=a
obtain ⟨mf330,rfl,h⟩:=ZC hf330 h
dsimp only at h ⊢
refine Zn ?_
refine rg ?_
refine aO h (ZI _ _) fun r2643 h=>?_
refine cS h rfl (fun h=>?_) fun h=>?_
refine bl ?_
refine rg ?_
refine aO h (ZI _ _) fun r2650 h=>?_
refine aO h (Zx _ _) fun r2651 h=>?_
refine aO h (ZfU _) fun r2652 h=>?_
refine bM csS ([(⟨#[]⟩:ByteArray),(⟨#[115]⟩:ByteArray),(⟨#[116]⟩:ByteArray),(⟨#[97,32,98]⟩:ByteArray)]:List ByteArray) ?_
refine aO h (Zx _ _) fun r2653 h=>?_
refine rg ?_
obtain ⟨l2654,h1898,h⟩:=bnd h
refine ZkQ (f:=Guard.cs) rfl h1898 (fun _=>rfl) rfl rfl rfl (Zn ?_)
refine ZbS (M:=([(⟨(decide (r2650.1=0)),r2651.1,r2652.1,r2653.1⟩:Guard)]:List Guard)) (f:=Guard.cs) rfl rfl rfl rfl (Nat.le_of_ble_eq_true rfl) rfl (Zn ?_)
refine pR Guard.cs h fun l2655 h=>?_
refine rg ?_
exact rn (mf330,(w64 (x2626+1)),r2653.2.l,r2653.2.pos,l2655) h (Shift.trans (ZeT 3 rfl rfl) (sR [(2,1,2),(3,1,3),(63,1,63)]))
refine rg ?_
cases h
exact Za5 rfl rfl rfl rfl rfl}
def Zdy (p0:TapeF):Option (ByteArray×TapeF):=(Zy p0 [(⟨#[97,110,110]⟩:ByteArray),(⟨#[98,111,98]⟩:ByteArray),(⟨#[]⟩:ByteArray),(⟨#[122,111,101]⟩:ByteArray)]).bind fun r1=>(some (r1.1,r1.2):Option (ByteArray×TapeF))
theorem Zkl (p0:TapeF) (r:ByteArray×TapeF) (h:Zdy p0=some r):Contract Tryz.prog 25 [.ptr 0 (0,0) 0] (some (0,p0.cs)) (.str r.1) (r.2).cs:=by{
refine Zbb (R:=fun r=>.str r.1) (O:=fun r=>(r.2).cs) h mix Tryz.func25 (by kernel_rfl) rfl (by kernel_rfl) fun r h=>?_
unfold Zdy at h
refine Zn ?_
refine rg ?_
refine rg ?_
refine bM csS ([(⟨#[97,110,110]⟩:ByteArray),(⟨#[98,111,98]⟩:ByteArray),(⟨#[]⟩:ByteArray),(⟨#[122,111,101]⟩:ByteArray)]:List ByteArray) ?_
refine aO h (Zx _ _) fun r1 h=>?_
cases h
exact Za5 rfl rfl rfl rfl rfl}
def ZhP (p0:List Title) (p1:Title):Option (List Title):=ZaF Zcp (fun f7 (x22:Int)=>letk (fun (x30:Bool)=>if x30 then f7 (w64 (x22+1)) else letk (fun (x32:Bool)=>if x32 then (some p0:Option (List Title)) else (Zkf p0 0 x22).bind fun l33=>(ZeI 24 [] l33).bind fun l34=>(ZeI 24 l34 [p1]).bind fun l35=>(Zkf p0 x22 (p0.length:Int)).bind fun l36=>(ZeI 24 l35 l36).bind fun l37=>(some l37:Option (List Title))) fun k9=>if (decide (x22<(p0.length:Int))) then (atI p0 x22).bind fun e38=>k9 (decide (e38=p1)) else k9 false) fun k8=>if (decide (x22<(p0.length:Int))) then (atI p0 x22).bind fun e39=>(ZhR e39 p1).bind fun r40=>k8 (decide (r40<0)) else k8 false) 0
theorem Zqh (p0:List Title) (p1:Title) (r:List Title) (h:ZhP p0 p1=some r):Zg Tryz.prog 27 [.sl (List.map Title.cs p0),p1.pv] (.sl (List.map Title.cs r)):=by{
refine cF (fun r=>.sl (List.map Title.cs r)) h mix Tryz.func27 fun r h=>?_
unfold ZhP at h
refine Zn ?_
refine rg ?_
refine rg ?_
refine bl ?_
refine ZB h fun f7 mf7 hf7 h=>?_
refine Zv (α:=Nat×Int) (fun a _=>mkS [(0,.sl (List.map Title.cs p0)),(3,.ptr 3 (1,3) 0),(5,.int .i64 a.2)] [(3,some ((1,3),.box (Title.cs p1)))] 2) (fun a=>ZaF a.1 f7 a.2=some r) (fun a=>a.1) (mf7,0) 2 h (sR [(3,1,0)]) (fun a _ h=>?_)
obtain ⟨mf7,x22⟩:=a
obtain ⟨mf7,rfl,h⟩:=ZC hf7 h
dsimp only at h ⊢
refine Zn ?_
refine jL h (fun x30=>mkS [(0,.sl (List.map Title.cs p0)),(3,.ptr 3 (1,3) 0),(5,.int .i64 x22),(18,.bool x30)] [(3,some ((1,3),.box (Title.cs p1)))] 2) (fun k8 h=>?_) fun x30 h=>?_
refine rg ?_
refine lM Title.cs p0 ?_
refine kS 10 h rfl (fun h=>?_) fun h=>?_
refine aI Title.cs h fun e39 h=>?_
refine aC h (Zmu _ _) fun r40 h=>?_
exact jn (decide (r40<0)) h (sR [(3,1,3)])
iterate 7 refine ZE rfl (Zn ?_)
exact jn false h (sR [(3,1,3)])
refine cS h rfl (fun h=>?_) fun h=>?_
refine bl ?_
refine rg ?_
exact rn (mf7,(w64 (x22+1))) h (sR [(3,1,3)])
refine jL h (fun x32=>mkS [(0,.sl (List.map Title.cs p0)),(3,.ptr 3 (1,3) 0),(5,.int .i64 x22),(32,.bool x32)] [(3,some ((1,3),.box (Title.cs p1)))] 2) (fun k9 h=>?_) fun x32 h=>?_
refine rg ?_
refine lM Title.cs p0 ?_
refine kS 25 h rfl (fun h=>?_) fun h=>?_
refine aI Title.cs h fun e38 h=>?_
refine ZiN (.inl rfl) rfl rfl rfl rfl rfl (fun W=>Zhi e38 p1 W) (Zn ?_)
exact jn (decide (e38=p1)) h (sR [(3,1,3)])
iterate 6 refine ZE rfl (Zn ?_)
exact jn false h (sR [(3,1,3)])
refine cS h rfl (fun h=>?_) fun h=>?_
refine rg ?_
cases h
exact rQ
refine rg ?_
refine sM Title.cs h fun l33 h=>?_
obtain ⟨l34,h25,h⟩:=bnd h
refine ZkQ (f:=Title.cs) rfl h25 (fun _=>rfl) rfl rfl rfl (Zn ?_)
refine ZbS (M:=([p1]:List Title)) (f:=Title.cs) rfl rfl rfl rfl (Nat.le_of_ble_eq_true rfl) rfl (Zn ?_)
refine pR Title.cs h fun l35 h=>?_
refine sM Title.cs h fun l36 h=>?_
refine pR Title.cs h fun l37 h=>?_
cases h
exact rQ}
def Zdz (p0:TapeF) (p1:Int):Option (View×TapeF):=(Zct p0).bind fun r1=>(ZL r1.2 600000).bind fun r2=>(Zdy r2.2).bind fun r3=>(Zfb r1.1 r3.1).bind fun r4=>(ZL r3.2 6).bind fun r5=>ZaF Zcp (fun f12 ((x82,x83,x84,x85):(List Title)×Int×(List Int)×Int)=>if (decide (x83<r5.1)) then (ZbE (⟨x84,x85⟩:TapeF)).bind fun r113=>(ZL r113.2 3).bind fun r114=>letk (fun (x116:List Int) (x117:Int) (x118:Int) (x119:ByteArray)=>(ZhP x82 (⟨x118,x119⟩:Title)).bind fun r120=>f12 (r120,(w64 (x83+1)),x116,x117)) fun k14=>if (decide (r114.1=0)) then (Zy r114.2 [(⟨#[84]⟩:ByteArray),(⟨#[65]⟩:ByteArray),(⟨#[66]⟩:ByteArray),(⟨#[85,47,120]⟩:ByteArray),(⟨#[88]⟩:ByteArray)]).bind fun r121=>k14 r121.2.l r121.2.pos 3 r121.1 else k14 r114.2.l r114.2.pos r113.1.space r113.1.name else ZaF Zcp (fun f16 ((x158,x159,x160,x161):Int×(List Int)×Int×(List Page))=>if (decide (x158<(x82.length:Int))) then (atI x82 x158).bind fun e174=>(ZdH (⟨x159,x160⟩:TapeF) p1).bind fun r175=>(ZL r175.2 9).bind fun r176=>(ZeI 48 x161 [(⟨e174,r175.1,(w64 (1+r176.1))⟩:Page)]).bind fun l177=>f16 ((w64 (x158+1)),r176.2.l,r176.2.pos,l177) else (some ((⟨x161,r1.1,r4,(w64 (r2.1 * 80)),([]:List Asked)⟩:View),(⟨x159,x160⟩:TapeF)):Option (View×TapeF))) (0,x84,x85,([]:List Page))) ([],0,r5.2.l,r5.2.pos)
theorem Zkm (p0:TapeF) (p1:Int) (r:View×TapeF) (h:Zdz p0 p1=some r):Contract Tryz.prog 8 [.ptr 0 (0,0) 0,.int .i64 p1] (some (0,p0.cs)) (r.1.pv) (r.2).cs:=by{
refine Zbb (R:=fun r=>r.1.pv) (O:=fun r=>(r.2).cs) h mix Tryz.func8 (by kernel_rfl) rfl (by kernel_rfl) fun r h=>?_
unfold Zdz at h
refine Zn ?_
refine rg ?_
refine ZY (Za0 4 1400 0 54 4 rfl rfl rfl) (Zn ?_) (List.cons_ne_nil _ _)
refine ZY (Za0 4 1401 1 67 2 rfl rfl rfl) (Zn ?_) (List.cons_ne_nil _ _)
refine ZY (Za0 4 1402 2 83 6 rfl rfl rfl) (Zn ?_) (List.cons_ne_nil _ _)
refine ZY (Za0 4 1403 3 128 5 rfl rfl rfl) (Zn ?_) (List.cons_ne_nil _ _)
refine ZY (Za0 4 1404 4 9 1 rfl rfl rfl) (Zn ?_) (List.cons_ne_nil _ _)
refine ZY (Za0 4 1406 6 65 7 rfl rfl rfl) (Zn ?_) (List.cons_ne_nil _ _)
refine rg ?_
refine aO h (ZiI _) fun r1 h=>?_
refine aO h (ZI _ _) fun r2 h=>?_
refine ZY (Za0 5 1500 0 54 4 rfl rfl rfl) (Zn ?_) (List.cons_ne_nil _ _)
refine ZY (Za0 5 1504 4 9 1 rfl rfl rfl) (Zn ?_) (List.cons_ne_nil _ _)
refine ZY (Za0 5 1506 6 65 7 rfl rfl rfl) (Zn ?_) (List.cons_ne_nil _ _)
refine rg ?_
refine aO h (Zkl _) fun r3 h=>?_
refine aC h (ZmW _ _) fun r4 h=>?_
refine rg ?_
refine rg ?_
refine aO h (ZI _ _) fun r5 h=>?_
refine rg ?_
refine bl ?_
refine ZB h fun f12 mf12 hf12 h=>?_
refine Zv (α:=Nat×((List Title)×Int×(List Int)×Int)) (fun a _=>mkS [(0,.ptr 0 (0,0) 0),(1,.int .i64 p1),(4,.ptr 4 (1,4) 0),(5,.ptr 5 (1,5) 0),(6,.sl (List.map Title.cs a.2.1)),(7,.int .i64 r5.1),(8,.int .i64 a.2.2.1)] [(0,some ((0,0),.box [.sl (List.map csI a.2.2.2.1),.int .i64 a.2.2.2.2])),(4,some ((1,4),.box [.row 1400 (1,1400),.row 1401 (1,1401),.row 1402 (1,1402),.row 1403 (1,1403),.row 1404 (1,1404),.int .i64 0,.row 1406 (1,1406)])),(5,some ((1,5),.box [.row 1500 (1,1500),.sl (List.map Group.cs r1.1.groups),.sl (List.map Rule.cs r1.1.rules),.sl (List.map Guard.cs r1.1.guards),.sl (List.map csS r4),.int .i64 (w64 (r2.1 * 80)),.row 1506 (1,1506)])),(1400,some ((1,1400),.row 54 4 false (List.map Page.cs ([]:List Page)))),(1401,some ((1,1401),.row 67 2 false (List.map Group.cs ([]:List Group)))),(1402,some ((1,1402),.row 83 6 false (List.map Rule.cs ([]:List Rule)))),(1403,some ((1,1403),.row 128 5 false (List.map Guard.cs ([]:List Guard)))),(1404,some ((1,1404),.row 9 1 false (List.map csS ([]:List ByteArray)))),(1406,some ((1,1406),.row 65 7 false (List.map Asked.cs ([]:List Asked)))),(1500,some ((1,1500),.row 54 4 false (List.map Page.cs ([]:List Page)))),(1506,some ((1,1506),.row 65 7 false (List.map Asked.cs ([]:List Asked))))] 2) (fun a=>ZaF a.1 f12 a.2=some r) (fun a=>a.1) (mf12,[],0,r5.2.l,r5.2.pos) 2 h (Shift.trans (Zqk 6 rfl rfl) (sR [(4,1,0),(5,8,6),(1400,2,0),(1401,3,0),(1402,4,0),(1403,5,0),(1404,6,0),(1406,7,0),(1500,9,0),(1506,11,0)])) (fun a _ h=>?_)
obtain ⟨mf12,x82,x83,x84,x85⟩:=a
obtain ⟨mf12,rfl,h⟩:=ZC hf12 h
dsimp only at h ⊢
refine Zn ?_
refine rg ?_
refine cS h rfl (fun h=>?_) fun h=>?_
refine bl ?_
refine rg ?_
refine aO h (ZgM _) fun r113 h=>?_
refine rg ?_
refine aO h (ZI _ _) fun r114 h=>?_
refine ZbG h fun k14 hk14 h=>?_
refine Zbv (α:=(List Int)×Int×Int×ByteArray) (fun a _=>mkS [(0,.ptr 0 (0,0) 0),(1,.int .i64 p1),(4,.ptr 4 (1,4) 0),(5,.ptr 5 (1,5) 0),(6,.sl (List.map Title.cs x82)),(7,.int .i64 r5.1),(8,.int .i64 x83),(9,.ptr 9 (1,9) 0)] [(0,some ((0,0),.box [.sl (List.map csI a.1),.int .i64 a.2.1])),(4,some ((1,4),.box [.row 1400 (1,1400),.row 1401 (1,1401),.row 1402 (1,1402),.row 1403 (1,1403),.row 1404 (1,1404),.int .i64 0,.row 1406 (1,1406)])),(5,some ((1,5),.box [.row 1500 (1,1500),.sl (List.map Group.cs r1.1.groups),.sl (List.map Rule.cs r1.1.rules),.sl (List.map Guard.cs r1.1.guards),.sl (List.map csS r4),.int .i64 (w64 (r2.1 * 80)),.row 1506 (1,1506)])),(9,some ((1,9),.box [.int .i64 a.2.2.1,.str a.2.2.2])),(1400,some ((1,1400),.row 54 4 false (List.map Page.cs ([]:List Page)))),(1401,some ((1,1401),.row 67 2 false (List.map Group.cs ([]:List Group)))),(1402,some ((1,1402),.row 83 6 false (List.map Rule.cs ([]:List Rule)))),(1403,some ((1,1403),.row 128 5 false (List.map Guard.cs ([]:List Guard)))),(1404,some ((1,1404),.row 9 1 false (List.map csS ([]:List ByteArray)))),(1406,some ((1,1406),.row 65 7 false (List.map Asked.cs ([]:List Asked)))),(1500,some ((1,1500),.row 54 4 false (List.map Page.cs ([]:List Page)))),(1506,some ((1,1506),.row 65 7 false (List.map Asked.cs ([]:List Asked))))] 2) (fun a=>k14 a.1 a.2.1 a.2.2.1 a.2.2.2=some r) (Zn ?_) (fun a _ h=>?_)
refine cS h rfl (fun h=>?_) fun h=>?_
refine rg ?_
refine bM csS ([(⟨#[84]⟩:ByteArray),(⟨#[65]⟩:ByteArray),(⟨#[66]⟩:ByteArray),(⟨#[85,47,120]⟩:ByteArray),(⟨#[88]⟩:ByteArray)]:List ByteArray) ?_
refine aO h (Zx _ _) fun r121 h=>?_
exact jn (r121.2.l,r121.2.pos,3,r121.1) h (sR [(4,1,4),(5,1,5),(9,3,2),(1400,1,1400),(1401,1,1401),(1402,1,1402),(1403,1,1403),(1404,1,1404),(1406,1,1406),(1500,1,1500),(1506,1,1506)])
exact jn (r114.2.l,r114.2.pos,r113.1.space,r113.1.name) h (sR [(4,1,4),(5,1,5),(9,3,2),(1400,1,1400),(1401,1,1401),(1402,1,1402),(1403,1,1403),(1404,1,1404),(1406,1,1406),(1500,1,1500),(1506,1,1506)])
obtain ⟨x116,x117,x118,x119⟩:=a
subst hk14
dsimp only at h ⊢
refine Zn ?_
refine rg ?_
refine aC h (Zqh _ _) fun r120 h=>?_
refine rg ?_
exact rn (mf12,r120,(w64 (x83+1)),x116,x117) h (sR [(4,1,4),(5,1,5),(1400,1,1400),(1401,1,1401),(1402,1,1402),(1403,1,1403),(1404,1,1404),(1406,1,1406),(1500,1,1500),(1506,1,1506)])
refine rg ?_
refine bl ?_
refine ZB h fun f16 mf16 hf16 h=>?_
refine Zv (α:=Nat×(Int×(List Int)×Int×(List Page))) (fun a _=>mkS [(0,.ptr 0 (0,0) 0),(1,.int .i64 p1),(4,.ptr 4 (1,4) 0),(5,.ptr 5 (1,5) 0),(6,.sl (List.map Title.cs x82)),(10,.int .i64 a.2.1)] [(0,some ((0,0),.box [.sl (List.map csI a.2.2.1),.int .i64 a.2.2.2.1])),(4,some ((1,4),.box [.row 1400 (1,1400),.row 1401 (1,1401),.row 1402 (1,1402),.row 1403 (1,1403),.row 1404 (1,1404),.int .i64 0,.row 1406 (1,1406)])),(5,some ((1,5),.box [.row 1500 (1,1500),.sl (List.map Group.cs r1.1.groups),.sl (List.map Rule.cs r1.1.rules),.sl (List.map Guard.cs r1.1.guards),.sl (List.map csS r4),.int .i64 (w64 (r2.1 * 80)),.row 1506 (1,1506)])),(1400,some ((1,1400),.row 54 4 false (List.map Page.cs ([]:List Page)))),(1401,some ((1,1401),.row 67 2 false (List.map Group.cs ([]:List Group)))),(1402,some ((1,1402),.row 83 6 false (List.map Rule.cs ([]:List Rule)))),(1403,some ((1,1403),.row 128 5 false (List.map Guard.cs ([]:List Guard)))),(1404,some ((1,1404),.row 9 1 false (List.map csS ([]:List ByteArray)))),(1406,some ((1,1406),.row 65 7 false (List.map Asked.cs ([]:List Asked)))),(1500,some ((1,1500),.row 54 4 false (List.map Page.cs a.2.2.2.2))),(1506,some ((1,1506),.row 65 7 false (List.map Asked.cs ([]:List Asked))))] 2) (fun a=>ZaF a.1 f16 a.2=some r) (fun a=>a.1) (mf16,0,x84,x85,([]:List Page)) 2 h (sR [(4,1,4),(5,1,5),(1400,1,1400),(1401,1,1401),(1402,1,1402),(1403,1,1403),(1404,1,1404),(1406,1,1406),(1500,1,1500),(1506,1,1506)]) (fun a _ h=>?_)
obtain ⟨mf16,x158,x159,x160,x161⟩:=a
obtain ⟨mf16,rfl,h⟩:=ZC hf16 h
dsimp only at h ⊢
refine Zn ?_
refine rg ?_
refine lM Title.cs x82 ?_
refine cS h rfl (fun h=>?_) fun h=>?_
refine bl ?_
refine rg ?_
refine aI Title.cs h fun e174 h=>?_
refine aO h (Zkx _ _) fun r175 h=>?_
refine aO h (ZI _ _) fun r176 h=>?_
refine ZbS (M:=([(⟨e174,r175.1,(w64 (1+r176.1))⟩:Page)]:List Page)) (f:=Page.cs) rfl rfl rfl rfl (Nat.le_of_ble_eq_true rfl) rfl (Zn ?_)
refine pR Page.cs h fun l177 h=>?_
refine rg ?_
exact rn (mf16,(w64 (x158+1)),r176.2.l,r176.2.pos,l177) h (sR [(4,1,4),(5,1,5),(1400,1,1400),(1401,1,1401),(1402,1,1402),(1403,1,1403),(1404,1,1404),(1406,1,1406),(1500,3,14),(1506,1,1506)])
refine rg ?_
cases h
exact Za5 rfl rfl rfl rfl rfl}
end Go.Proofs.YtpffimahajgiaaaGreatDoor
namespace Go.Proofs.YtpffimahajgiaaaGreatDoor
open VL
theorem Zt4 {α:Type} {p:α->Bool} {y:α}:∀ l:List α,y ∈ l.takeWhile p->p y=true
 | [],h=>by cases h
 | x::l,h=>by
   rw [List.takeWhile_cons] at h
   by_cases hx:p x=true
   rw [if_pos hx] at h
   rcases List.mem_cons.1 h with rfl | h
   exact hx
   exact Zt4 l h
   rw [if_neg hx] at h
   cases h
section
variable {α κ:Type} [DecidableEq κ] {c:κ->κ->Int} {key:α->κ}
abbrev Asc (c:κ->κ->Int) (key:α->κ) (l:List α):Prop:=l.Pairwise fun a b=>c (key a) (key b)<0
def ZoF (c:κ->κ->Int) (key:α->κ) (l:List α) (x:α):List α:=match l.dropWhile (fun y=>decide (c (key y) (key x)<0)) with | []=>l ++ [x] | y::b=>if key y=key x then l else l.takeWhile (fun y=>decide (c (key y) (key x)<0))++x::y::b
omit [DecidableEq κ] in
theorem Zwh (h:CmpLaws c) {a b:κ} (k:c a b<0):a≠b:=fun e=>by
 have:=(h.zero a b).2 e
 omega
theorem Zf2 (c:κ->κ->Int) (key:α->κ) (l:List α) (x:α):∃ A B,l=A++B/\(∀ y ∈ A,c (key y) (key x)<0)/\l.takeWhile (fun y=>decide (c (key y) (key x)<0))=A/\((B = []/\ZoF c key l x=l ++ [x])\/∃ y b,B=y::b/\¬ c (key y) (key x)<0/\((key y=key x/\ZoF c key l x=l)\/(¬ key y=key x/\ZoF c key l x=A++x::y::b))):=by{
refine ⟨l.takeWhile (fun y=>decide (c (key y) (key x)<0)),l.dropWhile (fun y=>decide (c (key y) (key x)<0)),(List.takeWhile_append_dropWhile ..).symm,fun y hy=>?_,rfl,?_⟩
exact of_decide_eq_true (p:=c (key y) (key x)<0) (Zt4 (p:=fun y=>decide (c (key y) (key x)<0)) l hy)
unfold ZoF
cases hd:l.dropWhile (fun y=>decide (c (key y) (key x)<0)) with
| nil=>exact .inl ⟨rfl,rfl⟩
| cons y b=>
  refine .inr ⟨y,b,rfl,fun hlt=>?_,?_⟩
  have:=List.head?_dropWhile_not (fun y=>decide (c (key y) (key x)<0)) l
  rw [hd] at this
  simp at this
  omega
  by_cases hq:key y=key x
  exact .inl ⟨hq,if_pos hq⟩
  exact .inr ⟨hq,if_neg hq⟩}
theorem Zu6 (h:CmpLaws c) {l:List α} (hl:Asc c key l) (x:α):Asc c key (ZoF c key l x):=by{
obtain ⟨A,B,rfl,hA,_,⟨rfl,e⟩ | ⟨y,b,rfl,hy,⟨hk,e⟩ | ⟨hk,e⟩⟩⟩:=Zf2 c key l x
rw [e]
refine List.pairwise_append.2 ⟨hl,List.pairwise_singleton _ _,fun a ha b hb=>?_⟩
rw [List.mem_singleton.1 hb]
rw [List.append_nil] at ha
exact hA a ha
rw [e];exact hl
rw [e]
obtain ⟨p1,p2,p3⟩:=List.pairwise_append.1 hl
obtain ⟨q1,q2⟩:=List.pairwise_cons.1 p2
have hxy:c (key x) (key y)<0:=by
 have h0:¬ c (key y) (key x)=0:=fun e=>hk ((h.zero _ _).1 e)
 exact (h.neg _ _).2 (by omega)
refine List.pairwise_append.2 ⟨p1,List.pairwise_cons.2 ⟨fun z hz=>?_,p2⟩,fun a ha z hz=>?_⟩
rcases List.mem_cons.1 hz with rfl | hz
exact hxy
exact h.trans _ _ _ hxy (q1 z hz)
rcases List.mem_cons.1 hz with rfl | hz
exact hA a ha
exact p3 a ha z hz}
theorem Zu7 (l:List α) (x:α):(ZoF c key l x).length<=l.length+1:=by{
obtain ⟨A,B,rfl,hA,_,⟨rfl,e⟩ | ⟨y,b,rfl,hy,⟨hk,e⟩ | ⟨hk,e⟩⟩⟩:=Zf2 c key l x
rw [e];simp
rw [e];omega
rw [e];simp;omega}
end
end Go.Proofs.YtpffimahajgiaaaGreatDoor
namespace Go.Proofs.YtpffimahajgiaaaGreatDoor
namespace VL
section
variable {α:Type}
def ZvE (le:α->α->Bool) (r:List α->List α) (x:α) (s:List α):List α->List α | []=>x::s | y::t=>if le x y=true then x::r (y::t) else y::ZvE le r x s t
def Zal (le:α->α->Bool):List α->List α->List α | [],t=>t | x::s,t=>ZvE le (Zal le s) x s t
variable {le:α->α->Bool}
theorem ZbY (s:List α):Zal le s []=s:=by cases s<;>rfl
theorem ZdQ {x y:α} {s t:List α} (h:le x y=true):Zal le (x::s) (y::t)=x::Zal le s (y::t):=by
 show ZvE le (Zal le s) x s (y::t)=_
 unfold ZvE
 rw [if_pos h]
theorem ZeD {x y:α} {s t:List α} (h:le x y=false):Zal le (x::s) (y::t)=y::Zal le (x::s) t:=by
 show ZvE le (Zal le s) x s (y::t)=_
 rw [ZvE,if_neg (by rw [h];decide)]
 rfl
theorem Zcz:∀ (A B C D:List α),(∀ u ∈ A,∀ v ∈ D,le u v=true)->(∀ v ∈ C,∀ u ∈ B,le u v=false)->Zal le (A++B) (C++D)=Zal le A C++Zal le B D
 | [],B,[],D,_,_=>rfl
 | [],[],v::C,D,_,_=>rfl
 | [],u::B,v::C,D,h1,h2=>by
   rw [List.nil_append,List.cons_append,ZeD (h2 v (by simp) u (by simp))]
   have:=Zcz [] (u::B) C D h1 fun v hv=>h2 v (List.mem_cons_of_mem _ hv)
   rw [List.nil_append] at this
   rw [this]
   rfl
 | u::A,B,[],[],_,_=>by rw [List.append_nil,ZbY,ZbY,ZbY]
 | u::A,B,[],w::D,h1,h2=>by
   rw [List.nil_append,List.cons_append,ZdQ (h1 u (by simp) w (by simp))]
   have:=Zcz A B [] (w::D) (fun u hu=>h1 u (List.mem_cons_of_mem _ hu)) h2
   rw [List.nil_append] at this
   rw [this,ZbY,ZbY]
   rfl
 | u::A,B,v::C,D,h1,h2=>by
   rw [List.cons_append,List.cons_append]
   cases h:le u v with
   | true=>
     rw [ZdQ h,ZdQ h]
     have:=Zcz A B (v::C) D (fun u hu=>h1 u (List.mem_cons_of_mem _ hu)) h2
     rw [List.cons_append] at this
     rw [this]
     rfl
   | false=>
     rw [ZeD h,ZeD h]
     have:=Zcz (u::A) B C D h1 fun v hv=>h2 v (List.mem_cons_of_mem _ hv)
     rw [List.cons_append] at this
     rw [this]
     rfl
 termination_by A _ C _=>A.length+C.length
theorem Zfg (ht:∀ a b c,le a b=true->le b c=true->le a c=true) (hl:∀ a b,(le a b||le b a)=true) (x:α):∀ (S T:List α),ZiG le x (Zal le S T)=Zal le (ZiG le x S) T
 | [],[]=>rfl
 | [],b::T=>by
   show ZiG le x (b::T)=Zal le [x] (b::T)
   cases h:le x b with
   | true=>
     rw [ZdQ h,ZiG,if_pos h]
     rfl
   | false=>
     rw [ZeD h,ZiG,if_neg (by rw [h];decide)]
     have:=Zfg ht hl x [] T
     exact congrArg (b :: ·) this
 | a::S,[]=>by rw [ZbY,ZbY]
 | a::S,b::T=>by
   have tot:∀ a b,le a b=false->le b a=true:=fun a b h=>by have:=hl a b;rw [h] at this;exact this
   cases hxa:le x a with
   | true=>
     have e:ZiG le x (a::S)=x::a::S:=by rw [ZiG,if_pos hxa]
     rw [e]
     cases hab:le a b with
     | true=>
       rw [ZdQ hab,ZdQ (ht x a b hxa hab),ZdQ hab,ZiG,if_pos hxa]
     | false=>
       rw [ZeD hab]
       cases hxb:le x b with
       | true=>rw [ZdQ hxb,ZeD hab,ZiG,if_pos hxb]
       | false=>
         rw [ZeD hxb,ZiG,if_neg (by rw [hxb];decide)]
         have:=Zfg ht hl x (a::S) T
         rw [this,e]
   | false=>
     have e:ZiG le x (a::S)=a::ZiG le x S:=by rw [ZiG,if_neg (by rw [hxa];decide)]
     rw [e]
     cases hab:le a b with
     | true=>
       rw [ZdQ hab,ZdQ hab,ZiG,if_neg (by rw [hxa];decide),Zfg ht hl x S (b::T)]
     | false=>
       have hxb:le x b=false:=by
        cases h:le x b with
        | false=>rfl
        | true=>
          have:=ht x b a h (tot a b hab)
          rw [hxa] at this
          cases this
       rw [ZeD hab,ZeD hab,ZiG,if_neg (by rw [hxb];decide)]
       have:=Zfg ht hl x (a::S) T
       rw [this,e]
 termination_by S T=>S.length+T.length
theorem Zgc (ht:∀ a b c,le a b=true->le b c=true->le a c=true) (hl:∀ a b,(le a b||le b a)=true):∀ (A B:List α),Zar le (A++B)=Zal le (Zar le A) (Zar le B)
 | [],B=>rfl
 | x::A,B=>by
   show ZiG le x (Zar le (A++B))=Zal le (ZiG le x (Zar le A)) (Zar le B)
   rw [Zgc ht hl A B,Zfg ht hl]
theorem ZpG (ht:∀ a b c,le a b=true->le b c=true->le a c=true) (hl:∀ a b,(le a b||le b a)=true) (A:List α) (y:α):Zar le (A ++ [y])=Zal le (Zar le A) [y]:=Zgc ht hl A [y]
theorem Zj6 {y:α} {A B:List α} (h1:∀ u ∈ A,le u y=true) (h2:∀ u ∈ B,le u y=false):Zal le (A++B) [y]=A++y::B:=by{
have e:Zal le (A++B) [y]=Zal le A []++Zal le B [y]:=Zcz A B [] [y] (fun u hu v hv=>List.mem_singleton.1 hv ▸ h1 u hu) (fun v hv=>by cases hv)
rw [e,ZbY]
congr 1
cases B with
| nil=>rfl
| cons b B=>rw [ZeD (h2 b (by simp)),ZbY]}
theorem ZnZ {x:α} {C D:List α} (h1:∀ v ∈ D,le x v=true) (h2:∀ v ∈ C,le x v=false):Zal le [x] (C++D)=C++x::D:=by{
have e:Zal le [x] (C++D)=C++Zal le [x] D:=Zcz [] [x] C D (fun u hu=>by cases hu) (fun v hv u hu=>List.mem_singleton.1 hu ▸ h2 v hv)
rw [e]
congr 1
cases D with
| nil=>rfl
| cons d D=>rw [ZdQ (h1 d (by simp))];rfl}
theorem Zah (l:List α):(Zar le l).length=l.length:=(Zfl le l).length_eq
theorem ZpH (S T:List α):(Zal le S T).Perm (S++T):=by{
induction S generalizing T with
| nil=>exact .refl _
| cons x S ih=>
  induction T with
  | nil=>rw [ZbY,List.append_nil]
  | cons y T ih2=>
    cases h:le x y with
    | true=>
      rw [ZdQ h]
      exact (ih (y::T)).cons x
    | false=>
      rw [ZeD h]
      refine (ih2.cons y).trans ?_
      exact (List.perm_middle (a:=y) (l₁:=x::S) (l₂:=T)).symm}
theorem ZrG (S T:List α):(Zal le S T).length=S.length+T.length:=by rw [(ZpH S T).length_eq,List.length_append]
end
end VL
end Go.Proofs.YtpffimahajgiaaaGreatDoor
namespace Go.Proofs.YtpffimahajgiaaaGreatDoor
open VL
theorem Zbc {α:Type} {l A B:List α} {x:α} {n:Int} (h:l=A++x::B) (hn:n=(A.length:Int)):atI l n=some x:=by{
subst h hn
unfold atI
rw [if_pos (by omega),Int.toNat_natCast,List.getElem?_append_right (Nat.le_refl _),Nat.sub_self]
rfl}
theorem Zfm {α:Type} {l A B:List α} {x y:α} {n:Int} (h:l=A++x::B) (hn:n=(A.length:Int)):Zfo l n y=A++y::B:=by{
subst h hn
unfold Zfo
rw [Int.toNat_natCast,List.set_append_right _ _ (Nat.le_refl _),Nat.sub_self]
rfl}
theorem ZdT {a b:Int} (h0:0<=a) (h1:0<=b) (ha:a<=10000000) (hb:b<=10000000):w64 (a+b)=a+b:=ZaH
theorem ZeR {a b:Int} (h0:0<=a) (h1:0<=b) (ha:a<=10000000) (hb:b<=10000000):w64 (a-b)=a-b:=ZaH
theorem Zp6 (P X Q Y S:List Memb) (hXY:X.length=Y.length) (hL:(P++X++Q++Y++S).length<=1000000) (p1 p2 n:Int) (h1:p1=(P.length:Int)) (h2:p2=((P++X++Q).length:Int)) (hn:n=(X.length:Int)) :
  ZJ (P++X++Q++Y++S) p1 p2 n=some (P++Y++Q++X++S):=by{
simp only [List.length_append] at hL h2
refine ZaI ?_
unfold ZJ
refine ZS (fun a=>∃ X1 X2 Y1 Y2:List Memb,X=X1++X2/\Y=Y1++Y2/\X1.length=Y1.length/\a.1=(X1.length:Int)/\a.2=P++Y1++X2++Q++X1++Y2++S) (fun a=>X.length-a.1.toNat) ⟨[],X,[],Y,rfl,rfl,rfl,rfl,by simp⟩ (by dsimp only;omega) ?_
rintro ⟨i,l⟩ rec ⟨X1,X2,Y1,Y2,hX,hY,hxy,hi,hl⟩ ih
dsimp only at hi hl ih ⊢
have lX:X.length=X1.length+X2.length:=by rw [hX,List.length_append]
have lY:Y.length=Y1.length+Y2.length:=by rw [hY,List.length_append]
refine Zh (fun hlt=>?_) (fun hge=>?_)
obtain ⟨x,X2,rfl⟩:∃ x X',X2=x::X':=by
 cases X2 with
 | nil=>simp at lX;omega
 | cons x X'=>exact ⟨x,X',rfl⟩
obtain ⟨y,Y2,rfl⟩:∃ y Y',Y2=y::Y':=by
 cases Y2 with
 | nil=>simp at lY lX;omega
 | cons y Y'=>exact ⟨y,Y',rfl⟩
simp only [List.length_cons] at lX lY
have e1:w64 (p1+i)=p1+i:=ZdT (by omega) (by omega) (by omega) (by omega)
have e2:w64 (p2+i)=p2+i:=ZdT (by omega) (by omega) (by omega) (by omega)
have d1:l=(P++Y1)++x::(X2++Q++X1++(y::Y2)++S):=by rw [hl];simp
have d2:l=(P++Y1++(x::X2)++Q++X1)++y::(Y2++S):=by rw [hl];simp
have n1:p1+i=((P++Y1).length:Int):=by simp only [List.length_append];omega
have n2:p2+i=((P++Y1++(x::X2)++Q++X1).length:Int):=by simp only [List.length_append,List.length_cons];omega
have d3:Zfo l (p1+i) y=(P++Y1++(y::X2)++Q++X1)++y::(Y2++S):=by rw [Zfm d1 n1];simp
have n3:p2+i=((P++Y1++(y::X2)++Q++X1).length:Int):=by rw [n2];simp
rw [e1,e2,ZdT (by omega) (by omega) (by omega) (by omega)]
refine Zb (Zbc d2 n2) (Zb (Zbc d1 n1) (Zb (Zbc d1 n1) (Zb (Zbc d3 n3) ?_)))
refine ih _ ⟨X1 ++ [x],X2,Y1 ++ [y],Y2,by simp [hX],by simp [hY],by simp [hxy],by simp;omega,?_⟩ (by dsimp only;omega)
dsimp only
rw [Zfm d3 n3]
simp
have z1:X2 = []:=List.eq_nil_of_length_eq_zero (by omega)
have z2:Y2 = []:=List.eq_nil_of_length_eq_zero (by omega)
subst z1 z2
refine Zc ?_
rw [hl,hX,hY]
simp}
theorem Zsq (P U V S:List Memb) (hU:0<U.length) (hV:0<V.length) (hL:(P++U++V++S).length<=1000000) (a m b:Int) (ha:a=(P.length:Int)) (hm:m=((P++U).length:Int)) (hb:b=((P++U++V).length:Int)) :
  ZW (P++U++V++S) a m b=some (P++V++U++S):=by{
simp only [List.length_append] at hL hm hb
refine ZaI ?_
unfold ZW
have e1:w64 (m-a)=(U.length:Int):=by rw [ZeR (by omega) (by omega) (by omega) (by omega)];omega
have e2:w64 (b-m)=(V.length:Int):=by rw [ZeR (by omega) (by omega) (by omega) (by omega)];omega
rw [e1,e2]
refine ZS (fun x=>∃ A U1 V1 B:List Memb,0<U1.length/\0<V1.length/\x.1=(U1.length:Int)/\x.2.1=(V1.length:Int)/\x.2.2=P++A++U1++V1++B++S/\A++V1++U1++B=V++U/\P.length+A.length+U1.length=P.length+U.length) (fun x=>x.1.toNat+x.2.1.toNat)
 ⟨[],U,V,[],hU,hV,rfl,rfl,by simp,by simp,by simp⟩ (by dsimp only;omega) ?_
rintro ⟨i,j,l⟩ rec ⟨A,U1,V1,B,hU1,hV1,hi,hj,hl,hfin,hpos⟩ ih
dsimp only at hi hj hl ih ⊢
have htot:A.length+V1.length+U1.length+B.length=V.length+U.length:=by
 have:=congrArg List.length hfin
 simpa only [List.length_append] using this
have e3:w64 (m-i)=m-i:=ZeR (by omega) (by omega) (by omega) (by omega)
refine ZeU (fun hne=>?_) (fun heq=>?_)
refine Zh (fun hlt=>?_) (fun hge=>?_)

have s1:U1=U1.take V1.length++U1.drop V1.length:=(List.take_append_drop _ _).symm
have l1:(U1.take V1.length).length=V1.length:=by rw [List.length_take];omega
have l2:(U1.drop V1.length).length=U1.length-V1.length:=List.length_drop
generalize hUa:U1.take V1.length=Ua at s1 l1
generalize hUb:U1.drop V1.length=Ub at s1 l2
have hd:l=(P++A)++Ua++Ub++V1++(B++S):=by rw [hl,s1];simp
have hsw:=Zp6 (P++A) Ua Ub V1 (B++S) l1 (by simp only [List.length_append];omega) (m-i) m j (by simp only [List.length_append];omega) (by simp only [List.length_append];omega) (by omega)
rw [e3,ZeR (by omega) (by omega) (by omega) (by omega),hd]
refine Zb hsw ?_
refine ih _ ⟨A++V1,Ub,Ua,B,by omega,by omega,by dsimp only;omega,by dsimp only;omega,?_,?_,?_⟩ (by dsimp only;omega)
dsimp only
simp
rw [<- hfin,s1]
simp
rw [List.length_append]
omega
have s1:V1=V1.take (V1.length-U1.length)++V1.drop (V1.length-U1.length):=(List.take_append_drop _ _).symm
have l1:(V1.take (V1.length-U1.length)).length=V1.length-U1.length:=by rw [List.length_take];omega
have l2:(V1.drop (V1.length-U1.length)).length=U1.length:=by rw [List.length_drop];omega
generalize hUa:V1.take (V1.length-U1.length)=Va at s1 l1
generalize hUb:V1.drop (V1.length-U1.length)=Vb at s1 l2
have hd:l=(P++A)++U1++Va++Vb++(B++S):=by rw [hl,s1];simp
have e4:w64 (w64 (m+j)-i)=m+j-i:=by rw [ZdT (by omega) (by omega) (by omega) (by omega),ZeR (by omega) (by omega) (by omega) (by omega)]
have hsw:=Zp6 (P++A) U1 Va Vb (B++S) (by omega) (by simp only [List.length_append];omega) (m-i) (m+j-i) i (by simp only [List.length_append];omega) (by simp only [List.length_append];omega) (by omega)
rw [e3,e4,ZeR (by omega) (by omega) (by omega) (by omega),hd]
refine Zb hsw ?_
refine ih _ ⟨A,Vb,Va,U1++B,by omega,by omega,by dsimp only;omega,by dsimp only;omega,?_,?_,?_⟩ (by dsimp only;omega)
dsimp only
simp
rw [<- hfin,s1]
simp
omega
have hd:l=(P++A)++U1 ++ []++V1++(B++S):=by rw [hl];simp
have hsw:=Zp6 (P++A) U1 [] V1 (B++S) (by omega) (by simp only [List.length_append,List.length_nil];omega) (m-i) m i (by simp only [List.length_append];omega) (by simp only [List.length_append,List.length_nil];omega) (by omega)
rw [e3,hd]
refine Zb hsw (Zc ?_)
have:(P++A)++V1 ++ []++U1++(B++S)=P++(A++V1++U1++B)++S:=by simp
rw [this,hfin]
simp}
def nm1:List UInt8:=[110,111,105,110,99,108,117,100,101]
def nm2:List UInt8:=[105,110,99,108,117,100,101,111,110,108,121]
def nm3:List UInt8:=[111,110,108,121,105,110,99,108,117,100,101]
def ZgD (pfx l:List UInt8):Int×Int:=if (pfx++nm1 ++ [62]).isPrefixOf l then (1,((pfx++nm1 ++ [62]).length:Int)) else if (pfx++nm2 ++ [62]).isPrefixOf l then (2,((pfx++nm2 ++ [62]).length:Int)) else if (pfx++nm3 ++ [62]).isPrefixOf l then (3,((pfx++nm3 ++ [62]).length:Int)) else (0,0)
theorem ZdF {α β:Type} {n m:Nat} {F:(α->Option β)->α->Option β} {a:α} {R:β->Prop} (e:m=n+1) (h:Tot (F (ZaF n F) a) R):Tot (ZaF m F a) R:=by
 subst e
 exact h
theorem Zh7 (a b:List UInt8) (h:a.length+b.length<=9223372036854775807):Zbs (bs a) (bs b)=some (bs (a++b)):=by
 rw [Zn4 (show (bs a).size+(bs b).size<=_ from h),ZvF]
theorem Zf4 (pfx l:List UInt8) (h:pfx.length<=10):Zcv (bs l) (bs pfx)=some (ZgD pfx l):=by{
have n1:nm1.length=9:=rfl
have n2:nm2.length=11:=rfl
have n3:nm3.length=11:=rfl
have z:([62]:List UInt8).length=1:=rfl
have l1:(pfx++nm1).length=pfx.length+9:=by rw [List.length_append,n1]
have l2:(pfx++nm2).length=pfx.length+11:=by rw [List.length_append,n2]
have l3:(pfx++nm3).length=pfx.length+11:=by rw [List.length_append,n3]
refine ZaI ?_
unfold Zcv Zfp
refine Zb rfl ?_
refine ZdF (n:=4611686018427387903) rfl (Zh (fun _=>?_) fun h=>absurd (by decide) h)
refine Zb (v:=bs nm1) rfl ?_
refine Zb (Zh7 pfx nm1 (by omega)) ?_
refine Zb (Zh7 (pfx++nm1) [62] (by omega)) ?_
refine Zb (Zdv l (pfx++nm1 ++ [62])) ?_
unfold ZgD
refine ZN (fun h1=>?_) fun h1=>?_
rw [if_pos h1]
exact Zc rfl
rw [if_neg (by rw [h1];decide)]
refine ZdF (n:=4611686018427387902) rfl (Zh (fun _=>?_) fun h=>absurd (by decide) h)
refine Zb (v:=bs nm2) rfl ?_
refine Zb (Zh7 pfx nm2 (by omega)) ?_
refine Zb (Zh7 (pfx++nm2) [62] (by omega)) ?_
refine Zb (Zdv l (pfx++nm2 ++ [62])) ?_
refine ZN (fun h2=>?_) fun h2=>?_
rw [if_pos h2]
exact Zc rfl
rw [if_neg (by rw [h2];decide)]
refine ZdF (n:=4611686018427387901) rfl (Zh (fun _=>?_) fun h=>absurd (by decide) h)
refine Zb (v:=bs nm3) rfl ?_
refine Zb (Zh7 pfx nm3 (by omega)) ?_
refine Zb (Zh7 (pfx++nm3) [62] (by omega)) ?_
refine Zb (Zdv l (pfx++nm3 ++ [62])) ?_
refine ZN (fun h3=>?_) fun h3=>?_
rw [if_pos h3]
exact Zc rfl
rw [if_neg (by rw [h3];decide)]
exact ZdF (n:=4611686018427387900) rfl (Zc rfl)}
def Zk0 (c:UInt8):List UInt8->Nat | []=>0 | x::l=>if x=c then Zk0 c l+1 else 0
theorem ZoH {c x:UInt8} {l:List UInt8} (h:x=c):Zk0 c (x::l)=Zk0 c l+1:=by rw [Zk0,if_pos h]
theorem ZmR {c x:UInt8} {l:List UInt8} (h:¬ x=c):Zk0 c (x::l)=0:=by rw [Zk0,if_neg h]
theorem ZnN (c:UInt8):∀ l:List UInt8,Zk0 c l<=l.length
 | []=>Nat.le_refl _
 | x::l=>by
   have:=ZnN c l
   unfold Zk0
   split
   simp;omega
   exact Nat.zero_le _
theorem ZmS (c:UInt8):∀ (l:List UInt8) (i:Nat),i<=Zk0 c l->i+Zk0 c (l.drop i)=Zk0 c l
 | l,0,_=>by simp
 | [],i+1,h=>by simp [Zk0] at h
 | x::l,i+1,h=>by
   by_cases hx:x=c
   rw [ZoH hx] at h ⊢
   have:=ZmS c l i (by omega)
   simp only [List.drop_succ_cons]
   omega
   rw [ZmR hx] at h
   omega
theorem ZeO (c:UInt8) (l:List UInt8) (h:l.length<=1000000):ZdC (bs l) (c.toNat:Int)=some (Zk0 c l:Int):=by{
have z:(bs l).size=l.length:=rfl
refine ZaI ?_
unfold ZdC
refine ZS (fun i=>0<=i/\i<=(Zk0 c l:Int)) (fun i=>l.length-i.toNat) ⟨Int.le_refl _,by omega⟩ (by omega) fun i rec hJ ih=>?_
obtain ⟨h0,h1⟩:=hJ
obtain ⟨n,rfl⟩:∃ n:Nat,i=(n:Int):=⟨i.toNat,by omega⟩
have hle:=ZnN c l
have hd:=ZmS c l n (by omega)
refine ZaM (Zh (fun hl=>?_) fun hl=>?_)
have hn:n<l.length:=by omega
have e:l[n]? = some l[n]:=List.getElem?_eq_getElem hn
refine Zb (ZtN e) ?_
rw [List.drop_eq_getElem_cons hn] at hd
refine Zh (fun hc=>?_) fun hc=>?_
have hx:l[n]=c:=UInt8.toNat_inj.1 (by omega)
rw [ZoH hx] at hd
rw [ZaH]
exact ih _ ⟨by omega,by omega⟩ (by omega)
have hx:¬ l[n]=c:=fun hx=>hc (by rw [hx])
rw [ZmR hx] at hd
exact Zc (by omega)
exact Zc (by omega)}
end Go.Proofs.YtpffimahajgiaaaGreatDoor
namespace Go.Proofs.YtpffimahajgiaaaGreatDoor
open VL
open Go.Sort
def ZeH (a b:Memb):Int:=Title.cmp a.category b.category
theorem ZrU:SWO (ltOf ZeH) where
 irrefl x:=titleCmp_laws.swo.irrefl x.category
 trans x y z:=titleCmp_laws.swo.trans x.category y.category z.category
 ntrans x y z:=titleCmp_laws.swo.ntrans x.category y.category z.category
def leM:Memb->Memb->Bool:=leC ZeH
theorem Zbw:∀ a b c,leM a b=true->leM b c=true->leM a c=true:=Zmi ZrU
theorem Zge:∀ a b,(leM a b||leM b a)=true:=Zmj ZrU
theorem ZtG (a b:Int):cmp_Compare_int a b=some (Lib.compareInt a b):=by{
refine ZaI ?_
unfold cmp_Compare_int ZcL Lib.compareInt
refine Zb rfl (Zb rfl ?_)
rw [decide_eq_true (rfl:a=a),decide_eq_true (rfl:b=b)]
refine ZN (fun h=>by cases h) fun _=>ZN (fun h=>by cases h) fun _=>?_
refine Zh (fun h=>?_) fun h=>?_
rw [if_pos h];exact Zc rfl
rw [if_neg h]
refine Zh (fun h2=>?_) fun h2=>?_
rw [if_pos h2];exact Zc rfl
rw [if_neg h2];exact Zc rfl}
theorem Zw6 (a b:Int):Zc8 [a,b]=some (orI [a,b]):=by{
rw [ZnV]
unfold ZsR
refine ZaI ?_
unfold Zc8
refine ZdF (n:=4611686018427387903) rfl (Zh (fun _=>?_) fun h=>absurd (show (0:Int)<2 by decide) h)
refine Zb (v:=a) rfl (ZeU (fun h=>?_) fun h=>?_)
rw [if_neg h];exact Zc rfl
rw [if_pos h]
refine ZdF (n:=4611686018427387902) rfl (Zh (fun _=>?_) fun h=>absurd (show (1:Int)<2 by decide) h)
refine Zb (v:=b) rfl (ZeU (fun h=>Zc rfl) fun h=>?_)
rw [h]
exact ZdF (n:=4611686018427387901) rfl (Zh (fun h=>absurd h (show ¬ (2:Int)<2 by decide)) fun _=>Zc rfl)}
theorem ZkB (a b:Title):ZbQ a b=some (Title.cmp a b):=by{
unfold ZbQ strings_Compare
rw [ZtG]
show (Zc8 [Lib.compareInt a.space b.space,Lib.compareBytes a.name.data.toList b.name.data.toList]).bind _=_
rw [Zw6]
rfl}
theorem ZoS (a b:Memb):Zb5 a b=some (ZeH a b):=by
 unfold Zb5
 rw [ZkB]
 rfl
theorem Zi6 {x y:Memb} (h:¬ ZeH x y<0):leM y x=true:=by
 unfold leM leC ltOf
 rw [decide_eq_false h]
 rfl
theorem Zl2 {x y:Memb} (h:ZeH x y<0):leM y x=false:=by
 unfold leM leC ltOf
 rw [decide_eq_true h]
 rfl
theorem Zvp {l:List Memb} {z y:Memb} (h:(l ++ [z]).Pairwise (fun a b=>leM a b=true)) (hz:leM z y=true):∀ u ∈ l ++ [z],leM u y=true:=fun u hu=>by
 rcases List.mem_append.1 hu with hu | hu
 exact Zbw _ _ _ ((List.pairwise_append.1 h).2.2 u hu z (by simp)) hz
 rw [List.mem_singleton.1 hu]
 exact hz
theorem Zwz (P U S:List Memb) (hL:(P++U++S).length<=1000000) (a b:Int) (ha:a=(P.length:Int)) (hb:b=((P++U).length:Int)) :
  ZK (P++U++S) a b=some (P++Zar leM U++S):=by{
simp only [List.length_append] at hL hb
refine ZaI ?_
unfold ZK
have e0:w64 (a+1)=a+1:=ZdT (by omega) (by omega) (by omega) (by omega)
rw [e0]
cases U with
| nil=>
  simp only [List.length_nil] at hb
  refine ZdF (n:=4611686018427387903) rfl (Zh (fun h=>by omega) fun _=>Zc rfl)
| cons u U=>
  simp only [List.length_cons] at hL hb
  refine ZS (fun x=>∃ U1 U2:List Memb,u::U=U1++U2/\0<U1.length/\x.1=(P.length:Int)+(U1.length:Int)/\x.2=P++Zar leM U1++U2++S) (fun x=>(u::U).length+P.length-x.1.toNat) ⟨[u],U,rfl,by simp,by simp [ha],by simp [Zar,ZiG]⟩ (by dsimp only;simp only [List.length_cons];omega) ?_
  rintro ⟨i,l⟩ rec ⟨U1,U2,hU,hU1,hi,hl⟩ ih
  dsimp only at hi hl ih ⊢
  have lU:U.length+1=U1.length+U2.length:=by have:=congrArg List.length hU;simpa only [List.length_cons,List.length_append] using this
  have lI:(Zar leM U1).length=U1.length:=Zah U1
  refine Zh (fun hlt=>?_) (fun hge=>?_)
  obtain ⟨y,U2,rfl⟩:∃ y U',U2=y::U':=by
   cases U2 with
   | nil=>simp only [List.length_nil] at lU;omega
   | cons y U'=>exact ⟨y,U',rfl⟩
  simp only [List.length_cons] at lU
  have hsorted:=ZfQ Zbw Zge U1
  refine ZS (fun x=>∃ A B:List Memb,Zar leM U1=A++B/\(∀ v ∈ B,leM v y=false)/\x.1=(P.length:Int)+(A.length:Int)/\x.2=P++A++y::B++U2++S) (fun x=>x.1.toNat) ⟨Zar leM U1,[],by simp,by simp,by rw [lI];exact hi,by rw [hl];simp⟩ (by dsimp only;omega) ?_
  rintro ⟨j,l2⟩ rec2 ⟨A,B,hAB,hB,hj,hl2⟩ ih2
  dsimp only at hj hl2 ih2 ⊢
  have lAB:A.length+B.length=U1.length:=by have:=congrArg List.length hAB;rw [lI,List.length_append] at this;exact this.symm
  have fin:(∀ v ∈ A,leM v y=true)->Tot (rec (w64 (i+1),l2)) (fun r=>r=P++Zar leM (u::U)++S):=fun hA=>by
   rw [ZdT (by omega) (by omega) (by omega) (by omega)]
   refine ih _ ⟨U1 ++ [y],U2,by rw [hU];simp,by simp,by simp;omega,?_⟩ (by dsimp only;simp only [List.length_cons];omega)
   dsimp only
   rw [ZpG Zbw Zge,hAB,Zj6 hA hB,hl2]
   simp
  refine ZZ (fun q=>((∀ v ∈ A,leM v y=true)->Tot (q false) (fun r=>r=P++Zar leM (u::U)++S))/\(∀ A' z,A=A' ++ [z]->leM z y=false->Tot (q true) (fun r=>r=P++Zar leM (u::U)++S))) ⟨fun hA=>?_,fun A' z hAz hz=>?_⟩ fun q hq=>?_
  exact ZN (fun h=>by cases h) fun _=>fin hA
  refine ZN (fun _=>?_) fun h=>by cases h
  subst hAz
  simp only [List.length_append,List.length_singleton] at hj lAB
  have e1:w64 (j-1)=j-1:=ZeR (by omega) (by omega) (by omega) (by omega)
  have d1:l2=(P++A')++z::(y::B++U2++S):=by rw [hl2];simp
  have d2:l2=(P++A' ++ [z])++y::(B++U2++S):=by rw [hl2];simp
  have n1:j-1=((P++A').length:Int):=by simp only [List.length_append];omega
  have n2:j=((P++A' ++ [z]).length:Int):=by simp only [List.length_append,List.length_singleton];omega
  have d3:Zfo l2 j z=(P++A')++z::(z::(B++U2++S)):=by rw [Zfm d2 n2];simp
  rw [e1]
  refine Zb (Zbc d1 n1) (Zb (Zbc d2 n2) (Zb (Zbc d2 n2) (Zb (Zbc d3 n1) ?_)))
  refine ih2 _ ⟨A',z::B,by rw [hAB];simp,fun v hv=>?_,by dsimp only;omega,?_⟩ (by dsimp only;omega)
  rcases List.mem_cons.1 hv with rfl | hv
  exact hz
  exact hB v hv
  dsimp only
  rw [Zfm d3 n1]
  simp
  refine Zh (fun hgt=>?_) (fun hle=>?_)
  have hA0:A≠[]:=fun h=>by rw [h] at hj;simp only [List.length_nil] at hj;omega
  obtain ⟨A',z,hAz⟩:∃ A' z,A=A' ++ [z]:=⟨A.dropLast,A.getLast hA0,(List.dropLast_concat_getLast hA0).symm⟩
  have lA:A.length=A'.length+1:=by rw [hAz];simp
  have e1:w64 (j-1)=j-1:=ZeR (by omega) (by omega) (by omega) (by omega)
  have d1:l2=(P++A')++z::(y::B++U2++S):=by rw [hl2,hAz];simp
  have d2:l2=(P++A' ++ [z])++y::(B++U2++S):=by rw [hl2,hAz];simp
  have n1:j-1=((P++A').length:Int):=by simp only [List.length_append];omega
  have n2:j=((P++A' ++ [z]).length:Int):=by simp only [List.length_append,List.length_singleton];omega
  rw [e1]
  refine Zb (Zbc d2 n2) (Zb (Zbc d1 n1) (Zb (ZoS y z) ?_))
  by_cases hc:ZeH y z<0
  rw [decide_eq_true hc]
  exact hq.2 A' z hAz (Zl2 hc)
  rw [decide_eq_false hc]
  refine hq.1 ?_
  rw [hAB,hAz] at hsorted
  rw [hAz]
  exact Zvp (List.pairwise_append.1 hsorted).1 (Zi6 hc)
  refine hq.1 fun v hv=>?_
  have:A = []:=List.eq_nil_of_length_eq_zero (by omega)
  rw [this] at hv
  cases hv
  have z:U2 = []:=List.eq_nil_of_length_eq_zero (by omega)
  subst z
  rw [List.append_nil] at hU
  refine Zc ?_
  rw [hl,hU,List.append_nil]}
theorem ZtP {α:Type} {l:List α} {n:Nat} (h:n<l.length):∃ A x B,l=A++x::B/\A.length=n:=⟨l.take n,l[n],l.drop (n+1),by rw [<- List.drop_eq_getElem_cons h,List.take_append_drop],by rw [List.length_take];omega⟩
theorem Zoi {β:Type} {s:Int} {f:Int->Option β} {R:β->Prop} (h0:0<=s) (h1:s<=10000000) (k:∀ q:Int,q=s / 2->IntKind.wrap .i64 q=q->Tot (f q) R):Tot ((Ztf .u64 (IntKind.wrap .u64 s) 1).bind f) R:=by{
have e:IntKind.wrap .u64 s=s:=by
 rw [IntKind.wrap_u64]
 omega
rw [e]
refine ZsU (by decide) (k _ ?_ ?_)
show s.fdiv 2=s / 2
exact Int.fdiv_eq_ediv_of_nonneg _ (by decide)
show IntKind.wrap .i64 (s.fdiv 2)=s.fdiv 2
rw [Int.fdiv_eq_ediv_of_nonneg _ (by decide),IntKind.wrap_i64]
omega}
abbrev Srt (l:List Memb):Prop:=l.Pairwise fun a b=>leM a b=true
theorem Zqd {A B:List Memb} {z:Memb} (h:Srt (A++z::B)):(∀ v ∈ A,leM v z=true)/\∀ v ∈ B,leM z v=true:=by
 have h1:=List.pairwise_append.1 h
 exact ⟨fun v hv=>h1.2.2 v hv z (by simp),fun v hv=>(List.pairwise_cons.1 h1.2.1).1 v hv⟩
theorem Zsu (f:Nat) (P V S:List Memb) (x:Memb) (hV:Srt V) (hL:(P ++ [x]++V++S).length<=1000000) (a m b:Int) (ha:a=(P.length:Int)) (hm:m=((P ++ [x]).length:Int)) (hb:b=((P ++ [x]++V).length:Int)) :
  Zp (f+1) (P ++ [x]++V++S) a m b=some (P++Zal leM [x] V++S):=by{
simp only [List.length_append,List.length_singleton] at hL hm hb
refine ZaI ?_
unfold Zp
rw [show w64 (m-a)=1 by rw [ZeR (by omega) (by omega) (by omega) (by omega)];omega]
refine Zh (fun _=>?_) fun h=>absurd rfl h
refine ZS (fun q=>∃ C1 C C2:List Memb,V=C1++C++C2/\q.1=m+(C1.length:Int)/\q.2=m+(C1.length:Int)+(C.length:Int)/\(∀ v ∈ C1,leM x v=false)/\∀ v ∈ C2,leM x v=true) (fun q=>(q.2-q.1).toNat) ⟨[],V,[],by simp,by simp,by simp;omega,by simp,by simp⟩ (by dsimp only;omega) ?_
rintro ⟨i,j⟩ rec ⟨C1,C,C2,hC,hi,hj,h1,h2⟩ ih
dsimp only at hi hj ih ⊢
have lC:V.length=C1.length+C.length+C2.length:=by rw [hC];simp only [List.length_append]
refine Zh (fun hlt=>?_) (fun hge=>?_)
rw [ZdT (by omega) (by omega) (by omega) (by omega)]
refine Zoi (by omega) (by omega) fun q hq hw=>?_
rw [hw]
obtain ⟨M1,z,M2,hM,lM⟩:=ZtP (l:=C) (n:=(q-i).toNat) (by omega)
have lM2:C.length=M1.length+1+M2.length:=by rw [hM];simp only [List.length_append,List.length_cons];omega
have hz:V=(C1++M1)++z::(M2++C2):=by rw [hC,hM];simp
rw [hz] at hV
obtain ⟨s1,s2⟩:=Zqd hV
have d1:P ++ [x]++V++S=(P ++ [x]++C1++M1)++z::(M2++C2++S):=by rw [hz];simp
have d2:P ++ [x]++V++S=P++x::(V++S):=by simp
refine Zb (Zbc d1 (by simp only [List.length_append,List.length_singleton];omega)) (Zb (Zbc d2 ha) (Zb (ZoS z x) ?_))
refine Zh (fun hc=>?_) (fun hc=>?_)
rw [ZdT (by omega) (by omega) (by omega) (by omega)]
refine ih _ ⟨C1++M1 ++ [z],M2,C2,by rw [hz];simp,by dsimp only;simp only [List.length_append,List.length_singleton];omega,by dsimp only;simp only [List.length_append,List.length_singleton];omega,fun v hv=>?_,h2⟩ (by dsimp only;omega)
have hxz:=Zl2 hc
rcases List.mem_append.1 hv with hv | hv
cases h:leM x v with
| false=>rfl
| true=>rw [Zbw _ _ _ h (s1 v hv)] at hxz;cases hxz
rw [List.mem_singleton.1 hv];exact hxz
refine ih _ ⟨C1,M1,z::M2++C2,by rw [hz];simp,by dsimp only;omega,by dsimp only;omega,h1,fun v hv=>?_⟩ (by dsimp only;omega)
have hxz:=Zi6 hc
rcases List.mem_cons.1 (show v ∈ z::(M2++C2) from hv) with rfl | hv
exact hxz
exact Zbw _ _ _ hxz (s2 v hv)
have z:C = []:=List.eq_nil_of_length_eq_zero (by omega)
subst z
rw [List.append_nil] at hC
simp only [List.length_nil] at hj lC
have hres:Zal leM [x] V=C1++x::C2:=by rw [hC];exact ZnZ h2 h1
rw [ZeR (by omega) (by omega) (by omega) (by omega)]
refine ZS (fun q=>∃ D1 D2:List Memb,C1=D1++D2/\q.1=a+(D1.length:Int)/\q.2=P++D1++x::D2++C2++S) (fun q=>(i-q.1).toNat) ⟨[],C1,rfl,by simp,by simp [hC]⟩ (by dsimp only;omega) ?_
rintro ⟨k,l⟩ rec2 ⟨D1,D2,hD,hk,hl⟩ ih2
dsimp only at hk hl ih2 ⊢
have lD:C1.length=D1.length+D2.length:=by rw [hD];simp only [List.length_append]
refine Zh (fun hlt=>?_) (fun hge=>?_)
obtain ⟨y,D2,rfl⟩:∃ y D',D2=y::D':=by
 cases D2 with
 | nil=>simp only [List.length_nil] at lD;omega
 | cons y D'=>exact ⟨y,D',rfl⟩
simp only [List.length_cons] at lD
have d1:l=(P++D1)++x::(y::D2++C2++S):=by rw [hl];simp
have d2:l=(P++D1 ++ [x])++y::(D2++C2++S):=by rw [hl];simp
have n1:k=((P++D1).length:Int):=by simp only [List.length_append];omega
have n2:k+1=((P++D1 ++ [x]).length:Int):=by simp only [List.length_append,List.length_singleton];omega
have d3:Zfo l k y=(P++D1 ++ [y])++y::(D2++C2++S):=by rw [Zfm d1 n1];simp
have n3:k+1=((P++D1 ++ [y]).length:Int):=by rw [n2];simp
rw [ZdT (by omega) (by omega) (by omega) (by omega)]
refine Zb (Zbc d2 n2) (Zb (Zbc d1 n1) (Zb (Zbc d1 n1) (Zb (Zbc d3 n3) ?_)))
refine ih2 _ ⟨D1 ++ [y],D2,by rw [hD];simp,by dsimp only;simp only [List.length_append,List.length_singleton];omega,?_⟩ (by dsimp only;omega)
dsimp only
rw [Zfm d3 n3]
simp
have z2:D2 = []:=List.eq_nil_of_length_eq_zero (by omega)
subst z2
refine Zc ?_
rw [hl,hres,hD]
simp}
theorem Zqe (f:Nat) (P U S:List Memb) (y:Memb) (hU:Srt U) (hU1:¬ U.length=1) (hL:(P++U ++ [y]++S).length<=1000000) (a m b:Int) (ha:a=(P.length:Int)) (hm:m=((P++U).length:Int)) (hb:b=((P++U ++ [y]).length:Int)) :
  Zp (f+1) (P++U ++ [y]++S) a m b=some (P++Zal leM U [y]++S):=by{
simp only [List.length_append,List.length_singleton] at hL hm hb
refine ZaI ?_
unfold Zp
rw [show w64 (m-a)=(U.length:Int) by rw [ZeR (by omega) (by omega) (by omega) (by omega)];omega,show w64 (b-m)=1 by rw [ZeR (by omega) (by omega) (by omega) (by omega)];omega]
refine Zh (fun h=>absurd h (by omega)) fun _=>?_
refine Zh (fun _=>?_) fun h=>absurd rfl h
refine ZS (fun q=>∃ C1 C C2:List Memb,U=C1++C++C2/\q.1=a+(C1.length:Int)/\q.2=a+(C1.length:Int)+(C.length:Int)/\(∀ v ∈ C1,leM v y=true)/\∀ v ∈ C2,leM v y=false) (fun q=>(q.2-q.1).toNat) ⟨[],U,[],by simp,by simp,by simp;omega,by simp,by simp⟩ (by dsimp only;omega) ?_
rintro ⟨i,j⟩ rec ⟨C1,C,C2,hC,hi,hj,h1,h2⟩ ih
dsimp only at hi hj ih ⊢
have lC:U.length=C1.length+C.length+C2.length:=by rw [hC];simp only [List.length_append]
refine Zh (fun hlt=>?_) (fun hge=>?_)
rw [ZdT (by omega) (by omega) (by omega) (by omega)]
refine Zoi (by omega) (by omega) fun q hq hw=>?_
rw [hw]
obtain ⟨M1,z,M2,hM,lM⟩:=ZtP (l:=C) (n:=(q-i).toNat) (by omega)
have lM2:C.length=M1.length+1+M2.length:=by rw [hM];simp only [List.length_append,List.length_cons];omega
have hz:U=(C1++M1)++z::(M2++C2):=by rw [hC,hM];simp
rw [hz] at hU
obtain ⟨s1,s2⟩:=Zqd hU
have d1:P++U ++ [y]++S=(P++C1++M1)++z::(M2++C2 ++ [y]++S):=by rw [hz];simp
have d2:P++U ++ [y]++S=(P++U)++y::S:=by simp
refine Zb (Zbc d2 (by simp only [List.length_append];omega)) (Zb (Zbc d1 (by simp only [List.length_append];omega)) (Zb (ZoS y z) ?_))
by_cases hc:ZeH y z<0
rw [decide_eq_true hc]
refine ZN (fun h=>by cases h) fun _=>?_
refine ih _ ⟨C1,M1,z::M2++C2,by rw [hz];simp,by dsimp only;omega,by dsimp only;omega,h1,fun v hv=>?_⟩ (by dsimp only;omega)
have hxz:=Zl2 hc
rcases List.mem_cons.1 (show v ∈ z::(M2++C2) from hv) with rfl | hv
exact hxz
cases h:leM v y with
| false=>rfl
| true=>rw [Zbw _ _ _ (s2 v hv) h] at hxz;cases hxz
rw [decide_eq_false hc]
refine ZN (fun _=>?_) fun h=>by cases h
rw [ZdT (by omega) (by omega) (by omega) (by omega)]
refine ih _ ⟨C1++M1 ++ [z],M2,C2,by rw [hz];simp,by dsimp only;simp only [List.length_append,List.length_singleton];omega,by dsimp only;simp only [List.length_append,List.length_singleton];omega,fun v hv=>?_,h2⟩ (by dsimp only;omega)
have hxz:=Zi6 hc
rcases List.mem_append.1 hv with hv | hv
exact Zbw _ _ _ (s1 v hv) hxz
rw [List.mem_singleton.1 hv];exact hxz
have z:C = []:=List.eq_nil_of_length_eq_zero (by omega)
subst z
rw [List.append_nil] at hC
simp only [List.length_nil] at hj lC
have hres:Zal leM U [y]=C1++y::C2:=by rw [hC];exact Zj6 h1 h2
refine ZS (fun q=>∃ D1 D2:List Memb,C2=D1++D2/\q.1=a+(C1.length:Int)+(D1.length:Int)/\q.2=P++C1++D1++y::D2++S) (fun q=>q.1.toNat) ⟨C2,[],by simp,by dsimp only;omega,by simp [hC]⟩ (by dsimp only;omega) ?_
rintro ⟨k,l⟩ rec2 ⟨D1,D2,hD,hk,hl⟩ ih2
dsimp only at hk hl ih2 ⊢
have lD:C2.length=D1.length+D2.length:=by rw [hD];simp only [List.length_append]
refine Zh (fun hlt=>?_) (fun hge=>?_)
have hD0:D1≠[]:=fun h=>by rw [h] at hk;simp only [List.length_nil] at hk;omega
obtain ⟨D',x,hDx⟩:∃ A' z,D1=A' ++ [z]:=⟨D1.dropLast,D1.getLast hD0,(List.dropLast_concat_getLast hD0).symm⟩
have lA:D1.length=D'.length+1:=by rw [hDx];simp
have d1:l=(P++C1++D')++x::(y::D2++S):=by rw [hl,hDx];simp
have d2:l=(P++C1++D' ++ [x])++y::(D2++S):=by rw [hl,hDx];simp
have n1:k-1=((P++C1++D').length:Int):=by simp only [List.length_append];omega
have n2:k=((P++C1++D' ++ [x]).length:Int):=by simp only [List.length_append,List.length_singleton];omega
have d3:Zfo l k x=(P++C1++D')++x::(x::(D2++S)):=by rw [Zfm d2 n2];simp
rw [ZeR (by omega) (by omega) (by omega) (by omega)]
refine Zb (Zbc d1 n1) (Zb (Zbc d2 n2) (Zb (Zbc d2 n2) (Zb (Zbc d3 n1) ?_)))
refine ih2 _ ⟨D',x::D2,by rw [hD,hDx];simp,by dsimp only;omega,?_⟩ (by dsimp only;omega)
dsimp only
rw [Zfm d3 n1]
simp
have z2:D1 = []:=List.eq_nil_of_length_eq_zero (by omega)
subst z2
refine Zc ?_
rw [hl,hres,hD]
simp}
end Go.Proofs.YtpffimahajgiaaaGreatDoor
