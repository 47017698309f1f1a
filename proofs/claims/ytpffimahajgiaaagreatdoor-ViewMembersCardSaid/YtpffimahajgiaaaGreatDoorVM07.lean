/- Functions of the program as Lean functions. Written by fxgen.py. | Calls of the parser's methods: the rule, and how such a method ends. No program is named. | States of the parser under new names; how a method of it ends; rows of arguments. No program is named. | Cells of rows that lead to rows: made pure, nil as a row of the call's own; such a row taken as a plain one. No program is named. | Lengths of rows whose lengths are known; the parser's stack: lengths and places. No program is named. | The parser's state put in order again: the top turned, the top taken away, a new top. No program is named. | A method of the top element: the rule of its call. No program is named. | More ends of the parser's methods; the order of a state's objects. No program is named. | The parser's top, and the list of an element that grows. | The parser's text and node: a node is appended where the top element collects. | The parser's text: it is joined to the text before it, or a node is appended. | The parser's pop, open, bar and equal. | The parser's bar and equal. | The parser's nodes. | What is taken off the parser's stack: the call, and the element made plain. No program is named. | Braces that close: the top's rows made plain with the node that is made of them. No program is named. | The parser's closeLink and flatten. | The parser's lastBrace and closeTag. -/
import Derived.Test.YtpffimahajgiaaaGreatDoorVM04
import Derived.Test.YtpffimahajgiaaaGreatDoorVM06
import Derived.Test.YtpffimahajgiaaaGreatDoorVM05
import Derived.Test.YtpffimahajgiaaaGreatDoorVM03
import Derived.Test.YtpffimahajgiaaaGreatDoorVM02
set_option linter.unusedVariables false
set_option maxHeartbeats 4000000
set_option maxRecDepth 100000
namespace Go.Proofs.YtpffimahajgiaaaGreatDoor
open VL
def ZaB (p0:ByteArray) (p1:ByteArray):Option (ByteArray×Bool):=(Zt p0 p1).bind fun r1=>if (!r1) then some (p0,false) else (ZfI p0 (p1.size:Int) (p0.size:Int)).bind fun l2=>some (l2,true)
theorem Zc2 (p0:ByteArray) (p1:ByteArray) (r:ByteArray×Bool) (h:ZaB p0 p1=some r):Zg Tryz.prog 148 [.str p0,.str p1] (.tup [.str r.1,.bool r.2]):=by{
refine cF (fun r=>.tup [.str r.1,.bool r.2]) h mix Tryz.func148 fun r h=>?_
unfold ZaB at h
refine Zn ?_
refine rg ?_
refine rg ?_
refine aC h (ZaR _ _) fun r1 h=>?_
refine cS h rfl (fun h=>?_) fun h=>?_
refine rg ?_
cases h
exact rQ
refine rg ?_
refine sS h fun l2 h=>?_
cases h
exact rQ}
def Zbl (p0:ByteArray) (p1:ByteArray):Option (ByteArray×Bool):=(ZaB p0 p1).bind fun r1=>some (r1.1,r1.2)
theorem Zey (p0:ByteArray) (p1:ByteArray) (r:ByteArray×Bool) (h:Zbl p0 p1=some r):Zg Tryz.prog 91 [.str p0,.str p1] (.tup [.str r.1,.bool r.2]):=by{
refine cF (fun r=>.tup [.str r.1,.bool r.2]) h mix Tryz.func91 fun r h=>?_
unfold Zbl at h
refine Zn ?_
refine rg ?_
refine rg ?_
refine aC h (Zc2 _ _) fun r1 h=>?_
cases h
exact rQ}
def ZcF (p0:ByteArray):Option ByteArray:=(ZcN p0 (⟨#[9,10,13,32]⟩:ByteArray)).bind fun r1=>some r1
theorem ZgJ (p0:ByteArray) (r:ByteArray) (h:ZcF p0=some r):Zg Tryz.prog 147 [.str p0] (.str r):=by{
refine cF (fun r=>.str r) h mix Tryz.func147 fun r h=>?_
unfold ZcF at h
refine Zn ?_
refine rg ?_
refine rg ?_
refine aC h (Zjw _ _) fun r1 h=>?_
cases h
exact rQ}
def Zfe (p0:ByteArray):Option Int:=ZaF Zcp (fun f12 (x58:Int)=>if (decide (x58<(p0.size:Int))) then letk (fun (x83:Bool)=>if x83 then some x58 else f12 (w64 (x58+1))) fun k14=>(atS p0 x58).bind fun c84=>if (decide (c84=124)) then k14 true else (atS p0 x58).bind fun c85=>if (decide (c85=93)) then if (decide ((w64 (x58+1))<(p0.size:Int))) then (atS p0 (w64 (x58+1))).bind fun c86=>k14 (decide (c86=93)) else k14 false else k14 false else (some (-1):Option Int)) 0
theorem ZjZ (p0:ByteArray) (r:Int) (h:Zfe p0=some r):Zg Tryz.prog 93 [.str p0] (.int .i64 r):=by{
refine cF (fun r=>.int .i64 r) h mix Tryz.func93 fun r h=>?_
unfold Zfe at h
refine Zn ?_
refine rg ?_
refine rg ?_
refine bl ?_
refine ZB h fun f12 mf12 hf12 h=>?_
refine Zv (α:=Nat×Int) (fun a _=>mkS [(0,.str p0),(5,.int .i64 (p0.size:Int)),(6,.int .i64 a.2)] [] 2) (fun a=>ZaF a.1 f12 a.2=some r) (fun a=>a.1) (mf12,0) 2 h (sR []) (fun a _ h=>?_)
obtain ⟨mf12,x58⟩:=a
obtain ⟨mf12,rfl,h⟩:=ZC hf12 h
dsimp only at h ⊢
refine Zn ?_
refine rg ?_
refine cS h rfl (fun h=>?_) fun h=>?_
refine bl ?_
refine rg ?_
refine jL h (fun x83=>mkS [(0,.str p0),(3,.int .i64 x58),(5,.int .i64 (p0.size:Int)),(6,.int .i64 x58),(32,.bool x83)] [] 2) (fun k14 h=>?_) fun x83 h=>?_
refine rg ?_
refine aS h fun c84 h=>?_
refine kS 13 h rfl (fun h=>?_) fun h=>?_
iterate 18 refine ZE rfl (Zn ?_)
exact jn true h (sR [])
refine aS h fun c85 h=>?_
refine kS 18 h rfl (fun h=>?_) fun h=>?_
refine kS 25 h rfl (fun h=>?_) fun h=>?_
refine aS h fun c86 h=>?_
exact jn (decide (c86=93)) h (sR [])
iterate 5 refine ZE rfl (Zn ?_)
exact jn false h (sR [])
iterate 10 refine ZE rfl (Zn ?_)
exact jn false h (sR [])
refine cS h rfl (fun h=>?_) fun h=>?_
refine rg ?_
cases h
exact rQ
refine rg ?_
exact rn (mf12,(w64 (x58+1))) h (sR [])
refine rg ?_
cases h
exact rQ}
def Zdk (p0:ByteArray):Option (Title×Int):=(strings_Cut p0 (⟨#[35]⟩:ByteArray)).bind fun r1=>(Zer r1.1).bind fun r2=>some (r2.1,r2.2)
theorem Zf9 (p0:ByteArray) (r:Title×Int) (h:Zdk p0=some r):Zg Tryz.prog 95 [.str p0] (.tup [r.1.pv,.int .i64 r.2]):=by{
refine cF (fun r=>.tup [r.1.pv,.int .i64 r.2]) h mix Tryz.func95 fun r h=>?_
unfold Zdk at h
refine Zn ?_
refine rg ?_
refine rg ?_
refine aC h (Zhk _ _) fun r1 h=>?_
refine rg ?_
refine aC h (ZlA _) fun r2 h=>?_
cases h
exact rQ}
def ZcV (p0:ByteArray):Option ByteArray:=(atS p0 0).bind fun c1=>if (!decide (c1=124)) then (some (⟨#[]⟩:ByteArray):Option ByteArray) else (ZfI p0 1 (p0.size:Int)).bind fun l2=>(strings_Cut l2 (⟨#[93,93]⟩:ByteArray)).bind fun r3=>if (!r3.2.2) then (some (⟨#[]⟩:ByteArray):Option ByteArray) else (ZcF r3.1).bind fun r4=>some r4
theorem Zj0 (p0:ByteArray) (r:ByteArray) (h:ZcV p0=some r):Zg Tryz.prog 145 [.str p0] (.str r):=by{
refine cF (fun r=>.str r) h mix Tryz.func145 fun r h=>?_
unfold ZcV at h
refine Zn ?_
refine rg ?_
refine rg ?_
refine aS h fun c1 h=>?_
refine cS h rfl (fun h=>?_) fun h=>?_
refine rg ?_
cases h
exact rQ
refine rg ?_
refine sS h fun l2 h=>?_
refine aC h (Zhk _ _) fun r3 h=>?_
refine rg ?_
refine cS h rfl (fun h=>?_) fun h=>?_
refine rg ?_
cases h
exact rQ
refine rg ?_
refine aC h (ZgJ _) fun r4 h=>?_
cases h
exact rQ}
def ZaO (p0:Finder) (p1:ByteArray):Option Finder:=ZaF Zcp (fun f5 ((x21,x22,x23):ByteArray×(List Link)×(List Memb))=>(strings_Index x21 (⟨#[91,91]⟩:ByteArray)).bind fun r44=>if (decide (r44<0)) then (some (⟨x22,x23⟩:Finder):Option Finder) else (ZfI x21 (w64 (r44+2)) (x21.size:Int)).bind fun l45=>(ZfI x21 (w64 (r44+1)) (x21.size:Int)).bind fun l46=>(Zfe l45).bind fun r47=>if (decide (r47<0)) then (some (⟨x22,x23⟩:Finder):Option Finder) else (ZfI l45 0 r47).bind fun l48=>letk (fun (x51:Bool)=>if x51 then f5 (l46,x22,x23) else (Zdk l48).bind fun r52=>if (!decide (r52.2=0)) then f5 (l46,x22,x23) else letk (fun (x55:Bool)=>if x55 then (ZfI l45 r47 (l45.size:Int)).bind fun l56=>(ZcV l56).bind fun r57=>(ZeI 40 x23 [(⟨r52.1,r57⟩:Memb)]).bind fun l58=>f5 (l46,x22,l58) else (ZeI 32 x22 [(⟨1,r52.1⟩:Link)]).bind fun l59=>f5 (l46,l59,x23)) fun k7=>if (decide (r52.1.space=4)) then (Zbk l48 (⟨#[9,32,95]⟩:ByteArray)).bind fun r60=>(ZM r60 (⟨#[58]⟩:ByteArray)).bind fun r61=>k7 (!r61) else k7 false) fun k6=>(strings_Contains l48 (⟨#[91,91]⟩:ByteArray)).bind fun r62=>if r62 then k6 true else (strings_Contains l48 (⟨#[10]⟩:ByteArray)).bind fun r63=>k6 r63) (p1,p0.links,p0.members)
theorem ZfK (p0:Finder) (p1:ByteArray) (r:Finder) (h:ZaO p0 p1=some r):ContractP Tryz.prog 89 [.ptr 0 (0,0) 0,.str p1] 0 [.row 102 3 false (List.map Link.cs p0.links),.row 56 3 false (List.map Memb.cs p0.members)] (.tup []) [.row 102 3 false (List.map Link.cs r.links),.row 56 3 false (List.map Memb.cs r.members)]:=by{
refine ZgW (R:=fun r=>.tup []) (O:=fun r=>[.row 102 3 false (List.map Link.cs r.links),.row 56 3 false (List.map Memb.cs r.members)]) h mix Tryz.func89 (by kernel_rfl) rfl (by kernel_rfl) rfl fun r h=>?_
unfold ZaO at h
refine Zn ?_
refine bl ?_
refine ZB h fun f5 mf5 hf5 h=>?_
refine Zv (α:=Nat×(ByteArray×(List Link)×(List Memb))) (fun a _=>mkS [(0,.ptr 0 (0,0) 0),(1,.str a.2.1)] [(0,some ((0,0),.box [.row 1000 (1,1000),.row 1001 (1,1001)])),(1000,some ((1,1000),.row 102 3 false (List.map Link.cs a.2.2.1))),(1001,some ((1,1001),.row 56 3 false (List.map Memb.cs a.2.2.2)))] 2) (fun a=>ZaF a.1 f5 a.2=some r) (fun a=>a.1) (mf5,p1,p0.links,p0.members) 2 h (sR [(1000,0,1000),(1001,0,1001)]) (fun a _ h=>?_)
obtain ⟨mf5,x21,x22,x23⟩:=a
obtain ⟨mf5,rfl,h⟩:=ZC hf5 h
dsimp only at h ⊢
refine Zn ?_
refine bl ?_
refine rg ?_
refine aC h (Zei _ _) fun r44 h=>?_
refine rg ?_
refine cS h rfl (fun h=>?_) fun h=>?_
cases h
exact Zub rfl rfl rfl rfl rfl rfl
refine rg ?_
refine sS h fun l45 h=>?_
refine rg ?_
refine sS h fun l46 h=>?_
refine rg ?_
refine aC h (ZjZ _) fun r47 h=>?_
refine rg ?_
refine cS h rfl (fun h=>?_) fun h=>?_
cases h
exact Zub rfl rfl rfl rfl rfl rfl
refine rg ?_
refine sS h fun l48 h=>?_
refine jL h (fun x51=>mkS [(0,.ptr 0 (0,0) 0),(1,.str l46),(5,.str l45),(6,.int .i64 r47),(7,.str l48),(34,.bool x51)] [(0,some ((0,0),.box [.row 1000 (1,1000),.row 1001 (1,1001)])),(1000,some ((1,1000),.row 102 3 false (List.map Link.cs x22))),(1001,some ((1,1001),.row 56 3 false (List.map Memb.cs x23)))] 2) (fun k6 h=>?_) fun x51 h=>?_
refine rg ?_
refine aC h (Zb1 _ _) fun r62 h=>?_
refine kS 31 h rfl (fun h=>?_) fun h=>?_
iterate 2 refine ZE rfl (Zn ?_)
exact jn true h (sR [(1000,1,1000),(1001,1,1001)])
refine aC h (Zb1 _ _) fun r63 h=>?_
exact jn r63 h (sR [(1000,1,1000),(1001,1,1001)])
refine cS h rfl (fun h=>?_) fun h=>?_
exact rn (mf5,l46,x22,x23) h (sR [(1000,1,1000),(1001,1,1001)])
refine rg ?_
refine aC h (Zf9 _) fun r52 h=>?_
refine rg ?_
refine cS h rfl (fun h=>?_) fun h=>?_
exact rn (mf5,l46,x22,x23) h (sR [(1000,1,1000),(1001,1,1001)])
refine jL h (fun x55=>mkS [(0,.ptr 0 (0,0) 0),(1,.str l46),(5,.str l45),(6,.int .i64 r47),(8,.ptr 8 (1,8) 0),(50,.bool x55)] [(0,some ((0,0),.box [.row 1000 (1,1000),.row 1001 (1,1001)])),(8,some ((1,8),.box (Title.cs r52.1))),(1000,some ((1,1000),.row 102 3 false (List.map Link.cs x22))),(1001,some ((1,1001),.row 56 3 false (List.map Memb.cs x23)))] 2) (fun k7 h=>?_) fun x55 h=>?_
refine rg ?_
refine kS 45 h rfl (fun h=>?_) fun h=>?_
refine aC h (Zel _ _) fun r60 h=>?_
refine aC h (Zau _ _) fun r61 h=>?_
exact jn (!r61) h (sR [(8,2,5),(1000,1,1000),(1001,1,1001)])
iterate 4 refine ZE rfl (Zn ?_)
exact jn false h (sR [(8,2,5),(1000,1,1000),(1001,1,1001)])
refine cS h rfl (fun h=>?_) fun h=>?_
refine rg ?_
refine sS h fun l56 h=>?_
refine aC h (Zj0 _) fun r57 h=>?_
refine ZbS (M:=([(⟨r52.1,r57⟩:Memb)]:List Memb)) (f:=Memb.cs) rfl rfl rfl rfl (Nat.le_of_ble_eq_true rfl) rfl (Zn ?_)
refine pR Memb.cs h fun l58 h=>?_
exact rn (mf5,l46,x22,l58) h (sR [(1000,1,1000),(1001,2,12)])
refine rg ?_
refine ZbS (M:=([(⟨1,r52.1⟩:Link)]:List Link)) (f:=Link.cs) rfl rfl rfl rfl (Nat.le_of_ble_eq_true rfl) rfl (Zn ?_)
refine pR Link.cs h fun l59 h=>?_
exact rn (mf5,l46,l59,x23) h (sR [(1000,2,8),(1001,1,1001)])}
def Zcw (p0:ByteArray):Option (Title×Bool):=(Zbl p0 (⟨#[35,82,69,68,73,82,69,67,84]⟩:ByteArray)).bind fun r1=>if (!r1.2) then (some ((⟨0,(⟨#[]⟩:ByteArray)⟩:Title),false):Option (Title×Bool)) else (Zbk r1.1 (⟨#[32,9]⟩:ByteArray)).bind fun r2=>(Zbl r2 (⟨#[91,91]⟩:ByteArray)).bind fun r3=>(Zfe r3.1).bind fun r4=>letk (fun (x9:Bool)=>if x9 then (some ((⟨0,(⟨#[]⟩:ByteArray)⟩:Title),false):Option (Title×Bool)) else (ZfI r3.1 0 r4).bind fun l10=>(Zdk l10).bind fun r11=>(some (r11.1,(decide (r11.2=0))):Option (Title×Bool))) fun k1=>if (!r3.2) then k1 true else if (decide (r4<0)) then k1 true else (ZfI r3.1 0 r4).bind fun l12=>(strings_Contains l12 (⟨#[91,91]⟩:ByteArray)).bind fun r13=>if r13 then k1 true else (ZfI r3.1 0 r4).bind fun l14=>(strings_Contains l14 (⟨#[10]⟩:ByteArray)).bind fun r15=>k1 r15
theorem ZiO (p0:ByteArray) (r:Title×Bool) (h:Zcw p0=some r):Zg Tryz.prog 44 [.str p0] (.tup [r.1.pv,.bool r.2]):=by{
refine cF (fun r=>.tup [r.1.pv,.bool r.2]) h mix Tryz.func44 fun r h=>?_
unfold Zcw at h
refine Zn ?_
refine rg ?_
refine rg ?_
refine aC h (Zey _ _) fun r1 h=>?_
refine rg ?_
refine cS h rfl (fun h=>?_) fun h=>?_
refine rg ?_
cases h
exact rQ
refine rg ?_
refine aC h (Zel _ _) fun r2 h=>?_
refine aC h (Zey _ _) fun r3 h=>?_
refine rg ?_
refine aC h (ZjZ _) fun r4 h=>?_
refine jL h (fun x9=>mkS [(2,.ptr 2 (1,2) 0),(4,.str r3.1),(6,.int .i64 r4),(42,.bool x9)] [(2,some ((1,2),.box [.int .i64 0,.str (⟨#[]⟩:ByteArray)]))] 2) (fun k1 h=>?_) fun x9 h=>?_
refine rg ?_
refine kS 27 h rfl (fun h=>?_) fun h=>?_
iterate 10 refine ZE rfl (Zn ?_)
exact jn true h (sR [(2,1,0)])
refine kS 31 h rfl (fun h=>?_) fun h=>?_
iterate 8 refine ZE rfl (Zn ?_)
exact jn true h (sR [(2,1,0)])
refine sS h fun l12 h=>?_
refine aC h (Zb1 _ _) fun r13 h=>?_
refine kS 37 h rfl (fun h=>?_) fun h=>?_
iterate 4 refine ZE rfl (Zn ?_)
exact jn true h (sR [(2,1,0)])
refine sS h fun l14 h=>?_
refine aC h (Zb1 _ _) fun r15 h=>?_
exact jn r15 h (sR [(2,1,0)])
refine cS h rfl (fun h=>?_) fun h=>?_
refine rg ?_
cases h
exact rQ
refine rg ?_
refine sS h fun l10 h=>?_
refine aC h (Zf9 _) fun r11 h=>?_
refine rg ?_
cases h
exact rQ}
end Go.Proofs.YtpffimahajgiaaaGreatDoor
namespace Go.Proofs.YtpffimahajgiaaaGreatDoor
namespace VL
open Go.RowKit
def νa (k:Nat):Gen:=(0,k)
def νb (k:Nat):Gen:=if k=0 then (0,0) else (1,k)
def νn (g0:Gen) (ng i k:Nat):Gen:=if k=0 then g0 else (ng,i+1000000 * (k+1))
abbrev νc (ng i:Nat):Nat->Gen:=νn (0,0) ng i
def objs (l:List (Nat×Gen×VObj)):List (Nat×VObj):=l.map fun q=>(q.1,q.2.2)
theorem Zgu {l:List (Nat×Gen×VObj)} {t:Nat} {o:VObj} (h:(t,o) ∈ objs l):∃ g,(t,g,o) ∈ l:=by{
obtain ⟨⟨t',g,o'⟩,h1,e⟩:=List.mem_map.1 h
injection e with e1 e2
subst e1 e2
exact ⟨g,h1⟩}
section
variable {NT AT ET:Nat}
theorem ZeE {f:Nat->Option (Gen×VObj)} {y:Nat} {l:List Nat} (h:y ∈ l):∀ n,y ∈ Zee f n l
 | 0=>h
 | _+1=>List.mem_append_left _ h
theorem ZeF {f:Nat->Option (Gen×VObj)} {x y:Nat} {l:List Nat} {n:Nat} (hx:x ∈ l) (h:∀ l':List Nat,(∀ z ∈ Zgz f x,z ∈ l')->y ∈ Zee f n l'):y ∈ Zee f (n+1) l:=
 List.mem_append_right _ (h _ fun _ hz=>List.mem_flatMap.2 ⟨x,hx,hz⟩)
theorem Zhz {f:Nat->Option (Gen×VObj)} {t:Nat} {g:Gen} {cs:List PV} (h:f t=some (g,.box cs)) {p:PV} (hp:p ∈ cs) {k:Nat} (hk:k ∈ ZaG p):k ∈ Zgz f t:=by
 unfold Zgz
 rw [h]
 exact List.mem_flatMap.2 ⟨p,hp,hk⟩
theorem Zlb {f:Nat->Option (Gen×VObj)} {t:Nat} {g:Gen} {E n:Nat} {els:List (List PV)} (h:f t=some (g,.prow E n els)) {el:List PV} (he:el ∈ els) {p:PV} (hp:p ∈ el) {k:Nat} (hk:k ∈ ZaG p):k ∈ Zgz f t:=by
 unfold Zgz
 rw [h]
 exact List.mem_flatMap.2 ⟨p,List.mem_flatten.2 ⟨el,he,hp⟩,hk⟩
theorem ZrH {ob:List (Nat×Option (Gen×VObj))} {b:Nat} {ν:Nat->Gen} {e:El} (h:Has ob (elO NT AT b ν e)) {l:List Nat} (hb:b ∈ l) {t:Nat} {g:Gen} {o:VObj} (hm:(t,g,o) ∈ elO NT AT b ν e) (n:Nat):t ∈ Zee (Zm ob) (n+2) l:=by{
unfold elO at h hm
rcases List.mem_cons.1 hm with q | hm'
injection q with q1 q2;subst q1;exact ZeE hb _
have hbox:=h _ _ _ (List.mem_cons_self ..)
rcases List.mem_cons.1 hm' with q | hm'
injection q with q1 q2
subst q1
exact ZeF hb fun l' h'=>ZeE (h' _ (Zhz hbox (p:=.row (b+1) (ν (b+1))) (by simp) (by simp [ZaG]))) _
rcases List.mem_cons.1 hm' with q | hm'
injection q with q1 q2
subst q1
exact ZeF hb fun l' h'=>ZeE (h' _ (Zhz hbox (p:=.row (b+2) (ν (b+2))) (by simp) (by simp [ZaG]))) _
have hrow:=h _ _ _ (List.mem_cons_of_mem _ (List.mem_cons_of_mem _ (List.mem_cons_self ..)))
unfold Zmx at hm'
split at hm'
cases hm'
rename_i pre a hl
obtain q:=List.mem_singleton.1 hm'
injection q with q1 q2
subst q1
refine ZeF hb fun l' h'=>ZeF (h' _ (Zhz hbox (p:=.row (b+2) (ν (b+2))) (by simp) (by simp [ZaG]))) fun l2 h2=>ZeE (h2 _ (Zlb hrow (el:=[.bool a.named,.sl a.name,.row (b+3) (ν (b+3))]) (by rw [hl];simp [ZgB]) (p:=.row (b+3) (ν (b+3))) (by simp) (by simp [ZaG]))) _}
theorem ZrI {ν:Nat->Gen}:∀ {r:List El} {t:Nat} {g:Gen} {o:VObj},(t,g,o) ∈ ZfC NT AT ν r->∃ b e,[PV.ptr b (ν b) 0] ∈ ZdV ν r/\(t,g,o) ∈ elO NT AT b ν e/\∀ q ∈ elO NT AT b ν e,q ∈ ZfC NT AT ν r
 | [],_,_,_,h=>by cases h
 | e::r,t,g,o,h=>by
   rcases List.mem_append.1 h with h | h
   exact ⟨Zbm r,e,List.mem_append_right _ (List.mem_singleton.2 rfl),h,fun q hq=>List.mem_append_left _ hq⟩
   obtain ⟨b,e',h1,h2,h3⟩:=ZrI h
   exact ⟨b,e',List.mem_append_left _ h1,h2,fun q hq=>List.mem_append_right _ (h3 q hq)⟩
theorem ZoO {ob:List (Nat×Option (Gen×VObj))} {ν:Nat->Gen} {e:El} {r:List El} (h:Has ob (stO NT AT ET ν e r)) {t:Nat} {g:Gen} {o:VObj} (hm:(t,g,o) ∈ stO NT AT ET ν e r):t ∈ Zjl (Zm ob) (.ptr 0 (ν 0) 0):=by{
show t ∈ Zee (Zm ob) 4 [0]
have h0:=h _ _ _ (List.mem_cons_self ..)
have h1:=h _ _ _ (List.mem_cons_of_mem _ (List.mem_cons_self ..))
rcases List.mem_cons.1 hm with q | hm'
injection q with q1 q2;subst q1;exact ZeE (List.mem_singleton.2 rfl) _
have k1:∀ l':List Nat,(∀ z ∈ Zgz (Zm ob) 0,z ∈ l')->1000 ∈ l':=fun l' h'=>h' _ (Zhz h0 (p:=.row 1000 (ν 1000)) (by simp) (by simp [ZaG]))
rcases List.mem_cons.1 hm' with q | hm'
injection q with q1 q2
subst q1
exact ZeF (List.mem_singleton.2 rfl) fun l' h'=>ZeE (k1 l' h') _
have main:∃ b e',[PV.ptr b (ν b) 0] ∈ ZdV ν r ++ [[.ptr 1001 (ν 1001) 0]]/\(t,g,o) ∈ elO NT AT b ν e'/\∀ q ∈ elO NT AT b ν e',q ∈ stO NT AT ET ν e r:=by
 rcases List.mem_append.1 hm' with h | h
 exact ⟨1001,e,List.mem_append_right _ (List.mem_singleton.2 rfl),h,fun q hq=>List.mem_cons_of_mem _ (List.mem_cons_of_mem _ (List.mem_append_left _ hq))⟩
 obtain ⟨b,e',w1,w2,w3⟩:=ZrI h
 exact ⟨b,e',List.mem_append_left _ w1,w2,fun q hq=>List.mem_cons_of_mem _ (List.mem_cons_of_mem _ (List.mem_append_right _ (w3 q hq)))⟩
obtain ⟨b,e',w1,w2,w3⟩:=main
refine ZeF (List.mem_singleton.2 rfl) fun l' h'=>ZeF (k1 l' h') fun l2 h2=>ZrH (fun t g o hq=>h t g o (w3 _ hq)) (h2 _ (Zlb h1 w1 (List.mem_singleton.2 rfl) (by simp [ZaG]))) w2 0}
theorem ZlT {σ:Gen->Option (Nat×Gen)} {κ:Nat->Nat} {γ:Nat->Gen} {f:Nat->Option (Gen×VObj)}:∀ {l l2:List (Nat×Gen×VObj)},Za6 σ l=some l2->(∀ t g o,(t,g,o) ∈ l2->f t=some (g,o))->(∀ q ∈ l,σ q.2.1=some (κ q.1,γ q.1))->ZpS σ κ γ f (objs l)
 | [],_,_,_,_=>trivial
 | (t,g,o)::r,l2,h,hf,hk=>by
  simp only [Za6] at h
  split at h
  rename_i t3 g3 o3 r3 h1 h2 h3
  injection h with h
  subst h
  have e:=hk _ (List.mem_cons_self ..)
  rw [h1] at e
  injection e with e
  injection e with e1 e2
  subst e1 e2
  exact ⟨⟨o3,h2,hf _ _ _ (List.mem_cons_self ..)⟩,ZlT h3 (fun t g o hm=>hf t g o (List.mem_cons_of_mem _ hm)) fun q hq=>hk q (List.mem_cons_of_mem _ hq)⟩
  cases h
theorem Zi4 {κ:Nat->Nat} {obs:List (Nat×VObj)} {obs2:List (Nat×Gen×VObj)} {ob:List (Nat×Option (Gen×VObj))} (hn:(obs2.map (·.1)).Nodup) (t:Nat) :
  Zm ((usG κ obs obs2).reverse++ob) t=if ∃ q ∈ obs2,q.1=t then Zm (somes obs2) t else if ∃ q ∈ obs,κ q.1=t then none else Zm ob t:=by{
unfold usG
rw [List.reverse_append,List.append_assoc]
have hrev:((obs2.reverse).map (·.1)).Nodup:=by rw [List.map_reverse];exact (List.reverse_perm _).nodup_iff.2 hn
have e:(obs2.map fun q=>(q.1,some q.2)).reverse=somes obs2.reverse:=by unfold somes;rw [List.map_reverse]
rw [e]
by_cases h1:∃ q ∈ obs2,q.1=t
rw [if_pos h1]
obtain ⟨⟨t',g,o⟩,hq,rfl⟩:=h1
have w:=ZbR [] hn hq
rw [List.append_nil] at w
rw [w]
exact ZbR _ hrev (List.mem_reverse.2 hq)
rw [if_neg h1,Zca _ _ _ fun q hq hqt=>h1 (by
 obtain ⟨g,o,h2,_⟩:=Zgm hq
 exact ⟨_,List.mem_reverse.1 h2,hqt⟩)]
by_cases h2:∃ q ∈ obs,κ q.1=t
rw [if_pos h2]
have:∀ (l:List (Nat×VObj)) (b:List (Nat×Option (Gen×VObj))),(∃ q ∈ l,κ q.1=t)->Zm ((l.map fun q=>(κ q.1,(none:Option (Gen×VObj))))++b) t=none:=fun l b=>by
 induction l with
 | nil=>rintro ⟨q,hq,_⟩;cases hq
 | cons q l ih=>
   rintro ⟨q',hq',e⟩
   show (if t=κ q.1 then none else Zm (_++b) t)=none
   split
   rfl
   rename_i hne
   rcases List.mem_cons.1 hq' with rfl | hq'
   exact absurd e.symm hne
   exact ih ⟨q',hq',e⟩
rw [<- List.map_reverse]
obtain ⟨q,hq,e2⟩:=h2
exact this _ _ ⟨q,List.mem_reverse.2 hq,e2⟩
rw [if_neg h2,Zca _ _ _ fun q hq hqt=>h2 (by
 obtain ⟨q',hq',rfl⟩:=List.mem_map.1 (List.mem_reverse.1 hq)
 exact ⟨q',hq',hqt⟩)]}
theorem Zlc (b:Nat) (ν ν':Nat->Gen) (e:El):(elO NT AT b ν e).map (·.1)=(elO NT AT b ν' e).map (·.1):=by
 obtain ⟨k,t,c,l,args⟩:=e
 cases args<;>rfl
theorem Zg7 (ν ν':Nat->Gen):∀ (r:List El),(ZfC NT AT ν r).map (·.1)=(ZfC NT AT ν' r).map (·.1)
 | []=>rfl
 | e::r=>by unfold ZfC;rw [List.map_append,List.map_append,Zlc,Zg7 ν ν' r]
theorem Zfh (ν ν':Nat->Gen) (e:El) (r:List El):(stO NT AT ET ν e r).map (·.1)=(stO NT AT ET ν' e r).map (·.1):=by
 unfold stO
 rw [List.map_cons,List.map_cons,List.map_cons,List.map_cons,List.map_append,List.map_append,Zlc 1001 ν ν',Zg7 ν ν']
def κp (κx:Nat->Nat) (k:Nat):Nat:=if Zbn k=true then k else κx k
def γp (ν γx:Nat->Gen) (k:Nat):Gen:=if Zbn k=true then ν k else γx k
def no1 (k:Nat):Bool:=k == 0
def nones (κx:Nat->Nat) (xin:List (Nat×VObj)):List (Nat×Option (Gen×VObj)):=xin.map fun q=>(κx q.1,none)
end
section
variable {NT AT ET:Nat} {P:Program} [WInv P] {ops:Array Oper} {draw:Bool} {i:Nat} {L:List Oper} {acc:List (List Nat×List Nat)} {K:FS->Prop} {tm:List (Nat×PV)} {ob:List (Nat×Option (Gen×VObj))} {ng:Nat}
 {d:Option Tmp} {ty:TypeId} {pos:String} {after:Array Edge} {gd:Option (Nat×Bool)}
theorem ZdI {k:Nat} (h:k=0\/1000<=k):Zbn k=true:=by{
unfold Zbn
rcases h with rfl | h
rfl
rw [decide_eq_true h,Bool.or_true]}
def Zvk (l:List (Nat×Gen×VObj)):Bool:=decide ((l.map (·.1)).Nodup)&&l.all fun q=>decide (1100<=q.1)&&decide (q.1<2000)
def Zwv (κx:Nat->Nat) (l:List (Nat×VObj)):Bool:=decide ((l.map fun q=>κx q.1).Nodup)&&l.all fun q=>!Zbn q.1 && !Zbn (κx q.1)
theorem Zgd {ob ob':List (Nat×Option (Gen×VObj))} (h:∀ t,Zm ob t=Zm ob' t):mkS tm ob ng=mkS tm ob' ng:=by
 unfold mkS
 rw [show Zm ob=Zm ob' from funext h]
theorem ZlU {f:FuncId} {es:Array Operand} {ts:Array TypeId} {args:List PV} {e e':El} {r r':List El} {xin:List (Nat×VObj)} {res res2:PV} {ext ext2:List (Nat×Gen×VObj)} (lits:List (Nat×Option (Gen×VObj))) (ν:Nat->Gen) (κx:Nat->Nat) (γx:Nat->Gen)
  (hc:ContractG P f args (objs (stO NT AT ET νa e r)++xin) res (stO NT AT ET νb e' r'++ext)) (hob:ob=lits++somes (stO NT AT ET ν e r)) (hl:(lits.all fun q=>!Zbn q.1)=true)
  (hw:Zf ops (mkS tm ob ng) ⟨d,.call ⟨.value (.func f),es,ts⟩,ty,pos,after,gd⟩=some true) (he:rnA (σ0 (κp κx) (γp ν γx)) args=some (es.toList.map (evL tm))) (h0:PV.ptr 0 (ν 0) 0 ∈ es.toList.map (evL tm))
  (hx:ZpS (σ0 (κp κx) (γp ν γx)) (κp κx) (γp ν γx) (Zm ob) xin) (hxk:∀ q ∈ xin,∃ g,PV.ptr (κx q.1) g 0 ∈ es.toList.map (evL tm)) (hxn:Zwv κx xin=true)
  (hres:rnP (σ1 no1 (κp κx) (γp ν γx) id ng i) res=some res2) (hext:Za6 (σ1 no1 (κp κx) (γp ν γx) id ng i) ext=some ext2) (hek:(Zvk ext&&Zvk ext2)=true)
  (k:GoL P ops draw (i+1) L (acc ++ [(ZA (mkS tm ob ng) ⟨d,.call ⟨.value (.func f),es,ts⟩,ty,pos,after,gd⟩,(usG (κp κx) (objs (stO NT AT ET νa e r)++xin) (stO NT AT ET (νn (ν 0) ng i) e' r'++ext2)).map (·.1))]) (mkS (ZaW d res2 tm) (nones κx xin++(somes ext2++(lits++somes (stO NT AT ET (νn (ν 0) ng i) e' r')))) ng) K) :
  GoL P ops draw i (⟨d,.call ⟨.value (.func f),es,ts⟩,ty,pos,after,gd⟩::L) acc (mkS tm ob ng) K:=by{
have hHas:Has ob (stO NT AT ET ν e r):=by rw [hob];exact Zbg hl
have par1:∀ {q:Nat×Gen×VObj} {ν:Nat->Gen} {e:El} {r:List El},q ∈ stO NT AT ET ν e r->Zbn q.1=true:=fun h=>ZdI (by have:=(ZdW h).1;omega)
have hσ0:∀ k,k=0\/1000<=k->σ0 (κp κx) (γp ν γx) (νa k)=some (k,ν k):=fun k hk=>by simp [σ0,νa,κp,γp,ZdI hk]
have hσ1:∀ k,k=0\/1000<=k->σ1 no1 (κp κx) (γp ν γx) id ng i (νb k)=some (k,νn (ν 0) ng i k):=fun k hk=>by
 by_cases h0:k=0
 subst h0
 simp [σ1,νb,νn,no1,κp,γp,Zbn]
 simp [σ1,νb,νn,h0]
simp only [Zvk,Bool.and_eq_true,decide_eq_true_eq,List.all_eq_true] at hek
obtain ⟨⟨x1,x2⟩,x3,x4⟩:=hek
simp only [Zwv,Bool.and_eq_true,decide_eq_true_eq,List.all_eq_true,Bool.not_eq_true'] at hxn
obtain ⟨n1,n2⟩:=hxn
have disj:∀ {ν:Nat->Gen} {e:El} {r:List El} {l:List (Nat×Gen×VObj)},(l.map (·.1)).Nodup->(∀ q ∈ l,1100<=q.1/\q.1<2000)->((stO NT AT ET ν e r++l).map (·.1)).Nodup:=fun h1 h2=>by
 rw [List.map_append]
 refine Ze2 (ZaV _ _ _) h1 fun k hk hk'=>?_
 obtain ⟨q,hq,rfl⟩:=List.mem_map.1 hk
 obtain ⟨q',hq',e'⟩:=List.mem_map.1 hk'
 have:=(ZdW hq).1
 have:=h2 _ hq'
 omega
have hpre:ZpS (σ0 (κp κx) (γp ν γx)) (κp κx) (γp ν γx) (Zm ob) (objs (stO NT AT ET νa e r)++xin):=Zj8 (ZlT (ZkN hσ0 e r) hHas fun q hq=>by
 rw [(ZdW hq).2]
 simp only [σ0,νa,if_true]) hx
have hinj:((objs (stO NT AT ET νa e r)++xin).map fun q=>κp κx q.1).Nodup:=by
 rw [List.map_append]
 have e1:(objs (stO NT AT ET νa e r)).map (fun q=>κp κx q.1)=(stO NT AT ET νa e r).map (·.1):=by
  unfold objs
  rw [List.map_map]
  refine List.map_congr_left fun q hq=>?_
  simp [κp,par1 hq]
 have e2:xin.map (fun q=>κp κx q.1)=xin.map fun q=>κx q.1:=List.map_congr_left fun q hq=>by simp [κp,(n2 q hq).1]
 rw [e1,e2]
 refine Ze2 (ZaV _ _ _) n1 fun k hk hk'=>?_
 obtain ⟨q,hq,rfl⟩:=List.mem_map.1 hk
 obtain ⟨q',hq',e'⟩:=List.mem_map.1 hk'
 have w1:=par1 hq
 have w2:=(n2 q' hq').2
 rw [e',w1] at w2
 cases w2
have hes:∀ p,p ∈ es.toList.map (evL tm)->∀ t,t ∈ Zjl (Zm ob) p->t ∈ ZA (mkS tm ob ng) ⟨d,.call ⟨.value (.func f),es,ts⟩,ty,pos,after,gd⟩:=fun p hp t ht=>by
 obtain ⟨o,ho,rfl⟩:=List.mem_map.1 hp
 unfold ZA
 rw [if_neg (by simp [quiet])]
 refine List.mem_flatMap.2 ⟨o,?_,?_⟩
 rw [Zgs rfl]
 simp [Op.operands,Call.operands]
 exact .inr (by simpa using ho)
 rw [ZR]
 exact ht
have h2:=ZaC (ZkN (NT:=NT) (AT:=AT) (ET:=ET) hσ1 e' r') hext
refine Zn1 no1 (κp κx) (γp ν γx) id hc hw he hpre hinj (fun k hk=>?_) (fun t o' hm=>?_) hres h2 (disj x1 fun q hq=>by simpa using x2 q hq) rfl ?_
obtain rfl:k=0:=by simpa [no1] using hk
exact ⟨_,List.mem_append_left _ (List.mem_map.2 ⟨_,List.mem_cons_self ..,rfl⟩)⟩
rcases List.mem_append.1 hm with hm | hm
obtain ⟨g,hg⟩:=Zgu hm
have hg':∃ g2 o2,(t,g2,o2) ∈ stO NT AT ET ν e r:=by
 obtain ⟨o2,_,q2⟩:=Zl0 hpre t o' (List.mem_append_left _ hm)
 have hm2:t ∈ (stO NT AT ET νa e r).map (·.1):=List.mem_map.2 ⟨_,hg,rfl⟩
 have:(stO NT AT ET νa e r).map (·.1)=(stO NT AT ET ν e r).map (·.1):=by
  exact Zfh _ _ e r
 rw [this] at hm2
 obtain ⟨⟨t2,g2,o3⟩,hq,rfl⟩:=List.mem_map.1 hm2
 exact ⟨g2,o3,hq⟩
obtain ⟨g2,o2,hm2⟩:=hg'
have:κp κx t=t:=by simp [κp,par1 hm2]
rw [this]
exact hes _ h0 _ (ZoO hHas hm2)
have:κp κx t=κx t:=by simp [κp,(n2 _ hm).1]
rw [this]
obtain ⟨g,hg⟩:=hxk _ hm
exact hes _ hg _ (ZeE (by simp [Zc5,ZaG]) 4)
have e:mkS (ZaW d res2 tm) ((usG (κp κx) (objs (stO NT AT ET νa e r)++xin) (stO NT AT ET (νn (ν 0) ng i) e' r'++ext2)).reverse++ob) ng=mkS (ZaW d res2 tm) (nones κx xin++(somes ext2++(lits++somes (stO NT AT ET (νn (ν 0) ng i) e' r')))) ng:=Zgd fun t=>?_
rw [e];exact k
have hn:=disj (ν:=νn (ν 0) ng i) (e:=e') (r:=r') x3 fun q hq=>by simpa using x4 q hq
rw [Zi4 hn]
have skip:∀ t,Zbn t=true->∀ b,Zm (nones κx xin++b) t=Zm b t:=fun t ht b=>Zca _ _ _ fun q hq hqt=>by
 obtain ⟨q',hq',rfl⟩:=List.mem_map.1 hq
 have:=(n2 q' hq').2
 change κx q'.1=t at hqt
 rw [hqt,ht] at this
 cases this
have skipL:∀ t,Zbn t=true->∀ b,Zm (lits++b) t=Zm b t:=fun t ht b=>Zca _ _ _ fun q hq hqt=>by
 have:=List.all_eq_true.1 hl q hq
 rw [hqt,ht] at this
 cases this
have skipE:∀ t,(¬ ∃ q ∈ ext2,q.1=t)->∀ b,Zm (somes ext2++b) t=Zm b t:=fun t ht b=>Zca _ _ _ fun q hq hqt=>by
 obtain ⟨g,o,h,_⟩:=Zgm hq
 exact ht ⟨_,h,hqt⟩
have skipS:∀ {ν:Nat->Gen} {e:El} {r:List El} (t:Nat),(¬ ∃ q ∈ stO NT AT ET ν e r,q.1=t)->Zm (somes (stO NT AT ET ν e r)) t=none:=fun {ν e r} t ht=>by
 have:=Zca (somes (stO NT AT ET ν e r)) [] t fun q hq hqt=>by
  obtain ⟨g,o,h,_⟩:=Zgm hq
  exact ht ⟨_,h,hqt⟩
 rwa [List.append_nil] at this
have ext_par:∀ q ∈ ext2,Zbn q.1=true:=fun q hq=>by
 have:=x4 q hq
 exact ZdI (by omega)
by_cases h1:∃ q ∈ stO NT AT ET (νn (ν 0) ng i) e' r'++ext2,q.1=t
rw [if_pos h1]
obtain ⟨⟨t',g,o⟩,hq,rfl⟩:=h1
have w:=ZbR [] hn hq
rw [List.append_nil] at w
rw [w]
have hpk:Zbn t'=true:=by
 rcases List.mem_append.1 hq with hq | hq
 exact par1 hq
 exact ext_par _ hq
rw [skip _ hpk]
rcases List.mem_append.1 hq with hq | hq
rw [skipE _ fun ⟨q',h',e'⟩=>by
 have a1:=x4 q' h'
 have a2:=(ZdW hq).1
 change q'.1=t' at e'
 rw [e'] at a1
 change t'=0\/_ at a2
 omega,skipL _ hpk]
have:=ZbR [] (ZaV (NT:=NT) (AT:=AT) (ET:=ET) (νn (ν 0) ng i) e' r') hq
rw [List.append_nil] at this
exact this.symm
exact (ZbR _ x3 hq).symm
rw [if_neg h1]
have hs:¬ ∃ q ∈ stO NT AT ET (νn (ν 0) ng i) e' r',q.1=t:=fun ⟨q,hq,e⟩=>h1 ⟨q,List.mem_append_left _ hq,e⟩
have hx2:¬ ∃ q ∈ ext2,q.1=t:=fun ⟨q,hq,e⟩=>h1 ⟨q,List.mem_append_right _ hq,e⟩
by_cases h3:∃ q ∈ objs (stO NT AT ET νa e r)++xin,κp κx q.1=t
rw [if_pos h3]
obtain ⟨q,hq,rfl⟩:=h3
rcases List.mem_append.1 hq with hq | hq
obtain ⟨g,hg⟩:=Zgu (l:=stO NT AT ET νa e r) (t:=q.1) (o:=q.2) hq
have hpk:=par1 hg
have hk:κp κx q.1=q.1:=if_pos hpk
rw [hk] at hs hx2 ⊢
rw [skip _ hpk,skipE _ hx2,skipL _ hpk,skipS _ hs]
have hk:κp κx q.1=κx q.1:=if_neg (by rw [(n2 q hq).1];exact Bool.false_ne_true)
rw [hk]
symm
have:∀ (l:List (Nat×VObj)) (b:List (Nat×Option (Gen×VObj))),q ∈ l->Zm (nones κx l++b) (κx q.1)=none:=fun l b=>by
 induction l with
 | nil=>intro h;cases h
 | cons q' l ih=>
   intro h
   show (if κx q.1=κx q'.1 then none else Zm (nones κx l++b) (κx q.1))=none
   split
   rfl
   rename_i hne
   rcases List.mem_cons.1 h with rfl | h
   exact absurd rfl hne
   exact ih h
exact this _ _ hq
rw [if_neg h3]
have hxs:∀ b,Zm (nones κx xin++b) t=Zm b t:=fun b=>Zca _ _ _ fun q hq hqt=>by
 obtain ⟨q',hq',rfl⟩:=List.mem_map.1 hq
 refine h3 ⟨q',List.mem_append_right _ hq',?_⟩
 have hk:κp κx q'.1=κx q'.1:=if_neg (by rw [(n2 q' hq').1];exact Bool.false_ne_true)
 rw [hk]
 exact hqt
have hs0:¬ ∃ q ∈ stO NT AT ET ν e r,q.1=t:=fun ⟨q,hq,e0⟩=>by
 have hm2:t ∈ (stO NT AT ET νa e r).map (·.1):=by
  rw [Zfh νa ν]
  exact List.mem_map.2 ⟨q,hq,e0⟩
 obtain ⟨q',hq',e1⟩:=List.mem_map.1 hm2
 refine h3 ⟨(q'.1,q'.2.2),List.mem_append_left _ (List.mem_map.2 ⟨q',hq',rfl⟩),?_⟩
 have hk:κp κx q'.1=q'.1:=if_pos (par1 hq')
 rw [<- e1]
 exact hk
rw [hxs,skipE _ hx2,hob]
have two:∀ (a b c:List (Nat×Option (Gen×VObj))),Zm b t=Zm c t->Zm (a++b) t=Zm (a++c) t:=fun a b c h=>by
 induction a with
 | nil=>exact h
 | cons q a ih=>
   show (if t=q.1 then q.2 else Zm (a++b) t)=if t=q.1 then q.2 else Zm (a++c) t
   rw [ih]
exact two _ _ _ ((skipS _ hs0).trans (skipS _ hs).symm)}
end
end VL
end Go.Proofs.YtpffimahajgiaaaGreatDoor
namespace Go.Proofs.YtpffimahajgiaaaGreatDoor
namespace VL
open Go.RowKit
def σf (f:Nat->Nat×Gen) (g:Gen):Option (Nat×Gen):=if g.1=0 then some (g.2,g) else if g.1=1 then some (f g.2) else none
theorem Znj {σ:Gen->Option (Nat×Gen)}:∀ {l l2:List (Nat×Gen×VObj)},Za6 σ l=some l2->l.map (fun q=>(σ q.2.1).map (·.1))=l2.map fun q=>some q.1
 | [],l2,h=>by injection h with h;subst h;rfl
 | (t,g,o)::r,l2,h=>by
  simp only [Za6] at h
  split at h
  rename_i t3 g3 o3 r3 h1 h2 h3
  injection h with h
  subst h
  rw [List.map_cons,List.map_cons,Znj h3]
  simp only [h1,Option.map_some]
  cases h
theorem ZoT {σ:Gen->Option (Nat×Gen)} {ob:List (Nat×Option (Gen×VObj))}:∀ {l' l:List (Nat×Gen×VObj)},Za6 σ l'=some l->Has ob l->Zto σ ob l'
 | [],_,_,_=>trivial
 | (t,g,o)::r,l,h,hH=>by
  simp only [Za6] at h
  split at h
  rename_i t3 g3 o3 r3 h1 h2 h3
  injection h with h
  subst h
  exact ⟨⟨t3,g3,o3,h1,h2,hH _ _ _ (List.mem_cons_self ..)⟩,ZoT h3 fun t g o hm=>hH t g o (List.mem_cons_of_mem _ hm)⟩
  cases h
theorem ZfA (f:Nat->Nat×Gen) {tm tm':List (Nat×PV)} {ob:List (Nat×Option (Gen×VObj))} {ng:Nat} {l l':List (Nat×Gen×VObj)} (h1:Zf7 (σf f) tm tm') (h2:Za6 (σf f) l'=some l) (h3:Has ob l) (h4:(l.map (·.1)).Nodup) :
  Shift (mkS tm ob ng) (mkS tm' (somes l') 2):=by{
refine Ztp (σf f) (fun g hg=>⟨g.2,by simp [σf,hg]⟩) h1 (ZoT h2 h3) (fun g k g0 h=>?_) ?_
unfold σf at h
split at h
omega
split at h
omega
cases h
rw [Znj h2]
have:l.map (fun q=>some q.1)=(l.map (·.1)).map some:=by rw [List.map_map];rfl
rw [this]
exact List.Pairwise.map _ (fun a b hab e=>hab (by injection e)) h4}
section
variable {NT AT ET:Nat} {P:Program} [WInv P]
theorem Zkc {ob:List (Nat×Option (Gen×VObj))} {a b:List (Nat×Gen×VObj)} (h1:Has ob a) (h2:Has ob b):Has ob (a++b):=fun t g o h=>(List.mem_append.1 h).elim (h1 t g o) (h2 t g o)
theorem Zab (ob:List (Nat×Option (Gen×VObj))):Has ob []:=fun t g o h=>by cases h
theorem Zo {ob:List (Nat×Option (Gen×VObj))} {t:Nat} {g:Gen} {o:VObj} {l:List (Nat×Gen×VObj)} (h:Zm ob t=some (g,o)) (h2:Has ob l):Has ob ((t,g,o)::l):=fun t' g' o' hm=>by
 rcases List.mem_cons.1 hm with e | hm
 injection e with e1 e2
 injection e2 with e2 e3
 subst e1 e2 e3
 exact h
 exact h2 t' g' o' hm
theorem Za4 (ν:Nat->Gen) {e:El} {r:List El} (lits:List (Nat×Option (Gen×VObj))) (f:Nat->Nat×Gen) {tm tm':List (Nat×PV)} {ob:List (Nat×Option (Gen×VObj))} {ng:Nat} {x x':List (Nat×Gen×VObj)} (hf:∀ k,k=0\/1000<=k->f k=(k,ν k)) (h00:ν 0=(0,0))
  (h1:Zf7 (σf f) tm tm') (hx:Za6 (σf f) x'=some x) (hob:ob=lits++somes (stO NT AT ET ν e r)) (hl:(lits.all fun q=>!Zbn q.1)=true) (hh:Has ob x) (hn:(decide ((x.map (·.1)).Nodup)&&x.all fun q=>!Zbn q.1)=true) :
  Shift (mkS tm ob ng) (mkS tm' (somes (x'++stO NT AT ET νb e r)) 2):=by{
have h2:Za6 (σf f) (stO NT AT ET νb e r)=some (stO NT AT ET ν e r):=ZkN (fun k hk=>by
 by_cases h0:k=0
 subst h0
 simp [σf,νb,h00]
 simp [σf,νb,h0,hf k hk]) e r
simp only [Bool.and_eq_true,decide_eq_true_eq,List.all_eq_true,Bool.not_eq_true'] at hn
refine ZfA f h1 (ZaC hx h2) (Zkc hh (by rw [hob];exact Zbg hl)) ?_
rw [List.map_append]
refine Ze2 hn.1 (ZaV _ _ _) fun k hk hk'=>?_
obtain ⟨q,hq,rfl⟩:=List.mem_map.1 hk
obtain ⟨q',hq',e'⟩:=List.mem_map.1 hk'
have w1:Zbn q'.1=true:=ZdI (by have:=(ZdW hq').1;omega)
have w2:=hn.2 q hq
rw [<- e',w1] at w2
cases w2}
def Zw1 (NT AT ET:Nat) (P:Program) [WInv P] (f:FuncId) (args:List PV) (e:El) (r:List El) (res:PV) (e':El) (r':List El):Prop:=ContractG P f (.ptr 0 (0,0) 0::args) (objs (stO NT AT ET νa e r)) res (stO NT AT ET νb e' r')
def Zsc (P:Program) (rs:List ResultVar) (res:PV) (obs':List (Nat×Gen×VObj)):Ex->FS->Prop
 | .exit _,_=>False
 | _,s=>∃ s2,Shift s s2/\∃ ps,Zcr P s2 rs=some ps/\Zcs ps=res/\Has' s2 obs'
where Has' (s2:FS) (obs':List (Nat×Gen×VObj)):Prop:=∀ t g o,(t,g,o) ∈ obs'->s2.ob t=some (g,o)
end
section
variable {P:Program} [WInv P]
theorem ZG (hmix:P.follows .mixedOrders=true) {f:FuncId} {fn:Func} {c:Code} {args:List PV} {obs:List (Nat×VObj)} {res:PV} {obs':List (Nat×Gen×VObj)} (hf:P.funcs[f]? = some fn) (hg:isGo P f=true) (hb:fn.body=some c) (hok:(decide (args.length<=fn.ntmps)&&ZaU fn.ntmps c)=true)
  (h:PWs P [c] (Zsc P fn.results.toList res obs') (mkS (Zdg 0 args) (obG obs) 1)):ContractG P f args obs res obs':=by{
simp only [Bool.and_eq_true,decide_eq_true_eq] at hok
obtain ⟨e,s',h1,h2⟩:=Zcc h
have hsh:Shift (Zuh args obs) (mkS (Zdg 0 args) (obG obs) 1):=Zdf (fun t=>by
 rcases ZcE args 0 t with h | ⟨_,h⟩
 exact .inl h
 exact .inr h) (fun t=>.inr rfl) (Nat.le_refl _)
cases e with
| exit id=>exact h2.elim
| normal=>
  obtain ⟨s2,q0,ps,q1,q2,q3⟩:=h2
  exact Zii hmix hg hf hb hok.1 hok.2 (.shift hsh h1) q0 (.inl rfl) q1 q2 q3
| ret=>
  obtain ⟨s2,q0,ps,q1,q2,q3⟩:=h2
  exact Zii hmix hg hf hb hok.1 hok.2 (.shift hsh h1) q0 (.inr rfl) q1 q2 q3}
omit [WInv P] in
theorem ZhE {rs:List ResultVar} {res:PV} {obs':List (Nat×Gen×VObj)} {s:FS} {tm:List (Nat×PV)} {ob:List (Nat×Option (Gen×VObj))} {ng:Nat} {ps:List PV} (h:Shift s (mkS tm ob ng)) (h1:Zcr P (mkS tm ob ng) rs=some ps) (h2:Zcs ps=res) (h3:Has ob obs'):Zsc P rs res obs' .ret s:=⟨_,h,ps,h1,h2,h3⟩
omit [WInv P] in
theorem Zkd {rs:List ResultVar} {res:PV} {obs':List (Nat×Gen×VObj)} {s:FS} {tm:List (Nat×PV)} {ob:List (Nat×Option (Gen×VObj))} {ng:Nat} {ps:List PV} (h:Shift s (mkS tm ob ng)) (h1:Zcr P (mkS tm ob ng) rs=some ps) (h2:Zcs ps=res) (h3:Has ob obs'):Zsc P rs res obs' .normal s:=⟨_,h,ps,h1,h2,h3⟩
end
section
variable {NT AT ET:Nat}
theorem Zcd (e:El) (r:List El):obG (objs (stO NT AT ET νa e r))=somes (stO NT AT ET νa e r):=by{
unfold obG objs somes
rw [List.map_map]
refine List.map_congr_left fun q hq=>?_
have:=(ZdW hq).2
simp only [Function.comp]
rw [show ((0,q.1):Gen)=q.2.1 from this.symm]}
theorem Zr0 (a b:List (Nat×VObj)):obG (a++b)=obG a++obG b:=by unfold obG;rw [List.map_append]
end
section
variable {NT AT ET:Nat} {P:Program} [WInv P] {ops:Array Oper} {draw:Bool} {i:Nat} {L:List Oper} {acc:List (List Nat×List Nat)} {K:FS->Prop} {tm:List (Nat×PV)} {ob:List (Nat×Option (Gen×VObj))} {ng:Nat}
 {d:Option Tmp} {ty:TypeId} {pos:String} {after:Array Edge} {gd:Option (Nat×Bool)}
theorem Zz {f:FuncId} {es:Array Operand} {ts:Array TypeId} {args:List PV} {e e':El} {r r':List El} {res res2:PV} (lits:List (Nat×Option (Gen×VObj))) (ν:Nat->Gen) (hc:Zw1 NT AT ET P f args e r res e' r') (hob:ob=lits++somes (stO NT AT ET ν e r)) (hl:(lits.all fun q=>!Zbn q.1)=true)
  (hw:Zf ops (mkS tm ob ng) ⟨d,.call ⟨.value (.func f),es,ts⟩,ty,pos,after,gd⟩=some true) (he:es.toList.map (evL tm) = .ptr 0 (ν 0) 0::args) (ha:rnA (σ0 (κp id) (γp ν ν)) args=some args)
  (hres:rnP (σ1 no1 (κp id) (γp ν ν) id ng i) res=some res2)
  (k:GoL P ops draw (i+1) L (acc ++ [(ZA (mkS tm ob ng) ⟨d,.call ⟨.value (.func f),es,ts⟩,ty,pos,after,gd⟩,(usG (κp id) (objs (stO NT AT ET νa e r) ++ []) (stO NT AT ET (νn (ν 0) ng i) e' r' ++ [])).map (·.1))]) (mkS (ZaW d res2 tm) (lits++somes (stO NT AT ET (νn (ν 0) ng i) e' r')) ng) K) :
  GoL P ops draw i (⟨d,.call ⟨.value (.func f),es,ts⟩,ty,pos,after,gd⟩::L) acc (mkS tm ob ng) K:=by{
have hc':ContractG P f (.ptr 0 (0,0) 0::args) (objs (stO NT AT ET νa e r) ++ []) res (stO NT AT ET νb e' r' ++ []):=by
 rw [List.append_nil,List.append_nil]
 exact hc
refine ZlU (xin:=[]) (ext:=[]) (ext2:=[]) lits ν id ν hc' hob hl hw ?_ (by rw [he];exact List.mem_cons_self ..) trivial (fun q hq=>by cases hq) rfl hres rfl rfl k
rw [he]
show (match rnP _ (.ptr 0 (0,0) 0),rnA _ args with | some q,some qs=>some (q::qs) | _,_=>none)=_
rw [ha]
rfl}
end
end VL
end Go.Proofs.YtpffimahajgiaaaGreatDoor
namespace Go.Proofs.YtpffimahajgiaaaGreatDoor
namespace VL
open Go.RowKit
theorem ZoK {els:List (List PV)} {k i j:Nat} {el:List PV} {q:PV} (h1:∀ e ∈ els,e.length=k) (hi:els[i]? = some el) (hj:j<k):(els.set i (Zas el j [q])).flatten=els.flatten.set (i * k+j) q:=by{
have hf:=ZiQ els h1 i el j [q] hi hj
refine hf.trans ?_
have hil:i<els.length:=(List.getElem?_eq_some_iff.1 hi).1
have hlen:i * k+j<els.flatten.length:=by
 rw [Zan els h1]
 calc i * k+j<i * k+k:=by omega
  _=(i+1) * k:=by rw [Nat.succ_mul]
  _<=els.length * k:=Nat.mul_le_mul_right _ hil
rw [List.set_eq_take_append_cons_drop,if_pos hlen]
simp}
theorem Zpw {s:FS} {u i j E k:Nat} {g:Gen} {els:List (List PV)} {el:List PV} {p q:PV} {us:List (Nat×Option (Gen×VObj))} (h0:s.ob u=some (g,.prow E k els)) (hi:els[i]? = some el) (hj:el[j]? = some p) (h:Zjn s.ob p=some (q,us)) :
  Shift s ⟨s.tm,Zb0 (flips s.ob us) u (some (g,.prow E k (els.set i (Zas el j [q])))),s.ng⟩:=fun r a x hX=>by
 obtain ⟨hg,e1,e2,vs,e3,e4,e5⟩:=hX.ob u g _ h0
 have hjk:j<k:=by rw [<- e1 el (List.mem_of_getElem? hi)];exact (List.getElem?_eq_some_iff.1 hj).1
 have hfl:=Zev els e1 i el j p hi hj
 have hvl:vs.length=els.length * k:=e3.1
 have hlt:i * k+j<vs.length:=by
  rw [hvl,<- Zan els e1]
  exact (List.getElem?_eq_some_iff.1 hfl).1
 have hv:vs[i * k+j]? = some vs[i * k+j]:=List.getElem?_eq_getElem hlt
 obtain ⟨F',st,hX',hR,hpure,hf⟩:=Zd6 (Flip.refl _) hX h (e4 _ p _ hfl hv)
 have hu:(flips s.ob us) u=some (g,.prow E k els):=by
  rcases hf u with e | ⟨g2,E2,k2,sh2,els2,e,_⟩
  ·rw [e,h0]
  ·rw [h0] at e;cases e
 refine ⟨{ x with F:=F' },rfl,hX'.defers,hX'.size,hX'.gr,hX'.gens,hX'.tm,fun t' g' o' ho=>?_,fun t1 t2 g1 g2 o1 o2 bb hne k1 k2 hb=>?_,hX'.flt,hX'.f0,hX'.fnew,hX'.rho,hX'.inv,hX'.keep⟩
 ·change (if t'=u then some (g,VObj.prow E k (els.set i (Zas el j [q]))) else flips s.ob us t')=some (g',o') at ho
  split at ho
  ·injection ho with ho
   injection ho with j1 j2
   subst j1 j2
   obtain ⟨_,j1,j2,vs2,j3,j4,j5⟩:=hX'.ob u g _ hu
   have hlen2:(Zas el j [q]).length=k:=by
    rw [Zc4 _ _ _ (by rw [e1 el (List.mem_of_getElem? hi)];exact hjk)]
    exact e1 el (List.mem_of_getElem? hi)
   refine ⟨hg,fun e he=>?_,fun e he p' hp=>?_,vs,by rw [List.length_set];exact e3,fun m p' v hp hv'=>?_,j5⟩
   ·rcases List.mem_or_eq_of_mem_set he with h | h
    ·exact e1 e h
    ·rw [h];exact hlen2
   ·rcases List.mem_or_eq_of_mem_set he with h | h
    ·exact e2 e h p' hp
    ·subst h
     unfold Zas at hp
     rcases List.mem_append.1 hp with hp | hp
     ·rcases List.mem_append.1 hp with hp | hp
      ·exact e2 el (List.mem_of_getElem? hi) p' (List.mem_of_mem_take hp)
      ·rw [List.mem_singleton.1 hp];exact PV.cell_of_pure hpure
     ·exact e2 el (List.mem_of_getElem? hi) p' (List.mem_of_mem_drop hp)
   ·rw [ZoK e1 hi hjk] at hp
    by_cases hm:i * k+j=m
    ·subst hm
     rw [List.getElem?_set_self (by rw [Zan els e1,<- hvl];exact hlt)] at hp
     injection hp with hp
     subst hp
     rw [hv] at hv'
     injection hv' with hv'
     rw [<- hv']
     exact hR
    ·rw [List.getElem?_set_ne hm] at hp
     exact (e4 m p' v hp hv').step st
  ·exact hX'.ob t' g' o' ho
 ·change (if t1=u then some (g,VObj.prow E k (els.set i (Zas el j [q]))) else flips s.ob us t1)=some (g1,o1) at k1
  change (if t2=u then some (g,VObj.prow E k (els.set i (Zas el j [q]))) else flips s.ob us t2)=some (g2,o2) at k2
  have f1:∃ o1',(flips s.ob us) t1=some (g1,o1'):=by
   split at k1
   ·rename_i e;subst e;injection k1 with k1;injection k1 with e3 e4;subst e3;exact ⟨_,hu⟩
   ·exact ⟨_,k1⟩
  have f2:∃ o2',(flips s.ob us) t2=some (g2,o2'):=by
   split at k2
   ·rename_i e;subst e;injection k2 with k2;injection k2 with e3 e4;subst e3;exact ⟨_,hu⟩
   ·exact ⟨_,k2⟩
  obtain ⟨o1',f1⟩:=f1
  obtain ⟨o2',f2⟩:=f2
  exact hX'.apart t1 t2 g1 g2 o1' o2' bb hne f1 f2 hb
theorem Zpx {s:FS} {u w i j E k E' k':Nat} {g:Gen} {els:List (List PV)} {el:List PV} (hne:w≠u) (h0:s.ob u=some (g,.prow E k els)) (hi:els[i]? = some el) (hj:el[j]? = some .nil) :
  Shift s ⟨s.tm,Zb0 (Zb0 s.ob u (some (g,.prow E k (els.set i (Zas el j [.row w (s.ng,0)]))))) w (some ((s.ng,0),.row E' k' false [])),s.ng+1⟩:=fun r a x hX=>by
 have hnew:¬ x.G (s.ng,0):=fun hg=>by
  rcases hX.gens _ hg with e | ⟨_,e⟩
  exact absurd e (Nat.lt_irrefl _)
  exact e.elim
 let y:Ctx:=⟨fun g=>x.G g\/g=(s.ng,0),x.F,x.W,fun g=>if g=(s.ng,0) then .slice none 0 0 else x.ρ g⟩
 have st:Step x y:=⟨fun g hg=>⟨.inl hg,if_neg (fun (e:g=(s.ng,0))=>hnew (by rw [<- e];exact hg))⟩,fun _ _ h=>h,fun _ _ _ _ h=>h⟩
 have hρ:y.ρ (s.ng,0) = .slice none 0 0:=if_pos rfl
 obtain ⟨hgu,hO⟩:=hX.ob u g _ h0
 have hO2:ObRep y r.W0.heap.size r.D g (.prow E k els):=hO.step hgu st fun b _=>⟨rfl,fun _ h=>h⟩
 have old:∀ t' g' o',(if t'=w then some ((s.ng,0),VObj.row E' k' false []) else if t'=u then some (g,VObj.prow E k (els.set i (Zas el j [.row w (s.ng,0)]))) else s.ob t')=some (g',o')->(t'=w/\g'=(s.ng,0)/\o' = .row E' k' false [])\/(t'=u/\g'=g/\o' = .prow E k (els.set i (Zas el j [.row w (s.ng,0)])))\/s.ob t'=some (g',o'):=fun t' g' o' ho=>by
  split at ho
  rename_i e
  injection ho with ho
  injection ho with e1 e2
  exact .inl ⟨e,e1.symm,e2.symm⟩
  split at ho
  rename_i e
  injection ho with ho
  injection ho with e1 e2
  exact .inr (.inl ⟨e,e1.symm,e2.symm⟩)
  exact .inr (.inr ho)
 refine ⟨y,rfl,hX.defers,hX.size,hX.gr,fun g hg=>.inl ?_,fun t'=>(hX.tm t').step st,fun t' g' o' ho=>?_,fun t1 t2 g1 g2 o1 o2 b hne' k1 k2 hb=>?_,hX.flt,hX.f0,hX.fnew,fun g hg=>⟨(st.G g (hX.rho g hg).1).1,(st.G g (hX.rho g hg).1).2.trans (hX.rho g hg).2⟩,hX.inv,hX.keep⟩
 rcases hg with hg | rfl
 rcases hX.gens g hg with e | ⟨_,e⟩
 show g.1<s.ng+1;omega
 exact e.elim
 exact Nat.lt_succ_self _
 rcases old t' g' o' ho with ⟨rfl,rfl,rfl⟩ | ⟨rfl,rfl,rfl⟩ | ho
 exact ⟨.inr rfl,by simp,by simp,[],by rw [hρ];exact World.ownsRow_nil _ _ _ _,fun m p v hp=>by simp at hp,fun b hb=>by rw [hρ] at hb;simp [blk] at hb⟩
 obtain ⟨e1,e2,vs,e3,e4,e5⟩:=hO2
 have hk1:=e1 el (List.mem_of_getElem? hi)
 have hjk:j<k:=by rw [<- hk1];exact (List.getElem?_eq_some_iff.1 hj).1
 have hfl:=Zev els e1 i el j _ hi hj
 refine ⟨.inl hgu,fun e he=>?_,fun e he p' hp=>?_,vs,by rw [List.length_set];exact e3,fun m p' v hp hv'=>?_,e5⟩
 rcases List.mem_or_eq_of_mem_set he with h | h
 exact e1 e h
 rw [h,Zc4 _ _ _ (by rw [hk1];exact hjk),hk1]
 rcases List.mem_or_eq_of_mem_set he with h | h
 exact e2 e h p' hp
 subst h
 unfold Zas at hp
 rcases List.mem_append.1 hp with hp | hp
 rcases List.mem_append.1 hp with hp | hp
 exact e2 el (List.mem_of_getElem? hi) p' (List.mem_of_mem_take hp)
 rw [List.mem_singleton.1 hp];rfl
 exact e2 el (List.mem_of_getElem? hi) p' (List.mem_of_mem_drop hp)
 rw [ZoK e1 hi hjk] at hp
 by_cases hm:i * k+j=m
 subst hm
 rw [List.getElem?_set_self (List.getElem?_eq_some_iff.1 hfl).1] at hp
 injection hp with hp
 subst hp
 have hr:=e4 _ _ v hfl hv'
 cases hr
 exact .row w (s.ng,0) none 0 0 (.inr rfl) hρ
 rw [List.getElem?_set_ne hm] at hp
 exact e4 m p' v hp hv'
 obtain ⟨h3,h4⟩:=hX.ob t' g' o' ho
 exact ⟨.inl h3,h4.step h3 st fun b _=>⟨rfl,fun _ h=>h⟩⟩
 have noB:∀ b,blk (y.ρ (s.ng,0))≠some b:=fun b hb=>by rw [hρ] at hb;simp [blk] at hb
 have tr:∀ t' g' o',((t'=w/\g'=(s.ng,0)/\o' = .row E' k' false [])\/(t'=u/\g'=g/\o' = .prow E k (els.set i (Zas el j [.row w (s.ng,0)])))\/s.ob t'=some (g',o'))->g'=(s.ng,0)\/∃ o2,s.ob t'=some (g',o2):=fun t' g' o' h=>by
  rcases h with ⟨_,e,_⟩ | ⟨e1,e2,_⟩ | h
  exact .inl e
  subst e1 e2;exact .inr ⟨_,h0⟩
  exact .inr ⟨_,h⟩
 rcases tr _ _ _ (old t1 g1 o1 k1) with rfl | ⟨p1,q1⟩
 exact absurd hb (noB b)
 rcases tr _ _ _ (old t2 g2 o2 k2) with rfl | ⟨p2,q2⟩
 exact noB b
 rw [(st.G g1 (hX.ob t1 g1 p1 q1).1).2] at hb
 rw [(st.G g2 (hX.ob t2 g2 p2 q2).1).2]
 exact hX.apart t1 t2 g1 g2 p1 p2 b hne' q1 q2 hb
section
variable {tm:List (Nat×PV)} {ob:List (Nat×Option (Gen×VObj))} {ng:Nat}
theorem Zd0 (u i j:Nat) {g:Gen} {E k:Nat} {els els':List (List PV)} {el:List PV} {p q:PV} {us:List (Nat×Option (Gen×VObj))} (h0:Zm ob u=some (g,.prow E k els)) (hi:els[i]? = some el) (hj:el[j]? = some p) (h:Zjn (Zm ob) p=some (q,us)) (he:els.set i (Zas el j [q])=els') :
  Shift (mkS tm ob ng) (mkS tm ((u,some (g,.prow E k els'))::(us.reverse++ob)) ng):=by{
subst he
have:=Zpw (s:=mkS tm ob ng) h0 hi hj h
have e:(⟨look tm,Zb0 (flips (Zm ob) us) u (some (g,.prow E k (els.set i (Zas el j [q])))),ng⟩:FS)=mkS tm ((u,some (g,.prow E k (els.set i (Zas el j [q]))))::(us.reverse++ob)) ng:=by
 rw [Zdd,Ze1]
 rfl
rw [<- e]
exact this}
theorem ZlL (u w i j E' k':Nat) {g:Gen} {E k:Nat} {els els':List (List PV)} {el:List PV} (hne:(w == u)=false) (h0:Zm ob u=some (g,.prow E k els)) (hi:els[i]? = some el) (hj:el[j]? = some .nil) (he:els.set i (Zas el j [.row w (ng,0)])=els') :
  Shift (mkS tm ob ng) (mkS tm ((w,some ((ng,0),.row E' k' false []))::(u,some (g,.prow E k els'))::ob) (ng+1)):=by{
subst he
have:=Zpx (s:=mkS tm ob ng) (E':=E') (k':=k') (by simpa using hne) h0 hi hj
have e:(⟨look tm,Zb0 (Zb0 (Zm ob) u (some (g,.prow E k (els.set i (Zas el j [.row w (ng,0)]))))) w (some ((ng,0),.row E' k' false [])),ng+1⟩:FS)=mkS tm ((w,some ((ng,0),.row E' k' false []))::(u,some (g,.prow E k (els.set i (Zas el j [.row w (ng,0)]))))::ob) (ng+1):=by
 rw [Ze1,Ze1]
 rfl
rw [<- e]
exact this}
theorem ZjY (t:Nat) {E k:Nat} {g:Gen} {els:List (List PV)} (h:Zm ob t=some (g,.prow E k els)) (hp:∀ e ∈ els,∀ p ∈ e,p.pure=true):Shift (mkS tm ob ng) (mkS tm ((t,some (g,.row E k false els))::ob) ng):=fun r a x hX=>by
 have hob:∀ t' g' o',(mkS tm ((t,some (g,.row E k false els))::ob) ng).ob t'=some (g',o')->(t'=t/\g'=g/\o' = .row E k false els)\/(mkS tm ob ng).ob t'=some (g',o'):=fun t' g' o' ho=>by
  change (if t'=t then some (g,VObj.row E k false els) else Zm ob t')=some (g',o') at ho
  split at ho
  rename_i e
  injection ho with ho
  injection ho with e1 e2
  exact .inl ⟨e,e1.symm,e2.symm⟩
  exact .inr ho
 have hsame:∀ t' g' o',(mkS tm ((t,some (g,.row E k false els))::ob) ng).ob t'=some (g',o')->∃ o2,(mkS tm ob ng).ob t'=some (g',o2):=fun t' g' o' ho=>by
  rcases hob t' g' o' ho with ⟨rfl,rfl,rfl⟩ | ho
  exact ⟨_,h⟩
  exact ⟨_,ho⟩
 refine ⟨x,rfl,hX.defers,hX.size,hX.gr,hX.gens,hX.tm,fun t' g' o' ho=>?_,fun t1 t2 g1 g2 o1 o2 b hne h1 h2 hb=>?_,hX.flt,hX.f0,hX.fnew,hX.rho,hX.inv,hX.keep⟩
 rcases hob t' g' o' ho with ⟨rfl,rfl,rfl⟩ | ho
 obtain ⟨hg,q1,q2,vs,q3,q4,q5⟩:=hX.ob t' g' _ h
 exact ⟨hg,q1,hp,vs,q3,q4,fun b hb=>⟨(q5 b hb).1,fun o hF=>absurd hF ((q5 b hb).2 o)⟩⟩
 exact hX.ob t' g' o' ho
 obtain ⟨o1',h1'⟩:=hsame t1 g1 o1 h1
 obtain ⟨o2',h2'⟩:=hsame t2 g2 o2 h2
 exact hX.apart t1 t2 g1 g2 o1' o2' b hne h1' h2' hb
end
end VL
end Go.Proofs.YtpffimahajgiaaaGreatDoor
namespace Go.Proofs.YtpffimahajgiaaaGreatDoor
namespace VL
section
variable {P:Program} [WInv P] {ops:Array Oper} {draw:Bool} {i:Nat} {L:List Oper} {acc:List (List Nat×List Nat)} {K:FS->Prop} {tm:List (Nat×PV)} {ob:List (Nat×Option (Gen×VObj))} {ng:Nat}
 {d:Option Tmp} {ty:TypeId} {pos:String} {after:Array Edge} {gd:Option (Nat×Bool)} {T:TypeId} {x y:Operand} {E kk by_:Nat} {z:List PV} {t:Nat} {g:Gen} {els new:List (List PV)}
theorem Zbf {n:Nat} [Sl P T E kk by_ z] (hw:Zf ops (mkS tm ob ng) ⟨d,.call ⟨.builtin .len,#[x],#[T]⟩,ty,pos,after,gd⟩=some true) (hx:Zoe (Zm ob) (evL tm x)=some els) (hn:els.length=n)
  (k:GoL P ops draw (i+1) L (acc ++ [(ZA (mkS tm ob ng) ⟨d,.call ⟨.builtin .len,#[x],#[T]⟩,ty,pos,after,gd⟩,[])]) (mkS (ZaW d (.int .i64 (n:Int)) tm) ob ng) K):GoL P ops draw i (⟨d,.call ⟨.builtin .len,#[x],#[T]⟩,ty,pos,after,gd⟩::L) acc (mkS tm ob ng) K:=by
 subst hn
 exact Zwd hw hx k
end
theorem Zhl (ν:Nat->Gen):∀ (r:List El),(ZdV ν r).length=r.length
 | []=>rfl
 | _::r=>by unfold ZdV;rw [List.length_append,Zhl ν r];rfl
theorem Zb9 (ν:Nat->Gen) (r:List El) (p:List PV):(ZdV ν r ++ [p]).length=r.length+1:=by rw [List.length_append,Zhl];rfl
theorem Znz (ν:Nat->Gen) (r:List El) (p:List PV):(ZdV ν r ++ [p])[r.length]? = some p:=by
 rw [List.getElem?_append_right (by rw [Zhl];exact Nat.le_refl _),Zhl,Nat.sub_self]
 rfl
section
variable {P:Program} {NT AT ET:Nat} {tm:List (Nat×PV)} {ob:List (Nat×Option (Gen×VObj))} {ng:Nat}
theorem ZbA {ex:Ex} (hex:ex = .ret\/ex = .normal) (ν:Nat->Gen) {e:El} {r:List El} (lits:List (Nat×Option (Gen×VObj))) (tm':List (Nat×PV)) {rs:List ResultVar} {res:PV} {ps:List PV} (hob:ob=lits++somes (stO NT AT ET ν e r)) (hl:(lits.all fun q=>!Zbn q.1)=true) (h1:Zf7 (σf fun k=>(k,ν k)) tm tm')
  (h2:Zcr P (mkS tm' (somes (stO NT AT ET νb e r)) 2) rs=some ps) (h3:Zcs ps=res) (h00:ν 0=(0,0):=by rfl):Zsc P rs res (stO NT AT ET νb e r) ex (mkS tm ob ng):=by{
have hs:Shift (mkS tm ob ng) (mkS tm' (somes ([]++stO NT AT ET νb e r)) 2):=Za4 ν lits (fun k=>(k,ν k)) (fun _ _=>rfl) h00 h1 (x:=[]) (x':=[]) rfl hob hl (Zab _) rfl
have hH:Has (somes (stO NT AT ET νb e r)) (stO NT AT ET νb e r):=Zbg (lits:=[]) rfl
rcases hex with rfl | rfl
exact ZhE hs h2 h3 hH
exact Zkd hs h2 h3 hH}
end
end VL
end Go.Proofs.YtpffimahajgiaaaGreatDoor
namespace Go.Proofs.YtpffimahajgiaaaGreatDoor
namespace VL
section
variable {NT AT ET:Nat} {σ:Gen->Option (Nat×Gen)}
theorem ZoQ {ν ν':Nat->Gen}:∀ (r:List El),(∀ k,2000<=k->k<Zbm r->σ (ν k)=some (k,ν' k))->Za6 σ (ZfC NT AT ν r)=some (ZfC NT AT ν' r)
 | [],_=>rfl
 | e::r,h=>by
   have hb:Zbm (e::r)=Zbm r+10:=by unfold Zbm;rw [List.length_cons];omega
   have hb2:2000<=Zbm r:=by unfold Zbm;omega
   exact ZaC (Zhm (fun j _=>h _ (by omega) (by omega)) e) (ZoQ r fun k h1 h2=>h k h1 (by omega))
theorem ZoR {ν ν':Nat->Gen}:∀ (r:List El),(∀ k,2000<=k->k<Zbm r->σ (ν k)=some (k,ν' k))->ZfE σ (ZdV ν r)=some (ZdV ν' r)
 | [],_=>rfl
 | e::r,h=>by
   have hb:Zbm (e::r)=Zbm r+10:=by unfold Zbm;rw [List.length_cons];omega
   have hb2:2000<=Zbm r:=by unfold Zbm;omega
   exact ZaY (ZoR r fun k h1 h2=>h k h1 (by omega)) (by simp only [ZfE,rnL,rn1,h (Zbm r) hb2 (by omega),Option.map_some])
theorem Zdo {A:List (Nat×Option (Gen×VObj))} {ν:Nat->Gen} {e:El} {r:List El} (hA:(A.all fun q=>decide (q.1<2000))=true):Has (A++somes (stO NT AT ET ν e r)) (ZfC NT AT ν r):=fun t g o hm=>by
 have hk:=(ZcM hm).1
 rw [Zca _ _ t fun q hq hqt=>by
  have:=List.all_eq_true.1 hA q hq
  rw [hqt] at this
  simp only [decide_eq_true_eq] at this
  change 2000<=t at hk
  omega]
 have:=ZbR [] (ZaV (NT:=NT) (AT:=AT) (ET:=ET) ν e r) (List.mem_cons_of_mem _ (List.mem_cons_of_mem _ (List.mem_append_right _ hm)))
 rwa [List.append_nil] at this
theorem Zuc {A:List (Nat×Option (Gen×VObj))} {ν:Nat->Gen} {e:El} {r:List El} (hA:(A.all fun q=>decide (q.1<=1000)||decide (1005<=q.1))=true):Has (A++somes (stO NT AT ET ν e r)) (elO NT AT 1001 ν e):=fun t g o hm=>by
 obtain ⟨hk,hk2,_⟩:=Zdr hm
 change 1001<=t at hk
 change t<1005 at hk2
 rw [Zca _ _ t fun q hq hqt=>by
  have:=List.all_eq_true.1 hA q hq
  rw [hqt] at this
  simp only [Bool.or_eq_true,decide_eq_true_eq] at this
  omega]
 have:=ZbR [] (ZaV (NT:=NT) (AT:=AT) (ET:=ET) ν e r) (List.mem_cons_of_mem _ (List.mem_cons_of_mem _ (List.mem_append_left _ hm)))
 rwa [List.append_nil] at this
def topf (n0 n1:Gen) (μ ν:Nat->Gen) (k:Nat):Nat×Gen:=if k=0 then (0,n0) else if k=1000 then (1000,n1) else if k<2000 then (k,μ k) else (k,ν k)
section
variable {tm:List (Nat×PV)} {ob:List (Nat×Option (Gen×VObj))} {ng:Nat}
theorem ZrN (n0 n1:Gen) (μ ν:Nat->Gen) {e':El} {r:List El} (tm':List (Nat×PV)) (h1:Zf7 (σf (topf n0 n1 μ ν)) tm tm') (a0:Zm ob 0=some (n0,.box [.row 1000 n1])) (a1:Zm ob 1000=some (n1,.prow ET 1 (ZdV ν r ++ [[.ptr 1001 (μ 1001) 0]])))
  (a2:Has ob (elO NT AT 1001 μ e')) (a3:Has ob (ZfC NT AT ν r)) (h00:n0=(0,0):=by rfl):Shift (mkS tm ob ng) (mkS tm' (somes (stO NT AT ET νb e' r)) 2):=by{
have hl:∀ k,2000<=k->σf (topf n0 n1 μ ν) (νb k)=some (k,ν k):=fun k hk=>by
 have h1:¬ k=0:=by omega
 have h2:¬ k=1000:=by omega
 have h3:¬ k<2000:=by omega
 simp [σf,νb,topf,h1,h2,h3]
have ht:∀ j,j<4->σf (topf n0 n1 μ ν) (νb (1001+j))=some (1001+j,μ (1001+j)):=fun j hj=>by
 have h1:¬ 1001+j=0:=by omega
 have h2:¬ 1001+j=1000:=by omega
 have h3:1001+j<2000:=by omega
 simp [σf,νb,topf,h2,h3]
have e0:σf (topf n0 n1 μ ν) (νb 0)=some (0,n0):=by rw [h00];rfl
have e1:σf (topf n0 n1 μ ν) (νb 1000)=some (1000,n1):=rfl
have e2:σf (topf n0 n1 μ ν) (νb 1001)=some (1001,μ 1001):=ht 0 (by omega)
have hp:ZfE (σf (topf n0 n1 μ ν)) (ZdV νb r ++ [[.ptr 1001 (νb 1001) 0]])=some (ZdV ν r ++ [[.ptr 1001 (μ 1001) 0]]):=ZaY (ZhV hl r) (by simp only [ZfE,rnL,rn1,e2,Option.map_some])
have he:=ZaC (Zhm (NT:=NT) (AT:=AT) (b:=1001) (b':=1001) (ν':=μ) ht e') (ZhU (NT:=NT) (AT:=AT) hl r)
have h2:Za6 (σf (topf n0 n1 μ ν)) (stO NT AT ET νb e' r)=some ((0,n0,.box [.row 1000 n1])::(1000,n1,.prow ET 1 (ZdV ν r ++ [[.ptr 1001 (μ 1001) 0]]))::(elO NT AT 1001 μ e'++ZfC NT AT ν r)):=by
 simp only [stO,Za6,rnO,rnL,rn1,e0,e1,Option.map_some,hp,he]
refine ZfA _ h1 h2 (Zo a0 (Zo a1 (Zkc a2 a3))) ?_
have:=ZaV (NT:=NT) (AT:=AT) (ET:=ET) μ e' r
have e:((0,n0,VObj.box [.row 1000 n1])::(1000,n1,.prow ET 1 (ZdV ν r ++ [[.ptr 1001 (μ 1001) 0]]))::(elO NT AT 1001 μ e'++ZfC NT AT ν r)).map (·.1)=(stO NT AT ET μ e' r).map (·.1):=by
 unfold stO
 rw [List.map_cons,List.map_cons,List.map_cons,List.map_cons,List.map_append,List.map_append,Zg7 ν μ]
rw [e]
exact this}
def popf (n0 n1:Gen) (fx:Nat->Nat×Gen) (ν:Nat->Gen) (b:Nat) (k:Nat):Nat×Gen:=if k=0 then (0,n0) else if k=1000 then (1000,n1) else if k<1000 then fx k else if k<1005 then (b+(k-1001),ν (b+(k-1001))) else if k<2000 then (k-100,ν (k-100)) else (k,ν k)
theorem ZhA (n0 n1:Gen) (fx:Nat->Nat×Gen) (ν:Nat->Gen) {e2:El} {r:List El} {X X':List (Nat×Gen×VObj)} (tm':List (Nat×PV)) (h1:Zf7 (σf (popf n0 n1 fx ν (Zbm r))) tm tm') (a0:Zm ob 0=some (n0,.box [.row 1000 n1])) (a1:Zm ob 1000=some (n1,.prow ET 1 (ZdV ν (e2::r))))
  (hx:Za6 (σf (popf n0 n1 fx ν (Zbm r))) X'=some X) (hX:∀ q ∈ X,q.1≠0/\q.1≠1000/\q.1<2000) (hXn:(X.map (·.1)).Nodup) (a2:Has ob X) (a3:Has ob (ZfC NT AT ν (e2::r))) (h00:n0=(0,0):=by rfl):Shift (mkS tm ob ng) (mkS tm' (somes (X'++stO NT AT ET νb e2 r)) 2):=by{
have hb:2000<=Zbm r:=by unfold Zbm;omega
have hl:∀ k,2000<=k->σf (popf n0 n1 fx ν (Zbm r)) (νb k)=some (k,ν k):=fun k hk=>by
 have h1:¬ k=0:=by omega
 have h2:¬ k=1000:=by omega
 have h3:¬ k<1005:=by omega
 have h4:¬ k<2000:=by omega
 have h5:¬ k<1000:=by omega
 simp [σf,νb,popf,h1,h2,h3,h4,h5]
have ht:∀ j,j<4->σf (popf n0 n1 fx ν (Zbm r)) (νb (1001+j))=some (Zbm r+j,ν (Zbm r+j)):=fun j hj=>by
 have h2:¬ 1001+j=1000:=by omega
 have h3:1001+j<1005:=by omega
 have h4:1001+j-1001=j:=by omega
 have h5:¬ 1001+j<1000:=by omega
 simp [σf,νb,popf,h2,h3,h4,h5]
have e0:σf (popf n0 n1 fx ν (Zbm r)) (νb 0)=some (0,n0):=by rw [h00];rfl
have e1:σf (popf n0 n1 fx ν (Zbm r)) (νb 1000)=some (1000,n1):=rfl
have ee2:σf (popf n0 n1 fx ν (Zbm r)) (νb 1001)=some (Zbm r,ν (Zbm r)):=ht 0 (by omega)
have hp:ZfE (σf (popf n0 n1 fx ν (Zbm r))) (ZdV νb r ++ [[.ptr 1001 (νb 1001) 0]])=some (ZdV ν r ++ [[.ptr (Zbm r) (ν (Zbm r)) 0]]):=ZaY (ZhV hl r) (by simp only [ZfE,rnL,rn1,ee2,Option.map_some])
have he:=ZaC (Zhm (NT:=NT) (AT:=AT) (b:=1001) (b':=Zbm r) (ν':=ν) ht e2) (ZhU (NT:=NT) (AT:=AT) hl r)
have h2:Za6 (σf (popf n0 n1 fx ν (Zbm r))) (stO NT AT ET νb e2 r)=some ((0,n0,.box [.row 1000 n1])::(1000,n1,.prow ET 1 (ZdV ν (e2::r)))::ZfC NT AT ν (e2::r)):=by
 simp only [stO,Za6,rnO,rnL,rn1,e0,e1,Option.map_some,hp,he]
 rfl
refine ZfA _ h1 (ZaC hx h2) (Zkc a2 (Zo a0 (Zo a1 a3))) ?_
rw [List.map_append]
have hlow:∀ k ∈ (ZfC NT AT ν (e2::r)).map (·.1),2000<=k:=fun k hk=>by
 obtain ⟨q,hq,rfl⟩:=List.mem_map.1 hk
 exact (ZcM hq).1
refine Ze2 hXn ?_ fun k hk' hk=>?_
rw [List.map_cons,List.map_cons,List.nodup_cons,List.nodup_cons]
refine ⟨fun h=>?_,fun h=>?_,Zgl ν _⟩
rcases List.mem_cons.1 h with h | h
cases h
have:=hlow _ h;omega
have:=hlow _ h
change 2000<=1000 at this
omega
obtain ⟨q',hq',rfl⟩:=List.mem_map.1 hk'
have:=hX q' hq'
rw [List.map_cons,List.map_cons] at hk
rcases List.mem_cons.1 hk with e | hk
change q'.1=0 at e;omega
rcases List.mem_cons.1 hk with e | hk
change q'.1=1000 at e;omega
have:=hlow _ hk;omega}
def pushf (n0 n1 m1 m2 m3:Gen) (k1 k2 k3:Nat) (ν:Nat->Gen) (b:Nat) (k:Nat):Nat×Gen:=if k=0 then (0,n0) else if k=1000 then (1000,n1) else if k=1001 then (k1,m1) else if k=1002 then (k2,m2) else if k=1003 then (k3,m3) else if b<=k then (1001+(k-b),ν (1001+(k-b))) else (k,ν k)
theorem ZpJ (n0 n1 m1 m2 m3:Gen) (k1 k2 k3:Nat) (ν:Nat->Gen) {e:El} {r:List El} {kind tag count:Int} {list:List (List PV)} (tm':List (Nat×PV)) (h1:Zf7 (σf (pushf n0 n1 m1 m2 m3 k1 k2 k3 ν (Zbm r))) tm tm') (a0:Zm ob 0=some (n0,.box [.row 1000 n1])) (a1:Zm ob 1000=some (n1,.prow ET 1 (ZdV ν r ++ [[.ptr 1001 (ν 1001) 0]] ++ [[.ptr k1 m1 0]])))
  (b1:Zm ob k1=some (m1,.box [.int .i64 kind,.int .i64 tag,.int .i64 count,.row k2 m2,.row k3 m3])) (b2:Zm ob k2=some (m2,.row NT 5 false list)) (b3:Zm ob k3=some (m3,.prow AT 3 [])) (hk:(decide ([k1,k2,k3].Nodup) && [k1,k2,k3].all fun k=>!Zbn k)=true) (a2:Has ob (elO NT AT 1001 ν e)) (a3:Has ob (ZfC NT AT ν r)) (h00:n0=(0,0):=by rfl) :
  Shift (mkS tm ob ng) (mkS tm' (somes (stO NT AT ET νb ⟨kind,tag,count,list,none⟩ (e::r))) 2):=by{
have hb:2000<=Zbm r:=by unfold Zbm;omega
have hl:∀ k,2000<=k->k<Zbm r->σf (pushf n0 n1 m1 m2 m3 k1 k2 k3 ν (Zbm r)) (νb k)=some (k,ν k):=fun k hk hk'=>by
 have h1:¬ k=0:=by omega
 have h2:¬ k=1000:=by omega
 have h3:¬ k=1001:=by omega
 have h4:¬ k=1002:=by omega
 have h5:¬ k=1003:=by omega
 have h6:¬ Zbm r<=k:=by omega
 simp [σf,νb,pushf,h1,h2,h3,h4,h5,h6]
have ht:∀ j,j<4->σf (pushf n0 n1 m1 m2 m3 k1 k2 k3 ν (Zbm r)) (νb (Zbm r+j))=some (1001+j,ν (1001+j)):=fun j hj=>by
 have h1:¬ Zbm r+j=0:=by omega
 have h2:¬ Zbm r+j=1000:=by omega
 have h3:¬ Zbm r+j=1001:=by omega
 have h4:¬ Zbm r+j=1002:=by omega
 have h5:¬ Zbm r+j=1003:=by omega
 have h6:Zbm r<=Zbm r+j:=by omega
 have h7:Zbm r+j-Zbm r=j:=by omega
 simp only [σf,νb,pushf,h1,h2,h3,h4,h5,h6,h7,if_true,if_false]
 rfl
have e0:σf (pushf n0 n1 m1 m2 m3 k1 k2 k3 ν (Zbm r)) (νb 0)=some (0,n0):=by rw [h00];rfl
have e1:σf (pushf n0 n1 m1 m2 m3 k1 k2 k3 ν (Zbm r)) (νb 1000)=some (1000,n1):=rfl
have e2:σf (pushf n0 n1 m1 m2 m3 k1 k2 k3 ν (Zbm r)) (νb 1001)=some (k1,m1):=rfl
have e3:σf (pushf n0 n1 m1 m2 m3 k1 k2 k3 ν (Zbm r)) (νb (1001+1))=some (k2,m2):=rfl
have e4:σf (pushf n0 n1 m1 m2 m3 k1 k2 k3 ν (Zbm r)) (νb (1001+2))=some (k3,m3):=rfl
have e5:σf (pushf n0 n1 m1 m2 m3 k1 k2 k3 ν (Zbm r)) (νb (Zbm r))=some (1001,ν 1001):=ht 0 (by omega)
have hp:ZfE (σf (pushf n0 n1 m1 m2 m3 k1 k2 k3 ν (Zbm r))) (ZdV νb (e::r) ++ [[.ptr 1001 (νb 1001) 0]])=some (ZdV ν r ++ [[.ptr 1001 (ν 1001) 0]] ++ [[.ptr k1 m1 0]]):=
 ZaY (ZaY (ZoR r hl) (by simp only [ZfE,rnL,rn1,e5,Option.map_some])) (by simp only [ZfE,rnL,rn1,e2,Option.map_some])
have he:=ZaC (Zhm (NT:=NT) (AT:=AT) (b:=Zbm r) (b':=1001) (ν':=ν) ht e) (ZoQ (NT:=NT) (AT:=AT) r hl)
have h2:Za6 (σf (pushf n0 n1 m1 m2 m3 k1 k2 k3 ν (Zbm r))) (stO NT AT ET νb ⟨kind,tag,count,list,none⟩ (e::r))=some ((0,n0,.box [.row 1000 n1])::(1000,n1,.prow ET 1 (ZdV ν r ++ [[.ptr 1001 (ν 1001) 0]] ++ [[.ptr k1 m1 0]]))::(k1,m1,.box [.int .i64 kind,.int .i64 tag,.int .i64 count,.row k2 m2,.row k3 m3])::(k2,m2,.row NT 5 false list)::(k3,m3,.prow AT 3 [])::(elO NT AT 1001 ν e++ZfC NT AT ν r)):=by
 have he':Za6 (σf (pushf n0 n1 m1 m2 m3 k1 k2 k3 ν (Zbm r))) (ZfC NT AT νb (e::r))=some (elO NT AT 1001 ν e++ZfC NT AT ν r):=he
 have key:∀ X,elO NT AT 1001 νb ⟨kind,tag,count,list,none⟩++X=(1001,νb 1001,.box [.int .i64 kind,.int .i64 tag,.int .i64 count,.row (1001+1) (νb (1001+1)),.row (1001+2) (νb (1001+2))])::(1001+1,νb (1001+1),.row NT 5 false list)::(1001+2,νb (1001+2),.prow AT 3 [])::X:=fun _=>rfl
 unfold stO
 rw [key]
 simp only [Za6,rnO,rnL,ZfE,rn1,e0,e1,e2,e3,e4,Option.map_some,hp,he']
simp only [Bool.and_eq_true,decide_eq_true_eq,List.all_eq_true,Bool.not_eq_true'] at hk
obtain ⟨hn,hpk⟩:=hk
have hpk':∀ k ∈ [k1,k2,k3],¬ (k=0\/1000<=k):=fun k hk h=>by
 have:=hpk k hk
 rw [ZdI h] at this
 cases this
refine ZfA _ h1 h2 (Zo a0 (Zo a1 (Zo b1 (Zo b2 (Zo b3 (Zkc a2 a3)))))) ?_
have hold:=ZaV (NT:=NT) (AT:=AT) (ET:=ET) ν e r
unfold stO at hold
rw [List.map_cons,List.map_cons,List.nodup_cons,List.nodup_cons] at hold
obtain ⟨w1,w2,w3⟩:=hold
have hrest:∀ k ∈ (elO NT AT 1001 ν e++ZfC NT AT ν r).map (·.1),1000<=k:=fun k hk=>by
 obtain ⟨q,hq,rfl⟩:=List.mem_map.1 hk
 rcases List.mem_append.1 hq with hq | hq
 have:=(Zdr hq).1;omega
 have:=(ZcM hq).1;omega
have p1:=hpk' k1 (by simp)
have p2:=hpk' k2 (by simp)
have p3:=hpk' k3 (by simp)
simp only [List.nodup_cons,List.mem_cons,List.not_mem_nil,or_false,not_or] at hn
obtain ⟨⟨n12,n13⟩,n23,_⟩:=hn
simp only [List.map_cons,List.nodup_cons,List.mem_cons,not_or]
refine ⟨⟨by omega,by omega,by omega,by omega,fun h=>by have:=hrest _ h;omega⟩,⟨by omega,by omega,by omega,fun h=>w2 h⟩,⟨n12,n13,fun h=>by have:=hrest _ h;omega⟩,⟨n23,fun h=>by have:=hrest _ h;omega⟩,fun h=>by have:=hrest _ h;omega,w3⟩}
end
end
end VL
end Go.Proofs.YtpffimahajgiaaaGreatDoor
namespace Go.Proofs.YtpffimahajgiaaaGreatDoor
namespace VL
def κe (k:Nat):Nat:=1001+k
def γe (ν:Nat->Gen) (k:Nat):Gen:=ν (1001+k)
section
variable {NT AT ET:Nat} {P:Program} [WInv P] {ops:Array Oper} {draw:Bool} {i:Nat} {L:List Oper} {acc:List (List Nat×List Nat)} {K:FS->Prop} {tm:List (Nat×PV)} {ob:List (Nat×Option (Gen×VObj))} {ng:Nat}
 {d:Option Tmp} {ty:TypeId} {pos:String} {after:Array Edge} {gd:Option (Nat×Bool)}
def Znm (l:List (Nat×VObj)) (k:Nat):Bool:=l.any fun q=>q.1 == k
theorem ZbV {f:FuncId} {es:Array Operand} {ts:Array TypeId} {e:El} {r:List El} {p p2:PV} (lits:List (Nat×Option (Gen×VObj))) (ν:Nat->Gen) (hc:ContractG P f [.ptr 0 (0,0) 0] (objs (elO NT AT 0 νa e)) p (elO NT AT 0 νa e)) (hob:ob=lits++somes (stO NT AT ET ν e r)) (hl:(lits.all fun q=>!Zbn q.1)=true)
  (hw:Zf ops (mkS tm ob ng) ⟨d,.call ⟨.value (.func f),es,ts⟩,ty,pos,after,gd⟩=some true) (he:es.toList.map (evL tm) = [.ptr 1001 (ν 1001) 0]) (hp:rnP (σ1 (Znm (objs (elO NT AT 0 νa e))) κe (γe ν) κe ng i) p=some p2)
  (k:GoL P ops draw (i+1) L (acc ++ [(ZA (mkS tm ob ng) ⟨d,.call ⟨.value (.func f),es,ts⟩,ty,pos,after,gd⟩,(usG κe (objs (elO NT AT 0 νa e)) (elO NT AT 1001 ν e)).map (·.1))]) (mkS (ZaW d p2 tm) ob ng) K) :
  GoL P ops draw i (⟨d,.call ⟨.value (.func f),es,ts⟩,ty,pos,after,gd⟩::L) acc (mkS tm ob ng) K:=by{
have hHas:Has ob (elO NT AT 1001 ν e):=fun t g o hm=>by
 rw [hob]
 exact Zbg hl t g o (List.mem_cons_of_mem _ (List.mem_cons_of_mem _ (List.mem_append_left _ hm)))
have hr0:Za6 (σ0 κe (γe ν)) (elO NT AT 0 νa e)=some (elO NT AT 1001 ν e):=Zhm (fun j _=>by simp [σ0,νa,κe,γe]) e
have hr1:Za6 (σ1 (Znm (objs (elO NT AT 0 νa e))) κe (γe ν) κe ng i) (elO NT AT 0 νa e)=some (elO NT AT 1001 ν e):=by
 obtain ⟨e1,e2,e3,e4,args⟩:=e
 rcases args with _ | ⟨pre,a⟩
 rfl
 have h3:∀ j,j<4->σ1 (Znm (objs (elO NT AT 0 νa ⟨e1,e2,e3,e4,some (pre,a)⟩))) κe (γe ν) κe ng i (νa (0+j))=some (1001+j,ν (1001+j)):=fun j hj=>by
  have:Znm (objs (elO NT AT 0 νa ⟨e1,e2,e3,e4,some (pre,a)⟩)) (0+j)=true:=by
   match j,hj with
   | 0,_=>rfl
   | 1,_=>rfl
   | 2,_=>rfl
   | 3,_=>rfl
  simp only [σ1,νa,this,if_true]
  simp only [κe,γe,Nat.zero_add]
 exact Zhm h3 _
have hpre:ZpS (σ0 κe (γe ν)) κe (γe ν) (Zm ob) (objs (elO NT AT 0 νa e)):=ZlT hr0 hHas fun q hq=>by
 rw [(Zdr hq).2.2]
 simp [σ0,νa]
have hk1:(objs (elO NT AT 0 νa e)).map (fun q=>κe q.1)=(elO NT AT 1001 ν e).map (·.1):=by
 obtain ⟨k,t,c,l,args⟩:=e
 cases args<;>rfl
have hes:∀ t,t ∈ Zjl (Zm ob) (.ptr 1001 (ν 1001) 0)->t ∈ ZA (mkS tm ob ng) ⟨d,.call ⟨.value (.func f),es,ts⟩,ty,pos,after,gd⟩:=fun t ht=>by
 have hp:PV.ptr 1001 (ν 1001) 0 ∈ es.toList.map (evL tm):=by rw [he];exact List.mem_singleton.2 rfl
 obtain ⟨o,ho,e2⟩:=List.mem_map.1 hp
 unfold ZA
 rw [if_neg (by simp [quiet])]
 refine List.mem_flatMap.2 ⟨o,?_,?_⟩
 rw [Zgs rfl]
 simp [Op.operands,Call.operands]
 exact .inr (by simpa using ho)
 rw [ZR,e2]
 exact ht
refine Zn1 (Znm (objs (elO NT AT 0 νa e))) κe (γe ν) κe hc hw ?_ hpre (by rw [hk1];exact Zek _ _ _) (fun k hk=>?_) (fun t o' hm=>?_) hp hr1 (Zek _ _ _) rfl ?_
rw [he]
rfl
obtain ⟨q,hq,e2⟩:=List.any_eq_true.1 hk
simp only [beq_iff_eq] at e2
subst e2
exact ⟨q.2,hq⟩
obtain ⟨g,hg⟩:=Zgu hm
have hm2:κe t ∈ (elO NT AT 1001 ν e).map (·.1):=by
 rw [<- hk1]
 exact List.mem_map.2 ⟨_,hm,rfl⟩
obtain ⟨⟨t2,g2,o2⟩,hq,e2⟩:=List.mem_map.1 hm2
rw [<- e2]
exact hes _ (ZrH hHas (List.mem_singleton.2 rfl) hq 2)
have e1:mkS (ZaW d p2 tm) ((usG κe (objs (elO NT AT 0 νa e)) (elO NT AT 1001 ν e)).reverse++ob) ng=mkS (ZaW d p2 tm) ob ng:=Zgd fun t=>?_
rw [e1];exact k
rw [Zi4 (Zek _ _ _)]
by_cases h1:∃ q ∈ elO NT AT 1001 ν e,q.1=t
rw [if_pos h1]
obtain ⟨⟨t',g,o⟩,hq,rfl⟩:=h1
have w:=ZbR [] (Zek 1001 ν e) hq
rw [List.append_nil] at w
rw [w]
exact (hHas _ _ _ hq).symm
rw [if_neg h1,if_neg fun ⟨q,hq,e3⟩=>h1 (by
 have hm2:κe q.1 ∈ (elO NT AT 1001 ν e).map (·.1):=by
  rw [<- hk1]
  exact List.mem_map.2 ⟨_,hq,rfl⟩
 rw [e3] at hm2
 obtain ⟨q2,hq2,e4⟩:=List.mem_map.1 hm2
 exact ⟨q2,hq2,e4⟩)]}
omit [WInv P] in
theorem Znw {σ:Gen->Option (Nat×Gen)} {b:Nat} {ν ν':Nat->Gen} {e:El} (h:∀ q ∈ elO NT AT b ν e,σ (ν q.1)=some (q.1,ν' q.1)):Za6 σ (elO NT AT b ν e)=some (elO NT AT b ν' e):=by{
obtain ⟨e1,e2,e3,e4,args⟩:=e
have h0:=h _ (List.mem_cons_self ..)
have h1:=h _ (List.mem_cons_of_mem _ (List.mem_cons_self ..))
have h2:=h _ (List.mem_cons_of_mem _ (List.mem_cons_of_mem _ (List.mem_cons_self ..)))
rcases args with _ | ⟨pre,a⟩
simp only [elO,Zmx,ZgB,Za6,rnO,rnL,rn1,h0,h1,h2,Option.map_some,ZfE]
have h3:=h _ (List.mem_cons_of_mem _ (List.mem_cons_of_mem _ (List.mem_cons_of_mem _ (List.mem_singleton.2 rfl))))
have:ZfE σ (pre.map Arg.cs ++ [[.bool a.named,.sl a.name,.row (b+3) (ν (b+3))]])=some (pre.map Arg.cs ++ [[.bool a.named,.sl a.name,.row (b+3) (ν' (b+3))]]):=
 ZaY (Zjv pre) (by simp only [ZfE,rnL,rn1,h3,Option.map_some])
simp only [elO,Zmx,ZgB,Za6,rnO,rnL,rn1,h0,h1,h2,h3,Option.map_some,this]}
omit [WInv P] in
theorem Zlh {σ:Gen->Option (Nat×Gen)} {ν ν':Nat->Gen}:∀ {r:List El},(∀ q ∈ ZfC NT AT ν r,σ (ν q.1)=some (q.1,ν' q.1))->Za6 σ (ZfC NT AT ν r)=some (ZfC NT AT ν' r)
 | [],_=>rfl
 | _::_,h=>ZaC (Znw fun q hq=>h q (List.mem_append_left _ hq)) (Zlh fun q hq=>h q (List.mem_append_right _ hq))
omit [WInv P] in
theorem Zli {σ:Gen->Option (Nat×Gen)} {ν ν':Nat->Gen}:∀ {r:List El},(∀ q ∈ ZfC NT AT ν r,σ (ν q.1)=some (q.1,ν' q.1))->ZfE σ (ZdV ν r)=some (ZdV ν' r)
 | [],_=>rfl
 | _::r,h=>ZaY (Zli fun q hq=>h q (List.mem_append_right _ hq)) (by
   have:=h _ (List.mem_append_left _ (List.mem_cons_self ..))
   simp only [ZfE,rnL,rn1,this,Option.map_some])
omit [WInv P] in
theorem ZuI {σ:Gen->Option (Nat×Gen)} {ν ν':Nat->Gen} {e:El} {r:List El} (h:∀ q ∈ stO NT AT ET ν e r,σ (ν q.1)=some (q.1,ν' q.1)):Za6 σ (stO NT AT ET ν e r)=some (stO NT AT ET ν' e r):=by{
have h0:=h _ (List.mem_cons_self ..)
have h1:=h _ (List.mem_cons_of_mem _ (List.mem_cons_self ..))
have h2:=h _ (List.mem_cons_of_mem _ (List.mem_cons_of_mem _ (List.mem_append_left _ (List.mem_cons_self ..))))
have hl:∀ q ∈ ZfC NT AT ν r,σ (ν q.1)=some (q.1,ν' q.1):=fun q hq=>h q (List.mem_cons_of_mem _ (List.mem_cons_of_mem _ (List.mem_append_right _ hq)))
have hp:ZfE σ (ZdV ν r ++ [[.ptr 1001 (ν 1001) 0]])=some (ZdV ν' r ++ [[.ptr 1001 (ν' 1001) 0]]):=ZaY (Zli hl) (by simp only [ZfE,rnL,rn1,h2,Option.map_some])
have he:=ZaC (Znw (NT:=NT) (AT:=AT) (σ:=σ) (b:=1001) (ν:=ν) (ν':=ν') (e:=e) fun q hq=>h q (List.mem_cons_of_mem _ (List.mem_cons_of_mem _ (List.mem_append_left _ hq)))) (Zlh hl)
simp only [stO,Za6,rnO,rnL,rn1,h0,h1,Option.map_some,hp,he]}
theorem ZkL {f:FuncId} {es:Array Operand} {ts:Array TypeId} {args:List PV} {e:El} {r:List El} {p p2:PV} {X X2:List (Nat×Gen×VObj)} {ob2:List (Nat×Option (Gen×VObj))} (lits:List (Nat×Option (Gen×VObj))) (ν:Nat->Gen)
  (hc:ContractG P f (.ptr 0 (0,0) 0::args) (objs (stO NT AT ET νa e r)) p X) (hob:ob=lits++somes (stO NT AT ET ν e r)) (hl:(lits.all fun q=>!Zbn q.1)=true)
  (hw:Zf ops (mkS tm ob ng) ⟨d,.call ⟨.value (.func f),es,ts⟩,ty,pos,after,gd⟩=some true) (he:es.toList.map (evL tm) = .ptr 0 (ν 0) 0::args) (ha:rnA (σ0 (κp id) (γp ν ν)) args=some args) (hp:rnP (σ1 (Znm (objs (stO NT AT ET νa e r))) (κp id) (γp ν ν) id ng i) p=some p2)
  (hX:Za6 (σ1 (Znm (objs (stO NT AT ET νa e r))) (κp id) (γp ν ν) id ng i) X=some X2) (hXn:(X.map (·.1)).Nodup) (h2:∀ t,Zm ((usG (κp id) (objs (stO NT AT ET νa e r)) X2).reverse++ob) t=Zm ob2 t)
  (k:GoL P ops draw (i+1) L (acc ++ [(ZA (mkS tm ob ng) ⟨d,.call ⟨.value (.func f),es,ts⟩,ty,pos,after,gd⟩,(usG (κp id) (objs (stO NT AT ET νa e r)) X2).map (·.1))]) (mkS (ZaW d p2 tm) ob2 ng) K) :
  GoL P ops draw i (⟨d,.call ⟨.value (.func f),es,ts⟩,ty,pos,after,gd⟩::L) acc (mkS tm ob ng) K:=by{
have hHas:Has ob (stO NT AT ET ν e r):=by rw [hob];exact Zbg hl
have par1:∀ {q:Nat×Gen×VObj} {ν:Nat->Gen} {e:El} {r:List El},q ∈ stO NT AT ET ν e r->Zbn q.1=true:=fun h=>ZdI (by have:=(ZdW h).1;omega)
have hσ0:∀ k,k=0\/1000<=k->σ0 (κp id) (γp ν ν) (νa k)=some (k,ν k):=fun k hk=>by simp [σ0,νa,κp,γp,ZdI hk]
have hpre:ZpS (σ0 (κp id) (γp ν ν)) (κp id) (γp ν ν) (Zm ob) (objs (stO NT AT ET νa e r)):=ZlT (ZkN hσ0 e r) hHas fun q hq=>by
 rw [(ZdW hq).2]
 simp only [σ0,νa,if_true]
have hinj:((objs (stO NT AT ET νa e r)).map fun q=>κp id q.1).Nodup:=by
 have e1:(objs (stO NT AT ET νa e r)).map (fun q=>κp id q.1)=(stO NT AT ET νa e r).map (·.1):=by
  unfold objs
  rw [List.map_map]
  refine List.map_congr_left fun q hq=>?_
  simp [κp]
 rw [e1]
 exact ZaV _ _ _
refine Zn1 (Znm (objs (stO NT AT ET νa e r))) (κp id) (γp ν ν) id hc hw ?_ hpre hinj (fun k hk=>?_) (fun t o' hm=>?_) hp hX hXn rfl ?_
rw [he]
show (match rnP _ (.ptr 0 (0,0) 0),rnA _ args with | some q,some qs=>some (q::qs) | _,_=>none)=_
rw [ha]
rfl
obtain ⟨q,hq,e2⟩:=List.any_eq_true.1 hk
simp only [beq_iff_eq] at e2
subst e2
exact ⟨q.2,hq⟩
obtain ⟨g,hg⟩:=Zgu hm
have hm2:t ∈ (stO NT AT ET ν e r).map (·.1):=by
 rw [Zfh ν νa]
 exact List.mem_map.2 ⟨_,hg,rfl⟩
obtain ⟨⟨t2,g2,o2⟩,hq,e2⟩:=List.mem_map.1 hm2
change t2=t at e2
subst e2
have hk:κp id t2=t2:=by simp [κp]
rw [hk]
have hpm:PV.ptr 0 (ν 0) 0 ∈ es.toList.map (evL tm):=by rw [he];exact List.mem_cons_self ..
obtain ⟨o,ho,e3⟩:=List.mem_map.1 hpm
unfold ZA
rw [if_neg (by simp [quiet])]
refine List.mem_flatMap.2 ⟨o,?_,?_⟩
rw [Zgs rfl]
simp [Op.operands,Call.operands]
exact .inr (by simpa using ho)
rw [ZR,e3]
exact ZoO hHas hq
have e1:mkS (ZaW d p2 tm) ((usG (κp id) (objs (stO NT AT ET νa e r)) X2).reverse++ob) ng=mkS (ZaW d p2 tm) ob2 ng:=Zgd h2
rw [e1]
exact k}
omit [WInv P] in
theorem ZvR {e:El} {r:List El} {q:Nat×Gen×VObj} (h:q ∈ stO NT AT ET νa e r):Znm (objs (stO NT AT ET νa e r)) q.1=true:=List.any_eq_true.2 ⟨(q.1,q.2.2),List.mem_map.2 ⟨q,h,rfl⟩,by simp⟩
omit [WInv P] in
theorem Zqq (ν:Nat->Gen) (ng i:Nat) (e:El) (r:List El):∀ q ∈ stO NT AT ET νa e r,σ1 (Znm (objs (stO NT AT ET νa e r))) (κp id) (γp ν ν) id ng i (νa q.1)=some (q.1,ν q.1):=fun q hq=>by
 have:=ZvR hq
 simp only [σ1,νa,this,if_true]
 simp [κp,γp]
theorem Zai {f:FuncId} {es:Array Operand} {ts:Array TypeId} {args:List PV} {e:El} {r:List El} {p p2:PV} (lits:List (Nat×Option (Gen×VObj))) (ν:Nat->Gen)
  (hc:ContractG P f (.ptr 0 (0,0) 0::args) (objs (stO NT AT ET νa e r)) p (stO NT AT ET νa e r)) (hob:ob=lits++somes (stO NT AT ET ν e r)) (hl:(lits.all fun q=>!Zbn q.1)=true)
  (hw:Zf ops (mkS tm ob ng) ⟨d,.call ⟨.value (.func f),es,ts⟩,ty,pos,after,gd⟩=some true) (he:es.toList.map (evL tm) = .ptr 0 (ν 0) 0::args) (ha:rnA (σ0 (κp id) (γp ν ν)) args=some args) (hp:rnP (σ1 (Znm (objs (stO NT AT ET νa e r))) (κp id) (γp ν ν) id ng i) p=some p2)
  (k:GoL P ops draw (i+1) L (acc ++ [(ZA (mkS tm ob ng) ⟨d,.call ⟨.value (.func f),es,ts⟩,ty,pos,after,gd⟩,(usG (κp id) (objs (stO NT AT ET νa e r)) (stO NT AT ET ν e r)).map (·.1))]) (mkS (ZaW d p2 tm) ob ng) K) :
  GoL P ops draw i (⟨d,.call ⟨.value (.func f),es,ts⟩,ty,pos,after,gd⟩::L) acc (mkS tm ob ng) K:=by{
have hHas:Has ob (stO NT AT ET ν e r):=by rw [hob];exact Zbg hl
refine ZkL lits ν hc hob hl hw he ha hp (ZuI (Zqq ν ng i e r)) (ZaV _ _ _) (fun t=>?_) k
rw [Zi4 (ZaV _ _ _)]
by_cases h1:∃ q ∈ stO NT AT ET ν e r,q.1=t
rw [if_pos h1]
obtain ⟨⟨t',g,o⟩,hq,rfl⟩:=h1
have w:=ZbR [] (ZaV ν e r) hq
rw [List.append_nil] at w
rw [w]
exact (hHas _ _ _ hq).symm
rw [if_neg h1,if_neg fun ⟨q,hq,e3⟩=>h1 (by
 obtain ⟨g,hg⟩:=Zgu (l:=stO NT AT ET νa e r) (t:=q.1) (o:=q.2) hq
 have hm2:q.1 ∈ (stO NT AT ET ν e r).map (·.1):=by
  rw [Zfh ν νa]
  exact List.mem_map.2 ⟨_,hg,rfl⟩
 obtain ⟨q2,hq2,e4⟩:=List.mem_map.1 hm2
 have hk:κp id q.1=q.1:=by simp [κp]
 exact ⟨q2,hq2,by rw [e4,<- hk];exact e3⟩)]}
theorem Zjr {x:Operand} (hw:Zf ops (mkS tm ob ng) ⟨d,.nilCheck x,ty,pos,after,gd⟩=some true) {t q k off:Nat} {g:Gen} (hx:evL tm x = .elp t g q k off)
  (kk:GoL P ops draw (i+1) L (acc ++ [(ZA (mkS tm ob ng) ⟨d,.nilCheck x,ty,pos,after,gd⟩,[])]) (mkS (ZaW d (.elp t g q k off) tm) ob ng) K):GoL P ops draw i (⟨d,.nilCheck x,ty,pos,after,gd⟩::L) acc (mkS tm ob ng) K:=
 ZbZ (us:=[]) hw (.fn (by simp only [act,ZR,hx])) kk
theorem ZbW {x y:Operand} {T:TypeId} {agg:Bool} {n:Nat} [Ld P T agg n] (hw:Zf ops (mkS tm ob ng) ⟨d,.store T x y,ty,pos,after,gd⟩=some true) {t:Nat} {g:Gen} {E q kk off:Nat} {els els':List (List PV)} {e:List PV} {p:PV} {ps qs:List PV} {us:List (Nat×Option (Gen×VObj))}
  (hx:evL tm x = .elp t g q kk off) (hb:ZX (Zm ob) t g=some (.row E kk false els)) (he:els[q]? = some e) (hy:evL tm y=p) (hps:p.cells=ps) (hl:ps.length=n) (hr:ZdJ (Zm ob) ps=some (qs,us)) (hf:off+n<=kk) (hus:us.all (fun q=>q.1 != t)=true) (hs:els.set q (Zas e off qs)=els')
  (k:GoL P ops draw (i+1) L (acc ++ [(ZA (mkS tm ob ng) ⟨d,.store T x y,ty,pos,after,gd⟩,(us ++ [(t,some (g,VObj.row E kk false els'))]).map (·.1))]) (mkS (ZaW d .un tm) ((t,some (g,VObj.row E kk false els'))::(us.reverse++ob)) ng) K) :
  GoL P ops draw i (⟨d,.store T x y,ty,pos,after,gd⟩::L) acc (mkS tm ob ng) K:=by
 subst hs
 refine Zkb hw hx hb he hy hps hl hr hf hus ?_
 simpa using k
theorem Zgj {x:Operand} {T:TypeId} {agg:Bool} {n:Nat} [h:Ld P T agg n] (hw:Zf ops (mkS tm ob ng) ⟨d,.load T x,ty,pos,after,gd⟩=some true) {els:List (List PV)} {e:List PV} {q t:Nat} {g:Gen} {E kk off:Nat} {sh:Bool} {v:PV} (hx:evL tm x = .elp t g q kk off) (hb:ZX (Zm ob) t g=some (.row E kk sh els)) (he:els[q]? = some e) (hv:Zne agg n (e.drop off)=some v)
  (k:GoL P ops draw (i+1) L (acc ++ [(ZA (mkS tm ob ng) ⟨d,.load T x,ty,pos,after,gd⟩,[])]) (mkS (ZaW d v tm) ob ng) K):GoL P ops draw i (⟨d,.load T x,ty,pos,after,gd⟩::L) acc (mkS tm ob ng) K:=by
 refine ZH (cs:=e.drop off) hw ?_ hv k
 rw [hx]
 simp only [ZeZ,hb,if_true,he,Option.map_some]
omit [WInv P] in
theorem Zeh {ex:Ex} (hex:ex = .ret\/ex = .normal) (n0 n1:Gen) (μ ν:Nat->Gen) {e0 e':El} {r:List El} (A:List (Nat×Option (Gen×VObj))) (tm':List (Nat×PV)) {rs:List ResultVar} {res:PV} {ps:List PV} (hob:ob=A++somes (stO NT AT ET ν e0 r)) (hA:(A.all fun q=>decide (q.1<2000))=true) (h1:Zf7 (σf (topf n0 n1 μ ν)) tm tm')
  (a0:Zm ob 0=some (n0,.box [.row 1000 n1])) (a1:Zm ob 1000=some (n1,.prow ET 1 (ZdV ν r ++ [[.ptr 1001 (μ 1001) 0]]))) (a2:Has ob (elO NT AT 1001 μ e')) (h2:Zcr P (mkS tm' (somes (stO NT AT ET νb e' r)) 2) rs=some ps) (h3:Zcs ps=res) (h00:n0=(0,0):=by rfl) :
  Zsc P rs res (stO NT AT ET νb e' r) ex (mkS tm ob ng):=by{
have hs:Shift (mkS tm ob ng) (mkS tm' (somes (stO NT AT ET νb e' r)) 2):=ZrN n0 n1 μ ν tm' h1 a0 a1 a2 (by rw [hob];exact Zdo hA) h00
have hH:Has (somes (stO NT AT ET νb e' r)) (stO NT AT ET νb e' r):=Zbg (lits:=[]) rfl
rcases hex with rfl | rfl
exact ZhE hs h2 h3 hH
exact Zkd hs h2 h3 hH}
theorem Zb7 {α:Type} (l:List α) (a b:α):(l ++ [a]).set l.length b=l ++ [b]:=by
 rw [List.set_append_right _ _ (Nat.le_refl _),Nat.sub_self]
 rfl
theorem Zbt {α:Type} (l:List α) (a:α):(l ++ [a])[l.length]? = some a:=by
 rw [List.getElem?_append_right (Nat.le_refl _),Nat.sub_self]
 rfl
end
end VL
end Go.Proofs.YtpffimahajgiaaaGreatDoor
namespace Go.Proofs.YtpffimahajgiaaaGreatDoor
namespace VL
section
variable {P:Program} {NT AT ET:Nat} {tm:List (Nat×PV)} {ob:List (Nat×Option (Gen×VObj))} {ng:Nat}
theorem ZdZ {ex:Ex} {rs:List ResultVar} {res:PV} {obs':List (Nat×Gen×VObj)} {s s1:FS} (h:Shift s s1) (k:Zsc P rs res obs' ex s1):Zsc P rs res obs' ex s:=by{
cases ex with
| exit id=>exact k
| normal=>obtain ⟨s2,h2,q⟩:=k;exact ⟨s2,h.trans h2,q⟩
| ret=>obtain ⟨s2,h2,q⟩:=k;exact ⟨s2,h.trans h2,q⟩}
theorem Ztc (ν:Nat->Gen) (r:List El) (p:List PV):(ZdV ν r ++ [p]).take r.length=ZdV ν r:=by
 have:=List.take_left (l₁:=ZdV ν r) (l₂:=[p])
 rwa [Zhl] at this
def Znn (NT AT ET:Nat) (ν:Nat->Gen) (n1:Gen) (e e2:El) (r:List El):List (Nat×Gen×VObj):=(0,ν 0,.box [.row 1000 n1])::(1000,n1,.prow ET 1 (ZdV ν (e2::r)))::(elO NT AT 1001 ν e++ZfC NT AT ν (e2::r))
theorem ZjN (ν:Nat->Gen) (n1:Gen) (e e2:El) (r:List El):(Znn NT AT ET ν n1 e e2 r).map (·.1)=(stO NT AT ET ν e (e2::r)).map (·.1):=rfl
theorem Ztd (n1:Gen) {e e2:El} {r:List El} (A:List (Nat×Option (Gen×VObj))) (tm':List (Nat×PV)) {rs:List ResultVar} {res:PV} {ps:List PV} (hob:ob=A++somes (stO NT AT ET νa e (e2::r))) (hA:(A.all fun q=>decide (q.1<=1000))=true)
  (h1:Zf7 (σf fun _=>(1000,n1)) tm tm') (a0:Zm ob 0=some ((0,0),.box [.row 1000 n1])) (a1:Zm ob 1000=some (n1,.prow ET 1 (ZdV νa (e2::r)))) (h2:Zcr P (mkS tm' (somes (Znn NT AT ET νa (1,1000) e e2 r)) 2) rs=some ps) (h3:Zcs ps=res) :
  Zsc P rs res (Znn NT AT ET νa (1,1000) e e2 r) .ret (mkS tm ob ng):=by{
have hA1:(A.all fun q=>decide (q.1<2000))=true:=List.all_eq_true.2 fun q hq=>by
 have:=List.all_eq_true.1 hA q hq
 simp only [decide_eq_true_eq] at this ⊢
 omega
have hA2:(A.all fun q=>decide (q.1<=1000)||decide (1005<=q.1))=true:=List.all_eq_true.2 fun q hq=>by
 have:=List.all_eq_true.1 hA q hq
 simp only [decide_eq_true_eq] at this
 simp [this]
have k0:∀ k,σf (fun _=>(1000,n1)) (νa k)=some (k,νa k):=fun k=>rfl
have hp:=ZhV (σ:=σf fun _=>(1000,n1)) (ν:=νa) (ν':=νa) (fun k _=>k0 k) (e2::r)
have he:=ZaC (Zhm (NT:=NT) (AT:=AT) (b:=1001) (b':=1001) (ν':=νa) (fun j _=>k0 _) e) (ZhU (NT:=NT) (AT:=AT) (fun k _=>k0 k) (e2::r))
have hx:Za6 (σf fun _=>(1000,n1)) (Znn NT AT ET νa (1,1000) e e2 r)=some (Znn NT AT ET νa n1 e e2 r):=by
 have e0:σf (fun _=>(1000,n1)) (νa 0)=some (0,νa 0):=rfl
 have e1:σf (fun _=>(1000,n1)) (1,1000)=some (1000,n1):=rfl
 simp only [Znn,Za6,rnO,rnL,rn1,e0,e1,Option.map_some,hp,he]
have hn:∀ n1,((Znn NT AT ET νa n1 e e2 r).map (·.1)).Nodup:=fun n1=>by rw [ZjN];exact ZaV _ _ _
refine ZhE (ZfA _ h1 hx (Zo a0 (Zo a1 (Zkc (by rw [hob];exact Zuc hA2) (by rw [hob];exact Zdo hA1)))) (hn _)) h2 h3 fun t g o hm=>?_
have:=ZbR [] (hn (1,1000)) hm
rwa [List.append_nil] at this}
theorem Zq0 {ν:Nat->Gen} {e:El} {r:List El} {lits:List (Nat×Option (Gen×VObj))} (h:(lits.all fun q=>!Zbn q.1)=true):mkS tm (somes (stO NT AT ET ν e r)++lits) ng=mkS tm (lits++somes (stO NT AT ET ν e r)) ng:=Zgd fun t=>by
 by_cases ht:∃ q ∈ stO NT AT ET ν e r,q.1=t
 ·obtain ⟨⟨t',g,o⟩,hq,rfl⟩:=ht
  rw [ZbR _ (ZaV ν e r) hq]
  exact (Zbg h _ _ _ hq).symm
 ·have e1:∀ b,Zm (somes (stO NT AT ET ν e r)++b) t=Zm b t:=fun b=>Zca _ _ _ fun q hq hqt=>by
   obtain ⟨g,o,h,_⟩:=Zgm hq
   exact ht ⟨_,h,hqt⟩
  have e2:Zm (somes (stO NT AT ET ν e r)) t=none:=by
   have:=e1 []
   rwa [List.append_nil] at this
  rw [e1]
  have:∀ (l:List (Nat×Option (Gen×VObj))),Zm l t=Zm (l++somes (stO NT AT ET ν e r)) t:=fun l=>by
   induction l with
   | nil=>exact e2.symm
   | cons q l ih=>
     show (if t=q.1 then q.2 else Zm l t)=if t=q.1 then q.2 else Zm (l++somes (stO NT AT ET ν e r)) t
     rw [ih]
  exact this lits
theorem Zq1 {ex:Ex} (hex:ex = .ret\/ex = .normal) (n0 n1 m1 m2 m3:Gen) (k1 k2 k3:Nat) (ν:Nat->Gen) {e:El} {r:List El} {kind tag count:Int} {list:List (List PV)} (A:List (Nat×Option (Gen×VObj))) (tm':List (Nat×PV)) {rs:List ResultVar} {res:PV} {ps:List PV} (hob:ob=A++somes (stO NT AT ET ν e r)) (hA:(A.all fun q=>decide (q.1<=1000))=true)
  (h1:Zf7 (σf (pushf n0 n1 m1 m2 m3 k1 k2 k3 ν (Zbm r))) tm tm') (a0:Zm ob 0=some (n0,.box [.row 1000 n1])) (a1:Zm ob 1000=some (n1,.prow ET 1 (ZdV ν r ++ [[.ptr 1001 (ν 1001) 0]] ++ [[.ptr k1 m1 0]])))
  (b1:Zm ob k1=some (m1,.box [.int .i64 kind,.int .i64 tag,.int .i64 count,.row k2 m2,.row k3 m3])) (b2:Zm ob k2=some (m2,.row NT 5 false list)) (b3:Zm ob k3=some (m3,.prow AT 3 [])) (hk:(decide ([k1,k2,k3].Nodup) && [k1,k2,k3].all fun k=>!Zbn k)=true)
  (h2:Zcr P (mkS tm' (somes (stO NT AT ET νb ⟨kind,tag,count,list,none⟩ (e::r))) 2) rs=some ps) (h3:Zcs ps=res) (h00:n0=(0,0):=by rfl):Zsc P rs res (stO NT AT ET νb ⟨kind,tag,count,list,none⟩ (e::r)) ex (mkS tm ob ng):=by{
have hA1:(A.all fun q=>decide (q.1<2000))=true:=List.all_eq_true.2 fun q hq=>by
 have:=List.all_eq_true.1 hA q hq
 simp only [decide_eq_true_eq] at this ⊢
 omega
have hA2:(A.all fun q=>decide (q.1<=1000)||decide (1005<=q.1))=true:=List.all_eq_true.2 fun q hq=>by
 have:=List.all_eq_true.1 hA q hq
 simp only [decide_eq_true_eq] at this
 simp [this]
have hs:Shift (mkS tm ob ng) (mkS tm' (somes (stO NT AT ET νb ⟨kind,tag,count,list,none⟩ (e::r))) 2):=ZpJ n0 n1 m1 m2 m3 k1 k2 k3 ν tm' h1 a0 a1 b1 b2 b3 hk (by rw [hob];exact Zuc hA2) (by rw [hob];exact Zdo hA1) h00
have hH:Has (somes (stO NT AT ET νb ⟨kind,tag,count,list,none⟩ (e::r))) (stO NT AT ET νb ⟨kind,tag,count,list,none⟩ (e::r)):=Zbg (lits:=[]) rfl
rcases hex with rfl | rfl
exact ZhE hs h2 h3 hH
exact Zkd hs h2 h3 hH}
end
end VL
end Go.Proofs.YtpffimahajgiaaaGreatDoor
namespace Go.Proofs.YtpffimahajgiaaaGreatDoor
open VL
abbrev stP (ν:Nat->Gen) (e:El) (r:List El):List (Nat×Gen×VObj):=stO 166 170 154 ν e r
abbrev elP (b:Nat) (ν:Nat->Gen) (e:El):List (Nat×Gen×VObj):=elO 166 170 b ν e
abbrev PC (f:FuncId) (args:List PV) (e:El) (r:List El) (res:PV) (e':El) (r':List El):Prop:=Zw1 166 170 154 Tryz.prog f args e r res e' r'
set_option maxRecDepth 100000 in
theorem ZdP (e:El) (r:List El) (hr:r.length<=1000):ContractG Tryz.prog 88 [.ptr 0 (0,0) 0] (objs (stP νa e r)) (.ptr 1001 (0,1001) 0) (stP νa e r):=by{
refine ZG mix Tryz.func88 (by kernel_rfl) rfl (by kernel_rfl) ?_
rw [Zcd]
repeat (first | (refine Zbf rfl rfl (Zb9 _ _ _) ?_) | (refine ZgE rfl rfl rfl (by omega) ?_) | (refine ZeN rfl rfl rfl rfl (by rw [Zb9];omega) ?_) | (refine ZcP rfl rfl rfl (Znz _ _ _) rfl ?_) | refine ZhZ ?_)
exact ZhE (Shift.refl _) rfl rfl (Zbg (lits:=[]) rfl)}
abbrev ZwZ (f:FuncId) (e:El) (p:PV):Prop:=ContractG Tryz.prog f [.ptr 0 (0,0) 0] (objs (elP 0 νa e)) p (elP 0 νa e)
theorem ZeQ (b:Nat) (ν:Nat->Gen) (pre:List Arg) (a:Arg):(ZgB b ν (some (pre,a))).length=pre.length+1:=by simp [ZgB]
theorem Za2 (b:Nat) (ν:Nat->Gen) (pre:List Arg) (a:Arg):(ZgB b ν (some (pre,a)))[pre.length]? = some [.bool a.named,.sl a.name,.row (b+3) (ν (b+3))]:=by simp [ZgB]
theorem Zgt (b:Nat) (ν:Nat->Gen) (pre:List Arg) (a:Arg) (x:List PV):(ZgB b ν (some (pre,a))).set pre.length x=pre.map Arg.cs ++ [x]:=by
 have:=Zb7 (pre.map Arg.cs) [.bool a.named,.sl a.name,.row (b+3) (ν (b+3))] x
 rwa [List.length_map] at this
theorem ZoN {e:El} {rs:List ResultVar} {res:PV} {ps:List PV} {tm:List (Nat×PV)} {ng:Nat} (h2:Zcr Tryz.prog (mkS tm (obG (objs (elP 0 νa e))) ng) rs=some ps) (h3:Zcs ps=res) :
  Zsc Tryz.prog rs res (elP 0 νa e) .ret (mkS tm (obG (objs (elP 0 νa e))) ng):=by{
have ho:obG (objs (elP 0 νa e))=somes (elP 0 νa e):=by
 unfold obG objs somes
 rw [List.map_map]
 refine List.map_congr_left fun q hq=>?_
 have:=(Zdr hq).2.2
 simp only [Function.comp]
 rw [show ((0,q.1):Gen)=q.2.1 from this.symm]
refine ZhE (Shift.refl _) h2 h3 fun t g o hm=>?_
rw [ho]
have:=ZbR [] (Zek (NT:=166) (AT:=170) 0 νa e) hm
rwa [List.append_nil] at this}
set_option maxRecDepth 100000 in
theorem ZbO (e:El) (h:e.kind≠3\/e.args=none) (hn:∀ q,e.args=some q->q.1.length<=1000000):ZwZ 192 e (.ptr 0 (0,0) 3):=by{
obtain ⟨kind,tag,count,list,args⟩:=e
refine ZG mix Tryz.func192 (by kernel_rfl) rfl (by kernel_rfl) ?_
by_cases hk:kind=3
·obtain rfl:args=none:=h.resolve_left (fun h=>h hk)
 subst hk
 repeat (first | (refine Zbf (n:=0) rfl rfl rfl ?_) | (refine Zj rfl rfl ?_) | refine ZhZ ?_)
 exact ZoN rfl rfl
·cases args with
 | none=>
   repeat (first | (refine Zbf (n:=0) rfl rfl rfl ?_) | refine ZhZ ?_)
   rw [decide_eq_false hk]
   repeat (first | (refine ZE rfl ?_) | (refine Zj rfl rfl ?_) | refine ZhZ ?_)
   exact ZoN rfl rfl
 | some q=>
   obtain ⟨pre,a⟩:=q
   repeat (first | (refine Zbf rfl rfl (ZeQ ..) ?_) | refine ZhZ ?_)
   rw [decide_eq_false hk]
   repeat (first | (refine ZE rfl ?_) | (refine Zj rfl rfl ?_) | refine ZhZ ?_)
   exact ZoN rfl rfl}
set_option maxRecDepth 100000 in
theorem Zfz (tag count:Int) (list:List (List PV)) (pre:List Arg) (a:Arg) (hn:pre.length<=1000000):ZwZ 192 ⟨3,tag,count,list,some (pre,a)⟩ (.elp 2 (0,2) pre.length 3 2):=by{
refine ZG mix Tryz.func192 (by kernel_rfl) rfl (by kernel_rfl) ?_
repeat (first | (refine Zbf rfl rfl (ZeQ ..) ?_) | refine ZhZ ?_)
have h0:decide ((0:Int)<((pre.length+1:Nat):Int))=true:=decide_eq_true (by omega)
rw [h0]
repeat (first | (refine ZgE rfl rfl rfl (by omega) ?_) | (refine Zs rfl rfl ?_) | (refine ZeN rfl rfl rfl rfl (by rw [ZeQ];omega) ?_) | refine ZhZ ?_)
exact ZoN rfl rfl}
def Zuz:List PV->Option Node | [.int .i64 k,.int .i64 t,.str s,.sl a,.sl b]=>some ⟨k,t,s,a,b⟩ | _=>none
theorem Zmo {e:List PV} {n:Node} (h:Zuz e=some n):e=n.cs:=by{
unfold Zuz at h
split at h
injection h with h
subst h
rfl
cases h}
def VL.El.cur (e:El):List (List PV):=match e.args with | some (_,a)=>if e.kind=3 then a.value else e.list | none=>e.list
def VL.El.setCur (e:El) (l:List (List PV)):El:=match e.args with | some (pre,a)=>if e.kind=3 then ⟨e.kind,e.tag,e.count,e.list,some (pre,⟨a.named,a.name,l⟩)⟩ else ⟨e.kind,e.tag,e.count,l,e.args⟩ | none=>⟨e.kind,e.tag,e.count,l,none⟩
def Zjp (l:List (List PV)) (n:Node):Option (List (List PV)):=ZeI 80 l [n.cs]
def Zmp (l:List (List PV)) (s:ByteArray):Option (List (List PV)):=match l.getLast? with | none=>Zjp l ⟨1,0,s,[],[]⟩ | some e=>(Zuz e).bind fun n=>if n.kind=1 then (Zbs n.text s).map fun y=>l.dropLast ++ [Node.cs ⟨1,n.tag,y,n.kids,n.args⟩] else Zjp l ⟨1,0,s,[],[]⟩
theorem Zfn {l l':List (List PV)} {s:ByteArray} (h:Zmp l s=some l'):(l = []/\Zjp l ⟨1,0,s,[],[]⟩=some l')\/∃ init n,l=init ++ [Node.cs n]/\((n.kind=1/\∃ y,Zbs n.text s=some y/\l'=init ++ [Node.cs ⟨1,n.tag,y,n.kids,n.args⟩])\/(n.kind≠1/\Zjp l ⟨1,0,s,[],[]⟩=some l')):=by{
unfold Zmp at h
split at h
rename_i hl
exact .inl ⟨List.getLast?_eq_none_iff.1 hl,h⟩
rename_i e hl
obtain ⟨n,hn,h⟩:=Option.bind_eq_some_iff.1 h
obtain ⟨init,rfl⟩:=List.getLast?_eq_some_iff.1 hl
refine .inr ⟨init,n,by rw [Zmo hn],?_⟩
split at h
rename_i hk
obtain ⟨y,hy,rfl⟩:=Option.map_eq_some_iff.1 h
exact .inl ⟨hk,y,hy,by rw [List.dropLast_concat]⟩
rename_i hk
exact .inr ⟨hk,h⟩}
def small (e:El) (r:List El):Prop:=r.length<=1000/\∀ q,e.args=some q->q.1.length<=1000000
def ZgA (e:El) (n:Node):Option El:=(Zjp e.cur n).map e.setCur
def ZbF (e:El) (s:ByteArray):Option El:=if s=⟨#[]⟩ then some e else (Zmp e.cur s).map e.setCur
set_option maxRecDepth 100000 in
theorem Zmq (e:El) (r:List El) (n:Node) (hs:small e r) (l':List (List PV)) (h:e.kind≠3\/e.args=none) (hR:Zjp e.list n=some l'):PC 133 [.agg n.cs] e r (.tup []) ⟨e.kind,e.tag,e.count,l',e.args⟩ r:=by{
refine ZG mix Tryz.func133 (by kernel_rfl) rfl (by kernel_rfl) ?_
rw [Zcd]
obtain ⟨h1,h2,rfl⟩:=ZcO hR
obtain ⟨kind,tag,count,list,args⟩:=e
rcases args with _ | ⟨pre,a⟩
·repeat (first | (refine Zai [_] νa (ZdP _ r hs.1) rfl rfl rfl rfl rfl rfl ?_) | (refine ZbV [_] νa (ZbO _ h hs.2) rfl rfl rfl rfl rfl ?_) | (refine Zbj rfl rfl rfl rfl h1 h2 (by rfl) ?_) | (refine Zaz (n:=list.length) rfl rfl rfl rfl (by simp) ?_) | (refine ZbW rfl rfl rfl (Zbt _ _) rfl rfl rfl rfl (Nat.le_of_ble_eq_true rfl) rfl (Zb7 _ _ _) ?_) | refine Zq rfl (by (conv=>lhs;whnf);try rfl) ?_ | refine ZH rfl rfl rfl ?_ | refine Zr rfl (by (conv=>lhs;whnf);try rfl) ?_ | refine ZaK rfl rfl ?_ | refine ZhB rfl rfl ?_ | refine ZkC rfl (by (conv=>lhs;whnf);try rfl) (by (conv=>lhs;whnf);try rfl) (by rfl) ?_ | refine ZaN rfl rfl rfl (by (conv=>lhs;whnf);try rfl) (by (conv=>lhs;whnf);try rfl) (by rfl) (by rfl) (Nat.le_of_ble_eq_true rfl) (by (conv=>lhs;whnf);try rfl) ?_ | refine Zam rfl rfl rfl (by rfl) (by decide) (by (conv=>lhs;whnf);try rfl) ?_ | refine Zd ?_ | refine Zco (by kernel_rfl) ?_ | refine Zk ?_ | refine Za ?_ | refine ZD ?_)
 exact Zeh (.inr rfl) (0,0) (0,1000) (fun k=>if k=1002 then (3,6) else νa k) νa [_,_,_,_,_] [] rfl rfl trivial rfl rfl (Zo rfl (Zo rfl (Zo rfl (Zab _)))) rfl rfl
·repeat (first | (refine Zai [_] νa (ZdP _ r hs.1) rfl rfl rfl rfl rfl rfl ?_) | (refine ZbV [_] νa (ZbO _ h hs.2) rfl rfl rfl rfl rfl ?_) | (refine Zbj rfl rfl rfl rfl h1 h2 (by rfl) ?_) | (refine Zaz (n:=list.length) rfl rfl rfl rfl (by simp) ?_) | (refine ZbW rfl rfl rfl (Zbt _ _) rfl rfl rfl rfl (Nat.le_of_ble_eq_true rfl) rfl (Zb7 _ _ _) ?_) | refine Zq rfl (by (conv=>lhs;whnf);try rfl) ?_ | refine ZH rfl rfl rfl ?_ | refine Zr rfl (by (conv=>lhs;whnf);try rfl) ?_ | refine ZaK rfl rfl ?_ | refine ZhB rfl rfl ?_ | refine ZkC rfl (by (conv=>lhs;whnf);try rfl) (by (conv=>lhs;whnf);try rfl) (by rfl) ?_ | refine ZaN rfl rfl rfl (by (conv=>lhs;whnf);try rfl) (by (conv=>lhs;whnf);try rfl) (by rfl) (by rfl) (Nat.le_of_ble_eq_true rfl) (by (conv=>lhs;whnf);try rfl) ?_ | refine Zam rfl rfl rfl (by rfl) (by decide) (by (conv=>lhs;whnf);try rfl) ?_ | refine Zd ?_ | refine Zco (by kernel_rfl) ?_ | refine Zk ?_ | refine Za ?_ | refine ZD ?_)
 exact Zeh (.inr rfl) (0,0) (0,1000) (fun k=>if k=1002 then (3,6) else νa k) νa [_,_,_,_,_] [] rfl rfl trivial rfl rfl (Zo rfl (Zo rfl (Zo rfl (Zo rfl (Zab _))))) rfl rfl}
set_option maxRecDepth 100000 in
theorem Zsx (tag count:Int) (list:List (List PV)) (pre:List Arg) (a:Arg) (r:List El) (n:Node) (hs:small ⟨3,tag,count,list,some (pre,a)⟩ r) (l':List (List PV)) (hR:Zjp a.value n=some l') :
  PC 133 [.agg n.cs] ⟨3,tag,count,list,some (pre,a)⟩ r (.tup []) ⟨3,tag,count,list,some (pre,⟨a.named,a.name,l'⟩)⟩ r:=by{
refine ZG mix Tryz.func133 (by kernel_rfl) rfl (by kernel_rfl) ?_
rw [Zcd]
obtain ⟨h1,h2,rfl⟩:=ZcO hR
repeat (first | (refine Zai [_] νa (ZdP _ r hs.1) rfl rfl rfl rfl rfl rfl ?_) | (refine ZbV [_] νa (Zfz _ _ _ _ _ (hs.2 _ rfl)) rfl rfl rfl rfl rfl ?_) | (refine Zjr rfl rfl ?_) | (refine ZcP rfl rfl rfl (Za2 _ _ _ _) rfl ?_) | (refine Zbj rfl rfl rfl rfl h1 h2 (by rfl) ?_) | (refine Zaz (n:=a.value.length) rfl rfl rfl rfl (by simp) ?_) | (refine ZbW rfl rfl rfl (Zbt _ _) rfl rfl rfl rfl (Nat.le_of_ble_eq_true rfl) rfl (Zb7 _ _ _) ?_) | (refine ZiU rfl rfl rfl (Za2 _ _ _ _) rfl rfl rfl rfl (Nat.le_of_ble_eq_true rfl) (Zgt _ _ _ _ _) ?_) | refine Zq rfl (by (conv=>lhs;whnf);try rfl) ?_ | refine ZH rfl rfl rfl ?_ | refine Zr rfl (by (conv=>lhs;whnf);try rfl) ?_ | refine ZhB rfl rfl ?_ | refine ZkC rfl (by (conv=>lhs;whnf);try rfl) (by (conv=>lhs;whnf);try rfl) (by rfl) ?_ | refine Zam rfl rfl rfl (by rfl) (by decide) (by (conv=>lhs;whnf);try rfl) ?_ | refine Zd ?_ | refine Zco (by kernel_rfl) ?_ | refine Zk ?_ | refine Za ?_ | refine ZD ?_)
exact Zeh (.inr rfl) (0,0) (0,1000) (fun k=>if k=1004 then (3,6) else νa k) νa [_,_,_,_,_] [] rfl rfl trivial rfl rfl (Zo rfl (Zo rfl (Zo rfl (Zo rfl (Zab _))))) rfl rfl}
theorem ZcK {α:Type} (l:List α) (a:α):(l ++ [a]).length=l.length+1:=by simp
set_option maxRecDepth 100000 in
set_option maxHeartbeats 1000000 in
theorem Zqj (e:El) (r:List El):PC 132 [.str ⟨#[]⟩] e r (.tup []) e r:=by{
refine ZG mix Tryz.func132 (by kernel_rfl) rfl (by kernel_rfl) ?_
rw [Zcd]
repeat (first | (refine Zs rfl rfl ?_) | refine Zq rfl (by (conv=>lhs;whnf);try rfl) ?_ | refine ZiM rfl rfl rfl rfl (by (conv=>lhs;whnf);try rfl) ?_ | refine Zd ?_ | refine Zk ?_ | refine Za ?_ | refine Zbi ?_)
exact ZbA (.inl rfl) νa [] [] rfl rfl trivial rfl rfl}
set_option maxRecDepth 100000 in
set_option maxHeartbeats 1000000 in
theorem Zo1 (e:El) (r:List El) (s:ByteArray) (h0:s≠⟨#[]⟩) (hs:small e r) (l':List (List PV)) (ha:e.args=none) (h63:e.list.length<=9223372036854775807) (hR:Zmp e.list s=some l'):PC 132 [.str s] e r (.tup []) ⟨e.kind,e.tag,e.count,l',e.args⟩ r:=by{
refine ZG mix Tryz.func132 (by kernel_rfl) rfl (by kernel_rfl) ?_
rw [Zcd]
have h:e.kind≠3\/e.args=none:=.inr ha
obtain ⟨kind,tag,count,list,args⟩:=e
obtain rfl:args=none:=ha
simp only [] at h63
repeat (first | refine Zq rfl (by (conv=>lhs;whnf);try rfl) ?_ | refine ZiM rfl rfl rfl rfl (by (conv=>lhs;whnf);try rfl) ?_ | refine Zd ?_ | refine Zk ?_ | refine Za ?_)
rw [decide_eq_false h0]
rcases Zfn hR with ⟨hl,hR⟩ | ⟨init,n,hl,⟨hk,y,hy,rfl⟩ | ⟨hk,hR⟩⟩
·obtain ⟨h1,h2,rfl⟩:=ZcO hR
 dsimp only at hl
 subst hl
 repeat (first | (refine Zj rfl rfl ?_) | (refine Zai [] νa (ZdP _ r hs.1) rfl rfl rfl rfl rfl rfl ?_) | (refine ZbV [] νa (ZbO _ h hs.2) rfl rfl rfl rfl rfl ?_) | (refine Zbj rfl rfl rfl rfl h1 h2 (by rfl) ?_) | (refine Zaz (n:=List.length ([]:List (List PV))) rfl rfl rfl rfl (by simp) ?_) | (refine ZbW rfl rfl rfl (Zbt _ _) rfl rfl rfl rfl (Nat.le_of_ble_eq_true rfl) rfl (Zb7 _ _ _) ?_) | (refine ZE rfl ?_) | refine Zq rfl (by (conv=>lhs;whnf);try rfl) ?_ | refine ZH rfl rfl rfl ?_ | refine Zr rfl (by (conv=>lhs;whnf);try rfl) ?_ | refine Zae rfl rfl rfl rfl (by (conv=>lhs;whnf);try rfl) ?_ | refine ZaK rfl rfl ?_ | refine ZhB rfl rfl ?_ | refine ZaN rfl rfl rfl (by (conv=>lhs;whnf);try rfl) (by (conv=>lhs;whnf);try rfl) (by rfl) (by rfl) (Nat.le_of_ble_eq_true rfl) (by (conv=>lhs;whnf);try rfl) ?_ | refine Zby rfl rfl ?_ | refine Zam rfl rfl rfl (by rfl) (by decide) (by (conv=>lhs;whnf);try rfl) ?_ | refine Za3 rfl rfl (by (conv=>lhs;whnf);try rfl) ?_ | refine Zd ?_ | refine Zco (by kernel_rfl) ?_ | refine Zk ?_ | refine Za ?_ | refine ZF ?_ | refine ZD ?_)
 exact Zeh (.inr rfl) (0,0) (0,1000) (fun k=>if k=1002 then (5,7) else νa k) νa [_,_,_,_] [] rfl rfl trivial rfl rfl (Zo rfl (Zo rfl (Zo rfl (Zab _)))) rfl rfl
·dsimp only at hl
 subst hl
 rw [ZcK] at h63
 obtain ⟨k0,t0,s0,ks,ag⟩:=n
 dsimp only at hk hy
 subst hk
 repeat (first | (refine Zj rfl rfl ?_) | (refine Zai [] νa (ZdP _ r hs.1) rfl rfl rfl rfl rfl rfl ?_) | (refine ZbV [] νa (ZbO _ h hs.2) rfl rfl rfl rfl rfl ?_) | (refine Zbf rfl rfl (ZcK _ _) ?_) | refine Zq rfl (by (conv=>lhs;whnf);try rfl) ?_ | refine ZH rfl rfl rfl ?_ | refine Zr rfl (by (conv=>lhs;whnf);try rfl) ?_ | refine Zae rfl rfl rfl rfl (by (conv=>lhs;whnf);try rfl) ?_ | refine ZaK rfl rfl ?_ | refine Zd ?_ | refine Zk ?_ | refine Za ?_ | refine ZF ?_)
 rw [show decide ((0:Int)<((init.length+1:Nat):Int))=true from decide_eq_true (by omega)]
 repeat (first | (refine Zs rfl rfl ?_) | (refine ZgE rfl rfl rfl (by omega) ?_) | (refine Zaz (n:=init.length) rfl rfl rfl rfl (by simp) ?_) | (refine Zgj rfl rfl rfl (Zbt _ _) rfl ?_) | (refine Zov rfl hy rfl rfl ?_) | (refine ZbW rfl rfl rfl (Zbt _ _) rfl rfl rfl rfl (Nat.le_of_ble_eq_true rfl) rfl (Zb7 _ _ _) ?_) | refine Zq rfl (by (conv=>lhs;whnf);try rfl) ?_ | refine ZH rfl rfl rfl ?_ | refine Zl rfl rfl ?_ | refine Zae rfl rfl rfl rfl (by (conv=>lhs;whnf);try rfl) ?_ | refine ZaK rfl rfl ?_ | refine Za3 rfl rfl (by (conv=>lhs;whnf);try rfl) ?_ | refine Zd ?_ | refine Zk ?_ | refine Za ?_ | refine Zbi ?_)
 exact Zeh (.inl rfl) (0,0) (0,1000) νa νa [_] [] rfl rfl trivial rfl rfl (Zo rfl (Zo rfl (Zo rfl (Zab _)))) rfl rfl
·obtain ⟨h1,h2,rfl⟩:=ZcO hR
 dsimp only at hl
 subst hl
 rw [ZcK] at h63
 repeat (first | (refine Zj rfl rfl ?_) | (refine Zai [] νa (ZdP _ r hs.1) rfl rfl rfl rfl rfl rfl ?_) | (refine ZbV [] νa (ZbO _ h hs.2) rfl rfl rfl rfl rfl ?_) | (refine Zbf rfl rfl (ZcK _ _) ?_) | refine Zq rfl (by (conv=>lhs;whnf);try rfl) ?_ | refine ZH rfl rfl rfl ?_ | refine Zr rfl (by (conv=>lhs;whnf);try rfl) ?_ | refine Zae rfl rfl rfl rfl (by (conv=>lhs;whnf);try rfl) ?_ | refine ZaK rfl rfl ?_ | refine Zd ?_ | refine Zk ?_ | refine Za ?_ | refine ZF ?_)
 rw [show decide ((0:Int)<((init.length+1:Nat):Int))=true from decide_eq_true (by omega)]
 repeat (first | (refine ZgE rfl rfl rfl (by omega) ?_) | (refine Zaz (n:=init.length) rfl rfl rfl rfl (by simp) ?_) | (refine Zgj rfl rfl rfl (Zbt _ _) rfl ?_) | refine Zq rfl (by (conv=>lhs;whnf);try rfl) ?_ | refine ZH rfl rfl rfl ?_ | refine Zl rfl rfl ?_ | refine Zae rfl rfl rfl rfl (by (conv=>lhs;whnf);try rfl) ?_ | refine ZaK rfl rfl ?_ | refine Za3 rfl rfl (by (conv=>lhs;whnf);try rfl) ?_ | refine Zd ?_)
 rw [decide_eq_false hk]
 repeat (first | (refine Zj rfl rfl ?_) | (refine Zbj rfl rfl rfl rfl h1 h2 (by rfl) ?_) | (refine Zaz (n:=List.length (init ++ [Node.cs n])) rfl rfl rfl rfl (by simp) ?_) | (refine ZbW rfl rfl rfl (Zbt _ _) rfl rfl rfl rfl (Nat.le_of_ble_eq_true rfl) rfl (Zb7 _ _ _) ?_) | refine Zq rfl (by (conv=>lhs;whnf);try rfl) ?_ | refine ZH rfl rfl rfl ?_ | refine ZaK rfl rfl ?_ | refine ZhB rfl rfl ?_ | refine ZaN rfl rfl rfl (by (conv=>lhs;whnf);try rfl) (by (conv=>lhs;whnf);try rfl) (by rfl) (by rfl) (Nat.le_of_ble_eq_true rfl) (by (conv=>lhs;whnf);try rfl) ?_ | refine Zby rfl rfl ?_ | refine Zam rfl rfl rfl (by rfl) (by decide) (by (conv=>lhs;whnf);try rfl) ?_ | refine Zco (by kernel_rfl) ?_ | refine Za ?_ | refine ZF ?_ | refine ZD ?_)
 exact Zeh (.inr rfl) (0,0) (0,1000) (fun k=>if k=1002 then (5,7) else νa k) νa [_,_,_,_] [] rfl rfl trivial rfl rfl (Zo rfl (Zo rfl (Zo rfl (Zab _)))) rfl rfl}
set_option maxRecDepth 100000 in
set_option maxHeartbeats 1000000 in
theorem Zo2 (e:El) (r:List El) (s:ByteArray) (h0:s≠⟨#[]⟩) (hs:small e r) (l':List (List PV)) (h:e.kind≠3\/e.args=none) (ha:e.args≠none) (h63:e.list.length<=9223372036854775807) (hR:Zmp e.list s=some l'):PC 132 [.str s] e r (.tup []) ⟨e.kind,e.tag,e.count,l',e.args⟩ r:=by{
refine ZG mix Tryz.func132 (by kernel_rfl) rfl (by kernel_rfl) ?_
rw [Zcd]
obtain ⟨kind,tag,count,list,args⟩:=e
rcases args with _ | ⟨pre,a⟩
exact absurd rfl ha
simp only [] at h63
repeat (first | refine Zq rfl (by (conv=>lhs;whnf);try rfl) ?_ | refine ZiM rfl rfl rfl rfl (by (conv=>lhs;whnf);try rfl) ?_ | refine Zd ?_ | refine Zk ?_ | refine Za ?_)
rw [decide_eq_false h0]
rcases Zfn hR with ⟨hl,hR⟩ | ⟨init,n,hl,⟨hk,y,hy,rfl⟩ | ⟨hk,hR⟩⟩
·obtain ⟨h1,h2,rfl⟩:=ZcO hR
 dsimp only at hl
 subst hl
 repeat (first | (refine Zj rfl rfl ?_) | (refine Zai [] νa (ZdP _ r hs.1) rfl rfl rfl rfl rfl rfl ?_) | (refine ZbV [] νa (ZbO _ h hs.2) rfl rfl rfl rfl rfl ?_) | (refine Zbj rfl rfl rfl rfl h1 h2 (by rfl) ?_) | (refine Zaz (n:=List.length ([]:List (List PV))) rfl rfl rfl rfl (by simp) ?_) | (refine ZbW rfl rfl rfl (Zbt _ _) rfl rfl rfl rfl (Nat.le_of_ble_eq_true rfl) rfl (Zb7 _ _ _) ?_) | (refine ZE rfl ?_) | refine Zq rfl (by (conv=>lhs;whnf);try rfl) ?_ | refine ZH rfl rfl rfl ?_ | refine Zr rfl (by (conv=>lhs;whnf);try rfl) ?_ | refine Zae rfl rfl rfl rfl (by (conv=>lhs;whnf);try rfl) ?_ | refine ZaK rfl rfl ?_ | refine ZhB rfl rfl ?_ | refine ZaN rfl rfl rfl (by (conv=>lhs;whnf);try rfl) (by (conv=>lhs;whnf);try rfl) (by rfl) (by rfl) (Nat.le_of_ble_eq_true rfl) (by (conv=>lhs;whnf);try rfl) ?_ | refine Zby rfl rfl ?_ | refine Zam rfl rfl rfl (by rfl) (by decide) (by (conv=>lhs;whnf);try rfl) ?_ | refine Za3 rfl rfl (by (conv=>lhs;whnf);try rfl) ?_ | refine Zd ?_ | refine Zco (by kernel_rfl) ?_ | refine Zk ?_ | refine Za ?_ | refine ZF ?_ | refine ZD ?_)
 exact Zeh (.inr rfl) (0,0) (0,1000) (fun k=>if k=1002 then (5,7) else νa k) νa [_,_,_,_] [] rfl rfl trivial rfl rfl (Zo rfl (Zo rfl (Zo rfl (Zo rfl (Zab _))))) rfl rfl
·dsimp only at hl
 subst hl
 rw [ZcK] at h63
 obtain ⟨k0,t0,s0,ks,ag⟩:=n
 dsimp only at hk hy
 subst hk
 repeat (first | (refine Zj rfl rfl ?_) | (refine Zai [] νa (ZdP _ r hs.1) rfl rfl rfl rfl rfl rfl ?_) | (refine ZbV [] νa (ZbO _ h hs.2) rfl rfl rfl rfl rfl ?_) | (refine Zbf rfl rfl (ZcK _ _) ?_) | refine Zq rfl (by (conv=>lhs;whnf);try rfl) ?_ | refine ZH rfl rfl rfl ?_ | refine Zr rfl (by (conv=>lhs;whnf);try rfl) ?_ | refine Zae rfl rfl rfl rfl (by (conv=>lhs;whnf);try rfl) ?_ | refine ZaK rfl rfl ?_ | refine Zd ?_ | refine Zk ?_ | refine Za ?_ | refine ZF ?_)
 rw [show decide ((0:Int)<((init.length+1:Nat):Int))=true from decide_eq_true (by omega)]
 repeat (first | (refine Zs rfl rfl ?_) | (refine ZgE rfl rfl rfl (by omega) ?_) | (refine Zaz (n:=init.length) rfl rfl rfl rfl (by simp) ?_) | (refine Zgj rfl rfl rfl (Zbt _ _) rfl ?_) | (refine Zov rfl hy rfl rfl ?_) | (refine ZbW rfl rfl rfl (Zbt _ _) rfl rfl rfl rfl (Nat.le_of_ble_eq_true rfl) rfl (Zb7 _ _ _) ?_) | refine Zq rfl (by (conv=>lhs;whnf);try rfl) ?_ | refine ZH rfl rfl rfl ?_ | refine Zl rfl rfl ?_ | refine Zae rfl rfl rfl rfl (by (conv=>lhs;whnf);try rfl) ?_ | refine ZaK rfl rfl ?_ | refine Za3 rfl rfl (by (conv=>lhs;whnf);try rfl) ?_ | refine Zd ?_ | refine Zk ?_ | refine Za ?_ | refine Zbi ?_)
 exact Zeh (.inl rfl) (0,0) (0,1000) νa νa [_] [] rfl rfl trivial rfl rfl (Zo rfl (Zo rfl (Zo rfl (Zo rfl (Zab _))))) rfl rfl
·obtain ⟨h1,h2,rfl⟩:=ZcO hR
 dsimp only at hl
 subst hl
 rw [ZcK] at h63
 repeat (first | (refine Zj rfl rfl ?_) | (refine Zai [] νa (ZdP _ r hs.1) rfl rfl rfl rfl rfl rfl ?_) | (refine ZbV [] νa (ZbO _ h hs.2) rfl rfl rfl rfl rfl ?_) | (refine Zbf rfl rfl (ZcK _ _) ?_) | refine Zq rfl (by (conv=>lhs;whnf);try rfl) ?_ | refine ZH rfl rfl rfl ?_ | refine Zr rfl (by (conv=>lhs;whnf);try rfl) ?_ | refine Zae rfl rfl rfl rfl (by (conv=>lhs;whnf);try rfl) ?_ | refine ZaK rfl rfl ?_ | refine Zd ?_ | refine Zk ?_ | refine Za ?_ | refine ZF ?_)
 rw [show decide ((0:Int)<((init.length+1:Nat):Int))=true from decide_eq_true (by omega)]
 repeat (first | (refine ZgE rfl rfl rfl (by omega) ?_) | (refine Zaz (n:=init.length) rfl rfl rfl rfl (by simp) ?_) | (refine Zgj rfl rfl rfl (Zbt _ _) rfl ?_) | refine Zq rfl (by (conv=>lhs;whnf);try rfl) ?_ | refine ZH rfl rfl rfl ?_ | refine Zl rfl rfl ?_ | refine Zae rfl rfl rfl rfl (by (conv=>lhs;whnf);try rfl) ?_ | refine ZaK rfl rfl ?_ | refine Za3 rfl rfl (by (conv=>lhs;whnf);try rfl) ?_ | refine Zd ?_)
 rw [decide_eq_false hk]
 repeat (first | (refine Zj rfl rfl ?_) | (refine Zbj rfl rfl rfl rfl h1 h2 (by rfl) ?_) | (refine Zaz (n:=List.length (init ++ [Node.cs n])) rfl rfl rfl rfl (by simp) ?_) | (refine ZbW rfl rfl rfl (Zbt _ _) rfl rfl rfl rfl (Nat.le_of_ble_eq_true rfl) rfl (Zb7 _ _ _) ?_) | refine Zq rfl (by (conv=>lhs;whnf);try rfl) ?_ | refine ZH rfl rfl rfl ?_ | refine ZaK rfl rfl ?_ | refine ZhB rfl rfl ?_ | refine ZaN rfl rfl rfl (by (conv=>lhs;whnf);try rfl) (by (conv=>lhs;whnf);try rfl) (by rfl) (by rfl) (Nat.le_of_ble_eq_true rfl) (by (conv=>lhs;whnf);try rfl) ?_ | refine Zby rfl rfl ?_ | refine Zam rfl rfl rfl (by rfl) (by decide) (by (conv=>lhs;whnf);try rfl) ?_ | refine Zco (by kernel_rfl) ?_ | refine Za ?_ | refine ZF ?_ | refine ZD ?_)
 exact Zeh (.inr rfl) (0,0) (0,1000) (fun k=>if k=1002 then (5,7) else νa k) νa [_,_,_,_] [] rfl rfl trivial rfl rfl (Zo rfl (Zo rfl (Zo rfl (Zo rfl (Zab _))))) rfl rfl}
set_option maxRecDepth 100000 in
set_option maxHeartbeats 1000000 in
theorem ZsA (tag count:Int) (list:List (List PV)) (pre:List Arg) (a:Arg) (r:List El) (s:ByteArray) (h0:s≠⟨#[]⟩) (hs:small ⟨3,tag,count,list,some (pre,a)⟩ r) (l':List (List PV)) (h63:a.value.length<=9223372036854775807) (hR:Zmp a.value s=some l') :
  PC 132 [.str s] ⟨3,tag,count,list,some (pre,a)⟩ r (.tup []) ⟨3,tag,count,list,some (pre,⟨a.named,a.name,l'⟩)⟩ r:=by{
refine ZG mix Tryz.func132 (by kernel_rfl) rfl (by kernel_rfl) ?_
rw [Zcd]
obtain ⟨named,name,value⟩:=a
dsimp only at h63 hR ⊢
repeat (first | refine Zq rfl (by (conv=>lhs;whnf);try rfl) ?_ | refine ZiM rfl rfl rfl rfl (by (conv=>lhs;whnf);try rfl) ?_ | refine Zd ?_ | refine Zk ?_ | refine Za ?_)
rw [decide_eq_false h0]
rcases Zfn hR with ⟨hl,hR⟩ | ⟨init,n,hl,⟨hk,y,hy,rfl⟩ | ⟨hk,hR⟩⟩
·obtain ⟨h1,h2,rfl⟩:=ZcO hR
 subst hl
 repeat (first | (refine Zj rfl rfl ?_) | (refine Zai [] νa (ZdP _ r hs.1) rfl rfl rfl rfl rfl rfl ?_) | (refine ZbV [] νa (Zfz _ _ _ _ _ (hs.2 _ rfl)) rfl rfl rfl rfl rfl ?_) | (refine Zjr rfl rfl ?_) | (refine ZcP rfl rfl rfl (Za2 _ _ _ _) rfl ?_) | (refine Zbj rfl rfl rfl rfl h1 h2 (by rfl) ?_) | (refine Zaz (n:=List.length ([]:List (List PV))) rfl rfl rfl rfl (by simp) ?_) | (refine ZbW rfl rfl rfl (Zbt _ _) rfl rfl rfl rfl (Nat.le_of_ble_eq_true rfl) rfl (Zb7 _ _ _) ?_) | (refine ZiU rfl rfl rfl (Za2 _ _ _ _) rfl rfl rfl rfl (Nat.le_of_ble_eq_true rfl) (Zgt _ _ _ _ _) ?_) | (refine ZE rfl ?_) | refine Zq rfl (by (conv=>lhs;whnf);try rfl) ?_ | refine Zr rfl (by (conv=>lhs;whnf);try rfl) ?_ | refine Zae rfl rfl rfl rfl (by (conv=>lhs;whnf);try rfl) ?_ | refine ZhB rfl rfl ?_ | refine Zby rfl rfl ?_ | refine Zam rfl rfl rfl (by rfl) (by decide) (by (conv=>lhs;whnf);try rfl) ?_ | refine Za3 rfl rfl (by (conv=>lhs;whnf);try rfl) ?_ | refine Zd ?_ | refine Zco (by kernel_rfl) ?_ | refine Zk ?_ | refine Za ?_ | refine ZF ?_ | refine ZD ?_)
 exact Zeh (.inr rfl) (0,0) (0,1000) (fun k=>if k=1004 then (5,7) else νa k) νa [_,_,_,_] [] rfl rfl trivial rfl rfl (Zo rfl (Zo rfl (Zo rfl (Zo rfl (Zab _))))) rfl rfl
·skip
 subst hl
 rw [ZcK] at h63
 obtain ⟨k0,t0,s0,ks,ag⟩:=n
 dsimp only at hk hy
 subst hk
 repeat (first | (refine Zj rfl rfl ?_) | (refine Zai [] νa (ZdP _ r hs.1) rfl rfl rfl rfl rfl rfl ?_) | (refine ZbV [] νa (Zfz _ _ _ _ _ (hs.2 _ rfl)) rfl rfl rfl rfl rfl ?_) | (refine Zjr rfl rfl ?_) | (refine ZcP rfl rfl rfl (Za2 _ _ _ _) rfl ?_) | (refine Zbf rfl rfl (ZcK _ _) ?_) | refine Zq rfl (by (conv=>lhs;whnf);try rfl) ?_ | refine Zr rfl (by (conv=>lhs;whnf);try rfl) ?_ | refine Zae rfl rfl rfl rfl (by (conv=>lhs;whnf);try rfl) ?_ | refine Zd ?_ | refine Zk ?_ | refine Za ?_ | refine ZF ?_)
 rw [show decide ((0:Int)<((init.length+1:Nat):Int))=true from decide_eq_true (by omega)]
 repeat (first | (refine Zjr rfl rfl ?_) | (refine ZcP rfl rfl rfl (Za2 _ _ _ _) rfl ?_) | (refine Zs rfl rfl ?_) | (refine ZgE rfl rfl rfl (by omega) ?_) | (refine Zaz (n:=init.length) rfl rfl rfl rfl (by simp) ?_) | (refine Zgj rfl rfl rfl (Zbt _ _) rfl ?_) | (refine Zov rfl hy rfl rfl ?_) | (refine ZbW rfl rfl rfl (Zbt _ _) rfl rfl rfl rfl (Nat.le_of_ble_eq_true rfl) rfl (Zb7 _ _ _) ?_) | refine Zq rfl (by (conv=>lhs;whnf);try rfl) ?_ | refine Zl rfl rfl ?_ | refine Zae rfl rfl rfl rfl (by (conv=>lhs;whnf);try rfl) ?_ | refine Za3 rfl rfl (by (conv=>lhs;whnf);try rfl) ?_ | refine Zd ?_ | refine Zk ?_ | refine Za ?_ | refine Zbi ?_)
 exact Zeh (.inl rfl) (0,0) (0,1000) νa νa [_] [] rfl rfl trivial rfl rfl (Zo rfl (Zo rfl (Zo rfl (Zo rfl (Zab _))))) rfl rfl
·obtain ⟨h1,h2,rfl⟩:=ZcO hR
 subst hl
 rw [ZcK] at h63
 repeat (first | (refine Zj rfl rfl ?_) | (refine Zai [] νa (ZdP _ r hs.1) rfl rfl rfl rfl rfl rfl ?_) | (refine ZbV [] νa (Zfz _ _ _ _ _ (hs.2 _ rfl)) rfl rfl rfl rfl rfl ?_) | (refine Zjr rfl rfl ?_) | (refine ZcP rfl rfl rfl (Za2 _ _ _ _) rfl ?_) | (refine Zbf rfl rfl (ZcK _ _) ?_) | refine Zq rfl (by (conv=>lhs;whnf);try rfl) ?_ | refine Zr rfl (by (conv=>lhs;whnf);try rfl) ?_ | refine Zae rfl rfl rfl rfl (by (conv=>lhs;whnf);try rfl) ?_ | refine Zd ?_ | refine Zk ?_ | refine Za ?_ | refine ZF ?_)
 rw [show decide ((0:Int)<((init.length+1:Nat):Int))=true from decide_eq_true (by omega)]
 repeat (first | (refine Zjr rfl rfl ?_) | (refine ZcP rfl rfl rfl (Za2 _ _ _ _) rfl ?_) | (refine ZgE rfl rfl rfl (by omega) ?_) | (refine Zaz (n:=init.length) rfl rfl rfl rfl (by simp) ?_) | (refine Zgj rfl rfl rfl (Zbt _ _) rfl ?_) | refine Zq rfl (by (conv=>lhs;whnf);try rfl) ?_ | refine Zl rfl rfl ?_ | refine Zae rfl rfl rfl rfl (by (conv=>lhs;whnf);try rfl) ?_ | refine Za3 rfl rfl (by (conv=>lhs;whnf);try rfl) ?_ | refine Zd ?_)
 rw [decide_eq_false hk]
 repeat (first | (refine Zj rfl rfl ?_) | (refine Zjr rfl rfl ?_) | (refine ZcP rfl rfl rfl (Za2 _ _ _ _) rfl ?_) | (refine Zbj rfl rfl rfl rfl h1 h2 (by rfl) ?_) | (refine Zaz (n:=List.length (init ++ [Node.cs n])) rfl rfl rfl rfl (by simp) ?_) | (refine ZbW rfl rfl rfl (Zbt _ _) rfl rfl rfl rfl (Nat.le_of_ble_eq_true rfl) rfl (Zb7 _ _ _) ?_) | (refine ZiU rfl rfl rfl (Za2 _ _ _ _) rfl rfl rfl rfl (Nat.le_of_ble_eq_true rfl) (Zgt _ _ _ _ _) ?_) | refine Zq rfl (by (conv=>lhs;whnf);try rfl) ?_ | refine ZhB rfl rfl ?_ | refine Zby rfl rfl ?_ | refine Zam rfl rfl rfl (by rfl) (by decide) (by (conv=>lhs;whnf);try rfl) ?_ | refine Zco (by kernel_rfl) ?_ | refine Za ?_ | refine ZF ?_ | refine ZD ?_)
 exact Zeh (.inr rfl) (0,0) (0,1000) (fun k=>if k=1004 then (5,7) else νa k) νa [_,_,_,_] [] rfl rfl trivial rfl rfl (Zo rfl (Zo rfl (Zo rfl (Zo rfl (Zab _))))) rfl rfl}
theorem Zb4 (e:El) (r:List El) (s:ByteArray) (hs:small e r) (h63:e.cur.length<=9223372036854775807) (e':El) (h:ZbF e s=some e'):PC 132 [.str s] e r (.tup []) e' r:=by{
unfold ZbF at h
split at h
rename_i h0
injection h with h
subst h0 h
exact Zqj e r
rename_i h0
obtain ⟨l',hR,rfl⟩:=Option.map_eq_some_iff.1 h
obtain ⟨kind,tag,count,list,args⟩:=e
rcases args with _ | ⟨pre,a⟩
exact Zo1 _ r s h0 hs l' rfl h63 hR
by_cases hk:kind=3
subst hk
exact ZsA tag count list pre a r s h0 hs l' h63 hR
have e1:VL.El.cur ⟨kind,tag,count,list,some (pre,a)⟩=list:=if_neg hk
have e2:VL.El.setCur ⟨kind,tag,count,list,some (pre,a)⟩ l'=⟨kind,tag,count,l',some (pre,a)⟩:=if_neg hk
rw [e1] at hR h63
rw [e2]
exact Zo2 ⟨kind,tag,count,list,some (pre,a)⟩ r s h0 hs l' (.inl hk) (by intro h;cases h) h63 hR}
theorem ZhC (e:El) (r:List El) (n:Node) (hs:small e r) (e':El) (h:ZgA e n=some e'):PC 133 [.agg n.cs] e r (.tup []) e' r:=by{
obtain ⟨l',hR,rfl⟩:=Option.map_eq_some_iff.1 h
obtain ⟨kind,tag,count,list,args⟩:=e
rcases args with _ | ⟨pre,a⟩
exact Zmq _ r n hs l' (.inr rfl) hR
by_cases hk:kind=3
subst hk
exact Zsx tag count list pre a r n hs l' hR
have e1:VL.El.cur ⟨kind,tag,count,list,some (pre,a)⟩=list:=if_neg hk
have e2:VL.El.setCur ⟨kind,tag,count,list,some (pre,a)⟩ l'=⟨kind,tag,count,l',some (pre,a)⟩:=if_neg hk
rw [e1] at hR
rw [e2]
exact Zmq ⟨kind,tag,count,list,some (pre,a)⟩ r n hs l' (.inl hk) hR}
set_option maxRecDepth 100000 in
set_option maxHeartbeats 1000000 in
theorem ZpN (e e2:El) (r:List El) (hr:r.length<=999):ContractG Tryz.prog 141 [.ptr 0 (0,0) 0] (objs (stP νa e (e2::r))) (.ptr 1001 (0,1001) 0) (Znn 166 170 154 νa (1,1000) e e2 r):=by{
refine ZG mix Tryz.func141 (by kernel_rfl) rfl (by kernel_rfl) ?_
rw [Zcd]
repeat (first | (refine Zai [] νa (ZdP e (e2::r) (by simp;omega)) rfl rfl rfl rfl rfl rfl ?_) | (refine Zbf rfl rfl (Zb9 _ _ _) ?_) | (refine ZgE rfl rfl rfl (by simp;omega) ?_) | (refine Zs8 rfl rfl rfl rfl (by rw [Zb9];omega) (Ztc _ _ _) ?_) | refine Zq rfl (by (conv=>lhs;whnf);try rfl) ?_ | refine ZH rfl rfl rfl ?_ | refine Zl rfl rfl ?_ | refine Zr rfl (by (conv=>lhs;whnf);try rfl) ?_ | refine ZaK rfl rfl ?_ | refine ZaN rfl rfl rfl (by (conv=>lhs;whnf);try rfl) (by (conv=>lhs;whnf);try rfl) (by rfl) (by rfl) (Nat.le_of_ble_eq_true rfl) (by (conv=>lhs;whnf);try rfl) ?_ | refine Zd ?_ | refine Zco (by kernel_rfl) ?_ | refine Zk ?_ | refine Za ?_ | refine Zbi ?_)
exact Ztd (3,11) [_,_] [(2,.ptr 1001 (0,1001) 0)] rfl rfl ⟨rfl,trivial⟩ rfl rfl rfl rfl}
abbrev ZpO (k t c:Int):List (Nat×VObj):=[(1,.box [.int .i64 k,.int .i64 t,.int .i64 c,.nil,.nil])]
set_option maxRecDepth 100000 in
set_option maxHeartbeats 1000000 in
theorem ZrW (e e':El) (r:List El) (k t c:Int) (s:ByteArray) (hr:20<=r.length) (hs:small e r) (h63:e.cur.length<=9223372036854775807) (h:ZbF e s=some e') :
  ContractG Tryz.prog 134 [.ptr 0 (0,0) 0,.ptr 1 (0,1) 0,.str s] (objs (stP νa e r)++ZpO k t c) (.tup []) (stP νb e' r):=by{
refine ZG mix Tryz.func134 (by kernel_rfl) rfl (by kernel_rfl) ?_
rw [Zr0,Zcd,Zq0 rfl]
repeat (first | (refine Zbf rfl rfl (Zb9 _ _ _) ?_) | refine Zq rfl (by (conv=>lhs;whnf);try rfl) ?_ | refine ZH rfl rfl rfl ?_ | refine Zl rfl rfl ?_ | refine Zae rfl rfl rfl rfl (by (conv=>lhs;whnf);try rfl) ?_ | refine ZaK rfl rfl ?_ | refine Zd ?_ | refine Zk ?_ | refine Za ?_)
rw [show decide ((20:Int)<((r.length+1:Nat):Int))=true from decide_eq_true (by omega)]
repeat (first | (refine Zs rfl rfl ?_) | (refine Zz [_] νa (Zb4 e r s hs h63 e' h) rfl rfl rfl rfl rfl rfl ?_) | refine Zq rfl (by (conv=>lhs;whnf);try rfl) ?_ | refine Zd ?_ | refine Zk ?_ | refine Za ?_ | refine Zbi ?_)
exact ZbA (.inl rfl) (νc 2 2) [_] [] rfl rfl trivial rfl rfl}
set_option maxRecDepth 100000 in
set_option maxHeartbeats 1000000 in
theorem ZrX (e:El) (r:List El) (k t c:Int) (s:ByteArray) (hr:r.length<20) :
  ContractG Tryz.prog 134 [.ptr 0 (0,0) 0,.ptr 1 (0,1) 0,.str s] (objs (stP νa e r)++ZpO k t c) (.tup []) (stP νb ⟨k,t,c,[],none⟩ (e::r)):=by{
refine ZG mix Tryz.func134 (by kernel_rfl) rfl (by kernel_rfl) ?_
rw [Zr0,Zcd,Zq0 rfl]
repeat (first | (refine Zbf rfl rfl (Zb9 _ _ _) ?_) | refine Zq rfl (by (conv=>lhs;whnf);try rfl) ?_ | refine ZH rfl rfl rfl ?_ | refine Zl rfl rfl ?_ | refine Zae rfl rfl rfl rfl (by (conv=>lhs;whnf);try rfl) ?_ | refine ZaK rfl rfl ?_ | refine Zd ?_ | refine Zk ?_ | refine Za ?_)
rw [show decide ((20:Int)<((r.length+1:Nat):Int))=false from decide_eq_false (by omega)]
repeat (first | (refine Zj rfl rfl ?_) | (refine ZiV rfl rfl rfl rfl (Nat.le_of_ble_eq_true rfl) rfl ?_) | (refine ZjD (new:=[[.ptr 1 (0,1) 0]]) rfl rfl rfl rfl (by rw [Zb9];simp;omega) (by rw [Zb9];simp;omega) (by simp) ?_) | refine Zq rfl (by (conv=>lhs;whnf);try rfl) ?_ | refine ZH rfl rfl rfl ?_ | refine Zl rfl rfl ?_ | refine ZaK rfl rfl ?_ | refine ZaN rfl rfl rfl (by (conv=>lhs;whnf);try rfl) (by (conv=>lhs;whnf);try rfl) (by rfl) (by rfl) (Nat.le_of_ble_eq_true rfl) (by (conv=>lhs;whnf);try rfl) ?_ | refine Zd ?_ | refine Za ?_ | refine ZF ?_ | refine ZD ?_)
exact ZdZ (Za0 1 5 3 166 5 rfl rfl rfl) (ZdZ (Za0 1 6 4 170 3 rfl rfl rfl) (ZdZ (ZcC (t:=6) rfl) (Zq1 (.inr rfl) (0,0) (2,7) (0,1) (3,0) (4,0) 1 5 6 νa [_,_,_,_,_,_,_,_,_] [] rfl rfl trivial rfl rfl rfl rfl rfl rfl rfl rfl)))}
def ZjS (e:El):Option El:=match e.args with | some (pre,a)=>if e.kind=3/\a.named=false then some ⟨e.kind,e.tag,e.count,e.list,some (pre,⟨true,a.value,[]⟩)⟩ else ZbF e ⟨#[61]⟩ | none=>ZbF e ⟨#[61]⟩
set_option maxRecDepth 100000 in
set_option maxHeartbeats 1000000 in
theorem Ztj (e e':El) (r:List El) (hs:small e r) (h63:e.cur.length<=9223372036854775807) (hk:e.kind≠3) (h:ZbF e ⟨#[124]⟩=some e'):PC 136 [] e r (.tup []) e' r:=by{
refine ZG mix Tryz.func136 (by kernel_rfl) rfl (by kernel_rfl) ?_
rw [Zcd]
repeat (first | (refine Zai [] νa (ZdP e r hs.1) rfl rfl rfl rfl rfl rfl ?_) | refine Zq rfl (by (conv=>lhs;whnf);try rfl) ?_ | refine ZH rfl rfl rfl ?_ | refine Zl rfl rfl ?_ | refine Zr rfl (by (conv=>lhs;whnf);try rfl) ?_ | refine Zae rfl rfl rfl rfl (by (conv=>lhs;whnf);try rfl) ?_ | refine ZaK rfl rfl ?_ | refine Zd ?_ | refine Zk ?_ | refine Za ?_)
rw [decide_eq_false hk]
repeat (first | (refine Zj rfl rfl ?_) | (refine Zz [] νa (Zb4 e r _ hs h63 e' h) rfl rfl rfl rfl rfl rfl ?_) | refine Zq rfl (by (conv=>lhs;whnf);try rfl) ?_ | refine Zd ?_ | refine Za ?_ | refine ZF ?_ | refine ZD ?_)
exact ZbA (.inr rfl) (νc 3 1) [] [] rfl rfl trivial rfl rfl}
set_option maxRecDepth 100000 in
set_option maxHeartbeats 1000000 in
theorem Ztk (tag count:Int) (list:List (List PV)) (r:List El) (hr:r.length<=1000):PC 136 [] ⟨3,tag,count,list,none⟩ r (.tup []) ⟨3,tag,count,list,some ([],⟨false,[],[]⟩)⟩ r:=by{
refine ZG mix Tryz.func136 (by kernel_rfl) rfl (by kernel_rfl) ?_
rw [Zcd]
repeat (first | (refine Zai [] νa (ZdP _ r hr) rfl rfl rfl rfl rfl rfl ?_) | (refine Zs rfl rfl ?_) | (refine ZiV rfl rfl rfl rfl (Nat.le_of_ble_eq_true rfl) rfl ?_) | (refine ZjD (els:=[]) (new:=[[.bool false,.nil,.nil]]) rfl rfl rfl rfl (by simp) (by simp) (by simp) ?_) | refine Zq rfl (by (conv=>lhs;whnf);try rfl) ?_ | refine ZH rfl rfl rfl ?_ | refine Zl rfl rfl ?_ | refine Zr rfl (by (conv=>lhs;whnf);try rfl) ?_ | refine Zae rfl rfl rfl rfl (by (conv=>lhs;whnf);try rfl) ?_ | refine ZaK rfl rfl ?_ | refine ZaN rfl rfl rfl (by (conv=>lhs;whnf);try rfl) (by (conv=>lhs;whnf);try rfl) (by rfl) (by rfl) (Nat.le_of_ble_eq_true rfl) (by (conv=>lhs;whnf);try rfl) ?_ | refine Zby rfl rfl ?_ | refine Zd ?_ | refine Zk ?_ | refine Za ?_ | refine Zbi ?_)
exact ZdZ (Zd0 1003 0 1 rfl rfl rfl rfl rfl) (ZdZ (ZlL 1003 1004 0 2 166 5 rfl rfl rfl rfl rfl) (Zeh (.inl rfl) (0,0) (0,1000) (fun k=>if k=1003 then (3,7) else if k=1004 then (4,0) else νa k) νa [_,_,_,_,_,_] [] rfl rfl trivial rfl rfl (Zo rfl (Zo rfl (Zo rfl (Zo rfl (Zab _))))) rfl rfl))}
theorem Zre (pre:List Arg) (a:Arg):(pre.map Arg.cs ++ [a.cs]).length=pre.length+1:=by simp
theorem Zrf (pre:List Arg) (a:Arg) (x:List PV):(pre.map Arg.cs ++ [a.cs] ++ [x])[pre.length+1]? = some x:=by
 have:=Zbt (pre.map Arg.cs ++ [a.cs]) x
 rwa [Zre] at this
theorem Zrg (pre:List Arg) (a:Arg) (x y:List PV):(pre.map Arg.cs ++ [a.cs] ++ [x]).set (pre.length+1) y=pre.map Arg.cs ++ [a.cs] ++ [y]:=by
 have:=Zb7 (pre.map Arg.cs ++ [a.cs]) x y
 rwa [Zre] at this
theorem Zrh (pre:List Arg) (x:List PV):(pre.map Arg.cs ++ [x])[pre.length]? = some x:=by
 have:=Zbt (pre.map Arg.cs) x
 rwa [List.length_map] at this
theorem Zri (pre:List Arg) (x y:List PV):(pre.map Arg.cs ++ [x]).set pre.length y=pre.map Arg.cs ++ [y]:=by
 have:=Zb7 (pre.map Arg.cs) x y
 rwa [List.length_map] at this
theorem Ztl (pre:List Arg) (a:Arg) (x y:List PV):(pre.map Arg.cs ++ [a.cs] ++ [x]).set (pre.length+1) y=(pre ++ [a]).map Arg.cs ++ [y]:=by
 rw [Zrg]
 simp
set_option maxRecDepth 100000 in
set_option maxHeartbeats 1000000 in
theorem Ztm (tag count:Int) (list:List (List PV)) (pre:List Arg) (a:Arg) (r:List El) (hs:small ⟨3,tag,count,list,some (pre,a)⟩ r):PC 136 [] ⟨3,tag,count,list,some (pre,a)⟩ r (.tup []) ⟨3,tag,count,list,some (pre ++ [a],⟨false,[],[]⟩)⟩ r:=by{
have hp:pre.length<=1000000:=hs.2 _ rfl
refine ZG mix Tryz.func136 (by kernel_rfl) rfl (by kernel_rfl) ?_
rw [Zcd]
repeat (first | (refine Zai [] νa (ZdP _ r hs.1) rfl rfl rfl rfl rfl rfl ?_) | refine Zq rfl (by (conv=>lhs;whnf);try rfl) ?_ | refine ZH rfl rfl rfl ?_ | refine Zl rfl rfl ?_ | refine Zr rfl (by (conv=>lhs;whnf);try rfl) ?_ | refine Zae rfl rfl rfl rfl (by (conv=>lhs;whnf);try rfl) ?_ | refine ZaK rfl rfl ?_ | refine Zd ?_ | refine Zk ?_ | refine Za ?_)
refine Zs rfl rfl ?_
refine ZY (Zd0 1003 pre.length 2 rfl (Za2 _ _ _ _) rfl rfl (Zgt _ _ _ _ _)) ?_ (List.cons_ne_nil _ _)
repeat (first | (refine ZiV rfl rfl rfl rfl (Nat.le_of_ble_eq_true rfl) rfl ?_) | (refine ZjD (els:=pre.map Arg.cs ++ [a.cs]) (new:=[[.bool false,.nil,.nil]]) rfl rfl rfl rfl (by simp;omega) (by simp;omega) (by simp) ?_) | refine Zq rfl (by (conv=>lhs;whnf);try rfl) ?_ | refine ZH rfl rfl rfl ?_ | refine Zl rfl rfl ?_ | refine ZaK rfl rfl ?_ | refine ZaN rfl rfl rfl (by (conv=>lhs;whnf);try rfl) (by (conv=>lhs;whnf);try rfl) (by rfl) (by rfl) (Nat.le_of_ble_eq_true rfl) (by (conv=>lhs;whnf);try rfl) ?_ | refine Zby rfl rfl ?_ | refine Zd ?_ | refine Zk ?_ | refine Za ?_ | refine Zbi ?_)
exact ZdZ (Zd0 1003 (pre.length+1) 1 rfl (Zrf _ _ _) rfl rfl (Zrg _ _ _ _)) (ZdZ (ZlL 1003 1004 (pre.length+1) 2 166 5 rfl rfl (Zrf _ _ _) rfl (Ztl _ _ _ _)) (Zeh (.inl rfl) (0,0) (0,1000) (fun k=>if k=1003 then (3,7) else if k=1004 then (4,0) else νa k) νa [_,_,_,_,_,_,_,_] [] rfl rfl trivial rfl rfl (Zo rfl (Zo rfl (Zo rfl (Zo rfl (Zab _))))) rfl rfl))}
set_option maxRecDepth 100000 in
set_option maxHeartbeats 1000000 in
theorem Zk3 (e e':El) (r:List El) (hs:small e r) (h63:e.cur.length<=9223372036854775807) (hc:e.kind≠3\/e.args=none\/∃ pre a,e.args=some (pre,a)/\a.named=true) (h:ZbF e ⟨#[61]⟩=some e'):PC 137 [] e r (.tup []) e' r:=by{
refine ZG mix Tryz.func137 (by kernel_rfl) rfl (by kernel_rfl) ?_
rw [Zcd]
obtain ⟨kind,tag,count,list,args⟩:=e
rcases args with _ | ⟨pre,a⟩
by_cases hk:kind=3
·subst hk
 repeat (first | (refine Zai [] νa (ZdP _ r hs.1) rfl rfl rfl rfl rfl rfl ?_) | (refine Zbf (n:=0) rfl rfl rfl ?_) | (refine ZE rfl ?_) | (refine Zj rfl rfl ?_) | (refine Zz [] νa (Zb4 _ r _ hs h63 e' h) rfl rfl rfl rfl rfl rfl ?_) | refine Zq rfl (by (conv=>lhs;whnf);try rfl) ?_ | refine ZH rfl rfl rfl ?_ | refine Zl rfl rfl ?_ | refine Zr rfl (by (conv=>lhs;whnf);try rfl) ?_ | refine Zae rfl rfl rfl rfl (by (conv=>lhs;whnf);try rfl) ?_ | refine ZaK rfl rfl ?_ | refine Za3 rfl rfl (by (conv=>lhs;whnf);try rfl) ?_ | refine Zd ?_ | refine Zk ?_ | refine Za ?_ | refine ZF ?_ | refine ZD ?_)
 exact ZbA (.inr rfl) (νc 4 1) [] [] rfl rfl trivial rfl rfl
·repeat (first | (refine Zai [] νa (ZdP _ r hs.1) rfl rfl rfl rfl rfl rfl ?_) | (refine Zbf (n:=0) rfl rfl rfl ?_) | refine Zq rfl (by (conv=>lhs;whnf);try rfl) ?_ | refine ZH rfl rfl rfl ?_ | refine Zl rfl rfl ?_ | refine Zr rfl (by (conv=>lhs;whnf);try rfl) ?_ | refine Zae rfl rfl rfl rfl (by (conv=>lhs;whnf);try rfl) ?_ | refine ZaK rfl rfl ?_ | refine Zd ?_ | refine Zk ?_ | refine Za ?_)
 rw [decide_eq_false hk]
 repeat (first | (refine ZE rfl ?_) | (refine Zj rfl rfl ?_) | (refine Zz [] νa (Zb4 _ r _ hs h63 e' h) rfl rfl rfl rfl rfl rfl ?_) | refine Zq rfl (by (conv=>lhs;whnf);try rfl) ?_ | refine Za3 rfl rfl (by (conv=>lhs;whnf);try rfl) ?_ | refine Zd ?_ | refine Za ?_ | refine ZF ?_ | refine ZD ?_)
 exact ZbA (.inr rfl) (νc 4 1) [] [] rfl rfl trivial rfl rfl
have hp:pre.length<=1000000:=hs.2 _ rfl
by_cases hk:kind=3
·obtain ⟨named,name,value⟩:=a
 obtain rfl:named=true:=by
  rcases hc with hc | hc | ⟨pre',a',h1,h2⟩
  exact absurd hk hc
  cases hc
  injection h1 with h1
  injection h1 with _ h1
  rw [<- h1] at h2
  exact h2
 subst hk
 repeat (first | (refine Zai [] νa (ZdP _ r hs.1) rfl rfl rfl rfl rfl rfl ?_) | (refine Zbf rfl rfl (ZeQ ..) ?_) | refine Zq rfl (by (conv=>lhs;whnf);try rfl) ?_ | refine ZH rfl rfl rfl ?_ | refine Zl rfl rfl ?_ | refine Zr rfl (by (conv=>lhs;whnf);try rfl) ?_ | refine Zae rfl rfl rfl rfl (by (conv=>lhs;whnf);try rfl) ?_ | refine ZaK rfl rfl ?_ | refine Za3 rfl rfl (by (conv=>lhs;whnf);try rfl) ?_ | refine Zd ?_ | refine Zk ?_ | refine Za ?_)
 rw [show decide ((0:Int)<((pre.length+1:Nat):Int))=true from decide_eq_true (by omega)]
 repeat (first | (refine ZgE rfl rfl rfl (by omega) ?_) | (refine ZeN rfl rfl rfl rfl (by rw [ZeQ];omega) ?_) | (refine ZcP rfl rfl rfl (Za2 _ _ _ _) rfl ?_) | (refine Zj rfl rfl ?_) | (refine Zz [] νa (Zb4 _ r _ hs h63 e' h) rfl rfl rfl rfl rfl rfl ?_) | refine Zq rfl (by (conv=>lhs;whnf);try rfl) ?_ | refine ZH rfl rfl rfl ?_ | refine Zl rfl rfl ?_ | refine ZaK rfl rfl ?_ | refine Zte rfl rfl ?_ | refine Za3 rfl rfl (by (conv=>lhs;whnf);try rfl) ?_ | refine Zd ?_ | refine Za ?_ | refine ZF ?_ | refine ZD ?_)
 exact ZbA (.inr rfl) (νc 4 1) [] [] rfl rfl trivial rfl rfl
·repeat (first | (refine Zai [] νa (ZdP _ r hs.1) rfl rfl rfl rfl rfl rfl ?_) | (refine Zbf rfl rfl (ZeQ ..) ?_) | refine Zq rfl (by (conv=>lhs;whnf);try rfl) ?_ | refine ZH rfl rfl rfl ?_ | refine Zl rfl rfl ?_ | refine Zr rfl (by (conv=>lhs;whnf);try rfl) ?_ | refine Zae rfl rfl rfl rfl (by (conv=>lhs;whnf);try rfl) ?_ | refine ZaK rfl rfl ?_ | refine Zd ?_ | refine Zk ?_ | refine Za ?_)
 rw [decide_eq_false hk]
 repeat (first | (refine ZE rfl ?_) | (refine Zj rfl rfl ?_) | (refine Zz [] νa (Zb4 _ r _ hs h63 e' h) rfl rfl rfl rfl rfl rfl ?_) | refine Zq rfl (by (conv=>lhs;whnf);try rfl) ?_ | refine Za3 rfl rfl (by (conv=>lhs;whnf);try rfl) ?_ | refine Zd ?_ | refine Za ?_ | refine ZF ?_ | refine ZD ?_)
 exact ZbA (.inr rfl) (νc 4 1) [] [] rfl rfl trivial rfl rfl}
set_option maxRecDepth 100000 in
set_option maxHeartbeats 1000000 in
theorem Zrj (tag count:Int) (list:List (List PV)) (pre:List Arg) (name value:List (List PV)) (r:List El) (hs:small ⟨3,tag,count,list,some (pre,⟨false,name,value⟩)⟩ r):PC 137 [] ⟨3,tag,count,list,some (pre,⟨false,name,value⟩)⟩ r (.tup []) ⟨3,tag,count,list,some (pre,⟨true,value,[]⟩)⟩ r:=by{
have hp:pre.length<=1000000:=hs.2 _ rfl
refine ZG mix Tryz.func137 (by kernel_rfl) rfl (by kernel_rfl) ?_
rw [Zcd]
repeat (first | (refine Zai [] νa (ZdP _ r hs.1) rfl rfl rfl rfl rfl rfl ?_) | (refine Zbf rfl rfl (ZeQ ..) ?_) | refine Zq rfl (by (conv=>lhs;whnf);try rfl) ?_ | refine ZH rfl rfl rfl ?_ | refine Zl rfl rfl ?_ | refine Zr rfl (by (conv=>lhs;whnf);try rfl) ?_ | refine Zae rfl rfl rfl rfl (by (conv=>lhs;whnf);try rfl) ?_ | refine ZaK rfl rfl ?_ | refine Za3 rfl rfl (by (conv=>lhs;whnf);try rfl) ?_ | refine Zd ?_ | refine Zk ?_ | refine Za ?_)
rw [show decide ((0:Int)<((pre.length+1:Nat):Int))=true from decide_eq_true (by omega)]
repeat (first | (refine ZgE rfl rfl rfl (by omega) ?_) | (refine ZeN rfl rfl rfl rfl (by rw [ZeQ];omega) ?_) | (refine ZcP rfl rfl rfl (Za2 _ _ _ _) rfl ?_) | (refine Zs rfl rfl ?_) | (refine ZiU rfl rfl rfl (Za2 _ _ _ _) rfl rfl rfl rfl (Nat.le_of_ble_eq_true rfl) (Zgt _ _ _ _ _) ?_) | refine Zq rfl (by (conv=>lhs;whnf);try rfl) ?_ | refine ZH rfl rfl rfl ?_ | refine Zl rfl rfl ?_ | refine ZaK rfl rfl ?_ | refine Zby rfl rfl ?_ | refine Zte rfl rfl ?_ | refine Za3 rfl rfl (by (conv=>lhs;whnf);try rfl) ?_ | refine Zd ?_ | refine Zco (by kernel_rfl) ?_ | refine Zk ?_ | refine Za ?_ | refine Zbi ?_)
exact ZdZ (Zd0 1003 pre.length 1 rfl (Zrh _ _) rfl rfl (Zri _ _ _)) (ZdZ (ZlL 1003 1004 pre.length 2 166 5 rfl rfl (Zrh _ _) rfl (Zri _ _ _)) (Zeh (.inl rfl) (0,0) (0,1000) (fun k=>if k=1004 then (5,0) else νa k) νa [_,_,_,_,_] [] rfl rfl trivial rfl rfl (Zo rfl (Zo rfl (Zo rfl (Zo rfl (Zab _))))) rfl rfl))}
def Zij:El->List (List PV)->Option El | e,[]=>some e | e,x::l=>(Zuz x).bind fun n=>(if n.kind=1 then ZbF e n.text else ZgA e n).bind fun e'=>Zij e' l
def fit (e:El) (r:List El):Prop:=small e r/\e.cur.length<=9223372036854775807
theorem Zik {e:El} {r:List El} {l:List (List PV)} (h:small e r):small (e.setCur l) r:=by{
obtain ⟨kind,tag,count,list,args⟩:=e
refine ⟨h.1,fun q hq=>?_⟩
rcases args with _ | ⟨pre,a⟩
cases hq
by_cases hk:kind=3
have e1:VL.El.setCur ⟨kind,tag,count,list,some (pre,a)⟩ l=⟨kind,tag,count,list,some (pre,⟨a.named,a.name,l⟩)⟩:=if_pos hk
rw [e1] at hq
injection hq with hq
rw [<- hq]
exact h.2 (pre,a) rfl
have e1:VL.El.setCur ⟨kind,tag,count,list,some (pre,a)⟩ l=⟨kind,tag,count,l,some (pre,a)⟩:=if_neg hk
rw [e1] at hq
exact h.2 q hq}
theorem ZkE (e:El) (l:List (List PV)):(e.setCur l).cur=l:=by{
obtain ⟨kind,tag,count,list,args⟩:=e
rcases args with _ | ⟨pre,a⟩
rfl
by_cases hk:kind=3
have e1:VL.El.setCur ⟨kind,tag,count,list,some (pre,a)⟩ l=⟨kind,tag,count,list,some (pre,⟨a.named,a.name,l⟩)⟩:=if_pos hk
rw [e1]
exact if_pos hk
have e1:VL.El.setCur ⟨kind,tag,count,list,some (pre,a)⟩ l=⟨kind,tag,count,l,some (pre,a)⟩:=if_neg hk
rw [e1]
exact if_neg hk}
theorem Zjc {l l':List (List PV)} {n:Node} (h:Zjp l n=some l'):l'.length<=9223372036854775807:=by
 obtain ⟨_,h2,rfl⟩:=ZcO h
 simpa using h2
theorem Zap {e e':El} {r:List El} {s:ByteArray} (hf:fit e r) (h:ZbF e s=some e'):fit e' r:=by{
unfold ZbF at h
split at h
injection h with h
rw [<- h]
exact hf
obtain ⟨l',hR,rfl⟩:=Option.map_eq_some_iff.1 h
refine ⟨Zik hf.1,?_⟩
rw [ZkE]
rcases Zfn hR with ⟨_,hR⟩ | ⟨init,n,hl,⟨_,y,_,rfl⟩ | ⟨_,hR⟩⟩
exact Zjc hR
have:=hf.2
rw [hl,ZcK] at this
rw [ZcK]
exact this
exact Zjc hR}
theorem ZeX {e e':El} {r:List El} {n:Node} (hf:fit e r) (h:ZgA e n=some e'):fit e' r:=by
 obtain ⟨l',hR,rfl⟩:=Option.map_eq_some_iff.1 h
 exact ⟨Zik hf.1,by rw [ZkE];exact Zjc hR⟩
theorem ZkF {r:List El}:∀ {l:List (List PV)} {e e':El},fit e r->Zij e l=some e'->fit e' r
 | [],e,e',hf,h=>by injection h with h;rw [<- h];exact hf
 | x::l,e,e',hf,h=>by
   obtain ⟨n,_,h⟩:=Option.bind_eq_some_iff.1 h
   obtain ⟨e1,h1,h⟩:=Option.bind_eq_some_iff.1 h
   refine ZkF (l:=l) (e:=e1) ?_ h
   split at h1
   exact Zap hf h1
   exact ZeX hf h1
set_option maxRecDepth 100000 in
set_option maxHeartbeats 1000000 in
theorem Zum (l:List (List PV)) (e e2:El) (r:List El) (hf:fit e r) (h:Zij e l=some e2) (hl:l.length<=4611686018427387904):PC 143 [.sl l] e r (.tup []) e2 r:=by{
refine ZG mix Tryz.func143 (by kernel_rfl) rfl (by kernel_rfl) ?_
rw [Zcd]
repeat (first | refine Zq rfl (by (conv=>lhs;whnf);try rfl) ?_ | refine ZhB rfl rfl ?_ | refine Zd ?_ | refine Zk ?_ | refine Za ?_ | refine Zaq ?_)
refine Zv (fun (a:Nat×El) _=>mkS [(0,.ptr 0 (0,0) 0),(6,.sl l),(7,.int .i64 (l.length:Int)),(8,.int .i64 ((a.1:Nat):Int))] (somes (stP νb a.2 r)) 2) (fun a=>a.1<=l.length/\fit a.2 r/\Zij a.2 (l.drop a.1)=some e2) (fun a=>l.length-a.1) (0,e) 2 ⟨Nat.zero_le _,hf,h⟩
 (Za4 νa [] (fun k=>(k,νa k)) (fun _ _=>rfl) rfl ⟨rfl,rfl,rfl,rfl,trivial⟩ (x:=[]) (x':=[]) rfl rfl rfl (Zab _) rfl) (fun a ng hJ=>?_)
obtain ⟨q,e1⟩:=a
obtain ⟨hq,hf1,hn⟩:=hJ
dsimp only at hq hf1 hn ⊢
repeat (first | refine Zae rfl rfl rfl rfl (by (conv=>lhs;whnf);try rfl) ?_ | refine Zd ?_ | refine Zk ?_ | refine Za ?_)
by_cases hlt:q<l.length
refine Zs (by (conv=>lhs;whnf);try rfl) (by simp;omega) ?_
rw [List.drop_eq_getElem_cons hlt] at hn
obtain ⟨n,hx,hn⟩:=Option.bind_eq_some_iff.1 hn
obtain ⟨e3,h3,hn⟩:=Option.bind_eq_some_iff.1 hn
have hcs:l[q]? = some n.cs:=by rw [List.getElem?_eq_getElem hlt,Zmo hx]
by_cases hk:n.kind=1
·rw [if_pos hk] at h3
 repeat (first | (refine Zd9 rfl rfl rfl hcs rfl ?_) | refine ZH rfl rfl rfl ?_ | refine Zl rfl rfl ?_ | refine Zae rfl rfl rfl rfl (by (conv=>lhs;whnf);try rfl) ?_ | refine Zdp rfl rfl ?_ | refine ZaN rfl rfl rfl (by (conv=>lhs;whnf);try rfl) (by (conv=>lhs;whnf);try rfl) (by rfl) (by rfl) (Nat.le_of_ble_eq_true rfl) (by (conv=>lhs;whnf);try rfl) ?_ | refine Zd ?_ | refine Zk ?_ | refine Za ?_ | refine Zaq ?_ | refine ZF ?_)
 rw [decide_eq_true hk]
 repeat (first | (refine Zs rfl rfl ?_) | (refine Zz [_,_] νb (Zb4 e1 r n.text hf1.1 hf1.2 e3 h3) rfl rfl rfl rfl rfl rfl ?_) | refine Zq rfl (by (conv=>lhs;whnf);try rfl) ?_ | refine ZH rfl rfl rfl ?_ | refine Zl rfl rfl ?_ | refine Znv rfl rfl (by omega) ?_ | refine Zd ?_ | refine Za ?_ | refine ZD ?_)
 exact Zak (q+1,e3) 2 ⟨by omega,Zap hf1 h3,hn⟩ (by dsimp only;omega) (Za4 (νc 5 3) [_,_] (fun k=>(k,νc 5 3 k)) (fun _ _=>rfl) rfl ⟨rfl,rfl,rfl,rfl,trivial⟩ (x:=[]) (x':=[]) rfl rfl rfl (Zab _) rfl)
·rw [if_neg hk] at h3
 repeat (first | (refine Zd9 rfl rfl rfl hcs rfl ?_) | refine ZH rfl rfl rfl ?_ | refine Zl rfl rfl ?_ | refine Zae rfl rfl rfl rfl (by (conv=>lhs;whnf);try rfl) ?_ | refine Zdp rfl rfl ?_ | refine ZaN rfl rfl rfl (by (conv=>lhs;whnf);try rfl) (by (conv=>lhs;whnf);try rfl) (by rfl) (by rfl) (Nat.le_of_ble_eq_true rfl) (by (conv=>lhs;whnf);try rfl) ?_ | refine Zd ?_ | refine Zk ?_ | refine Za ?_ | refine Zaq ?_ | refine ZF ?_)
 rw [decide_eq_false hk]
 repeat (first | (refine Zj rfl rfl ?_) | (refine Zz [_,_] νb (ZhC e1 r n hf1.1 e3 h3) rfl rfl rfl rfl rfl rfl ?_) | refine Zq rfl (by (conv=>lhs;whnf);try rfl) ?_ | refine ZH rfl rfl rfl ?_ | refine Znv rfl rfl (by omega) ?_ | refine Zd ?_ | refine Za ?_ | refine ZD ?_)
 exact Zak (q+1,e3) 2 ⟨by omega,ZeX hf1 h3,hn⟩ (by dsimp only;omega) (Za4 (νc 5 2) [_,_] (fun k=>(k,νc 5 2 k)) (fun _ _=>rfl) rfl ⟨rfl,rfl,rfl,rfl,trivial⟩ (x:=[]) (x':=[]) rfl rfl rfl (Zab _) rfl)
·refine Zj (by (conv=>lhs;whnf);try rfl) (by simp;omega) ?_
 repeat (first | refine Za8 ?_ | refine ZD ?_ | refine Zde ?_ | refine ZgZ ?_)
 obtain rfl:q=l.length:=by omega
 rw [List.drop_length] at hn
 injection hn with hn
 subst hn
 exact ZbA (.inr rfl) νb [] [] rfl rfl trivial rfl rfl}
end Go.Proofs.YtpffimahajgiaaaGreatDoor
namespace Go.Proofs.YtpffimahajgiaaaGreatDoor
namespace VL
def El.argL (e:El):List Arg:=match e.args with | none=>[] | some (pre,a)=>pre ++ [a]
def El.cells (e:El):List PV:=[.int .i64 e.kind,.int .i64 e.tag,.int .i64 e.count,.sl e.list,.sl (e.argL.map Arg.cs)]
section
variable {NT AT ET:Nat}
theorem ZfZ {pre:List Arg}:∀ el ∈ pre.map Arg.cs,∀ p ∈ el,p.pure=true:=fun el hel p hp=>by
 obtain ⟨a,_,rfl⟩:=List.mem_map.1 hel
 simp [Arg.cs] at hp
 rcases hp with rfl | rfl | rfl<;>rfl
theorem ZdX {f:Nat->Option (Gen×VObj)} {t E k:Nat} {g:Gen} {els:List (List PV)} (h:f t=some (g,.row E k false els)):Zjn f (.row t g)=some (.sl els,[(t,some (g,.row E k true els))]):=by
 simp [Zjn,ZX,h]
theorem ZmD {b:Nat} {g g1 g2:Gen} {tm:List (Nat×PV)} {ob:List (Nat×Option (Gen×VObj))} {ng:Nat} {k t c:Int} {l els:List (List PV)} (h0:Zm ob b=some (g,.box [.int .i64 k,.int .i64 t,.int .i64 c,.row (b+1) g1,.row (b+2) g2])) (h1:Zm ob (b+1)=some (g1,.row NT 5 false l)) (h2:Zm ob (b+2)=some (g2,.prow AT 3 els))
  (hp:∀ el ∈ els,∀ p ∈ el,p.pure=true):Shift (mkS tm ob ng) (mkS tm ((b,some (g,.box [.int .i64 k,.int .i64 t,.int .i64 c,.sl l,.sl els]))::(b+2,some (g2,.row AT 3 true els))::(b+1,some (g1,.row NT 5 true l))::(b+2,some (g2,.row AT 3 false els))::ob) ng):=by{
have n1:∀ {j i:Nat},j≠i->b+j≠b+i:=fun h e=>h (by omega)
have e0:Zm ((b+2,some (g2,VObj.row AT 3 false els))::ob) b=some (g,.box [.int .i64 k,.int .i64 t,.int .i64 c,.row (b+1) g1,.row (b+2) g2]):=by
 show (if b=b+2 then _ else Zm ob b)=_
 rw [if_neg (by omega),h0]
have e1:Zm ((b+2,some (g2,VObj.row AT 3 false els))::ob) (b+1)=some (g1,.row NT 5 false l):=by
 show (if b+1=b+2 then _ else Zm ob (b+1))=_
 rw [if_neg (by omega),h1]
have e2:Zm ((b+2,some (g2,VObj.row AT 3 false els))::ob) (b+2)=some (g2,.row AT 3 false els):=if_pos rfl
refine Shift.trans (ZjY (b+2) h2 hp) ?_
exact ZeT b e0 (us:=[(b+1,some (g1,.row NT 5 true l)),(b+2,some (g2,.row AT 3 true els))]) (by
 have r1:=ZdX e1
 have r2:=ZdX e2
 simp only [ZdJ]
 rw [r1,r2]
 rfl)}
theorem Zh0 (n1:Gen) (ν:Nat->Gen) {e e2:El} {r:List El} {tm tm':List (Nat×PV)} {ng:Nat} (h1:Zf7 (σf (popf (0,0) n1 (fun _=>(1001,ν 1001)) ν (Zbm r))) tm tm') :
  Shift (mkS tm ((0,some ((0,0),.box [.row 1000 n1]))::(1000,some (n1,.prow ET 1 (ZdV ν (e2::r))))::somes (stO NT AT ET ν e (e2::r))) ng) (mkS tm' (somes ((300,νb 300,.box e.cells)::stO NT AT ET νb e2 r)) 2):=by{
obtain ⟨k,t,c,l,args⟩:=e
have hx:∀ e:El,Za6 (σf (popf (0,0) n1 (fun _=>(1001,ν 1001)) ν (Zbm r))) [(300,νb 300,.box e.cells)]=some [(1001,ν 1001,.box e.cells)]:=fun _=>rfl
rcases args with _ | ⟨pre,a⟩
refine Shift.trans (ZmD (b:=1001) rfl rfl rfl (fun e he=>absurd he List.not_mem_nil)) ?_
exact ZhA (0,0) n1 (fun _=>(1001,ν 1001)) ν tm' h1 rfl rfl (hx ⟨k,t,c,l,none⟩) (fun q hq=>by rw [List.mem_singleton.1 hq];exact ⟨by show 1001≠0;omega,by show 1001≠1000;omega,by show 1001<2000;omega⟩) (by simp) (Zo rfl (Zab _)) (Zdo (A:=[_,_,_,_,_,_]) rfl)
have hset:(ZgB 1001 ν (some (pre,a))).set pre.length (Zas [.bool a.named,.sl a.name,.row (1001+3) (ν (1001+3))] 2 [.sl a.value])=(pre ++ [a]).map Arg.cs:=by
 have:=Zb7 (pre.map Arg.cs) [.bool a.named,.sl a.name,.row (1001+3) (ν (1001+3))] a.cs
 rw [List.length_map] at this
 rw [List.map_append]
 exact this
have hget:(ZgB 1001 ν (some (pre,a)))[pre.length]? = some [.bool a.named,.sl a.name,.row (1001+3) (ν (1001+3))]:=by
 have:=Zbt (pre.map Arg.cs) [.bool a.named,.sl a.name,.row (1001+3) (ν (1001+3))]
 rwa [List.length_map] at this
refine Shift.trans (Zd0 1003 pre.length 2 rfl hget rfl (ZdX rfl) hset) ?_
refine Shift.trans (ZmD (b:=1001) rfl rfl rfl ZfZ) ?_
exact ZhA (0,0) n1 (fun _=>(1001,ν 1001)) ν tm' h1 rfl rfl (hx ⟨k,t,c,l,some (pre,a)⟩) (fun q hq=>by rw [List.mem_singleton.1 hq];exact ⟨by show 1001≠0;omega,by show 1001≠1000;omega,by show 1001<2000;omega⟩) (by simp) (Zo rfl (Zab _)) (Zdo (A:=[_,_,_,_,_,_,_,_]) rfl)}
end
section
variable {NT AT ET:Nat} {P:Program} [WInv P] {ops:Array Oper} {draw:Bool} {i:Nat} {L:List Oper} {acc:List (List Nat×List Nat)} {K:FS->Prop} {tm:List (Nat×PV)} {ob:List (Nat×Option (Gen×VObj))} {ng:Nat}
 {d:Option Tmp} {ty:TypeId} {pos:String} {after:Array Edge} {gd:Option (Nat×Bool)}
theorem Ze6 {f:FuncId} {es:Array Operand} {ts:Array TypeId} {e e2:El} {r:List El} (lits:List (Nat×Option (Gen×VObj))) (ν:Nat->Gen) (hc:ContractG P f [.ptr 0 (0,0) 0] (objs (stO NT AT ET νa e (e2::r))) (.ptr 1001 (0,1001) 0) (Znn NT AT ET νa (1,1000) e e2 r)) (hob:ob=lits++somes (stO NT AT ET ν e (e2::r))) (hl:(lits.all fun q=>!Zbn q.1)=true)
  (hw:Zf ops (mkS tm ob ng) ⟨d,.call ⟨.value (.func f),es,ts⟩,ty,pos,after,gd⟩=some true) (he:es.toList.map (evL tm) = [.ptr 0 (ν 0) 0])
  (k:GoL P ops draw (i+1) L (acc ++ [(ZA (mkS tm ob ng) ⟨d,.call ⟨.value (.func f),es,ts⟩,ty,pos,after,gd⟩,(usG (κp id) (objs (stO NT AT ET νa e (e2::r))) (Znn NT AT ET ν (ng,i+1000000 * (1000+1)) e e2 r)).map (·.1))]) (mkS (ZaW d (.ptr 1001 (ν 1001) 0) tm) ((0,some (ν 0,.box [.row 1000 (ng,i+1000000 * (1000+1))]))::(1000,some ((ng,i+1000000 * (1000+1)),.prow ET 1 (ZdV ν (e2::r))))::ob) ng) K) :
  GoL P ops draw i (⟨d,.call ⟨.value (.func f),es,ts⟩,ty,pos,after,gd⟩::L) acc (mkS tm ob ng) K:=by{
have hHas:Has ob (stO NT AT ET ν e (e2::r)):=by rw [hob];exact Zbg hl
have hk:=Zqq (NT:=NT) (AT:=AT) (ET:=ET) ν ng i e (e2::r)
have hn:∀ (ν:Nat->Gen) (n1:Gen),((Znn NT AT ET ν n1 e e2 r).map (·.1)).Nodup:=fun ν n1=>by rw [ZjN];exact ZaV _ _ _
have hlow:∀ q ∈ ZfC NT AT νa (e2::r),σ1 (Znm (objs (stO NT AT ET νa e (e2::r)))) (κp id) (γp ν ν) id ng i (νa q.1)=some (q.1,ν q.1):=fun q hq=>hk q (List.mem_cons_of_mem _ (List.mem_cons_of_mem _ (List.mem_append_right _ hq)))
have hX:Za6 (σ1 (Znm (objs (stO NT AT ET νa e (e2::r)))) (κp id) (γp ν ν) id ng i) (Znn NT AT ET νa (1,1000) e e2 r)=some (Znn NT AT ET ν (ng,i+1000000 * (1000+1)) e e2 r):=by
 have e0:=hk _ (List.mem_cons_self ..)
 have e1:σ1 (Znm (objs (stO NT AT ET νa e (e2::r)))) (κp id) (γp ν ν) id ng i (1,1000)=some (1000,(ng,i+1000000 * (1000+1))):=by simp [σ1]
 have hp:=Zli hlow
 have he:=ZaC (Znw (NT:=NT) (AT:=AT) (b:=1001) (ν:=νa) (ν':=ν) (e:=e) fun q hq=>hk q (List.mem_cons_of_mem _ (List.mem_cons_of_mem _ (List.mem_append_left _ hq)))) (Zlh hlow)
 simp only [Znn,Za6,rnO,rnL,rn1,e0,e1,Option.map_some,hp,he]
have hp:rnP (σ1 (Znm (objs (stO NT AT ET νa e (e2::r)))) (κp id) (γp ν ν) id ng i) (.ptr 1001 (0,1001) 0)=some (.ptr 1001 (ν 1001) 0):=by
 have e1:=hk _ (List.mem_cons_of_mem _ (List.mem_cons_of_mem _ (List.mem_append_left _ (List.mem_cons_self ..))))
 have e2:σ1 (Znm (objs (stO NT AT ET νa e (e2::r)))) (κp id) (γp ν ν) id ng i (0,1001)=some (1001,ν 1001):=e1
 simp only [rnP,rn1,e2,Option.map_some]
refine ZkL lits ν hc hob hl hw he rfl hp hX (hn _ _) (fun t=>?_) k
rw [Zi4 (hn _ _)]
by_cases h1:∃ q ∈ Znn NT AT ET ν (ng,i+1000000 * (1000+1)) e e2 r,q.1=t
rw [if_pos h1]
obtain ⟨⟨t',g,o⟩,hq,rfl⟩:=h1
have w:=ZbR [] (hn _ _) hq
rw [List.append_nil] at w
rw [w]
rcases List.mem_cons.1 hq with e1 | hq
injection e1 with e1 e2;injection e2 with e2 e3;subst e1 e2 e3;rfl
rcases List.mem_cons.1 hq with e1 | hq
injection e1 with e1 e2;injection e2 with e2 e3;subst e1 e2 e3;rfl
have hk2:1001<=t':=by
 rcases List.mem_append.1 hq with h | h
 exact (Zdr h).1
 have:=(ZcM h).1;change 2000<=t' at this;omega
show _=if t'=0 then _ else if t'=1000 then _ else Zm ob t'
rw [if_neg (by omega),if_neg (by omega)]
exact (hHas _ _ _ (List.mem_cons_of_mem _ (List.mem_cons_of_mem _ hq))).symm
rw [if_neg h1,if_neg fun ⟨q,hq,e3⟩=>h1 (by
 obtain ⟨g,hg⟩:=Zgu (l:=stO NT AT ET νa e (e2::r)) (t:=q.1) (o:=q.2) hq
 have hm2:q.1 ∈ (Znn NT AT ET ν (ng,i+1000000 * (1000+1)) e e2 r).map (·.1):=by
  rw [ZjN,Zfh ν νa]
  exact List.mem_map.2 ⟨_,hg,rfl⟩
 obtain ⟨q2,hq2,e4⟩:=List.mem_map.1 hm2
 have hk:κp id q.1=q.1:=by simp [κp]
 exact ⟨q2,hq2,by rw [e4,<- hk];exact e3⟩)]
have t0:¬ t=0:=fun e=>h1 ⟨_,List.mem_cons_self ..,e.symm⟩
have t1:¬ t=1000:=fun e=>h1 ⟨_,List.mem_cons_of_mem _ (List.mem_cons_self ..),e.symm⟩
show _=if t=0 then _ else if t=1000 then _ else Zm ob t
rw [if_neg t0,if_neg t1]}
end
end VL
end Go.Proofs.YtpffimahajgiaaaGreatDoor
namespace Go.Proofs.YtpffimahajgiaaaGreatDoor
namespace VL
section
variable {NT AT ET:Nat}
theorem Zmv {f:Nat->Option (Gen×VObj)} {t E k:Nat} {g:Gen} {els:List (List PV)} (h:f t=some (g,.row E k true els)):Zjn f (.row t g)=some (.sl els,[]):=by
 simp [Zjn,ZX,h]
theorem ZgN {ν:Nat->Gen} {kind tag count m:Int} {list:List (List PV)} {args:Option (List Arg×Arg)} {r:List El} {lits:List (Nat×Option (Gen×VObj))} {tm:List (Nat×PV)} {ng:Nat} (hl:(lits.all fun q=>!Zbn q.1)=true) :
  Shift (mkS tm ((1001,some (ν 1001,.box [.int .i64 kind,.int .i64 tag,.int .i64 m,.row 1002 (ν 1002),.row 1003 (ν 1003)]))::(lits++somes (stO NT AT ET ν ⟨kind,tag,count,list,args⟩ r))) ng) (mkS tm (lits++somes (stO NT AT ET ν ⟨kind,tag,m,list,args⟩ r)) ng):=by{
rw [Zgd (ob':=lits++somes (stO NT AT ET ν ⟨kind,tag,m,list,args⟩ r)) fun t=>?_]
exact Shift.refl _
show (if t=1001 then _ else Zm (lits++somes (stO NT AT ET ν ⟨kind,tag,count,list,args⟩ r)) t)=_
by_cases ht:t=1001
rw [if_pos ht,ht]
have hm:(1001,ν 1001,VObj.box [.int .i64 kind,.int .i64 tag,.int .i64 m,.row 1002 (ν 1002),.row 1003 (ν 1003)]) ∈ stO NT AT ET ν ⟨kind,tag,m,list,args⟩ r:=List.mem_cons_of_mem _ (List.mem_cons_of_mem _ (List.mem_append_left _ (List.mem_cons_self ..)))
exact (Zbg hl _ _ _ hm).symm
rw [if_neg ht]
have two:∀ (a:List (Nat×Option (Gen×VObj))),Zm (a++somes (stO NT AT ET ν ⟨kind,tag,count,list,args⟩ r)) t=Zm (a++somes (stO NT AT ET ν ⟨kind,tag,m,list,args⟩ r)) t:=fun a=>by
 induction a with
 | nil=>
   show (if t=0 then _ else if t=1000 then _ else if t=1001 then _ else _)=(if t=0 then _ else if t=1000 then _ else if t=1001 then _ else _)
   by_cases h0:t=0
   rw [if_pos h0,if_pos h0]
   rw [if_neg h0,if_neg h0]
   by_cases h1:t=1000
   rw [if_pos h1,if_pos h1]
   rw [if_neg h1,if_neg h1,if_neg ht,if_neg ht]
 | cons q a ih=>
   show (if t=q.1 then q.2 else Zm (a++_) t)=if t=q.1 then q.2 else Zm (a++_) t
   rw [ih]
exact two lits}
theorem ZeK {b u:Nat} {g g1 g2:Gen} {tm:List (Nat×PV)} {ob:List (Nat×Option (Gen×VObj))} {ng:Nat} {k t:Int} {s:ByteArray} {l els:List (List PV)} (hu:u≠b+2) (h0:Zm ob u=some (g,.box [.int .i64 k,.int .i64 t,.str s,.row (b+1) g1,.row (b+2) g2])) (h1:Zm ob (b+1)=some (g1,.row NT 5 false l)) (h2:Zm ob (b+2)=some (g2,.prow AT 3 els))
  (hp:∀ el ∈ els,∀ p ∈ el,p.pure=true):Shift (mkS tm ob ng) (mkS tm ((u,some (g,.box [.int .i64 k,.int .i64 t,.str s,.sl l,.sl els]))::(b+2,some (g2,.row AT 3 true els))::(b+1,some (g1,.row NT 5 true l))::(b+2,some (g2,.row AT 3 false els))::ob) ng):=by{
have e0:Zm ((b+2,some (g2,VObj.row AT 3 false els))::ob) u=some (g,.box [.int .i64 k,.int .i64 t,.str s,.row (b+1) g1,.row (b+2) g2]):=by
 show (if u=b+2 then _ else Zm ob u)=_
 rw [if_neg hu,h0]
have e1:Zm ((b+2,some (g2,VObj.row AT 3 false els))::ob) (b+1)=some (g1,.row NT 5 false l):=by
 show (if b+1=b+2 then _ else Zm ob (b+1))=_
 rw [if_neg (by omega),h1]
have e2:Zm ((b+2,some (g2,VObj.row AT 3 false els))::ob) (b+2)=some (g2,.row AT 3 false els):=if_pos rfl
refine Shift.trans (ZjY (b+2) h2 hp) ?_
exact ZeT u e0 (us:=[(b+1,some (g1,.row NT 5 true l)),(b+2,some (g2,.row AT 3 true els))]) (by
 have r1:=ZdX e1
 have r2:=ZdX e2
 simp only [ZdJ]
 rw [r1,r2]
 rfl)}
theorem Zoo {b:Nat} {g g1 g2:Gen} {tm:List (Nat×PV)} {ob:List (Nat×Option (Gen×VObj))} {ng:Nat} {k t c:Int} {l els:List (List PV)} (h0:Zm ob b=some (g,.box [.int .i64 k,.int .i64 t,.int .i64 c,.row (b+1) g1,.row (b+2) g2])) (h1:Zm ob (b+1)=some (g1,.row NT 5 true l)) (h2:Zm ob (b+2)=some (g2,.row AT 3 true els)) :
  Shift (mkS tm ob ng) (mkS tm ((b,some (g,.box [.int .i64 k,.int .i64 t,.int .i64 c,.sl l,.sl els]))::ob) ng):=
 ZeT b h0 (us:=[]) (by
  have r1:=Zmv h1
  have r2:=Zmv h2
  simp only [ZdJ]
  rw [r1,r2]
  rfl)
theorem ZhS (n1 g8:Gen) (ν:Nat->Gen) {e e2:El} {r:List El} {k t:Int} {s:ByteArray} {tm tm':List (Nat×PV)} {ng:Nat} (h1:Zf7 (σf (popf (0,0) n1 (fun k=>if k=8 then (8,g8) else (1001,ν 1001)) ν (Zbm r))) tm tm') :
  Shift (mkS tm ((0,some ((0,0),.box [.row 1000 n1]))::(1000,some (n1,.prow ET 1 (ZdV ν (e2::r))))::(8,some (g8,.box [.int .i64 k,.int .i64 t,.str s,.row 1002 (ν 1002),.row 1003 (ν 1003)]))::somes (stO NT AT ET ν e (e2::r))) ng)
   (mkS tm' (somes ((8,νb 8,.box [.int .i64 k,.int .i64 t,.str s,.sl e.list,.sl (e.argL.map Arg.cs)])::(300,νb 300,.box e.cells)::stO NT AT ET νb e2 r)) 2):=by{
obtain ⟨k1,t1,c,l,args⟩:=e
have hx:∀ e:El,Za6 (σf (popf (0,0) n1 (fun k=>if k=8 then (8,g8) else (1001,ν 1001)) ν (Zbm r))) [(8,νb 8,.box [.int .i64 k,.int .i64 t,.str s,.sl e.list,.sl (e.argL.map Arg.cs)]),(300,νb 300,.box e.cells)]=some [(8,g8,.box [.int .i64 k,.int .i64 t,.str s,.sl e.list,.sl (e.argL.map Arg.cs)]),(1001,ν 1001,.box e.cells)]:=fun _=>rfl
have hX:∀ e:El,∀ q ∈ [(8,g8,VObj.box [.int .i64 k,.int .i64 t,.str s,.sl e.list,.sl (e.argL.map Arg.cs)]),(1001,ν 1001,.box e.cells)],q.1≠0/\q.1≠1000/\q.1<2000:=fun e q hq=>by
 rcases List.mem_cons.1 hq with rfl | hq
 exact ⟨by show 8≠0;omega,by show 8≠1000;omega,by show 8<2000;omega⟩
 rw [List.mem_singleton.1 hq]
 exact ⟨by show 1001≠0;omega,by show 1001≠1000;omega,by show 1001<2000;omega⟩
rcases args with _ | ⟨pre,a⟩
refine Shift.trans (ZeK (b:=1001) (u:=8) (by omega) rfl rfl rfl (fun e he=>absurd he List.not_mem_nil)) ?_
refine Shift.trans (Zoo (b:=1001) rfl rfl rfl) ?_
exact ZhA (0,0) n1 _ ν tm' h1 rfl rfl (hx ⟨k1,t1,c,l,none⟩) (hX ⟨k1,t1,c,l,none⟩) (by simp) (Zo rfl (Zo rfl (Zab _))) (Zdo (A:=[_,_,_,_,_,_,_,_]) rfl)
have hset:(ZgB 1001 ν (some (pre,a))).set pre.length (Zas [.bool a.named,.sl a.name,.row (1001+3) (ν (1001+3))] 2 [.sl a.value])=(pre ++ [a]).map Arg.cs:=by
 have:=Zb7 (pre.map Arg.cs) [.bool a.named,.sl a.name,.row (1001+3) (ν (1001+3))] a.cs
 rw [List.length_map] at this
 rw [List.map_append]
 exact this
have hget:(ZgB 1001 ν (some (pre,a)))[pre.length]? = some [.bool a.named,.sl a.name,.row (1001+3) (ν (1001+3))]:=by
 have:=Zbt (pre.map Arg.cs) [.bool a.named,.sl a.name,.row (1001+3) (ν (1001+3))]
 rwa [List.length_map] at this
refine Shift.trans (Zd0 1003 pre.length 2 rfl hget rfl (ZdX rfl) hset) ?_
refine Shift.trans (ZeK (b:=1001) (u:=8) (by omega) rfl rfl rfl ZfZ) ?_
refine Shift.trans (Zoo (b:=1001) rfl rfl rfl) ?_
exact ZhA (0,0) n1 _ ν tm' h1 rfl rfl (hx ⟨k1,t1,c,l,some (pre,a)⟩) (hX ⟨k1,t1,c,l,some (pre,a)⟩) (by simp) (Zo rfl (Zo rfl (Zab _))) (Zdo (A:=[_,_,_,_,_,_,_,_,_,_]) rfl)}
def newf (m2 m3:Gen) (k2 k3:Nat) (ν:Nat->Gen) (k:Nat):Nat×Gen:=if k=1002 then (k2,m2) else if k=1003 then (k3,m3) else (k,ν k)
theorem ZcA (m2 m3:Gen) (k2 k3:Nat) (ν:Nat->Gen) (h00:ν 0=(0,0)) {r:List El} {kind tag count:Int} {list:List (List PV)} {tm tm':List (Nat×PV)} {ob:List (Nat×Option (Gen×VObj))} {ng:Nat} (h1:Zf7 (σf (newf m2 m3 k2 k3 ν)) tm tm') (a0:Zm ob 0=some (ν 0,.box [.row 1000 (ν 1000)])) (a1:Zm ob 1000=some (ν 1000,.prow ET 1 (ZdV ν r ++ [[.ptr 1001 (ν 1001) 0]])))
  (b1:Zm ob 1001=some (ν 1001,.box [.int .i64 kind,.int .i64 tag,.int .i64 count,.row k2 m2,.row k3 m3])) (b2:Zm ob k2=some (m2,.row NT 5 false list)) (b3:Zm ob k3=some (m3,.prow AT 3 [])) (hk:(decide ([k2,k3].Nodup) && [k2,k3].all fun k=>!Zbn k)=true) (a3:Has ob (ZfC NT AT ν r)) :
  Shift (mkS tm ob ng) (mkS tm' (somes (stO NT AT ET νb ⟨kind,tag,count,list,none⟩ r)) 2):=by{
have hl:∀ k,2000<=k->σf (newf m2 m3 k2 k3 ν) (νb k)=some (k,ν k):=fun k hk=>by
 have h1:¬ k=0:=by omega
 have h2:¬ k=1002:=by omega
 have h3:¬ k=1003:=by omega
 simp [σf,νb,newf,h1,h2,h3]
have e0:σf (newf m2 m3 k2 k3 ν) (νb 0)=some (0,ν 0):=by rw [h00];rfl
have e1:σf (newf m2 m3 k2 k3 ν) (νb 1000)=some (1000,ν 1000):=rfl
have e2:σf (newf m2 m3 k2 k3 ν) (νb 1001)=some (1001,ν 1001):=rfl
have e3:σf (newf m2 m3 k2 k3 ν) (νb (1001+1))=some (k2,m2):=rfl
have e4:σf (newf m2 m3 k2 k3 ν) (νb (1001+2))=some (k3,m3):=rfl
have hp:ZfE (σf (newf m2 m3 k2 k3 ν)) (ZdV νb r ++ [[.ptr 1001 (νb 1001) 0]])=some (ZdV ν r ++ [[.ptr 1001 (ν 1001) 0]]):=ZaY (ZhV hl r) (by simp only [ZfE,rnL,rn1,e2,Option.map_some])
have he:=ZhU (NT:=NT) (AT:=AT) hl r
have h2:Za6 (σf (newf m2 m3 k2 k3 ν)) (stO NT AT ET νb ⟨kind,tag,count,list,none⟩ r)=some ((0,ν 0,.box [.row 1000 (ν 1000)])::(1000,ν 1000,.prow ET 1 (ZdV ν r ++ [[.ptr 1001 (ν 1001) 0]]))::(1001,ν 1001,.box [.int .i64 kind,.int .i64 tag,.int .i64 count,.row k2 m2,.row k3 m3])::(k2,m2,.row NT 5 false list)::(k3,m3,.prow AT 3 [])::ZfC NT AT ν r):=by
 have key:∀ X,elO NT AT 1001 νb ⟨kind,tag,count,list,none⟩++X=(1001,νb 1001,.box [.int .i64 kind,.int .i64 tag,.int .i64 count,.row (1001+1) (νb (1001+1)),.row (1001+2) (νb (1001+2))])::(1001+1,νb (1001+1),.row NT 5 false list)::(1001+2,νb (1001+2),.prow AT 3 [])::X:=fun _=>rfl
 unfold stO
 rw [key]
 simp only [Za6,rnO,rnL,ZfE,rn1,e0,e1,e2,e3,e4,Option.map_some,hp,he]
simp only [Bool.and_eq_true,decide_eq_true_eq,List.all_eq_true,Bool.not_eq_true'] at hk
obtain ⟨hn,hpk⟩:=hk
have hpk':∀ k ∈ [k2,k3],¬ (k=0\/1000<=k):=fun k hk h=>by
 have:=hpk k hk
 rw [ZdI h] at this
 cases this
refine ZfA _ h1 h2 (Zo a0 (Zo a1 (Zo b1 (Zo b2 (Zo b3 a3))))) ?_
have hrest:∀ k ∈ (ZfC NT AT ν r).map (·.1),2000<=k:=fun k hk=>by
 obtain ⟨q,hq,rfl⟩:=List.mem_map.1 hk
 exact (ZcM hq).1
have p2:=hpk' k2 (by simp)
have p3:=hpk' k3 (by simp)
simp only [List.nodup_cons,List.mem_cons,List.not_mem_nil,or_false] at hn
obtain ⟨n23,_⟩:=hn
simp only [List.map_cons,List.nodup_cons,List.mem_cons,not_or]
refine ⟨⟨by omega,by omega,by omega,by omega,fun h=>by have:=hrest _ h;omega⟩,⟨by omega,by omega,by omega,fun h=>by have:=hrest _ h;omega⟩,⟨by omega,by omega,fun h=>by have:=hrest _ h;omega⟩,⟨n23,fun h=>by have:=hrest _ h;omega⟩,fun h=>by have:=hrest _ h;omega,Zgl ν r⟩}
end
end VL
end Go.Proofs.YtpffimahajgiaaaGreatDoor
namespace Go.Proofs.YtpffimahajgiaaaGreatDoor
open VL
def ZdS (e:El) (l:List (List PV)):Option El:=if l.length<=4611686018427387904 then Zij e l else none
theorem Zdh {r:List El} {l:List (List PV)} {e e':El} (hf:fit e r) (h:ZdS e l=some e'):fit e' r:=by{
unfold ZdS at h
split at h
exact ZkF hf h
cases h}
theorem Zhs (l:List (List PV)) (e e2:El) (r:List El) (hf:fit e r) (h:ZdS e l=some e2):PC 143 [.sl l] e r (.tup []) e2 r:=by{
unfold ZdS at h
split at h
rename_i hl
exact Zum l e e2 r hf h hl
cases h}
def Zdi (e:El) (r:List El):Option (El×List El):=if e.kind=1 then match r with | []=>none | e2::r=>(ZbF e2 ⟨#[91,91]⟩).bind fun a=>(ZdS a e.list).bind fun b=>(ZbF b ⟨#[93,93]⟩).map fun c=>(c,r) else (ZbF e ⟨#[93,93]⟩).map fun c=>(c,r)
set_option maxRecDepth 100000 in
set_option maxHeartbeats 1000000 in
theorem Zkv (e e':El) (r:List El) (hf:fit e r) (hk:e.kind≠1) (h:ZbF e ⟨#[93,93]⟩=some e'):PC 138 [] e r (.tup []) e' r:=by{
refine ZG mix Tryz.func138 (by kernel_rfl) rfl (by kernel_rfl) ?_
rw [Zcd]
repeat (first | (refine Zai [] νa (ZdP e r hf.1.1) rfl rfl rfl rfl rfl rfl ?_) | refine Zq rfl (by (conv=>lhs;whnf);try rfl) ?_ | refine ZH rfl rfl rfl ?_ | refine Zl rfl rfl ?_ | refine Zae rfl rfl rfl rfl (by (conv=>lhs;whnf);try rfl) ?_ | refine ZaK rfl rfl ?_ | refine Zd ?_ | refine Zk ?_ | refine Za ?_)
rw [decide_eq_false hk]
repeat (first | (refine Zs rfl rfl ?_) | (refine Zz [] νa (Zb4 e r _ hf.1 hf.2 e' h) rfl rfl rfl rfl rfl rfl ?_) | refine Zq rfl (by (conv=>lhs;whnf);try rfl) ?_ | refine Zd ?_ | refine Zk ?_ | refine Za ?_ | refine Zbi ?_)
exact ZbA (.inl rfl) (νc 2 1) [] [] rfl rfl trivial rfl rfl}
set_option maxRecDepth 100000 in
set_option maxHeartbeats 1000000 in
theorem ZlG (tag count:Int) (list:List (List PV)) (args:Option (List Arg×Arg)) (e2 a b c:El) (r:List El) (hr:r.length<=999) (hf:fit e2 r) (h1:ZbF e2 ⟨#[91,91]⟩=some a) (h2:ZdS a list=some b) (h3:ZbF b ⟨#[93,93]⟩=some c) :
  PC 138 [] ⟨1,tag,count,list,args⟩ (e2::r) (.tup []) c r:=by{
have hfa:=Zap hf h1
have hfb:=Zdh hfa h2
refine ZG mix Tryz.func138 (by kernel_rfl) rfl (by kernel_rfl) ?_
rw [Zcd]
repeat (first | (refine Zai [] νa (ZdP _ (e2::r) (by simp;omega)) rfl rfl rfl rfl rfl rfl ?_) | (refine Zj rfl rfl ?_) | refine Zq rfl (by (conv=>lhs;whnf);try rfl) ?_ | refine ZH rfl rfl rfl ?_ | refine Zl rfl rfl ?_ | refine Zae rfl rfl rfl rfl (by (conv=>lhs;whnf);try rfl) ?_ | refine ZaK rfl rfl ?_ | refine Zd ?_ | refine Zk ?_ | refine Za ?_ | refine ZF ?_)
refine Ze6 [] νa (ZpN _ e2 r hr) rfl rfl rfl rfl ?_
iterate 2 (refine ZhZ ?_)
refine ZY (Zh0 (2,1+1000000 * (1000+1)) νa (tm':=[(0,.ptr 0 (0,0) 0),(2,.ptr 300 (1,300) 0)]) ⟨rfl,rfl,trivial⟩) ?_ (List.cons_ne_nil _ _)
repeat (first | (refine Zz [_] νb (Zb4 e2 r _ hf.1 hf.2 a h1) rfl rfl rfl rfl rfl rfl ?_) | (refine Zz [_] (νc _ _) (Zhs list a b r hfa h2) rfl rfl rfl rfl rfl rfl ?_) | (refine Zz [_] (νc _ _) (Zb4 b r _ hfb.1 hfb.2 c h3) rfl rfl rfl rfl rfl rfl ?_) | refine Zq rfl (by (conv=>lhs;whnf);try rfl) ?_ | refine ZH rfl rfl rfl ?_ | refine Zl rfl rfl ?_ | refine ZaK rfl rfl ?_ | refine Zd ?_ | refine Zk ?_ | refine Za ?_ | refine ZD ?_)
exact ZbA (.inr rfl) (νc 4 1) [_] [] rfl rfl trivial rfl rfl}
def Zgp (e e2:El):Option El:=if e.kind=1 then ZbF e2 ⟨#[91,91]⟩ else if e.kind=2 then (ZdY e.tag).bind fun s=>ZbF e2 s else if e.kind=3 then (strings_Repeat ⟨#[123]⟩ e.count).bind fun s=>ZbF e2 s else some e2
def ZjP (e:El) (a:Arg):Option El:=(ZbF e ⟨#[124]⟩).bind fun b=>((if a.named=true then (ZdS b a.name).bind fun c=>ZbF c ⟨#[61]⟩ else some b):Option El).bind fun d=>ZdS d a.value
def ZeP:El->List Arg->Option El | e,[]=>some e | e,a::l=>(ZjP e a).bind fun e'=>ZeP e' l
def Zgq (e e2:El):Option El:=(Zgp e e2).bind fun a=>(ZdS a e.list).bind fun b=>if e.argL.length<=4611686018427387904 then ZeP b e.argL else none
theorem Zix {e e2 a:El} {r:List El} (hf:fit e2 r) (h:Zgp e e2=some a):fit a r:=by{
unfold Zgp at h
split at h
exact Zap hf h
split at h
obtain ⟨s,_,h⟩:=Option.bind_eq_some_iff.1 h
exact Zap hf h
split at h
obtain ⟨s,_,h⟩:=Option.bind_eq_some_iff.1 h
exact Zap hf h
injection h with h
rw [<- h]
exact hf}
theorem ZjQ {e e':El} {a:Arg} {r:List El} (hf:fit e r) (h:ZjP e a=some e'):fit e' r:=by{
obtain ⟨b,hb,h⟩:=Option.bind_eq_some_iff.1 h
obtain ⟨d,hd,h⟩:=Option.bind_eq_some_iff.1 h
refine Zdh ?_ h
split at hd
obtain ⟨c,hc,hd⟩:=Option.bind_eq_some_iff.1 hd
exact Zap (Zdh (Zap hf hb) hc) hd
injection hd with hd
rw [<- hd]
exact Zap hf hb}
abbrev Zwl (ν:Nat->Gen) (k:Nat):Nat×Gen:=if k=300 then (300,νb 300) else (k,ν k)
theorem ZiZ {ν:Nat->Gen} (k:Nat) (h:k=0\/1000<=k):Zwl ν k=(k,ν k):=if_neg (by omega)
set_option maxRecDepth 100000 in
set_option maxHeartbeats 1000000 in
theorem ZjR (e e2 e3:El) (r:List El) (hr:r.length<=999) (hf:fit e2 r) (h:Zgq e e2=some e3):PC 87 [] e (e2::r) (.tup []) e3 r:=by{
obtain ⟨a0,ha0,h⟩:=Option.bind_eq_some_iff.1 h
obtain ⟨b0,hb0,h4⟩:=Option.bind_eq_some_iff.1 h
by_cases hal:e.argL.length<=4611686018427387904
rotate_left
rw [if_neg hal] at h4
cases h4
rw [if_pos hal] at h4
have hfa:=Zix hf ha0
have hfb:=Zdh hfa hb0
refine ZG mix Tryz.func87 (by kernel_rfl) rfl (by kernel_rfl) ?_
rw [Zcd]
repeat (first | refine Zq rfl (by (conv=>lhs;whnf);try rfl) ?_ | refine Zk ?_ | refine Za ?_)
refine Ze6 [] νa (ZpN e e2 r hr) rfl rfl rfl rfl ?_
iterate 2 (refine ZhZ ?_)
refine ZY (Zh0 (1,1+1000000 * (1000+1)) νa (tm':=[(0,.ptr 0 (0,0) 0),(2,.ptr 300 (1,300) 0)]) ⟨rfl,rfl,trivial⟩) ?_ (List.cons_ne_nil _ _)
repeat (first | (refine Zbv (α:=El) (c:=.block 0 _) (fun a _=>mkS [(0,.ptr 0 (0,0) 0),(2,.ptr 300 (1,300) 0)] (somes ((300,νb 300,.box e.cells)::stP νb a r)) 2) (fun a=>a=a0) ?_ (fun a _ hJ=>?_)) | refine Zq rfl (by (conv=>lhs;whnf);try rfl) ?_ | refine ZH rfl rfl rfl ?_ | refine Zl rfl rfl ?_ | refine Zr rfl (by (conv=>lhs;whnf);try rfl) ?_ | refine Zae rfl rfl rfl rfl (by (conv=>lhs;whnf);try rfl) ?_ | refine ZaK rfl rfl ?_ | refine Zd ?_ | refine Zk ?_ | refine Za ?_ | refine Zaq ?_)
unfold Zgp at ha0
by_cases h1:e.kind=1
·rw [if_pos h1] at ha0
 rw [decide_eq_true h1]
 repeat (first | (refine Zs rfl rfl ?_) | (refine Zz [_] νb (Zb4 e2 r _ hf.1 hf.2 a0 ha0) rfl rfl rfl rfl rfl rfl ?_) | refine Zq rfl (by (conv=>lhs;whnf);try rfl) ?_ | refine Zd ?_ | refine Za ?_ | refine ZD ?_ | refine Zac ?_)
 exact ZdB a0 2 rfl (Za4 (νc 4 1) [_] (Zwl (νc 4 1)) ZiZ rfl ⟨rfl,rfl,trivial⟩ (x:=[(300,νb 300,.box e.cells)]) (x':=[(300,νb 300,.box e.cells)]) rfl rfl rfl (Zo rfl (Zab _)) rfl)
·rw [if_neg h1] at ha0
 rw [decide_eq_false h1]
 repeat (first | (refine Zj rfl rfl ?_) | refine Zr rfl (by (conv=>lhs;whnf);try rfl) ?_ | refine Zae rfl rfl rfl rfl (by (conv=>lhs;whnf);try rfl) ?_ | refine Zd ?_ | refine Zk ?_ | refine Za ?_)
 by_cases h2:e.kind=2
 ·rw [if_pos h2] at ha0
  obtain ⟨s,hs,ha0⟩:=Option.bind_eq_some_iff.1 ha0
  rw [decide_eq_true h2]
  repeat (first | (refine Zs rfl rfl ?_) | (refine ZfH (ZjG _ _ hs) rfl rfl ?_) | (refine Zz [_] νb (Zb4 e2 r s hf.1 hf.2 a0 ha0) rfl rfl rfl rfl rfl rfl ?_) | refine Zq rfl (by (conv=>lhs;whnf);try rfl) ?_ | refine ZH rfl rfl rfl ?_ | refine Zl rfl rfl ?_ | refine ZaK rfl rfl ?_ | refine Zd ?_ | refine Za ?_ | refine ZD ?_ | refine Zac ?_)
  exact ZdB a0 2 rfl (Za4 (νc 5 6) [_] (Zwl (νc 5 6)) ZiZ rfl ⟨rfl,rfl,trivial⟩ (x:=[(300,νb 300,.box e.cells)]) (x':=[(300,νb 300,.box e.cells)]) rfl rfl rfl (Zo rfl (Zab _)) rfl)
 ·rw [if_neg h2] at ha0
  rw [decide_eq_false h2]
  repeat (first | (refine Zj rfl rfl ?_) | refine Zr rfl (by (conv=>lhs;whnf);try rfl) ?_ | refine Zae rfl rfl rfl rfl (by (conv=>lhs;whnf);try rfl) ?_ | refine Zd ?_ | refine Zk ?_ | refine Za ?_)
  by_cases h3:e.kind=3
  ·rw [if_pos h3] at ha0
   obtain ⟨s,hs,ha0⟩:=Option.bind_eq_some_iff.1 ha0
   rw [decide_eq_true h3]
   repeat (first | (refine Zs rfl rfl ?_) | (refine ZfH (ZdM _ _ _ hs) rfl rfl ?_) | (refine Zz [_] νb (Zb4 e2 r s hf.1 hf.2 a0 ha0) rfl rfl rfl rfl rfl rfl ?_) | refine Zq rfl (by (conv=>lhs;whnf);try rfl) ?_ | refine ZH rfl rfl rfl ?_ | refine Zl rfl rfl ?_ | refine ZaK rfl rfl ?_ | refine Zd ?_ | refine Za ?_ | refine ZD ?_ | refine Zac ?_)
   exact ZdB a0 2 rfl (Za4 (νc 6 6) [_] (Zwl (νc 6 6)) ZiZ rfl ⟨rfl,rfl,trivial⟩ (x:=[(300,νb 300,.box e.cells)]) (x':=[(300,νb 300,.box e.cells)]) rfl rfl rfl (Zo rfl (Zab _)) rfl)
  ·rw [if_neg h3] at ha0
   injection ha0 with ha0
   subst ha0
   rw [decide_eq_false h3]
   repeat (first | (refine Zj rfl rfl ?_) | refine ZF ?_ | refine ZD ?_ | refine Zac ?_)
   exact ZdB e2 2 rfl (Za4 (νb) [_] (Zwl (νb)) ZiZ rfl ⟨rfl,rfl,trivial⟩ (x:=[(300,νb 300,.box e.cells)]) (x':=[(300,νb 300,.box e.cells)]) rfl rfl rfl (Zo rfl (Zab _)) rfl)
·subst hJ
 repeat (first | (refine Zz [_] νb (Zhs e.list _ b0 r hfa hb0) rfl rfl rfl rfl rfl rfl ?_) | refine Zq rfl (by (conv=>lhs;whnf);try rfl) ?_ | refine ZH rfl rfl rfl ?_ | refine Zl rfl rfl ?_ | refine ZaK rfl rfl ?_ | refine ZhB rfl rfl ?_ | refine Zd ?_ | refine Zk ?_ | refine Za ?_ | refine Zaq ?_)
 refine Zv (fun (a:Nat×El) _=>mkS [(0,.ptr 0 (0,0) 0),(42,.sl (e.argL.map Arg.cs)),(43,.int .i64 ((e.argL.map Arg.cs).length:Int)),(44,.int .i64 ((a.1:Nat):Int))] (somes (stP νb a.2 r)) 2) (fun a=>a.1<=e.argL.length/\fit a.2 r/\ZeP a.2 (e.argL.drop a.1)=some e3) (fun a=>e.argL.length-a.1) (0,b0) 2 ⟨Nat.zero_le _,hfb,h4⟩
  (Za4 (νc 2 5) [_] (fun k=>(k,νc 2 5 k)) (fun _ _=>rfl) rfl ⟨rfl,rfl,rfl,rfl,trivial⟩ (x:=[]) (x':=[]) rfl rfl rfl (Zab _) rfl) (fun a ng hJ=>?_)
 obtain ⟨q,e1⟩:=a
 obtain ⟨hq,hf1,hn⟩:=hJ
 dsimp only at hq hf1 hn ⊢
 repeat (first | refine Zae rfl rfl rfl rfl (by (conv=>lhs;whnf);try rfl) ?_ | refine Zd ?_ | refine Zk ?_ | refine Za ?_)
 by_cases hlt:q<e.argL.length
 ·refine Zs (by (conv=>lhs;whnf);try rfl) (by simp;omega) ?_
  rw [List.drop_eq_getElem_cons hlt] at hn
  obtain ⟨e5,h5,hn⟩:=Option.bind_eq_some_iff.1 hn
  have hf5:=ZjQ hf1 h5
  have hcs:(e.argL.map Arg.cs)[q]? = some (Arg.cs e.argL[q]):=by rw [List.getElem?_map,List.getElem?_eq_getElem hlt];rfl
  generalize e.argL[q]=ar at hcs h5
  obtain ⟨named,name,value⟩:=ar
  obtain ⟨b,hb,h5⟩:=Option.bind_eq_some_iff.1 h5
  obtain ⟨d,hd,h5⟩:=Option.bind_eq_some_iff.1 h5
  have hfb2:=Zap hf1 hb
  cases named with
  | true=>
    rw [if_pos rfl] at hd
    obtain ⟨c,hc,hd⟩:=Option.bind_eq_some_iff.1 hd
    have hfc:=Zdh hfb2 hc
    have hfd:=Zap hfc hd
    repeat (first | (refine Zd9 rfl rfl rfl hcs rfl ?_) | (refine Zs rfl rfl ?_) | (refine Zz [_,_] νb (Zb4 e1 r _ hf1.1 hf1.2 b hb) rfl rfl rfl rfl rfl rfl ?_) | (refine Zz [_,_] (νc _ _) (Zhs name b c r hfb2 hc) rfl rfl rfl rfl rfl rfl ?_) | (refine Zz [_,_] (νc _ _) (Zb4 c r _ hfc.1 hfc.2 d hd) rfl rfl rfl rfl rfl rfl ?_) | (refine Zz [_,_] (νc _ _) (Zhs value d e5 r hfd h5) rfl rfl rfl rfl rfl rfl ?_) | refine Zq rfl (by (conv=>lhs;whnf);try rfl) ?_ | refine ZH rfl rfl rfl ?_ | refine Zl rfl rfl ?_ | refine Znv rfl rfl (by omega) ?_ | refine Zdp rfl rfl ?_ | refine ZaN rfl rfl rfl (by (conv=>lhs;whnf);try rfl) (by (conv=>lhs;whnf);try rfl) (by rfl) (by rfl) (Nat.le_of_ble_eq_true rfl) (by (conv=>lhs;whnf);try rfl) ?_ | refine Zd ?_ | refine Zk ?_ | refine Za ?_ | refine Zaq ?_ | refine ZF ?_ | refine ZD ?_)
    exact Zak (q+1,e5) 2 ⟨by omega,hf5,hn⟩ (by dsimp only;omega) (Za4 (νc 8 3) [_,_] (fun k=>(k,νc 8 3 k)) (fun _ _=>rfl) rfl ⟨rfl,rfl,rfl,rfl,trivial⟩ (x:=[]) (x':=[]) rfl rfl rfl (Zab _) rfl)
  | false=>
    rw [if_neg Bool.false_ne_true] at hd
    injection hd with hd
    subst hd
    repeat (first | (refine Zd9 rfl rfl rfl hcs rfl ?_) | (refine Zj rfl rfl ?_) | (refine Zz [_,_] νb (Zb4 e1 r _ hf1.1 hf1.2 b hb) rfl rfl rfl rfl rfl rfl ?_) | (refine Zz [_,_] (νc _ _) (Zhs value b e5 r hfb2 h5) rfl rfl rfl rfl rfl rfl ?_) | refine Zq rfl (by (conv=>lhs;whnf);try rfl) ?_ | refine ZH rfl rfl rfl ?_ | refine Zl rfl rfl ?_ | refine Znv rfl rfl (by omega) ?_ | refine Zdp rfl rfl ?_ | refine ZaN rfl rfl rfl (by (conv=>lhs;whnf);try rfl) (by (conv=>lhs;whnf);try rfl) (by rfl) (by rfl) (Nat.le_of_ble_eq_true rfl) (by (conv=>lhs;whnf);try rfl) ?_ | refine Zd ?_ | refine Zk ?_ | refine Za ?_ | refine Zaq ?_ | refine ZF ?_ | refine ZD ?_)
    exact Zak (q+1,e5) 2 ⟨by omega,hf5,hn⟩ (by dsimp only;omega) (Za4 (νc 6 3) [_,_] (fun k=>(k,νc 6 3 k)) (fun _ _=>rfl) rfl ⟨rfl,rfl,rfl,rfl,trivial⟩ (x:=[]) (x':=[]) rfl rfl rfl (Zab _) rfl)
 ·refine Zj (by (conv=>lhs;whnf);try rfl) (by simp;omega) ?_
  repeat (first | refine Za8 ?_ | refine ZD ?_ | refine Zde ?_ | refine ZgZ ?_)
  obtain rfl:q=e.argL.length:=by omega
  rw [List.drop_length] at hn
  injection hn with hn
  subst hn
  exact ZbA (.inr rfl) νb [] [] rfl rfl trivial rfl rfl}
end Go.Proofs.YtpffimahajgiaaaGreatDoor
namespace Go.Proofs.YtpffimahajgiaaaGreatDoor
namespace VL
section
variable {P:Program} [WInv P] {ops:Array Oper} {draw:Bool} {i:Nat} {L:List Oper} {acc:List (List Nat×List Nat)} {K:FS->Prop} {tm:List (Nat×PV)} {ob:List (Nat×Option (Gen×VObj))} {ng:Nat}
 {d:Option Tmp} {ty:TypeId} {pos:String} {after:Array Edge} {gd:Option (Nat×Bool)}
theorem Zl4 {x:Operand} {T:TypeId} {agg:Bool} {n:Nat} [h:Ld P T agg n] (hw:Zf ops (mkS tm ob ng) ⟨d,.load T x,ty,pos,after,gd⟩=some true) {cs:List PV} {t off:Nat} {g:Gen} {v:PV} (hx:evL tm x = .ptr t g off) (hb:Zm ob t=some (g,.box cs)) (hv:Zne agg n (cs.drop off)=some v)
  (k:GoL P ops draw (i+1) L (acc ++ [(ZA (mkS tm ob ng) ⟨d,.load T x,ty,pos,after,gd⟩,[])]) (mkS (ZaW d v tm) ob ng) K):GoL P ops draw i (⟨d,.load T x,ty,pos,after,gd⟩::L) acc (mkS tm ob ng) K:=by
 refine ZH (cs:=cs.drop off) hw ?_ hv k
 rw [hx]
 simp only [ZeZ,ZX,hb,if_true]
end
theorem Zue {ν:Nat->Gen} {NT AT:Nat} {e':El} {r':List El}:∀ {r:List El},(e'::r') <:+ r->(ZdV ν r)[r'.length]? = some [.ptr (Zbm r') (ν (Zbm r')) 0]/\(Zbm r',ν (Zbm r'),VObj.box [.int .i64 e'.kind,.int .i64 e'.tag,.int .i64 e'.count,.row (Zbm r'+1) (ν (Zbm r'+1)),.row (Zbm r'+2) (ν (Zbm r'+2))]) ∈ ZfC NT AT ν r
 | [],h=>by cases List.suffix_nil.1 h
 | x::r,h=>by
   rcases List.suffix_cons_iff.1 h with h | h
   injection h with h1 h2
   subst h1 h2
   exact ⟨by unfold ZdV;have:=Znz ν r' [.ptr (Zbm r') (ν (Zbm r')) 0];exact this,List.mem_append_left _ (List.mem_cons_self ..)⟩
   obtain ⟨h1,h2⟩:=Zue (NT:=NT) (AT:=AT) h
   refine ⟨?_,List.mem_append_right _ h2⟩
   unfold ZdV
   rw [List.getElem?_append_left (List.getElem?_eq_some_iff.1 h1).1]
   exact h1
theorem Zuf {ν:Nat->Gen} {NT AT ET:Nat} {e e':El} {r r':List El} (h:(e'::r') <:+ (e::r)):∃ b c1 c2,(ZdV ν r ++ [[.ptr 1001 (ν 1001) 0]])[r'.length]? = some [.ptr b (ν b) 0]/\(b,ν b,VObj.box [.int .i64 e'.kind,.int .i64 e'.tag,.int .i64 e'.count,c1,c2]) ∈ stO NT AT ET ν e r:=by{
rcases List.suffix_cons_iff.1 h with h | h
injection h with h1 h2
subst h1 h2
exact ⟨1001,_,_,Znz ν r' _,List.mem_cons_of_mem _ (List.mem_cons_of_mem _ (List.mem_append_left _ (List.mem_cons_self ..)))⟩
obtain ⟨h1,h2⟩:=Zue (NT:=NT) (AT:=AT) (ν:=ν) h
refine ⟨_,_,_,?_,List.mem_cons_of_mem _ (List.mem_cons_of_mem _ (List.mem_append_right _ h2))⟩
rw [List.getElem?_append_left (List.getElem?_eq_some_iff.1 h1).1]
exact h1}
end VL
open VL
def ZaD:El->List El->Nat | _,[]=>0 | e,e2::r=>if e.kind=2 then 0 else if e.kind=3 then r.length+1 else ZaD e2 r
def Zba (k:Int):El->List El->Nat | _,[]=>0 | e,e2::r=>if e.kind=2/\e.tag=k then r.length+1 else Zba k e2 r
theorem Zg8 {e:El} {r:List El} {tm tm':List (Nat×PV)} {ng:Nat} (h1:Zf7 (σf fun k=>(k,νa k)) tm tm'):Shift (mkS tm (somes (stP νa e r)) ng) (mkS tm' (somes (stP νa e r)) 2):=
 ZfA _ h1 (ZkN (ν:=νa) (ν':=νa) (fun _ _=>rfl) e r) (Zbg (lits:=[]) rfl) (ZaV _ _ _)
set_option maxRecDepth 100000 in
set_option maxHeartbeats 1000000 in
theorem Zn5 (e:El) (r:List El) (hr:r.length<=1000):ContractG Tryz.prog 194 [.ptr 0 (0,0) 0] (objs (stP νa e r)) (.int .i64 (ZaD e r:Int)) (stP νa e r):=by{
refine ZG mix Tryz.func194 (by kernel_rfl) rfl (by kernel_rfl) ?_
rw [Zcd]
repeat (first | (refine Zbf rfl rfl (Zb9 _ _ _) ?_) | (refine ZgE rfl rfl rfl (by omega) ?_) | refine Zq rfl (by (conv=>lhs;whnf);try rfl) ?_ | refine ZH rfl rfl rfl ?_ | refine Zl rfl rfl ?_ | refine Zr rfl (by (conv=>lhs;whnf);try rfl) ?_ | refine ZaK rfl rfl ?_ | refine Zd ?_ | refine Zk ?_ | refine Za ?_ | refine Zaq ?_)
refine Zv (fun (a:El×List El) _=>mkS [(0,.ptr 0 (0,0) 0),(3,.int .i64 (a.2.length:Int))] (somes (stP νa e r)) 2) (fun a=>(a.1::a.2) <:+ (e::r)/\ZaD a.1 a.2=ZaD e r) (fun a=>a.2.length) (e,r) 2 ⟨List.suffix_refl _,rfl⟩ (Zg8 ⟨rfl,rfl,trivial⟩) (fun a ng hJ=>?_)
obtain ⟨e1,r1⟩:=a
obtain ⟨hsuf,hlb⟩:=hJ
dsimp only at hsuf hlb ⊢
have hlt:r1.length<r.length+1:=by have:=hsuf.length_le;simp at this;omega
obtain ⟨b,c1,c2,hp,hm⟩:=Zuf (ν:=νa) (NT:=166) (AT:=170) (ET:=154) hsuf
have hb:=Zbg (lits:=[]) rfl _ _ _ hm
rcases r1 with _ | ⟨e2,r2⟩
·repeat (first | (refine ZE rfl ?_) | (refine Zj rfl rfl ?_) | refine Zq rfl (by (conv=>lhs;whnf);try rfl) ?_ | refine Zr rfl (by (conv=>lhs;whnf);try rfl) ?_ | refine Zae rfl rfl rfl rfl (by (conv=>lhs;whnf);try rfl) ?_ | refine Za3 rfl rfl (by (conv=>lhs;whnf);try rfl) ?_ | refine Zd ?_ | refine Zk ?_ | refine Za ?_ | refine Zbi ?_ | refine Za8 ?_)
 rw [<- hlb]
 exact ZhE (Shift.refl _) rfl rfl (Zbg (lits:=[]) rfl)
·have h0:decide ((0:Int)<(((e2::r2).length:Nat):Int))=true:=decide_eq_true (by simp)
 repeat (first | refine Zq rfl (by (conv=>lhs;whnf);try rfl) ?_ | refine Zae rfl rfl rfl rfl (by (conv=>lhs;whnf);try rfl) ?_ | refine Zk ?_ | refine Za ?_)
 rw [h0]
 repeat (first | (refine ZeN rfl rfl rfl rfl (by rw [Zb9];exact hlt) ?_) | (refine ZcP rfl rfl rfl hp rfl ?_) | (refine Zl4 rfl rfl hb rfl ?_) | refine Zq rfl (by (conv=>lhs;whnf);try rfl) ?_ | refine ZH rfl rfl rfl ?_ | refine Zl rfl rfl ?_ | refine Zae rfl rfl rfl rfl (by (conv=>lhs;whnf);try rfl) ?_ | refine ZaK rfl rfl ?_ | refine Za3 rfl rfl (by (conv=>lhs;whnf);try rfl) ?_ | refine Zd ?_)
 by_cases h2:e1.kind=2
 ·rw [decide_eq_true h2]
  repeat (first | (refine Zj rfl rfl ?_) | refine Zr rfl (by (conv=>lhs;whnf);try rfl) ?_ | refine Zd ?_ | refine Zk ?_ | refine Za ?_ | refine Zbi ?_ | refine Za8 ?_)
  rw [show ZaD e r=0 by rw [<- hlb];simp only [ZaD,if_pos h2]]
  exact ZhE (Shift.refl _) rfl rfl (Zbg (lits:=[]) rfl)
 ·rw [decide_eq_false h2]
  repeat (first | (refine Zs rfl rfl ?_) | (refine ZeN rfl rfl rfl rfl (by rw [Zb9];exact hlt) ?_) | (refine ZcP rfl rfl rfl hp rfl ?_) | (refine Zl4 rfl rfl hb rfl ?_) | refine Zq rfl (by (conv=>lhs;whnf);try rfl) ?_ | refine ZH rfl rfl rfl ?_ | refine Zl rfl rfl ?_ | refine Zae rfl rfl rfl rfl (by (conv=>lhs;whnf);try rfl) ?_ | refine ZaK rfl rfl ?_ | refine Zd ?_ | refine Zk ?_ | refine Za ?_ | refine Zaq ?_ | refine ZF ?_)
  by_cases h3:e1.kind=3
  ·rw [decide_eq_true h3]
   repeat (first | (refine Zs rfl rfl ?_) | refine Zq rfl (by (conv=>lhs;whnf);try rfl) ?_ | refine Zr rfl (by (conv=>lhs;whnf);try rfl) ?_ | refine Zd ?_ | refine Zk ?_ | refine Za ?_ | refine Zbi ?_ | refine Zrc ?_ | refine Zrd ?_)
   rw [show ZaD e r=r2.length+1 by rw [<- hlb];simp only [ZaD,if_neg h2,if_pos h3]]
   exact ZhE (Shift.refl _) rfl rfl (Zbg (lits:=[]) rfl)
  ·rw [decide_eq_false h3]
   repeat (first | (refine Zj rfl rfl ?_) | (refine ZgE (a:=r2.length) rfl rfl rfl (by simp at hlt;omega) ?_) | refine Zq rfl (by (conv=>lhs;whnf);try rfl) ?_ | refine Zr rfl (by (conv=>lhs;whnf);try rfl) ?_ | refine Zd ?_ | refine Za ?_ | refine ZF ?_ | refine ZD ?_)
   refine Zak (e2,r2) 2 ⟨(List.suffix_cons _ _).trans hsuf,?_⟩ (by dsimp only;simp) (Zg8 ⟨rfl,rfl,trivial⟩)
   rw [<- hlb]
   simp only [ZaD,if_neg h2,if_neg h3]}
end Go.Proofs.YtpffimahajgiaaaGreatDoor
