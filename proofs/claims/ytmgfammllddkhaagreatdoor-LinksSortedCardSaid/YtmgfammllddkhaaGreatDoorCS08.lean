/- Functions of the program as Lean functions. Written by fxgen.py. | Calls of the parser's methods: the rule, and how such a method ends. No program is named. | States of the parser under new names; how a method of it ends; rows of arguments. No program is named. | Cells of rows that lead to rows: made pure, nil as a row of the call's own; such a row taken as a plain one. No program is named. | Lengths of rows whose lengths are known; the parser's stack: lengths and places. No program is named. | The parser's state put in order again: the top turned, the top taken away, a new top. No program is named. | A method of the top element: the rule of its call. No program is named. | More ends of the parser's methods; the order of a state's objects. No program is named. | The parser's top, and the list of an element that grows. | The parser's text and node: a node is appended where the top element collects. -/
import Derived.Test.YtmgfammllddkhaaGreatDoorCS04
import Derived.Test.YtmgfammllddkhaaGreatDoorCS07
import Derived.Test.YtmgfammllddkhaaGreatDoorCS06
import Derived.Test.YtmgfammllddkhaaGreatDoorCS03
import Derived.Test.YtmgfammllddkhaaGreatDoorCS02
set_option linter.unusedVariables false
set_option maxHeartbeats 4000000
set_option maxRecDepth 100000
namespace Go.Proofs.YtmgfammllddkhaaGreatDoor
open VL
def Zav (p0:ByteArray) (p1:ByteArray):Option (ByteArray×Bool):=
 (Zs p0 p1).bind fun r1=>
 if (!r1) then
  (some (p0,false):Option (ByteArray×Bool))
 else
 (ZfP p0 (p1.size:Int) (p0.size:Int)).bind fun l2=>
 (some (l2,true):Option (ByteArray×Bool))
theorem ZcI (p0:ByteArray) (p1:ByteArray) (r:ByteArray×Bool) (h:Zav p0 p1=some r):Zo Tryz.prog 83 [.str p0,.str p1] (.tup [.str r.1,.bool r.2]):=by
 refine cF (fun r=>.tup [.str r.1,.bool r.2]) h mix Tryz.func83 fun r h=>?_
 unfold Zav at h
 refine Zq ?_
 refine rg ?_
 refine rg ?_
 refine aC h (ZaL _ _) fun r1 h=>?_
 refine cS h rfl (fun h=>?_) fun h=>?_
 ·refine rg ?_
  cases h
  exact rQ
 refine rg ?_
 refine sS h fun l2 h=>?_
 cases h
 exact rQ
def Zbc (p0:ByteArray) (p1:ByteArray):Option (ByteArray×Bool):=
 (Zav p0 p1).bind fun r1=>
 (some (r1.1,r1.2):Option (ByteArray×Bool))
theorem Zd3 (p0:ByteArray) (p1:ByteArray) (r:ByteArray×Bool) (h:Zbc p0 p1=some r):Zo Tryz.prog 47 [.str p0,.str p1] (.tup [.str r.1,.bool r.2]):=by
 refine cF (fun r=>.tup [.str r.1,.bool r.2]) h mix Tryz.func47 fun r h=>?_
 unfold Zbc at h
 refine Zq ?_
 refine rg ?_
 refine rg ?_
 refine aC h (ZcI _ _) fun r1 h=>?_
 cases h
 exact rQ
def Zcl (p0:ByteArray):Option ByteArray:=
 (Zcy p0 (⟨#[9,10,13,32]⟩:ByteArray)).bind fun r1=>
 (some r1:Option ByteArray)
theorem Zgd (p0:ByteArray) (r:ByteArray) (h:Zcl p0=some r):Zo Tryz.prog 118 [.str p0] (.str r):=by
 refine cF (fun r=>.str r) h mix Tryz.func118 fun r h=>?_
 unfold Zcl at h
 refine Zq ?_
 refine rg ?_
 refine rg ?_
 refine aC h (Zi9 _ _) fun r1 h=>?_
 cases h
 exact rQ
def ZeH (p0:ByteArray):Option Int:=
 Zbq Zel (fun f12 (x58:Int)=>
  if (decide (x58<(p0.size:Int))) then
   letk (fun (x83:Bool)=>
    if x83 then
     (some x58:Option Int)
    else
    f12 (w64 (x58+1))) fun k14=>
   (atS p0 x58).bind fun c84=>
   if (decide (c84=124)) then
    k14 true
   else
   (atS p0 x58).bind fun c85=>
   if (decide (c85=93)) then
    if (decide ((w64 (x58+1))<(p0.size:Int))) then
     (atS p0 (w64 (x58+1))).bind fun c86=>
     k14 (decide (c86=93))
    else
    k14 false
   else
   k14 false
  else
  (some (-1):Option Int)) 0
theorem ZiR (p0:ByteArray) (r:Int) (h:ZeH p0=some r):Zo Tryz.prog 49 [.str p0] (.int .i64 r):=by
 refine cF (fun r=>.int .i64 r) h mix Tryz.func49 fun r h=>?_
 unfold ZeH at h
 refine Zq ?_
 refine rg ?_
 refine rg ?_
 refine bl ?_
 refine ZW h fun f12 mf12 hf12 h=>?_
 refine ZH (α:=Nat×Int) (fun a _=>mkS [(0,.str p0),(5,.int .i64 (p0.size:Int)),(6,.int .i64 a.2)] [] 2) (fun a=>Zbq a.1 f12 a.2=some r) (fun a=>a.1) (mf12,0) 2 h (sR []) (fun a _ h=>?_)
 obtain ⟨mf12,x58⟩:=a
 obtain ⟨mf12,rfl,h⟩:=ZX hf12 h
 dsimp only at h ⊢
 refine Zq ?_
 refine rg ?_
 refine cS h rfl (fun h=>?_) fun h=>?_
 ·refine bl ?_
  refine rg ?_
  refine jL h (fun x83=>mkS [(0,.str p0),(3,.int .i64 x58),(5,.int .i64 (p0.size:Int)),(6,.int .i64 x58),(32,.bool x83)] [] 2) (fun k14 h=>?_) fun x83 h=>?_
  ·refine rg ?_
   refine aS h fun c84 h=>?_
   refine kS 13 h rfl (fun h=>?_) fun h=>?_
   ·iterate 18 refine ZN rfl (Zq ?_)
    exact jn true h (sR [])
   refine aS h fun c85 h=>?_
   refine kS 18 h rfl (fun h=>?_) fun h=>?_
   ·refine kS 25 h rfl (fun h=>?_) fun h=>?_
    ·refine aS h fun c86 h=>?_
     exact jn (decide (c86=93)) h (sR [])
    iterate 5 refine ZN rfl (Zq ?_)
    exact jn false h (sR [])
   iterate 10 refine ZN rfl (Zq ?_)
   exact jn false h (sR [])
  refine cS h rfl (fun h=>?_) fun h=>?_
  ·refine rg ?_
   cases h
   exact rQ
  refine rg ?_
  exact rn (mf12,(w64 (x58+1))) h (sR [])
 refine rg ?_
 cases h
 exact rQ
def ZcT (p0:ByteArray):Option (Title×Int):=
 (strings_Cut p0 (⟨#[35]⟩:ByteArray)).bind fun r1=>
 (Zef r1.1).bind fun r2=>
 (some (r2.1,r2.2):Option (Title×Int))
theorem Zfx (p0:ByteArray) (r:Title×Int) (h:ZcT p0=some r):Zo Tryz.prog 50 [.str p0] (.tup [r.1.pv,.int .i64 r.2]):=by
 refine cF (fun r=>.tup [r.1.pv,.int .i64 r.2]) h mix Tryz.func50 fun r h=>?_
 unfold ZcT at h
 refine Zq ?_
 refine rg ?_
 refine rg ?_
 refine aC h (ZgV _ _) fun r1 h=>?_
 refine rg ?_
 refine aC h (Zld _) fun r2 h=>?_
 cases h
 exact rQ
def Zcv (p0:ByteArray):Option ByteArray:=
 (atS p0 0).bind fun c1=>
 if (!decide (c1=124)) then
  (some (⟨#[]⟩:ByteArray):Option ByteArray)
 else
 (ZfP p0 1 (p0.size:Int)).bind fun l2=>
 (strings_Cut l2 (⟨#[93,93]⟩:ByteArray)).bind fun r3=>
 if (!r3.2.2) then
  (some (⟨#[]⟩:ByteArray):Option ByteArray)
 else
 (Zcl r3.1).bind fun r4=>
 (some r4:Option ByteArray)
theorem ZiS (p0:ByteArray) (r:ByteArray) (h:Zcv p0=some r):Zo Tryz.prog 116 [.str p0] (.str r):=by
 refine cF (fun r=>.str r) h mix Tryz.func116 fun r h=>?_
 unfold Zcv at h
 refine Zq ?_
 refine rg ?_
 refine rg ?_
 refine aS h fun c1 h=>?_
 refine cS h rfl (fun h=>?_) fun h=>?_
 ·refine rg ?_
  cases h
  exact rQ
 refine rg ?_
 refine sS h fun l2 h=>?_
 refine aC h (ZgV _ _) fun r3 h=>?_
 refine rg ?_
 refine cS h rfl (fun h=>?_) fun h=>?_
 ·refine rg ?_
  cases h
  exact rQ
 refine rg ?_
 refine aC h (Zgd _) fun r4 h=>?_
 cases h
 exact rQ
def ZaI (p0:Finder) (p1:ByteArray):Option Finder:=
 Zbq Zel (fun f5 ((x21,x22,x23):ByteArray×(List Link)×(List Memb))=>
  (strings_Index x21 (⟨#[91,91]⟩:ByteArray)).bind fun r44=>
  if (decide (r44<0)) then
   (some (⟨x22,x23⟩:Finder):Option Finder)
  else
  (ZfP x21 (w64 (r44+2)) (x21.size:Int)).bind fun l45=>
  (ZfP x21 (w64 (r44+1)) (x21.size:Int)).bind fun l46=>
  (ZeH l45).bind fun r47=>
  if (decide (r47<0)) then
   (some (⟨x22,x23⟩:Finder):Option Finder)
  else
  (ZfP l45 0 r47).bind fun l48=>
  letk (fun (x51:Bool)=>
   if x51 then
    f5 (l46,x22,x23)
   else
   (ZcT l48).bind fun r52=>
   if (!decide (r52.2=0)) then
    f5 (l46,x22,x23)
   else
   letk (fun (x55:Bool)=>
    if x55 then
     (ZfP l45 r47 (l45.size:Int)).bind fun l56=>
     (Zcv l56).bind fun r57=>
     (Zjw 40 x23 [(⟨r52.1,r57⟩:Memb)]).bind fun l58=>
     f5 (l46,x22,l58)
    else
    (Zjw 32 x22 [(⟨1,r52.1⟩:Link)]).bind fun l59=>
    f5 (l46,l59,x23)) fun k7=>
   if (decide (r52.1.space=4)) then
    (Zbd l48 (⟨#[9,32,95]⟩:ByteArray)).bind fun r60=>
    (ZF r60 (⟨#[58]⟩:ByteArray)).bind fun r61=>
    k7 (!r61)
   else
   k7 false) fun k6=>
  (strings_Contains l48 (⟨#[91,91]⟩:ByteArray)).bind fun r62=>
  if r62 then
   k6 true
  else
  (strings_Contains l48 (⟨#[10]⟩:ByteArray)).bind fun r63=>
  k6 r63) (p1,p0.links,p0.members)
theorem Zfn (p0:Finder) (p1:ByteArray) (r:Finder) (h:ZaI p0 p1=some r):ContractP Tryz.prog 66 [.ptr 0 (0,0) 0,.str p1] 0 [.row 42 3 false (List.map Link.cs p0.links),.row 45 3 false (List.map Memb.cs p0.members)] (.tup []) [.row 42 3 false (List.map Link.cs r.links),.row 45 3 false (List.map Memb.cs r.members)]:=by
 refine Zgn (R:=fun r=>.tup []) (O:=fun r=>[.row 42 3 false (List.map Link.cs r.links),.row 45 3 false (List.map Memb.cs r.members)]) h mix Tryz.func66 (by kernel_rfl) rfl (by kernel_rfl) rfl fun r h=>?_
 unfold ZaI at h
 refine Zq ?_
 refine bl ?_
 refine ZW h fun f5 mf5 hf5 h=>?_
 refine ZH (α:=Nat×(ByteArray×(List Link)×(List Memb))) (fun a _=>mkS [(0,.ptr 0 (0,0) 0),(1,.str a.2.1)] [(0,some ((0,0),.box [.row 1000 (1,1000),.row 1001 (1,1001)])),(1000,some ((1,1000),.row 42 3 false (List.map Link.cs a.2.2.1))),(1001,some ((1,1001),.row 45 3 false (List.map Memb.cs a.2.2.2)))] 2) (fun a=>Zbq a.1 f5 a.2=some r) (fun a=>a.1) (mf5,p1,p0.links,p0.members) 2 h (sR [(1000,0,1000),(1001,0,1001)]) (fun a _ h=>?_)
 obtain ⟨mf5,x21,x22,x23⟩:=a
 obtain ⟨mf5,rfl,h⟩:=ZX hf5 h
 dsimp only at h ⊢
 refine Zq ?_
 refine bl ?_
 refine rg ?_
 refine aC h (Zd6 _ _) fun r44 h=>?_
 refine rg ?_
 refine cS h rfl (fun h=>?_) fun h=>?_
 ·cases h
  exact Zsx rfl rfl rfl rfl rfl rfl
 refine rg ?_
 refine sS h fun l45 h=>?_
 refine rg ?_
 refine sS h fun l46 h=>?_
 refine rg ?_
 refine aC h (ZiR _) fun r47 h=>?_
 refine rg ?_
 refine cS h rfl (fun h=>?_) fun h=>?_
 ·cases h
  exact Zsx rfl rfl rfl rfl rfl rfl
 refine rg ?_
 refine sS h fun l48 h=>?_
 refine jL h (fun x51=>mkS [(0,.ptr 0 (0,0) 0),(1,.str l46),(5,.str l45),(6,.int .i64 r47),(7,.str l48),(34,.bool x51)] [(0,some ((0,0),.box [.row 1000 (1,1000),.row 1001 (1,1001)])),(1000,some ((1,1000),.row 42 3 false (List.map Link.cs x22))),(1001,some ((1,1001),.row 45 3 false (List.map Memb.cs x23)))] 2) (fun k6 h=>?_) fun x51 h=>?_
 ·refine rg ?_
  refine aC h (ZbR _ _) fun r62 h=>?_
  refine kS 31 h rfl (fun h=>?_) fun h=>?_
  ·iterate 2 refine ZN rfl (Zq ?_)
   exact jn true h (sR [(1000,1,1000),(1001,1,1001)])
  refine aC h (ZbR _ _) fun r63 h=>?_
  exact jn r63 h (sR [(1000,1,1000),(1001,1,1001)])
 refine cS h rfl (fun h=>?_) fun h=>?_
 ·exact rn (mf5,l46,x22,x23) h (sR [(1000,1,1000),(1001,1,1001)])
 refine rg ?_
 refine aC h (Zfx _) fun r52 h=>?_
 refine rg ?_
 refine cS h rfl (fun h=>?_) fun h=>?_
 ·exact rn (mf5,l46,x22,x23) h (sR [(1000,1,1000),(1001,1,1001)])
 refine jL h (fun x55=>mkS [(0,.ptr 0 (0,0) 0),(1,.str l46),(5,.str l45),(6,.int .i64 r47),(8,.ptr 8 (1,8) 0),(50,.bool x55)] [(0,some ((0,0),.box [.row 1000 (1,1000),.row 1001 (1,1001)])),(8,some ((1,8),.box (Title.cs r52.1))),(1000,some ((1,1000),.row 42 3 false (List.map Link.cs x22))),(1001,some ((1,1001),.row 45 3 false (List.map Memb.cs x23)))] 2) (fun k7 h=>?_) fun x55 h=>?_
 ·refine rg ?_
  refine kS 45 h rfl (fun h=>?_) fun h=>?_
  ·refine aC h (Zd7 _ _) fun r60 h=>?_
   refine aC h (Zao _ _) fun r61 h=>?_
   exact jn (!r61) h (sR [(8,2,5),(1000,1,1000),(1001,1,1001)])
  iterate 4 refine ZN rfl (Zq ?_)
  exact jn false h (sR [(8,2,5),(1000,1,1000),(1001,1,1001)])
 refine cS h rfl (fun h=>?_) fun h=>?_
 ·refine rg ?_
  refine sS h fun l56 h=>?_
  refine aC h (ZiS _) fun r57 h=>?_
  refine Zc5 (M:=([(⟨r52.1,r57⟩:Memb)]:List Memb)) (f:=Memb.cs) rfl rfl rfl rfl (Nat.le_of_ble_eq_true rfl) rfl (Zq ?_)
  refine pR Memb.cs h fun l58 h=>?_
  exact rn (mf5,l46,x22,l58) h (sR [(1000,1,1000),(1001,2,12)])
 refine rg ?_
 refine Zc5 (M:=([(⟨1,r52.1⟩:Link)]:List Link)) (f:=Link.cs) rfl rfl rfl rfl (Nat.le_of_ble_eq_true rfl) rfl (Zq ?_)
 refine pR Link.cs h fun l59 h=>?_
 exact rn (mf5,l46,l59,x23) h (sR [(1000,2,8),(1001,1,1001)])
def Zcc (p0:ByteArray):Option (Title×Bool):=
 (Zbc p0 (⟨#[35,82,69,68,73,82,69,67,84]⟩:ByteArray)).bind fun r1=>
 if (!r1.2) then
  (some ((⟨0,(⟨#[]⟩:ByteArray)⟩:Title),false):Option (Title×Bool))
 else
 (Zbd r1.1 (⟨#[32,9]⟩:ByteArray)).bind fun r2=>
 (Zbc r2 (⟨#[91,91]⟩:ByteArray)).bind fun r3=>
 (ZeH r3.1).bind fun r4=>
 letk (fun (x9:Bool)=>
  if x9 then
   (some ((⟨0,(⟨#[]⟩:ByteArray)⟩:Title),false):Option (Title×Bool))
  else
  (ZfP r3.1 0 r4).bind fun l10=>
  (ZcT l10).bind fun r11=>
  (some (r11.1,(decide (r11.2=0))):Option (Title×Bool))) fun k1=>
 if (!r3.2) then
  k1 true
 else
 if (decide (r4<0)) then
  k1 true
 else
 (ZfP r3.1 0 r4).bind fun l12=>
 (strings_Contains l12 (⟨#[91,91]⟩:ByteArray)).bind fun r13=>
 if r13 then
  k1 true
 else
 (ZfP r3.1 0 r4).bind fun l14=>
 (strings_Contains l14 (⟨#[10]⟩:ByteArray)).bind fun r15=>
 k1 r15
theorem Zh4 (p0:ByteArray) (r:Title×Bool) (h:Zcc p0=some r):Zo Tryz.prog 13 [.str p0] (.tup [r.1.pv,.bool r.2]):=by
 refine cF (fun r=>.tup [r.1.pv,.bool r.2]) h mix Tryz.func13 fun r h=>?_
 unfold Zcc at h
 refine Zq ?_
 refine rg ?_
 refine rg ?_
 refine aC h (Zd3 _ _) fun r1 h=>?_
 refine rg ?_
 refine cS h rfl (fun h=>?_) fun h=>?_
 ·refine rg ?_
  cases h
  exact rQ
 refine rg ?_
 refine aC h (Zd7 _ _) fun r2 h=>?_
 refine aC h (Zd3 _ _) fun r3 h=>?_
 refine rg ?_
 refine aC h (ZiR _) fun r4 h=>?_
 refine jL h (fun x9=>mkS [(2,.ptr 2 (1,2) 0),(4,.str r3.1),(6,.int .i64 r4),(42,.bool x9)] [(2,some ((1,2),.box [.int .i64 0,.str (⟨#[]⟩:ByteArray)]))] 2) (fun k1 h=>?_) fun x9 h=>?_
 ·refine rg ?_
  refine kS 27 h rfl (fun h=>?_) fun h=>?_
  ·iterate 10 refine ZN rfl (Zq ?_)
   exact jn true h (sR [(2,1,0)])
  refine kS 31 h rfl (fun h=>?_) fun h=>?_
  ·iterate 8 refine ZN rfl (Zq ?_)
   exact jn true h (sR [(2,1,0)])
  refine sS h fun l12 h=>?_
  refine aC h (ZbR _ _) fun r13 h=>?_
  refine kS 37 h rfl (fun h=>?_) fun h=>?_
  ·iterate 4 refine ZN rfl (Zq ?_)
   exact jn true h (sR [(2,1,0)])
  refine sS h fun l14 h=>?_
  refine aC h (ZbR _ _) fun r15 h=>?_
  exact jn r15 h (sR [(2,1,0)])
 refine cS h rfl (fun h=>?_) fun h=>?_
 ·refine rg ?_
  cases h
  exact rQ
 refine rg ?_
 refine sS h fun l10 h=>?_
 refine aC h (Zfx _) fun r11 h=>?_
 refine rg ?_
 cases h
 exact rQ
end Go.Proofs.YtmgfammllddkhaaGreatDoor
namespace Go.Proofs.YtmgfammllddkhaaGreatDoor
namespace VL
open Go.RowKit
def νa (k:Nat):Gen:=(0,k)
def νb (k:Nat):Gen:=if k=0 then (0,0) else (1,k)
def νn (g0:Gen) (ng i k:Nat):Gen:=if k=0 then g0 else (ng,i+1000000 * (k+1))
abbrev νc (ng i:Nat):Nat→Gen:=νn (0,0) ng i
def objs (l:List (Nat×Gen×VObj)):List (Nat×VObj):=l.map fun q=>(q.1,q.2.2)
theorem ZfW {l:List (Nat×Gen×VObj)} {t:Nat} {o:VObj} (h:(t,o) ∈ objs l):∃ g,(t,g,o) ∈ l:=by
 obtain ⟨⟨t',g,o'⟩,h1,e⟩:=List.mem_map.1 h
 injection e with e1 e2
 subst e1 e2
 exact ⟨g,h1⟩
section
variable {NT AT ET:Nat}
theorem Zd0 {f:Nat→Option (Gen×VObj)} {y:Nat} {l:List Nat} (h:y ∈ l):∀ n,y ∈ ZdT f n l
 | 0=>h
 | _+1=>List.mem_append_left _ h
theorem Zd1 {f:Nat→Option (Gen×VObj)} {x y:Nat} {l:List Nat} {n:Nat} (hx:x ∈ l) (h:∀ l':List Nat,(∀ z ∈ Zf7 f x,z ∈ l')→y ∈ ZdT f n l'):y ∈ ZdT f (n+1) l:=
 List.mem_append_right _ (h _ fun _ hz=>List.mem_flatMap.2 ⟨x,hx,hz⟩)
theorem ZgM {f:Nat→Option (Gen×VObj)} {t:Nat} {g:Gen} {cs:List PV} (h:f t=some (g,.box cs)) {p:PV} (hp:p ∈ cs) {k:Nat} (hk:k ∈ ZaB p):k ∈ Zf7 f t:=by
 unfold Zf7
 rw [h]
 exact List.mem_flatMap.2 ⟨p,hp,hk⟩
theorem Zj0 {f:Nat→Option (Gen×VObj)} {t:Nat} {g:Gen} {E n:Nat} {els:List (List PV)} (h:f t=some (g,.prow E n els)) {el:List PV} (he:el ∈ els) {p:PV} (hp:p ∈ el) {k:Nat} (hk:k ∈ ZaB p):k ∈ Zf7 f t:=by
 unfold Zf7
 rw [h]
 exact List.mem_flatMap.2 ⟨p,List.mem_flatten.2 ⟨el,he,hp⟩,hk⟩
theorem Zpy {ob:List (Nat×Option (Gen×VObj))} {b:Nat} {ν:Nat→Gen} {e:El} (h:Has ob (elO NT AT b ν e)) {l:List Nat} (hb:b ∈ l) {t:Nat} {g:Gen} {o:VObj} (hm:(t,g,o) ∈ elO NT AT b ν e) (n:Nat):t ∈ ZdT (Zm ob) (n+2) l:=by
 unfold elO at h hm
 rcases List.mem_cons.1 hm with q | hm'
 ·injection q with q1 q2;subst q1;exact Zd0 hb _
 ·have hbox:=h _ _ _ (List.mem_cons_self ..)
  rcases List.mem_cons.1 hm' with q | hm'
  ·injection q with q1 q2
   subst q1
   exact Zd1 hb fun l' h'=>Zd0 (h' _ (ZgM hbox (p:=.row (b+1) (ν (b+1))) (by simp) (by simp [ZaB]))) _
  ·rcases List.mem_cons.1 hm' with q | hm'
   ·injection q with q1 q2
    subst q1
    exact Zd1 hb fun l' h'=>Zd0 (h' _ (ZgM hbox (p:=.row (b+2) (ν (b+2))) (by simp) (by simp [ZaB]))) _
   ·have hrow:=h _ _ _ (List.mem_cons_of_mem _ (List.mem_cons_of_mem _ (List.mem_cons_self ..)))
    unfold Zmj at hm'
    split at hm'
    ·cases hm'
    ·rename_i pre a hl
     obtain q:=List.mem_singleton.1 hm'
     injection q with q1 q2
     subst q1
     refine Zd1 hb fun l' h'=>Zd1 (h' _ (ZgM hbox (p:=.row (b+2) (ν (b+2))) (by simp) (by simp [ZaB]))) fun l2 h2=>Zd0 (h2 _ (Zj0 hrow (el:=[.bool a.named,.sl a.name,.row (b+3) (ν (b+3))]) (by rw [hl];simp [Zgc]) (p:=.row (b+3) (ν (b+3))) (by simp) (by simp [ZaB]))) _
theorem Zpz {ν:Nat→Gen}:∀ {r:List El} {t:Nat} {g:Gen} {o:VObj},(t,g,o) ∈ Zfm NT AT ν r→∃ b e,[PV.ptr b (ν b) 0] ∈ ZdD ν r∧(t,g,o) ∈ elO NT AT b ν e∧∀ q ∈ elO NT AT b ν e,q ∈ Zfm NT AT ν r
 | [],_,_,_,h=>by cases h
 | e::r,t,g,o,h=>by
   rcases List.mem_append.1 h with h | h
   ·exact ⟨ZaE r,e,List.mem_append_right _ (List.mem_singleton.2 rfl),h,fun q hq=>List.mem_append_left _ hq⟩
   ·obtain ⟨b,e',h1,h2,h3⟩:=Zpz h
    exact ⟨b,e',List.mem_append_left _ h1,h2,fun q hq=>List.mem_append_right _ (h3 q hq)⟩
theorem Znq {ob:List (Nat×Option (Gen×VObj))} {ν:Nat→Gen} {e:El} {r:List El} (h:Has ob (stO NT AT ET ν e r)) {t:Nat} {g:Gen} {o:VObj} (hm:(t,g,o) ∈ stO NT AT ET ν e r):t ∈ ZiA (Zm ob) (.ptr 0 (ν 0) 0):=by
 show t ∈ ZdT (Zm ob) 4 [0]
 have h0:=h _ _ _ (List.mem_cons_self ..)
 have h1:=h _ _ _ (List.mem_cons_of_mem _ (List.mem_cons_self ..))
 rcases List.mem_cons.1 hm with q | hm'
 ·injection q with q1 q2;subst q1;exact Zd0 (List.mem_singleton.2 rfl) _
 ·have k1:∀ l':List Nat,(∀ z ∈ Zf7 (Zm ob) 0,z ∈ l')→1000 ∈ l':=fun l' h'=>h' _ (ZgM h0 (p:=.row 1000 (ν 1000)) (by simp) (by simp [ZaB]))
  rcases List.mem_cons.1 hm' with q | hm'
  ·injection q with q1 q2
   subst q1
   exact Zd1 (List.mem_singleton.2 rfl) fun l' h'=>Zd0 (k1 l' h') _
  ·have main:∃ b e',[PV.ptr b (ν b) 0] ∈ ZdD ν r ++ [[.ptr 1001 (ν 1001) 0]]∧(t,g,o) ∈ elO NT AT b ν e'∧∀ q ∈ elO NT AT b ν e',q ∈ stO NT AT ET ν e r:=by
    rcases List.mem_append.1 hm' with h | h
    ·exact ⟨1001,e,List.mem_append_right _ (List.mem_singleton.2 rfl),h,fun q hq=>List.mem_cons_of_mem _ (List.mem_cons_of_mem _ (List.mem_append_left _ hq))⟩
    ·obtain ⟨b,e',w1,w2,w3⟩:=Zpz h
     exact ⟨b,e',List.mem_append_left _ w1,w2,fun q hq=>List.mem_cons_of_mem _ (List.mem_cons_of_mem _ (List.mem_append_right _ (w3 q hq)))⟩
   obtain ⟨b,e',w1,w2,w3⟩:=main
   refine Zd1 (List.mem_singleton.2 rfl) fun l' h'=>Zd1 (k1 l' h') fun l2 h2=>Zpy (fun t g o hq=>h t g o (w3 _ hq)) (h2 _ (Zj0 h1 w1 (List.mem_singleton.2 rfl) (by simp [ZaB]))) w2 0
theorem ZkJ {σ:Gen→Option (Nat×Gen)} {κ:Nat→Nat} {γ:Nat→Gen} {f:Nat→Option (Gen×VObj)}:∀ {l l2:List (Nat×Gen×VObj)},ZaY σ l=some l2→(∀ t g o,(t,g,o) ∈ l2→f t=some (g,o))→(∀ q ∈ l,σ q.2.1=some (κ q.1,γ q.1))→ZoP σ κ γ f (objs l)
 | [],_,_,_,_=>trivial
 | (t,g,o)::r,l2,h,hf,hk=>by
  simp only [ZaY] at h
  split at h
  ·rename_i t3 g3 o3 r3 h1 h2 h3
   injection h with h
   subst h
   have e:=hk _ (List.mem_cons_self ..)
   rw [h1] at e
   injection e with e
   injection e with e1 e2
   subst e1 e2
   exact ⟨⟨o3,h2,hf _ _ _ (List.mem_cons_self ..)⟩,ZkJ h3 (fun t g o hm=>hf t g o (List.mem_cons_of_mem _ hm)) fun q hq=>hk q (List.mem_cons_of_mem _ hq)⟩
  ·cases h
theorem Zid {κ:Nat→Nat} {obs:List (Nat×VObj)} {obs2:List (Nat×Gen×VObj)} {ob:List (Nat×Option (Gen×VObj))} (hn:(obs2.map (·.1)).Nodup) (t:Nat) :
  Zm ((usG κ obs obs2).reverse++ob) t=if ∃ q ∈ obs2,q.1=t then Zm (somes obs2) t else if ∃ q ∈ obs,κ q.1=t then none else Zm ob t:=by
 unfold usG
 rw [List.reverse_append,List.append_assoc]
 have hrev:((obs2.reverse).map (·.1)).Nodup:=by rw [List.map_reverse];exact (List.reverse_perm _).nodup_iff.2 hn
 have e:(obs2.map fun q=>(q.1,some q.2)).reverse=somes obs2.reverse:=by unfold somes;rw [List.map_reverse]
 rw [e]
 by_cases h1:∃ q ∈ obs2,q.1=t
 ·rw [if_pos h1]
  obtain ⟨⟨t',g,o⟩,hq,rfl⟩:=h1
  have w:=ZbI [] hn hq
  rw [List.append_nil] at w
  rw [w]
  exact ZbI _ hrev (List.mem_reverse.2 hq)
 ·rw [if_neg h1,Zb1 _ _ _ fun q hq hqt=>h1 (by
   obtain ⟨g,o,h2,_⟩:=Zf4 hq
   exact ⟨_,List.mem_reverse.1 h2,hqt⟩)]
  by_cases h2:∃ q ∈ obs,κ q.1=t
  ·rw [if_pos h2]
   have:∀ (l:List (Nat×VObj)) (b:List (Nat×Option (Gen×VObj))),(∃ q ∈ l,κ q.1=t)→Zm ((l.map fun q=>(κ q.1,(none:Option (Gen×VObj))))++b) t=none:=fun l b=>by
    induction l with
    | nil=>rintro ⟨q,hq,_⟩;cases hq
    | cons q l ih=>
      rintro ⟨q',hq',e⟩
      show (if t=κ q.1 then none else Zm (_++b) t)=none
      split
      ·rfl
      ·rename_i hne
       rcases List.mem_cons.1 hq' with rfl | hq'
       ·exact absurd e.symm hne
       ·exact ih ⟨q',hq',e⟩
   rw [← List.map_reverse]
   obtain ⟨q,hq,e2⟩:=h2
   exact this _ _ ⟨q,List.mem_reverse.2 hq,e2⟩
  ·rw [if_neg h2,Zb1 _ _ _ fun q hq hqt=>h2 (by
    obtain ⟨q',hq',rfl⟩:=List.mem_map.1 (List.mem_reverse.1 hq)
    exact ⟨q',hq',hqt⟩)]
theorem Zj1 (b:Nat) (ν ν':Nat→Gen) (e:El):(elO NT AT b ν e).map (·.1)=(elO NT AT b ν' e).map (·.1):=by
 obtain ⟨k,t,c,l,args⟩:=e
 cases args<;>rfl
theorem Zgq (ν ν':Nat→Gen):∀ (r:List El),(Zfm NT AT ν r).map (·.1)=(Zfm NT AT ν' r).map (·.1)
 | []=>rfl
 | e::r=>by unfold Zfm;rw [List.map_append,List.map_append,Zj1,Zgq ν ν' r]
theorem ZeG (ν ν':Nat→Gen) (e:El) (r:List El):(stO NT AT ET ν e r).map (·.1)=(stO NT AT ET ν' e r).map (·.1):=by
 unfold stO
 rw [List.map_cons,List.map_cons,List.map_cons,List.map_cons,List.map_append,List.map_append,Zj1 1001 ν ν',Zgq ν ν']
def κp (κx:Nat→Nat) (k:Nat):Nat:=if Zbi k=true then k else κx k
def γp (ν γx:Nat→Gen) (k:Nat):Gen:=if Zbi k=true then ν k else γx k
def no1 (k:Nat):Bool:=k == 0
def nones (κx:Nat→Nat) (xin:List (Nat×VObj)):List (Nat×Option (Gen×VObj)):=xin.map fun q=>(κx q.1,none)
end
section
variable {NT AT ET:Nat} {P:Program} [WInv P] {ops:Array Oper} {draw:Bool} {i:Nat} {L:List Oper} {acc:List (List Nat×List Nat)} {K:FS→Prop} {tm:List (Nat×PV)} {ob:List (Nat×Option (Gen×VObj))} {ng:Nat}
 {d:Option Tmp} {ty:TypeId} {pos:String} {after:Array Edge} {gd:Option (Nat×Bool)}
theorem Zdd {k:Nat} (h:k=0∨1000≤k):Zbi k=true:=by
 unfold Zbi
 rcases h with rfl | h
 ·rfl
 ·rw [decide_eq_true h,Bool.or_true]
def Ztf (l:List (Nat×Gen×VObj)):Bool:=decide ((l.map (·.1)).Nodup)&&l.all fun q=>decide (1100≤q.1)&&decide (q.1<2000)
def Zuq (κx:Nat→Nat) (l:List (Nat×VObj)):Bool:=decide ((l.map fun q=>κx q.1).Nodup)&&l.all fun q=>!Zbi q.1 && !Zbi (κx q.1)
theorem Zfw {ob ob':List (Nat×Option (Gen×VObj))} (h:∀ t,Zm ob t=Zm ob' t):mkS tm ob ng=mkS tm ob' ng:=by
 unfold mkS
 rw [show Zm ob=Zm ob' from funext h]
theorem ZkK {f:FuncId} {es:Array Operand} {ts:Array TypeId} {args:List PV} {e e':El} {r r':List El} {xin:List (Nat×VObj)} {res res2:PV} {ext ext2:List (Nat×Gen×VObj)} (lits:List (Nat×Option (Gen×VObj))) (ν:Nat→Gen) (κx:Nat→Nat) (γx:Nat→Gen)
  (hc:ContractG P f args (objs (stO NT AT ET νa e r)++xin) res (stO NT AT ET νb e' r'++ext)) (hob:ob=lits++somes (stO NT AT ET ν e r)) (hl:(lits.all fun q=>!Zbi q.1)=true)
  (hw:Zf ops (mkS tm ob ng) ⟨d,.call ⟨.value (.func f),es,ts⟩,ty,pos,after,gd⟩=some true) (he:rnA (σ0 (κp κx) (γp ν γx)) args=some (es.toList.map (evL tm))) (h0:PV.ptr 0 (ν 0) 0 ∈ es.toList.map (evL tm))
  (hx:ZoP (σ0 (κp κx) (γp ν γx)) (κp κx) (γp ν γx) (Zm ob) xin) (hxk:∀ q ∈ xin,∃ g,PV.ptr (κx q.1) g 0 ∈ es.toList.map (evL tm)) (hxn:Zuq κx xin=true)
  (hres:rnP (σ1 no1 (κp κx) (γp ν γx) id ng i) res=some res2) (hext:ZaY (σ1 no1 (κp κx) (γp ν γx) id ng i) ext=some ext2) (hek:(Ztf ext&&Ztf ext2)=true)
  (k:GoL P ops draw (i+1) L (acc ++ [(Zy (mkS tm ob ng) ⟨d,.call ⟨.value (.func f),es,ts⟩,ty,pos,after,gd⟩,(usG (κp κx) (objs (stO NT AT ET νa e r)++xin) (stO NT AT ET (νn (ν 0) ng i) e' r'++ext2)).map (·.1))]) (mkS (Za3 d res2 tm) (nones κx xin++(somes ext2++(lits++somes (stO NT AT ET (νn (ν 0) ng i) e' r')))) ng) K) :
  GoL P ops draw i (⟨d,.call ⟨.value (.func f),es,ts⟩,ty,pos,after,gd⟩::L) acc (mkS tm ob ng) K:=by
 have hHas:Has ob (stO NT AT ET ν e r):=by rw [hob];exact Za8 hl
 have par1:∀ {q:Nat×Gen×VObj} {ν:Nat→Gen} {e:El} {r:List El},q ∈ stO NT AT ET ν e r→Zbi q.1=true:=fun h=>Zdd (by have:=(ZdE h).1;omega)
 have hσ0:∀ k,k=0∨1000≤k→σ0 (κp κx) (γp ν γx) (νa k)=some (k,ν k):=fun k hk=>by simp [σ0,νa,κp,γp,Zdd hk]
 have hσ1:∀ k,k=0∨1000≤k→σ1 no1 (κp κx) (γp ν γx) id ng i (νb k)=some (k,νn (ν 0) ng i k):=fun k hk=>by
  by_cases h0:k=0
  ·subst h0
   simp [σ1,νb,νn,no1,κp,γp,Zbi]
  ·simp [σ1,νb,νn,h0]
 simp only [Ztf,Bool.and_eq_true,decide_eq_true_eq,List.all_eq_true] at hek
 obtain ⟨⟨x1,x2⟩,x3,x4⟩:=hek
 simp only [Zuq,Bool.and_eq_true,decide_eq_true_eq,List.all_eq_true,Bool.not_eq_true'] at hxn
 obtain ⟨n1,n2⟩:=hxn
 have disj:∀ {ν:Nat→Gen} {e:El} {r:List El} {l:List (Nat×Gen×VObj)},(l.map (·.1)).Nodup→(∀ q ∈ l,1100≤q.1∧q.1<2000)→((stO NT AT ET ν e r++l).map (·.1)).Nodup:=fun h1 h2=>by
  rw [List.map_append]
  refine ZeT (ZaP _ _ _) h1 fun k hk hk'=>?_
  obtain ⟨q,hq,rfl⟩:=List.mem_map.1 hk
  obtain ⟨q',hq',e'⟩:=List.mem_map.1 hk'
  have:=(ZdE hq).1
  have:=h2 _ hq'
  omega
 have hpre:ZoP (σ0 (κp κx) (γp ν γx)) (κp κx) (γp ν γx) (Zm ob) (objs (stO NT AT ET νa e r)++xin):=Zjl (ZkJ (Zkk hσ0 e r) hHas fun q hq=>by
  rw [(ZdE hq).2]
  simp only [σ0,νa,if_true]) hx
 have hinj:((objs (stO NT AT ET νa e r)++xin).map fun q=>κp κx q.1).Nodup:=by
  rw [List.map_append]
  have e1:(objs (stO NT AT ET νa e r)).map (fun q=>κp κx q.1)=(stO NT AT ET νa e r).map (·.1):=by
   unfold objs
   rw [List.map_map]
   refine List.map_congr_left fun q hq=>?_
   simp [κp,par1 hq]
  have e2:xin.map (fun q=>κp κx q.1)=xin.map fun q=>κx q.1:=List.map_congr_left fun q hq=>by simp [κp,(n2 q hq).1]
  rw [e1,e2]
  refine ZeT (ZaP _ _ _) n1 fun k hk hk'=>?_
  obtain ⟨q,hq,rfl⟩:=List.mem_map.1 hk
  obtain ⟨q',hq',e'⟩:=List.mem_map.1 hk'
  have w1:=par1 hq
  have w2:=(n2 q' hq').2
  rw [e',w1] at w2
  cases w2
 have hes:∀ p,p ∈ es.toList.map (evL tm)→∀ t,t ∈ ZiA (Zm ob) p→t ∈ Zy (mkS tm ob ng) ⟨d,.call ⟨.value (.func f),es,ts⟩,ty,pos,after,gd⟩:=fun p hp t ht=>by
  obtain ⟨o,ho,rfl⟩:=List.mem_map.1 hp
  unfold Zy
  rw [if_neg (by simp [quiet])]
  refine List.mem_flatMap.2 ⟨o,?_,?_⟩
  ·rw [ZfZ rfl]
   simp [Op.operands,Call.operands]
   exact .inr (by simpa using ho)
  ·rw [ZS]
   exact ht
 have h2:=Zaw (Zkk (NT:=NT) (AT:=AT) (ET:=ET) hσ1 e' r') hext
 refine Zm8 no1 (κp κx) (γp ν γx) id hc hw he hpre hinj (fun k hk=>?_) (fun t o' hm=>?_) hres h2 (disj x1 fun q hq=>by simpa using x2 q hq) rfl ?_
 ·obtain rfl:k=0:=by simpa [no1] using hk
  exact ⟨_,List.mem_append_left _ (List.mem_map.2 ⟨_,List.mem_cons_self ..,rfl⟩)⟩
 ·rcases List.mem_append.1 hm with hm | hm
  ·obtain ⟨g,hg⟩:=ZfW hm
   have hg':∃ g2 o2,(t,g2,o2) ∈ stO NT AT ET ν e r:=by
    obtain ⟨o2,_,q2⟩:=Zk9 hpre t o' (List.mem_append_left _ hm)
    have hm2:t ∈ (stO NT AT ET νa e r).map (·.1):=List.mem_map.2 ⟨_,hg,rfl⟩
    have:(stO NT AT ET νa e r).map (·.1)=(stO NT AT ET ν e r).map (·.1):=by
     exact ZeG _ _ e r
    rw [this] at hm2
    obtain ⟨⟨t2,g2,o3⟩,hq,rfl⟩:=List.mem_map.1 hm2
    exact ⟨g2,o3,hq⟩
   obtain ⟨g2,o2,hm2⟩:=hg'
   have:κp κx t=t:=by simp [κp,par1 hm2]
   rw [this]
   exact hes _ h0 _ (Znq hHas hm2)
  ·have:κp κx t=κx t:=by simp [κp,(n2 _ hm).1]
   rw [this]
   obtain ⟨g,hg⟩:=hxk _ hm
   exact hes _ hg _ (Zd0 (by simp [ZcN,ZaB]) 4)
 ·have e:mkS (Za3 d res2 tm) ((usG (κp κx) (objs (stO NT AT ET νa e r)++xin) (stO NT AT ET (νn (ν 0) ng i) e' r'++ext2)).reverse++ob) ng=mkS (Za3 d res2 tm) (nones κx xin++(somes ext2++(lits++somes (stO NT AT ET (νn (ν 0) ng i) e' r')))) ng:=Zfw fun t=>?_
  ·rw [e];exact k
  ·have hn:=disj (ν:=νn (ν 0) ng i) (e:=e') (r:=r') x3 fun q hq=>by simpa using x4 q hq
   rw [Zid hn]
   have skip:∀ t,Zbi t=true→∀ b,Zm (nones κx xin++b) t=Zm b t:=fun t ht b=>Zb1 _ _ _ fun q hq hqt=>by
    obtain ⟨q',hq',rfl⟩:=List.mem_map.1 hq
    have:=(n2 q' hq').2
    change κx q'.1=t at hqt
    rw [hqt,ht] at this
    cases this
   have skipL:∀ t,Zbi t=true→∀ b,Zm (lits++b) t=Zm b t:=fun t ht b=>Zb1 _ _ _ fun q hq hqt=>by
    have:=List.all_eq_true.1 hl q hq
    rw [hqt,ht] at this
    cases this
   have skipE:∀ t,(¬ ∃ q ∈ ext2,q.1=t)→∀ b,Zm (somes ext2++b) t=Zm b t:=fun t ht b=>Zb1 _ _ _ fun q hq hqt=>by
    obtain ⟨g,o,h,_⟩:=Zf4 hq
    exact ht ⟨_,h,hqt⟩
   have skipS:∀ {ν:Nat→Gen} {e:El} {r:List El} (t:Nat),(¬ ∃ q ∈ stO NT AT ET ν e r,q.1=t)→Zm (somes (stO NT AT ET ν e r)) t=none:=fun {ν e r} t ht=>by
    have:=Zb1 (somes (stO NT AT ET ν e r)) [] t fun q hq hqt=>by
     obtain ⟨g,o,h,_⟩:=Zf4 hq
     exact ht ⟨_,h,hqt⟩
    rwa [List.append_nil] at this
   have ext_par:∀ q ∈ ext2,Zbi q.1=true:=fun q hq=>by
    have:=x4 q hq
    exact Zdd (by omega)
   by_cases h1:∃ q ∈ stO NT AT ET (νn (ν 0) ng i) e' r'++ext2,q.1=t
   ·rw [if_pos h1]
    obtain ⟨⟨t',g,o⟩,hq,rfl⟩:=h1
    have w:=ZbI [] hn hq
    rw [List.append_nil] at w
    rw [w]
    have hpk:Zbi t'=true:=by
     rcases List.mem_append.1 hq with hq | hq
     ·exact par1 hq
     ·exact ext_par _ hq
    rw [skip _ hpk]
    rcases List.mem_append.1 hq with hq | hq
    ·rw [skipE _ fun ⟨q',h',e'⟩=>by
      have a1:=x4 q' h'
      have a2:=(ZdE hq).1
      change q'.1=t' at e'
      rw [e'] at a1
      change t'=0∨_ at a2
      omega,skipL _ hpk]
     have:=ZbI [] (ZaP (NT:=NT) (AT:=AT) (ET:=ET) (νn (ν 0) ng i) e' r') hq
     rw [List.append_nil] at this
     exact this.symm
    ·exact (ZbI _ x3 hq).symm
   ·rw [if_neg h1]
    have hs:¬ ∃ q ∈ stO NT AT ET (νn (ν 0) ng i) e' r',q.1=t:=fun ⟨q,hq,e⟩=>h1 ⟨q,List.mem_append_left _ hq,e⟩
    have hx2:¬ ∃ q ∈ ext2,q.1=t:=fun ⟨q,hq,e⟩=>h1 ⟨q,List.mem_append_right _ hq,e⟩
    by_cases h3:∃ q ∈ objs (stO NT AT ET νa e r)++xin,κp κx q.1=t
    ·rw [if_pos h3]
     obtain ⟨q,hq,rfl⟩:=h3
     rcases List.mem_append.1 hq with hq | hq
     ·obtain ⟨g,hg⟩:=ZfW (l:=stO NT AT ET νa e r) (t:=q.1) (o:=q.2) hq
      have hpk:=par1 hg
      have hk:κp κx q.1=q.1:=if_pos hpk
      rw [hk] at hs hx2 ⊢
      rw [skip _ hpk,skipE _ hx2,skipL _ hpk,skipS _ hs]
     ·have hk:κp κx q.1=κx q.1:=if_neg (by rw [(n2 q hq).1];exact Bool.false_ne_true)
      rw [hk]
      symm
      have:∀ (l:List (Nat×VObj)) (b:List (Nat×Option (Gen×VObj))),q ∈ l→Zm (nones κx l++b) (κx q.1)=none:=fun l b=>by
       induction l with
       | nil=>intro h;cases h
       | cons q' l ih=>
         intro h
         show (if κx q.1=κx q'.1 then none else Zm (nones κx l++b) (κx q.1))=none
         split
         ·rfl
         ·rename_i hne
          rcases List.mem_cons.1 h with rfl | h
          ·exact absurd rfl hne
          ·exact ih h
      exact this _ _ hq
    ·rw [if_neg h3]
     have hxs:∀ b,Zm (nones κx xin++b) t=Zm b t:=fun b=>Zb1 _ _ _ fun q hq hqt=>by
      obtain ⟨q',hq',rfl⟩:=List.mem_map.1 hq
      refine h3 ⟨q',List.mem_append_right _ hq',?_⟩
      have hk:κp κx q'.1=κx q'.1:=if_neg (by rw [(n2 q' hq').1];exact Bool.false_ne_true)
      rw [hk]
      exact hqt
     have hs0:¬ ∃ q ∈ stO NT AT ET ν e r,q.1=t:=fun ⟨q,hq,e0⟩=>by
      have hm2:t ∈ (stO NT AT ET νa e r).map (·.1):=by
       rw [ZeG νa ν]
       exact List.mem_map.2 ⟨q,hq,e0⟩
      obtain ⟨q',hq',e1⟩:=List.mem_map.1 hm2
      refine h3 ⟨(q'.1,q'.2.2),List.mem_append_left _ (List.mem_map.2 ⟨q',hq',rfl⟩),?_⟩
      have hk:κp κx q'.1=q'.1:=if_pos (par1 hq')
      rw [← e1]
      exact hk
     rw [hxs,skipE _ hx2,hob]
     have two:∀ (a b c:List (Nat×Option (Gen×VObj))),Zm b t=Zm c t→Zm (a++b) t=Zm (a++c) t:=fun a b c h=>by
      induction a with
      | nil=>exact h
      | cons q a ih=>
        show (if t=q.1 then q.2 else Zm (a++b) t)=if t=q.1 then q.2 else Zm (a++c) t
        rw [ih]
     exact two _ _ _ ((skipS _ hs0).trans (skipS _ hs).symm)
end
end VL
end Go.Proofs.YtmgfammllddkhaaGreatDoor
namespace Go.Proofs.YtmgfammllddkhaaGreatDoor
namespace VL
open Go.RowKit
def σf (f:Nat→Nat×Gen) (g:Gen):Option (Nat×Gen):=if g.1=0 then some (g.2,g) else if g.1=1 then some (f g.2) else none
theorem Zl1 {σ:Gen→Option (Nat×Gen)}:∀ {l l2:List (Nat×Gen×VObj)},ZaY σ l=some l2→l.map (fun q=>(σ q.2.1).map (·.1))=l2.map fun q=>some q.1
 | [],l2,h=>by injection h with h;subst h;rfl
 | (t,g,o)::r,l2,h=>by
  simp only [ZaY] at h
  split at h
  ·rename_i t3 g3 o3 r3 h1 h2 h3
   injection h with h
   subst h
   rw [List.map_cons,List.map_cons,Zl1 h3]
   simp only [h1,Option.map_some]
  ·cases h
theorem ZnK {σ:Gen→Option (Nat×Gen)} {ob:List (Nat×Option (Gen×VObj))}:∀ {l' l:List (Nat×Gen×VObj)},ZaY σ l'=some l→Has ob l→ZrO σ ob l'
 | [],_,_,_=>trivial
 | (t,g,o)::r,l,h,hH=>by
  simp only [ZaY] at h
  split at h
  ·rename_i t3 g3 o3 r3 h1 h2 h3
   injection h with h
   subst h
   exact ⟨⟨t3,g3,o3,h1,h2,hH _ _ _ (List.mem_cons_self ..)⟩,ZnK h3 fun t g o hm=>hH t g o (List.mem_cons_of_mem _ hm)⟩
  ·cases h
theorem Ze5 (f:Nat→Nat×Gen) {tm tm':List (Nat×PV)} {ob:List (Nat×Option (Gen×VObj))} {ng:Nat} {l l':List (Nat×Gen×VObj)} (h1:Zfz (σf f) tm tm') (h2:ZaY (σf f) l'=some l) (h3:Has ob l) (h4:(l.map (·.1)).Nodup) :
  Shift (mkS tm ob ng) (mkS tm' (somes l') 2):=by
 refine ZrP (σf f) (fun g hg=>⟨g.2,by simp [σf,hg]⟩) h1 (ZnK h2 h3) (fun g k g0 h=>?_) ?_
 ·unfold σf at h
  split at h
  ·omega
  ·split at h
   ·omega
   ·cases h
 ·rw [Zl1 h2]
  have:l.map (fun q=>some q.1)=(l.map (·.1)).map some:=by rw [List.map_map];rfl
  rw [this]
  exact List.Pairwise.map _ (fun a b hab e=>hab (by injection e)) h4
section
variable {NT AT ET:Nat} {P:Program} [WInv P]
theorem Zjd {ob:List (Nat×Option (Gen×VObj))} {a b:List (Nat×Gen×VObj)} (h1:Has ob a) (h2:Has ob b):Has ob (a++b):=fun t g o h=>(List.mem_append.1 h).elim (h1 t g o) (h2 t g o)
theorem ZP (ob:List (Nat×Option (Gen×VObj))):Has ob []:=fun t g o h=>by cases h
theorem Zk {ob:List (Nat×Option (Gen×VObj))} {t:Nat} {g:Gen} {o:VObj} {l:List (Nat×Gen×VObj)} (h:Zm ob t=some (g,o)) (h2:Has ob l):Has ob ((t,g,o)::l):=fun t' g' o' hm=>by
 rcases List.mem_cons.1 hm with e | hm
 ·injection e with e1 e2
  injection e2 with e2 e3
  subst e1 e2 e3
  exact h
 ·exact h2 t' g' o' hm
theorem ZaV (ν:Nat→Gen) {e:El} {r:List El} (lits:List (Nat×Option (Gen×VObj))) (f:Nat→Nat×Gen) {tm tm':List (Nat×PV)} {ob:List (Nat×Option (Gen×VObj))} {ng:Nat} {x x':List (Nat×Gen×VObj)} (hf:∀ k,k=0∨1000≤k→f k=(k,ν k)) (h00:ν 0=(0,0))
  (h1:Zfz (σf f) tm tm') (hx:ZaY (σf f) x'=some x) (hob:ob=lits++somes (stO NT AT ET ν e r)) (hl:(lits.all fun q=>!Zbi q.1)=true) (hh:Has ob x) (hn:(decide ((x.map (·.1)).Nodup)&&x.all fun q=>!Zbi q.1)=true) :
  Shift (mkS tm ob ng) (mkS tm' (somes (x'++stO NT AT ET νb e r)) 2):=by
 have h2:ZaY (σf f) (stO NT AT ET νb e r)=some (stO NT AT ET ν e r):=Zkk (fun k hk=>by
  by_cases h0:k=0
  ·subst h0
   simp [σf,νb,h00]
  ·simp [σf,νb,h0,hf k hk]) e r
 simp only [Bool.and_eq_true,decide_eq_true_eq,List.all_eq_true,Bool.not_eq_true'] at hn
 refine Ze5 f h1 (Zaw hx h2) (Zjd hh (by rw [hob];exact Za8 hl)) ?_
 rw [List.map_append]
 refine ZeT hn.1 (ZaP _ _ _) fun k hk hk'=>?_
 obtain ⟨q,hq,rfl⟩:=List.mem_map.1 hk
 obtain ⟨q',hq',e'⟩:=List.mem_map.1 hk'
 have w1:Zbi q'.1=true:=Zdd (by have:=(ZdE hq').1;omega)
 have w2:=hn.2 q hq
 rw [← e',w1] at w2
 cases w2
def Zvn (NT AT ET:Nat) (P:Program) [WInv P] (f:FuncId) (args:List PV) (e:El) (r:List El) (res:PV) (e':El) (r':List El):Prop:=ContractG P f (.ptr 0 (0,0) 0::args) (objs (stO NT AT ET νa e r)) res (stO NT AT ET νb e' r')
def Zq2 (P:Program) (rs:List ResultVar) (res:PV) (obs':List (Nat×Gen×VObj)):Ex→FS→Prop
 | .exit _,_=>False
 | _,s=>∃ s2,Shift s s2∧∃ ps,Zcd P s2 rs=some ps∧Zce ps=res∧Has' s2 obs'
where Has' (s2:FS) (obs':List (Nat×Gen×VObj)):Prop:=∀ t g o,(t,g,o) ∈ obs'→s2.ob t=some (g,o)
end
section
variable {P:Program} [WInv P]
theorem Zz (hmix:P.follows .mixedOrders=true) {f:FuncId} {fn:Func} {c:Code} {args:List PV} {obs:List (Nat×VObj)} {res:PV} {obs':List (Nat×Gen×VObj)} (hf:P.funcs[f]? = some fn) (hg:isGo P f=true) (hb:fn.body=some c) (hok:(decide (args.length≤fn.ntmps)&&ZaN fn.ntmps c)=true)
  (h:PWs P [c] (Zq2 P fn.results.toList res obs') (mkS (Zc3 0 args) (obG obs) 1)):ContractG P f args obs res obs':=by
 simp only [Bool.and_eq_true,decide_eq_true_eq] at hok
 obtain ⟨e,s',h1,h2⟩:=Zb2 h
 have hsh:Shift (ZtE args obs) (mkS (Zc3 0 args) (obG obs) 1):=Zc2 (fun t=>by
  rcases Zcp args 0 t with h | ⟨_,h⟩
  ·exact .inl h
  ·exact .inr h) (fun t=>.inr rfl) (Nat.le_refl _)
 cases e with
 | exit id=>exact h2.elim
 | normal=>
   obtain ⟨s2,q0,ps,q1,q2,q3⟩:=h2
   exact ZhW hmix hg hf hb hok.1 hok.2 (.shift hsh h1) q0 (.inl rfl) q1 q2 q3
 | ret=>
   obtain ⟨s2,q0,ps,q1,q2,q3⟩:=h2
   exact ZhW hmix hg hf hb hok.1 hok.2 (.shift hsh h1) q0 (.inr rfl) q1 q2 q3
omit [WInv P] in
theorem Zg1 {rs:List ResultVar} {res:PV} {obs':List (Nat×Gen×VObj)} {s:FS} {tm:List (Nat×PV)} {ob:List (Nat×Option (Gen×VObj))} {ng:Nat} {ps:List PV} (h:Shift s (mkS tm ob ng)) (h1:Zcd P (mkS tm ob ng) rs=some ps) (h2:Zce ps=res) (h3:Has ob obs'):Zq2 P rs res obs' .ret s:=⟨_,h,ps,h1,h2,h3⟩
omit [WInv P] in
theorem Zje {rs:List ResultVar} {res:PV} {obs':List (Nat×Gen×VObj)} {s:FS} {tm:List (Nat×PV)} {ob:List (Nat×Option (Gen×VObj))} {ng:Nat} {ps:List PV} (h:Shift s (mkS tm ob ng)) (h1:Zcd P (mkS tm ob ng) rs=some ps) (h2:Zce ps=res) (h3:Has ob obs'):Zq2 P rs res obs' .normal s:=⟨_,h,ps,h1,h2,h3⟩
end
section
variable {NT AT ET:Nat}
theorem ZbZ (e:El) (r:List El):obG (objs (stO NT AT ET νa e r))=somes (stO NT AT ET νa e r):=by
 unfold obG objs somes
 rw [List.map_map]
 refine List.map_congr_left fun q hq=>?_
 have:=(ZdE hq).2
 simp only [Function.comp]
 rw [show ((0,q.1):Gen)=q.2.1 from this.symm]
theorem Zqp (a b:List (Nat×VObj)):obG (a++b)=obG a++obG b:=by unfold obG;rw [List.map_append]
end
section
variable {NT AT ET:Nat} {P:Program} [WInv P] {ops:Array Oper} {draw:Bool} {i:Nat} {L:List Oper} {acc:List (List Nat×List Nat)} {K:FS→Prop} {tm:List (Nat×PV)} {ob:List (Nat×Option (Gen×VObj))} {ng:Nat}
 {d:Option Tmp} {ty:TypeId} {pos:String} {after:Array Edge} {gd:Option (Nat×Bool)}
theorem Zw {f:FuncId} {es:Array Operand} {ts:Array TypeId} {args:List PV} {e e':El} {r r':List El} {res res2:PV} (lits:List (Nat×Option (Gen×VObj))) (ν:Nat→Gen) (hc:Zvn NT AT ET P f args e r res e' r') (hob:ob=lits++somes (stO NT AT ET ν e r)) (hl:(lits.all fun q=>!Zbi q.1)=true)
  (hw:Zf ops (mkS tm ob ng) ⟨d,.call ⟨.value (.func f),es,ts⟩,ty,pos,after,gd⟩=some true) (he:es.toList.map (evL tm) = .ptr 0 (ν 0) 0::args) (ha:rnA (σ0 (κp id) (γp ν ν)) args=some args)
  (hres:rnP (σ1 no1 (κp id) (γp ν ν) id ng i) res=some res2)
  (k:GoL P ops draw (i+1) L (acc ++ [(Zy (mkS tm ob ng) ⟨d,.call ⟨.value (.func f),es,ts⟩,ty,pos,after,gd⟩,(usG (κp id) (objs (stO NT AT ET νa e r) ++ []) (stO NT AT ET (νn (ν 0) ng i) e' r' ++ [])).map (·.1))]) (mkS (Za3 d res2 tm) (lits++somes (stO NT AT ET (νn (ν 0) ng i) e' r')) ng) K) :
  GoL P ops draw i (⟨d,.call ⟨.value (.func f),es,ts⟩,ty,pos,after,gd⟩::L) acc (mkS tm ob ng) K:=by
 have hc':ContractG P f (.ptr 0 (0,0) 0::args) (objs (stO NT AT ET νa e r) ++ []) res (stO NT AT ET νb e' r' ++ []):=by
  rw [List.append_nil,List.append_nil]
  exact hc
 refine ZkK (xin:=[]) (ext:=[]) (ext2:=[]) lits ν id ν hc' hob hl hw ?_ (by rw [he];exact List.mem_cons_self ..) trivial (fun q hq=>by cases hq) rfl hres rfl rfl k
 rw [he]
 show (match rnP _ (.ptr 0 (0,0) 0),rnA _ args with | some q,some qs=>some (q::qs) | _,_=>none)=_
 rw [ha]
 rfl
end
end VL
end Go.Proofs.YtmgfammllddkhaaGreatDoor
namespace Go.Proofs.YtmgfammllddkhaaGreatDoor
namespace VL
open Go.RowKit
theorem Znd {els:List (List PV)} {k i j:Nat} {el:List PV} {q:PV} (h1:∀ e ∈ els,e.length=k) (hi:els[i]? = some el) (hj:j<k):(els.set i (Zam el j [q])).flatten=els.flatten.set (i * k+j) q:=by
 have hf:=Zie els h1 i el j [q] hi hj
 refine hf.trans ?_
 have hil:i<els.length:=(List.getElem?_eq_some_iff.1 hi).1
 have hlen:i * k+j<els.flatten.length:=by
  rw [Zah els h1]
  calc i * k+j<i * k+k:=by omega
   _=(i+1) * k:=by rw [Nat.succ_mul]
   _≤els.length * k:=Nat.mul_le_mul_right _ hil
 rw [List.set_eq_take_append_cons_drop,if_pos hlen]
 simp
theorem ZnR {s:FS} {u i j E k:Nat} {g:Gen} {els:List (List PV)} {el:List PV} {p q:PV} {us:List (Nat×Option (Gen×VObj))} (h0:s.ob u=some (g,.prow E k els)) (hi:els[i]? = some el) (hj:el[j]? = some p) (h:Zkl s.ob p=some (q,us)) :
  Shift s ⟨s.tm,ZbP (flips s.ob us) u (some (g,.prow E k (els.set i (Zam el j [q])))),s.ng⟩:=fun r a x hX=>by
 obtain ⟨hg,e1,e2,vs,e3,e4,e5⟩:=hX.ob u g _ h0
 have hjk:j<k:=by rw [← e1 el (List.mem_of_getElem? hi)];exact (List.getElem?_eq_some_iff.1 hj).1
 have hfl:=Zeb els e1 i el j p hi hj
 have hvl:vs.length=els.length * k:=e3.1
 have hlt:i * k+j<vs.length:=by
  rw [hvl,← Zah els e1]
  exact (List.getElem?_eq_some_iff.1 hfl).1
 have hv:vs[i * k+j]? = some vs[i * k+j]:=List.getElem?_eq_getElem hlt
 obtain ⟨F',st,hX',hR,hpure,hf⟩:=ZeS (Flip.refl _) hX h (e4 _ p _ hfl hv)
 have hu:(flips s.ob us) u=some (g,.prow E k els):=by
  rcases hf u with e | ⟨g2,E2,k2,sh2,els2,e,_⟩
  ·rw [e,h0]
  ·rw [h0] at e;cases e
 refine ⟨{ x with F:=F' },rfl,hX'.defers,hX'.size,hX'.gr,hX'.gens,hX'.tm,fun t' g' o' ho=>?_,fun t1 t2 g1 g2 o1 o2 bb hne k1 k2 hb=>?_,hX'.flt,hX'.f0,hX'.fnew,hX'.rho,hX'.inv,hX'.keep⟩
 ·change (if t'=u then some (g,VObj.prow E k (els.set i (Zam el j [q]))) else flips s.ob us t')=some (g',o') at ho
  split at ho
  ·injection ho with ho
   injection ho with j1 j2
   subst j1 j2
   obtain ⟨_,j1,j2,vs2,j3,j4,j5⟩:=hX'.ob u g _ hu
   have hlen2:(Zam el j [q]).length=k:=by
    rw [Zc0 _ _ _ (by rw [e1 el (List.mem_of_getElem? hi)];exact hjk)]
    exact e1 el (List.mem_of_getElem? hi)
   refine ⟨hg,fun e he=>?_,fun e he p' hp=>?_,vs,by rw [List.length_set];exact e3,fun m p' v hp hv'=>?_,j5⟩
   ·rcases List.mem_or_eq_of_mem_set he with h | h
    ·exact e1 e h
    ·rw [h];exact hlen2
   ·rcases List.mem_or_eq_of_mem_set he with h | h
    ·exact e2 e h p' hp
    ·subst h
     unfold Zam at hp
     rcases List.mem_append.1 hp with hp | hp
     ·rcases List.mem_append.1 hp with hp | hp
      ·exact e2 el (List.mem_of_getElem? hi) p' (List.mem_of_mem_take hp)
      ·rw [List.mem_singleton.1 hp];exact PV.cell_of_pure hpure
     ·exact e2 el (List.mem_of_getElem? hi) p' (List.mem_of_mem_drop hp)
   ·rw [Znd e1 hi hjk] at hp
    by_cases hm:i * k+j=m
    ·subst hm
     rw [List.getElem?_set_self (by rw [Zah els e1,← hvl];exact hlt)] at hp
     injection hp with hp
     subst hp
     rw [hv] at hv'
     injection hv' with hv'
     rw [← hv']
     exact hR
    ·rw [List.getElem?_set_ne hm] at hp
     exact (e4 m p' v hp hv').step st
  ·exact hX'.ob t' g' o' ho
 ·change (if t1=u then some (g,VObj.prow E k (els.set i (Zam el j [q]))) else flips s.ob us t1)=some (g1,o1) at k1
  change (if t2=u then some (g,VObj.prow E k (els.set i (Zam el j [q]))) else flips s.ob us t2)=some (g2,o2) at k2
  have f1:∃ o1',(flips s.ob us) t1=some (g1,o1'):=by
   split at k1
   ·rename_i e;subst e;injection k1 with k1;injection k1 with e3 e4;subst e3;exact ⟨_,hu⟩
   ·exact ⟨_,k1⟩
  have f2:∃ o2',(flips s.ob us) t2=some (g2,o2'):=by
   split at k2
   ·rename_i e;subst e;injection k2 with k2;injection k2 with e3 e4;subst e3;exact ⟨_,hu⟩
   ·exact ⟨_,k2⟩
  obtain ⟨o1',f1⟩:=f1
  obtain ⟨o2',f2⟩:=f2
  exact hX'.apart t1 t2 g1 g2 o1' o2' bb hne f1 f2 hb
theorem ZnS {s:FS} {u w i j E k E' k':Nat} {g:Gen} {els:List (List PV)} {el:List PV} (hne:w≠u) (h0:s.ob u=some (g,.prow E k els)) (hi:els[i]? = some el) (hj:el[j]? = some .nil) :
  Shift s ⟨s.tm,ZbP (ZbP s.ob u (some (g,.prow E k (els.set i (Zam el j [.row w (s.ng,0)]))))) w (some ((s.ng,0),.row E' k' false [])),s.ng+1⟩:=fun r a x hX=>by
 have hnew:¬ x.G (s.ng,0):=fun hg=>by
  rcases hX.gens _ hg with e | ⟨_,e⟩
  ·exact absurd e (Nat.lt_irrefl _)
  ·exact e.elim
 let y:Ctx:=⟨fun g=>x.G g∨g=(s.ng,0),x.F,x.W,fun g=>if g=(s.ng,0) then .slice none 0 0 else x.ρ g⟩
 have st:Step x y:=⟨fun g hg=>⟨.inl hg,if_neg (fun (e:g=(s.ng,0))=>hnew (by rw [← e];exact hg))⟩,fun _ _ h=>h,fun _ _ _ _ h=>h⟩
 have hρ:y.ρ (s.ng,0) = .slice none 0 0:=if_pos rfl
 obtain ⟨hgu,hO⟩:=hX.ob u g _ h0
 have hO2:ObRep y r.W0.heap.size r.D g (.prow E k els):=hO.step hgu st fun b _=>⟨rfl,fun _ h=>h⟩
 have old:∀ t' g' o',(if t'=w then some ((s.ng,0),VObj.row E' k' false []) else if t'=u then some (g,VObj.prow E k (els.set i (Zam el j [.row w (s.ng,0)]))) else s.ob t')=some (g',o')→(t'=w∧g'=(s.ng,0)∧o' = .row E' k' false [])∨(t'=u∧g'=g∧o' = .prow E k (els.set i (Zam el j [.row w (s.ng,0)])))∨s.ob t'=some (g',o'):=fun t' g' o' ho=>by
  split at ho
  ·rename_i e
   injection ho with ho
   injection ho with e1 e2
   exact .inl ⟨e,e1.symm,e2.symm⟩
  ·split at ho
   ·rename_i e
    injection ho with ho
    injection ho with e1 e2
    exact .inr (.inl ⟨e,e1.symm,e2.symm⟩)
   ·exact .inr (.inr ho)
 refine ⟨y,rfl,hX.defers,hX.size,hX.gr,fun g hg=>.inl ?_,fun t'=>(hX.tm t').step st,fun t' g' o' ho=>?_,fun t1 t2 g1 g2 o1 o2 b hne' k1 k2 hb=>?_,hX.flt,hX.f0,hX.fnew,fun g hg=>⟨(st.G g (hX.rho g hg).1).1,(st.G g (hX.rho g hg).1).2.trans (hX.rho g hg).2⟩,hX.inv,hX.keep⟩
 ·rcases hg with hg | rfl
  ·rcases hX.gens g hg with e | ⟨_,e⟩
   ·show g.1<s.ng+1;omega
   ·exact e.elim
  ·exact Nat.lt_succ_self _
 ·rcases old t' g' o' ho with ⟨rfl,rfl,rfl⟩ | ⟨rfl,rfl,rfl⟩ | ho
  ·exact ⟨.inr rfl,by simp,by simp,[],by rw [hρ];exact World.ownsRow_nil _ _ _ _,fun m p v hp=>by simp at hp,fun b hb=>by rw [hρ] at hb;simp [blk] at hb⟩
  ·obtain ⟨e1,e2,vs,e3,e4,e5⟩:=hO2
   have hk1:=e1 el (List.mem_of_getElem? hi)
   have hjk:j<k:=by rw [← hk1];exact (List.getElem?_eq_some_iff.1 hj).1
   have hfl:=Zeb els e1 i el j _ hi hj
   refine ⟨.inl hgu,fun e he=>?_,fun e he p' hp=>?_,vs,by rw [List.length_set];exact e3,fun m p' v hp hv'=>?_,e5⟩
   ·rcases List.mem_or_eq_of_mem_set he with h | h
    ·exact e1 e h
    ·rw [h,Zc0 _ _ _ (by rw [hk1];exact hjk),hk1]
   ·rcases List.mem_or_eq_of_mem_set he with h | h
    ·exact e2 e h p' hp
    ·subst h
     unfold Zam at hp
     rcases List.mem_append.1 hp with hp | hp
     ·rcases List.mem_append.1 hp with hp | hp
      ·exact e2 el (List.mem_of_getElem? hi) p' (List.mem_of_mem_take hp)
      ·rw [List.mem_singleton.1 hp];rfl
     ·exact e2 el (List.mem_of_getElem? hi) p' (List.mem_of_mem_drop hp)
   ·rw [Znd e1 hi hjk] at hp
    by_cases hm:i * k+j=m
    ·subst hm
     rw [List.getElem?_set_self (List.getElem?_eq_some_iff.1 hfl).1] at hp
     injection hp with hp
     subst hp
     have hr:=e4 _ _ v hfl hv'
     cases hr
     exact .row w (s.ng,0) none 0 0 (.inr rfl) hρ
    ·rw [List.getElem?_set_ne hm] at hp
     exact e4 m p' v hp hv'
  ·obtain ⟨h3,h4⟩:=hX.ob t' g' o' ho
   exact ⟨.inl h3,h4.step h3 st fun b _=>⟨rfl,fun _ h=>h⟩⟩
 ·have noB:∀ b,blk (y.ρ (s.ng,0))≠some b:=fun b hb=>by rw [hρ] at hb;simp [blk] at hb
  have tr:∀ t' g' o',((t'=w∧g'=(s.ng,0)∧o' = .row E' k' false [])∨(t'=u∧g'=g∧o' = .prow E k (els.set i (Zam el j [.row w (s.ng,0)])))∨s.ob t'=some (g',o'))→g'=(s.ng,0)∨∃ o2,s.ob t'=some (g',o2):=fun t' g' o' h=>by
   rcases h with ⟨_,e,_⟩ | ⟨e1,e2,_⟩ | h
   ·exact .inl e
   ·subst e1 e2;exact .inr ⟨_,h0⟩
   ·exact .inr ⟨_,h⟩
  rcases tr _ _ _ (old t1 g1 o1 k1) with rfl | ⟨p1,q1⟩
  ·exact absurd hb (noB b)
  ·rcases tr _ _ _ (old t2 g2 o2 k2) with rfl | ⟨p2,q2⟩
   ·exact noB b
   ·rw [(st.G g1 (hX.ob t1 g1 p1 q1).1).2] at hb
    rw [(st.G g2 (hX.ob t2 g2 p2 q2).1).2]
    exact hX.apart t1 t2 g1 g2 p1 p2 b hne' q1 q2 hb
section
variable {tm:List (Nat×PV)} {ob:List (Nat×Option (Gen×VObj))} {ng:Nat}
theorem Zdt (u i j:Nat) {g:Gen} {E k:Nat} {els els':List (List PV)} {el:List PV} {p q:PV} {us:List (Nat×Option (Gen×VObj))} (h0:Zm ob u=some (g,.prow E k els)) (hi:els[i]? = some el) (hj:el[j]? = some p) (h:Zkl (Zm ob) p=some (q,us)) (he:els.set i (Zam el j [q])=els') :
  Shift (mkS tm ob ng) (mkS tm ((u,some (g,.prow E k els'))::(us.reverse++ob)) ng):=by
 subst he
 have:=ZnR (s:=mkS tm ob ng) h0 hi hj h
 have e:(⟨look tm,ZbP (flips (Zm ob) us) u (some (g,.prow E k (els.set i (Zam el j [q])))),ng⟩:FS)=mkS tm ((u,some (g,.prow E k (els.set i (Zam el j [q]))))::(us.reverse++ob)) ng:=by
  rw [Zei,ZeC]
  rfl
 rw [← e]
 exact this
theorem Zkp (u w i j E' k':Nat) {g:Gen} {E k:Nat} {els els':List (List PV)} {el:List PV} (hne:(w == u)=false) (h0:Zm ob u=some (g,.prow E k els)) (hi:els[i]? = some el) (hj:el[j]? = some .nil) (he:els.set i (Zam el j [.row w (ng,0)])=els') :
  Shift (mkS tm ob ng) (mkS tm ((w,some ((ng,0),.row E' k' false []))::(u,some (g,.prow E k els'))::ob) (ng+1)):=by
 subst he
 have:=ZnS (s:=mkS tm ob ng) (E':=E') (k':=k') (by simpa using hne) h0 hi hj
 have e:(⟨look tm,ZbP (ZbP (Zm ob) u (some (g,.prow E k (els.set i (Zam el j [.row w (ng,0)]))))) w (some ((ng,0),.row E' k' false [])),ng+1⟩:FS)=mkS tm ((w,some ((ng,0),.row E' k' false []))::(u,some (g,.prow E k (els.set i (Zam el j [.row w (ng,0)]))))::ob) (ng+1):=by
  rw [ZeC,ZeC]
  rfl
 rw [← e]
 exact this
theorem Zit (t:Nat) {E k:Nat} {g:Gen} {els:List (List PV)} (h:Zm ob t=some (g,.prow E k els)) (hp:∀ e ∈ els,∀ p ∈ e,p.pure=true):Shift (mkS tm ob ng) (mkS tm ((t,some (g,.row E k false els))::ob) ng):=fun r a x hX=>by
 have hob:∀ t' g' o',(mkS tm ((t,some (g,.row E k false els))::ob) ng).ob t'=some (g',o')→(t'=t∧g'=g∧o' = .row E k false els)∨(mkS tm ob ng).ob t'=some (g',o'):=fun t' g' o' ho=>by
  change (if t'=t then some (g,VObj.row E k false els) else Zm ob t')=some (g',o') at ho
  split at ho
  ·rename_i e
   injection ho with ho
   injection ho with e1 e2
   exact .inl ⟨e,e1.symm,e2.symm⟩
  ·exact .inr ho
 have hsame:∀ t' g' o',(mkS tm ((t,some (g,.row E k false els))::ob) ng).ob t'=some (g',o')→∃ o2,(mkS tm ob ng).ob t'=some (g',o2):=fun t' g' o' ho=>by
  rcases hob t' g' o' ho with ⟨rfl,rfl,rfl⟩ | ho
  ·exact ⟨_,h⟩
  ·exact ⟨_,ho⟩
 refine ⟨x,rfl,hX.defers,hX.size,hX.gr,hX.gens,hX.tm,fun t' g' o' ho=>?_,fun t1 t2 g1 g2 o1 o2 b hne h1 h2 hb=>?_,hX.flt,hX.f0,hX.fnew,hX.rho,hX.inv,hX.keep⟩
 ·rcases hob t' g' o' ho with ⟨rfl,rfl,rfl⟩ | ho
  ·obtain ⟨hg,q1,q2,vs,q3,q4,q5⟩:=hX.ob t' g' _ h
   exact ⟨hg,q1,hp,vs,q3,q4,fun b hb=>⟨(q5 b hb).1,fun o hF=>absurd hF ((q5 b hb).2 o)⟩⟩
  ·exact hX.ob t' g' o' ho
 ·obtain ⟨o1',h1'⟩:=hsame t1 g1 o1 h1
  obtain ⟨o2',h2'⟩:=hsame t2 g2 o2 h2
  exact hX.apart t1 t2 g1 g2 o1' o2' b hne h1' h2' hb
end
end VL
end Go.Proofs.YtmgfammllddkhaaGreatDoor
namespace Go.Proofs.YtmgfammllddkhaaGreatDoor
namespace VL
section
variable {P:Program} [WInv P] {ops:Array Oper} {draw:Bool} {i:Nat} {L:List Oper} {acc:List (List Nat×List Nat)} {K:FS→Prop} {tm:List (Nat×PV)} {ob:List (Nat×Option (Gen×VObj))} {ng:Nat}
 {d:Option Tmp} {ty:TypeId} {pos:String} {after:Array Edge} {gd:Option (Nat×Bool)} {T:TypeId} {x y:Operand} {E kk by_:Nat} {z:List PV} {t:Nat} {g:Gen} {els new:List (List PV)}
theorem Za6 {n:Nat} [Sl P T E kk by_ z] (hw:Zf ops (mkS tm ob ng) ⟨d,.call ⟨.builtin .len,#[x],#[T]⟩,ty,pos,after,gd⟩=some true) (hx:Znj (Zm ob) (evL tm x)=some els) (hn:els.length=n)
  (k:GoL P ops draw (i+1) L (acc ++ [(Zy (mkS tm ob ng) ⟨d,.call ⟨.builtin .len,#[x],#[T]⟩,ty,pos,after,gd⟩,[])]) (mkS (Za3 d (.int .i64 (n:Int)) tm) ob ng) K):GoL P ops draw i (⟨d,.call ⟨.builtin .len,#[x],#[T]⟩,ty,pos,after,gd⟩::L) acc (mkS tm ob ng) K:=by
 subst hn
 exact ZuJ hw hx k
end
theorem ZgI (ν:Nat→Gen):∀ (r:List El),(ZdD ν r).length=r.length
 | []=>rfl
 | _::r=>by unfold ZdD;rw [List.length_append,ZgI ν r];rfl
theorem ZbW (ν:Nat→Gen) (r:List El) (p:List PV):(ZdD ν r ++ [p]).length=r.length+1:=by rw [List.length_append,ZgI];rfl
theorem ZmB (ν:Nat→Gen) (r:List El) (p:List PV):(ZdD ν r ++ [p])[r.length]? = some p:=by
 rw [List.getElem?_append_right (by rw [ZgI];exact Nat.le_refl _),ZgI,Nat.sub_self]
 rfl
section
variable {P:Program} {NT AT ET:Nat} {tm:List (Nat×PV)} {ob:List (Nat×Option (Gen×VObj))} {ng:Nat}
theorem Zbt {ex:Ex} (hex:ex = .ret∨ex = .normal) (ν:Nat→Gen) {e:El} {r:List El} (lits:List (Nat×Option (Gen×VObj))) (tm':List (Nat×PV)) {rs:List ResultVar} {res:PV} {ps:List PV} (hob:ob=lits++somes (stO NT AT ET ν e r)) (hl:(lits.all fun q=>!Zbi q.1)=true) (h1:Zfz (σf fun k=>(k,ν k)) tm tm')
  (h2:Zcd P (mkS tm' (somes (stO NT AT ET νb e r)) 2) rs=some ps) (h3:Zce ps=res) (h00:ν 0=(0,0):=by rfl):Zq2 P rs res (stO NT AT ET νb e r) ex (mkS tm ob ng):=by
 have hs:Shift (mkS tm ob ng) (mkS tm' (somes ([]++stO NT AT ET νb e r)) 2):=ZaV ν lits (fun k=>(k,ν k)) (fun _ _=>rfl) h00 h1 (x:=[]) (x':=[]) rfl hob hl (ZP _) rfl
 have hH:Has (somes (stO NT AT ET νb e r)) (stO NT AT ET νb e r):=Za8 (lits:=[]) rfl
 rcases hex with rfl | rfl
 ·exact Zg1 hs h2 h3 hH
 ·exact Zje hs h2 h3 hH
end
end VL
end Go.Proofs.YtmgfammllddkhaaGreatDoor
namespace Go.Proofs.YtmgfammllddkhaaGreatDoor
namespace VL
section
variable {NT AT ET:Nat} {σ:Gen→Option (Nat×Gen)}
theorem Znu {ν ν':Nat→Gen}:∀ (r:List El),(∀ k,2000≤k→k<ZaE r→σ (ν k)=some (k,ν' k))→ZaY σ (Zfm NT AT ν r)=some (Zfm NT AT ν' r)
 | [],_=>rfl
 | e::r,h=>by
   have hb:ZaE (e::r)=ZaE r+10:=by unfold ZaE;rw [List.length_cons];omega
   have hb2:2000≤ZaE r:=by unfold ZaE;omega
   exact Zaw (Zha (fun j _=>h _ (by omega) (by omega)) e) (Znu r fun k h1 h2=>h k h1 (by omega))
theorem Znv {ν ν':Nat→Gen}:∀ (r:List El),(∀ k,2000≤k→k<ZaE r→σ (ν k)=some (k,ν' k))→Zfh σ (ZdD ν r)=some (ZdD ν' r)
 | [],_=>rfl
 | e::r,h=>by
   have hb:ZaE (e::r)=ZaE r+10:=by unfold ZaE;rw [List.length_cons];omega
   have hb2:2000≤ZaE r:=by unfold ZaE;omega
   exact ZaR (Znv r fun k h1 h2=>h k h1 (by omega)) (by simp only [Zfh,rnL,rn1,h (ZaE r) hb2 (by omega),Option.map_some])
theorem ZcU {A:List (Nat×Option (Gen×VObj))} {ν:Nat→Gen} {e:El} {r:List El} (hA:(A.all fun q=>decide (q.1<2000))=true):Has (A++somes (stO NT AT ET ν e r)) (Zfm NT AT ν r):=fun t g o hm=>by
 have hk:=(ZcH hm).1
 rw [Zb1 _ _ t fun q hq hqt=>by
  have:=List.all_eq_true.1 hA q hq
  rw [hqt] at this
  simp only [decide_eq_true_eq] at this
  change 2000≤t at hk
  omega]
 have:=ZbI [] (ZaP (NT:=NT) (AT:=AT) (ET:=ET) ν e r) (List.mem_cons_of_mem _ (List.mem_cons_of_mem _ (List.mem_append_right _ hm)))
 rwa [List.append_nil] at this
theorem ZsF {A:List (Nat×Option (Gen×VObj))} {ν:Nat→Gen} {e:El} {r:List El} (hA:(A.all fun q=>decide (q.1≤1000)||decide (1005≤q.1))=true):Has (A++somes (stO NT AT ET ν e r)) (elO NT AT 1001 ν e):=fun t g o hm=>by
 obtain ⟨hk,hk2,_⟩:=Zc7 hm
 change 1001≤t at hk
 change t<1005 at hk2
 rw [Zb1 _ _ t fun q hq hqt=>by
  have:=List.all_eq_true.1 hA q hq
  rw [hqt] at this
  simp only [Bool.or_eq_true,decide_eq_true_eq] at this
  omega]
 have:=ZbI [] (ZaP (NT:=NT) (AT:=AT) (ET:=ET) ν e r) (List.mem_cons_of_mem _ (List.mem_cons_of_mem _ (List.mem_append_left _ hm)))
 rwa [List.append_nil] at this
def topf (n0 n1:Gen) (μ ν:Nat→Gen) (k:Nat):Nat×Gen:=if k=0 then (0,n0) else if k=1000 then (1000,n1) else if k<2000 then (k,μ k) else (k,ν k)
section
variable {tm:List (Nat×PV)} {ob:List (Nat×Option (Gen×VObj))} {ng:Nat}
theorem ZpF (n0 n1:Gen) (μ ν:Nat→Gen) {e':El} {r:List El} (tm':List (Nat×PV)) (h1:Zfz (σf (topf n0 n1 μ ν)) tm tm') (a0:Zm ob 0=some (n0,.box [.row 1000 n1])) (a1:Zm ob 1000=some (n1,.prow ET 1 (ZdD ν r ++ [[.ptr 1001 (μ 1001) 0]])))
  (a2:Has ob (elO NT AT 1001 μ e')) (a3:Has ob (Zfm NT AT ν r)) (h00:n0=(0,0):=by rfl):Shift (mkS tm ob ng) (mkS tm' (somes (stO NT AT ET νb e' r)) 2):=by
 have hl:∀ k,2000≤k→σf (topf n0 n1 μ ν) (νb k)=some (k,ν k):=fun k hk=>by
  have h1:¬ k=0:=by omega
  have h2:¬ k=1000:=by omega
  have h3:¬ k<2000:=by omega
  simp [σf,νb,topf,h1,h2,h3]
 have ht:∀ j,j<4→σf (topf n0 n1 μ ν) (νb (1001+j))=some (1001+j,μ (1001+j)):=fun j hj=>by
  have h1:¬ 1001+j=0:=by omega
  have h2:¬ 1001+j=1000:=by omega
  have h3:1001+j<2000:=by omega
  simp [σf,νb,topf,h2,h3]
 have e0:σf (topf n0 n1 μ ν) (νb 0)=some (0,n0):=by rw [h00];rfl
 have e1:σf (topf n0 n1 μ ν) (νb 1000)=some (1000,n1):=rfl
 have e2:σf (topf n0 n1 μ ν) (νb 1001)=some (1001,μ 1001):=ht 0 (by omega)
 have hp:Zfh (σf (topf n0 n1 μ ν)) (ZdD νb r ++ [[.ptr 1001 (νb 1001) 0]])=some (ZdD ν r ++ [[.ptr 1001 (μ 1001) 0]]):=ZaR (ZhG hl r) (by simp only [Zfh,rnL,rn1,e2,Option.map_some])
 have he:=Zaw (Zha (NT:=NT) (AT:=AT) (b:=1001) (b':=1001) (ν':=μ) ht e') (ZhF (NT:=NT) (AT:=AT) hl r)
 have h2:ZaY (σf (topf n0 n1 μ ν)) (stO NT AT ET νb e' r)=some ((0,n0,.box [.row 1000 n1])::(1000,n1,.prow ET 1 (ZdD ν r ++ [[.ptr 1001 (μ 1001) 0]]))::(elO NT AT 1001 μ e'++Zfm NT AT ν r)):=by
  simp only [stO,ZaY,rnO,rnL,rn1,e0,e1,Option.map_some,hp,he]
 refine Ze5 _ h1 h2 (Zk a0 (Zk a1 (Zjd a2 a3))) ?_
 have:=ZaP (NT:=NT) (AT:=AT) (ET:=ET) μ e' r
 have e:((0,n0,VObj.box [.row 1000 n1])::(1000,n1,.prow ET 1 (ZdD ν r ++ [[.ptr 1001 (μ 1001) 0]]))::(elO NT AT 1001 μ e'++Zfm NT AT ν r)).map (·.1)=(stO NT AT ET μ e' r).map (·.1):=by
  unfold stO
  rw [List.map_cons,List.map_cons,List.map_cons,List.map_cons,List.map_append,List.map_append,Zgq ν μ]
 rw [e]
 exact this
def popf (n0 n1:Gen) (fx:Nat→Nat×Gen) (ν:Nat→Gen) (b:Nat) (k:Nat):Nat×Gen:=if k=0 then (0,n0) else if k=1000 then (1000,n1) else if k<1000 then fx k else if k<1005 then (b+(k - 1001),ν (b+(k - 1001))) else if k<2000 then (k - 100,ν (k - 100)) else (k,ν k)
theorem ZgP (n0 n1:Gen) (fx:Nat→Nat×Gen) (ν:Nat→Gen) {e2:El} {r:List El} {X X':List (Nat×Gen×VObj)} (tm':List (Nat×PV)) (h1:Zfz (σf (popf n0 n1 fx ν (ZaE r))) tm tm') (a0:Zm ob 0=some (n0,.box [.row 1000 n1])) (a1:Zm ob 1000=some (n1,.prow ET 1 (ZdD ν (e2::r))))
  (hx:ZaY (σf (popf n0 n1 fx ν (ZaE r))) X'=some X) (hX:∀ q ∈ X,q.1≠0∧q.1≠1000∧q.1<2000) (hXn:(X.map (·.1)).Nodup) (a2:Has ob X) (a3:Has ob (Zfm NT AT ν (e2::r))) (h00:n0=(0,0):=by rfl):Shift (mkS tm ob ng) (mkS tm' (somes (X'++stO NT AT ET νb e2 r)) 2):=by
 have hb:2000≤ZaE r:=by unfold ZaE;omega
 have hl:∀ k,2000≤k→σf (popf n0 n1 fx ν (ZaE r)) (νb k)=some (k,ν k):=fun k hk=>by
  have h1:¬ k=0:=by omega
  have h2:¬ k=1000:=by omega
  have h3:¬ k<1005:=by omega
  have h4:¬ k<2000:=by omega
  have h5:¬ k<1000:=by omega
  simp [σf,νb,popf,h1,h2,h3,h4,h5]
 have ht:∀ j,j<4→σf (popf n0 n1 fx ν (ZaE r)) (νb (1001+j))=some (ZaE r+j,ν (ZaE r+j)):=fun j hj=>by
  have h2:¬ 1001+j=1000:=by omega
  have h3:1001+j<1005:=by omega
  have h4:1001+j - 1001=j:=by omega
  have h5:¬ 1001+j<1000:=by omega
  simp [σf,νb,popf,h2,h3,h4,h5]
 have e0:σf (popf n0 n1 fx ν (ZaE r)) (νb 0)=some (0,n0):=by rw [h00];rfl
 have e1:σf (popf n0 n1 fx ν (ZaE r)) (νb 1000)=some (1000,n1):=rfl
 have ee2:σf (popf n0 n1 fx ν (ZaE r)) (νb 1001)=some (ZaE r,ν (ZaE r)):=ht 0 (by omega)
 have hp:Zfh (σf (popf n0 n1 fx ν (ZaE r))) (ZdD νb r ++ [[.ptr 1001 (νb 1001) 0]])=some (ZdD ν r ++ [[.ptr (ZaE r) (ν (ZaE r)) 0]]):=ZaR (ZhG hl r) (by simp only [Zfh,rnL,rn1,ee2,Option.map_some])
 have he:=Zaw (Zha (NT:=NT) (AT:=AT) (b:=1001) (b':=ZaE r) (ν':=ν) ht e2) (ZhF (NT:=NT) (AT:=AT) hl r)
 have h2:ZaY (σf (popf n0 n1 fx ν (ZaE r))) (stO NT AT ET νb e2 r)=some ((0,n0,.box [.row 1000 n1])::(1000,n1,.prow ET 1 (ZdD ν (e2::r)))::Zfm NT AT ν (e2::r)):=by
  simp only [stO,ZaY,rnO,rnL,rn1,e0,e1,Option.map_some,hp,he]
  rfl
 refine Ze5 _ h1 (Zaw hx h2) (Zjd a2 (Zk a0 (Zk a1 a3))) ?_
 rw [List.map_append]
 have hlow:∀ k ∈ (Zfm NT AT ν (e2::r)).map (·.1),2000≤k:=fun k hk=>by
  obtain ⟨q,hq,rfl⟩:=List.mem_map.1 hk
  exact (ZcH hq).1
 refine ZeT hXn ?_ fun k hk' hk=>?_
 ·rw [List.map_cons,List.map_cons,List.nodup_cons,List.nodup_cons]
  refine ⟨fun h=>?_,fun h=>?_,Zf3 ν _⟩
  ·rcases List.mem_cons.1 h with h | h
   ·cases h
   ·have:=hlow _ h;omega
  ·have:=hlow _ h
   change 2000≤1000 at this
   omega
 ·obtain ⟨q',hq',rfl⟩:=List.mem_map.1 hk'
  have:=hX q' hq'
  rw [List.map_cons,List.map_cons] at hk
  rcases List.mem_cons.1 hk with e | hk
  ·change q'.1=0 at e;omega
  ·rcases List.mem_cons.1 hk with e | hk
   ·change q'.1=1000 at e;omega
   ·have:=hlow _ hk;omega
def pushf (n0 n1 m1 m2 m3:Gen) (k1 k2 k3:Nat) (ν:Nat→Gen) (b:Nat) (k:Nat):Nat×Gen:=if k=0 then (0,n0) else if k=1000 then (1000,n1) else if k=1001 then (k1,m1) else if k=1002 then (k2,m2) else if k=1003 then (k3,m3) else if b≤k then (1001+(k - b),ν (1001+(k - b))) else (k,ν k)
theorem Zoh (n0 n1 m1 m2 m3:Gen) (k1 k2 k3:Nat) (ν:Nat→Gen) {e:El} {r:List El} {kind tag count:Int} {list:List (List PV)} (tm':List (Nat×PV)) (h1:Zfz (σf (pushf n0 n1 m1 m2 m3 k1 k2 k3 ν (ZaE r))) tm tm') (a0:Zm ob 0=some (n0,.box [.row 1000 n1])) (a1:Zm ob 1000=some (n1,.prow ET 1 (ZdD ν r ++ [[.ptr 1001 (ν 1001) 0]] ++ [[.ptr k1 m1 0]])))
  (b1:Zm ob k1=some (m1,.box [.int .i64 kind,.int .i64 tag,.int .i64 count,.row k2 m2,.row k3 m3])) (b2:Zm ob k2=some (m2,.row NT 5 false list)) (b3:Zm ob k3=some (m3,.prow AT 3 [])) (hk:(decide ([k1,k2,k3].Nodup) && [k1,k2,k3].all fun k=>!Zbi k)=true) (a2:Has ob (elO NT AT 1001 ν e)) (a3:Has ob (Zfm NT AT ν r)) (h00:n0=(0,0):=by rfl) :
  Shift (mkS tm ob ng) (mkS tm' (somes (stO NT AT ET νb ⟨kind,tag,count,list,none⟩ (e::r))) 2):=by
 have hb:2000≤ZaE r:=by unfold ZaE;omega
 have hl:∀ k,2000≤k→k<ZaE r→σf (pushf n0 n1 m1 m2 m3 k1 k2 k3 ν (ZaE r)) (νb k)=some (k,ν k):=fun k hk hk'=>by
  have h1:¬ k=0:=by omega
  have h2:¬ k=1000:=by omega
  have h3:¬ k=1001:=by omega
  have h4:¬ k=1002:=by omega
  have h5:¬ k=1003:=by omega
  have h6:¬ ZaE r≤k:=by omega
  simp [σf,νb,pushf,h1,h2,h3,h4,h5,h6]
 have ht:∀ j,j<4→σf (pushf n0 n1 m1 m2 m3 k1 k2 k3 ν (ZaE r)) (νb (ZaE r+j))=some (1001+j,ν (1001+j)):=fun j hj=>by
  have h1:¬ ZaE r+j=0:=by omega
  have h2:¬ ZaE r+j=1000:=by omega
  have h3:¬ ZaE r+j=1001:=by omega
  have h4:¬ ZaE r+j=1002:=by omega
  have h5:¬ ZaE r+j=1003:=by omega
  have h6:ZaE r≤ZaE r+j:=by omega
  have h7:ZaE r+j - ZaE r=j:=by omega
  simp only [σf,νb,pushf,h1,h2,h3,h4,h5,h6,h7,if_true,if_false]
  rfl
 have e0:σf (pushf n0 n1 m1 m2 m3 k1 k2 k3 ν (ZaE r)) (νb 0)=some (0,n0):=by rw [h00];rfl
 have e1:σf (pushf n0 n1 m1 m2 m3 k1 k2 k3 ν (ZaE r)) (νb 1000)=some (1000,n1):=rfl
 have e2:σf (pushf n0 n1 m1 m2 m3 k1 k2 k3 ν (ZaE r)) (νb 1001)=some (k1,m1):=rfl
 have e3:σf (pushf n0 n1 m1 m2 m3 k1 k2 k3 ν (ZaE r)) (νb (1001+1))=some (k2,m2):=rfl
 have e4:σf (pushf n0 n1 m1 m2 m3 k1 k2 k3 ν (ZaE r)) (νb (1001+2))=some (k3,m3):=rfl
 have e5:σf (pushf n0 n1 m1 m2 m3 k1 k2 k3 ν (ZaE r)) (νb (ZaE r))=some (1001,ν 1001):=ht 0 (by omega)
 have hp:Zfh (σf (pushf n0 n1 m1 m2 m3 k1 k2 k3 ν (ZaE r))) (ZdD νb (e::r) ++ [[.ptr 1001 (νb 1001) 0]])=some (ZdD ν r ++ [[.ptr 1001 (ν 1001) 0]] ++ [[.ptr k1 m1 0]]):=
  ZaR (ZaR (Znv r hl) (by simp only [Zfh,rnL,rn1,e5,Option.map_some])) (by simp only [Zfh,rnL,rn1,e2,Option.map_some])
 have he:=Zaw (Zha (NT:=NT) (AT:=AT) (b:=ZaE r) (b':=1001) (ν':=ν) ht e) (Znu (NT:=NT) (AT:=AT) r hl)
 have h2:ZaY (σf (pushf n0 n1 m1 m2 m3 k1 k2 k3 ν (ZaE r))) (stO NT AT ET νb ⟨kind,tag,count,list,none⟩ (e::r))=some ((0,n0,.box [.row 1000 n1])::(1000,n1,.prow ET 1 (ZdD ν r ++ [[.ptr 1001 (ν 1001) 0]] ++ [[.ptr k1 m1 0]]))::(k1,m1,.box [.int .i64 kind,.int .i64 tag,.int .i64 count,.row k2 m2,.row k3 m3])::(k2,m2,.row NT 5 false list)::(k3,m3,.prow AT 3 [])::(elO NT AT 1001 ν e++Zfm NT AT ν r)):=by
  have he':ZaY (σf (pushf n0 n1 m1 m2 m3 k1 k2 k3 ν (ZaE r))) (Zfm NT AT νb (e::r))=some (elO NT AT 1001 ν e++Zfm NT AT ν r):=he
  have key:∀ X,elO NT AT 1001 νb ⟨kind,tag,count,list,none⟩++X=(1001,νb 1001,.box [.int .i64 kind,.int .i64 tag,.int .i64 count,.row (1001+1) (νb (1001+1)),.row (1001+2) (νb (1001+2))])::(1001+1,νb (1001+1),.row NT 5 false list)::(1001+2,νb (1001+2),.prow AT 3 [])::X:=fun _=>rfl
  unfold stO
  rw [key]
  simp only [ZaY,rnO,rnL,Zfh,rn1,e0,e1,e2,e3,e4,Option.map_some,hp,he']
 simp only [Bool.and_eq_true,decide_eq_true_eq,List.all_eq_true,Bool.not_eq_true'] at hk
 obtain ⟨hn,hpk⟩:=hk
 have hpk':∀ k ∈ [k1,k2,k3],¬ (k=0∨1000≤k):=fun k hk h=>by
  have:=hpk k hk
  rw [Zdd h] at this
  cases this
 refine Ze5 _ h1 h2 (Zk a0 (Zk a1 (Zk b1 (Zk b2 (Zk b3 (Zjd a2 a3)))))) ?_
 have hold:=ZaP (NT:=NT) (AT:=AT) (ET:=ET) ν e r
 unfold stO at hold
 rw [List.map_cons,List.map_cons,List.nodup_cons,List.nodup_cons] at hold
 obtain ⟨w1,w2,w3⟩:=hold
 have hrest:∀ k ∈ (elO NT AT 1001 ν e++Zfm NT AT ν r).map (·.1),1000≤k:=fun k hk=>by
  obtain ⟨q,hq,rfl⟩:=List.mem_map.1 hk
  rcases List.mem_append.1 hq with hq | hq
  ·have:=(Zc7 hq).1;omega
  ·have:=(ZcH hq).1;omega
 have p1:=hpk' k1 (by simp)
 have p2:=hpk' k2 (by simp)
 have p3:=hpk' k3 (by simp)
 simp only [List.nodup_cons,List.mem_cons,List.not_mem_nil,or_false,not_or] at hn
 obtain ⟨⟨n12,n13⟩,n23,_⟩:=hn
 simp only [List.map_cons,List.nodup_cons,List.mem_cons,not_or]
 refine ⟨⟨by omega,by omega,by omega,by omega,fun h=>by have:=hrest _ h;omega⟩,⟨by omega,by omega,by omega,fun h=>w2 h⟩,⟨n12,n13,fun h=>by have:=hrest _ h;omega⟩,⟨n23,fun h=>by have:=hrest _ h;omega⟩,fun h=>by have:=hrest _ h;omega,w3⟩
end
end
end VL
end Go.Proofs.YtmgfammllddkhaaGreatDoor
namespace Go.Proofs.YtmgfammllddkhaaGreatDoor
namespace VL
def κe (k:Nat):Nat:=1001+k
def γe (ν:Nat→Gen) (k:Nat):Gen:=ν (1001+k)
section
variable {NT AT ET:Nat} {P:Program} [WInv P] {ops:Array Oper} {draw:Bool} {i:Nat} {L:List Oper} {acc:List (List Nat×List Nat)} {K:FS→Prop} {tm:List (Nat×PV)} {ob:List (Nat×Option (Gen×VObj))} {ng:Nat}
 {d:Option Tmp} {ty:TypeId} {pos:String} {after:Array Edge} {gd:Option (Nat×Bool)}
def Zmq (l:List (Nat×VObj)) (k:Nat):Bool:=l.any fun q=>q.1 == k
theorem ZbK {f:FuncId} {es:Array Operand} {ts:Array TypeId} {e:El} {r:List El} {p p2:PV} (lits:List (Nat×Option (Gen×VObj))) (ν:Nat→Gen) (hc:ContractG P f [.ptr 0 (0,0) 0] (objs (elO NT AT 0 νa e)) p (elO NT AT 0 νa e)) (hob:ob=lits++somes (stO NT AT ET ν e r)) (hl:(lits.all fun q=>!Zbi q.1)=true)
  (hw:Zf ops (mkS tm ob ng) ⟨d,.call ⟨.value (.func f),es,ts⟩,ty,pos,after,gd⟩=some true) (he:es.toList.map (evL tm) = [.ptr 1001 (ν 1001) 0]) (hp:rnP (σ1 (Zmq (objs (elO NT AT 0 νa e))) κe (γe ν) κe ng i) p=some p2)
  (k:GoL P ops draw (i+1) L (acc ++ [(Zy (mkS tm ob ng) ⟨d,.call ⟨.value (.func f),es,ts⟩,ty,pos,after,gd⟩,(usG κe (objs (elO NT AT 0 νa e)) (elO NT AT 1001 ν e)).map (·.1))]) (mkS (Za3 d p2 tm) ob ng) K) :
  GoL P ops draw i (⟨d,.call ⟨.value (.func f),es,ts⟩,ty,pos,after,gd⟩::L) acc (mkS tm ob ng) K:=by
 have hHas:Has ob (elO NT AT 1001 ν e):=fun t g o hm=>by
  rw [hob]
  exact Za8 hl t g o (List.mem_cons_of_mem _ (List.mem_cons_of_mem _ (List.mem_append_left _ hm)))
 have hr0:ZaY (σ0 κe (γe ν)) (elO NT AT 0 νa e)=some (elO NT AT 1001 ν e):=Zha (fun j _=>by simp [σ0,νa,κe,γe]) e
 have hr1:ZaY (σ1 (Zmq (objs (elO NT AT 0 νa e))) κe (γe ν) κe ng i) (elO NT AT 0 νa e)=some (elO NT AT 1001 ν e):=by
  obtain ⟨e1,e2,e3,e4,args⟩:=e
  rcases args with _ | ⟨pre,a⟩
  ·rfl
  ·have h3:∀ j,j<4→σ1 (Zmq (objs (elO NT AT 0 νa ⟨e1,e2,e3,e4,some (pre,a)⟩))) κe (γe ν) κe ng i (νa (0+j))=some (1001+j,ν (1001+j)):=fun j hj=>by
    have:Zmq (objs (elO NT AT 0 νa ⟨e1,e2,e3,e4,some (pre,a)⟩)) (0+j)=true:=by
     match j,hj with
     | 0,_=>rfl
     | 1,_=>rfl
     | 2,_=>rfl
     | 3,_=>rfl
    simp only [σ1,νa,this,if_true]
    simp only [κe,γe,Nat.zero_add]
   exact Zha h3 _
 have hpre:ZoP (σ0 κe (γe ν)) κe (γe ν) (Zm ob) (objs (elO NT AT 0 νa e)):=ZkJ hr0 hHas fun q hq=>by
  rw [(Zc7 hq).2.2]
  simp [σ0,νa]
 have hk1:(objs (elO NT AT 0 νa e)).map (fun q=>κe q.1)=(elO NT AT 1001 ν e).map (·.1):=by
  obtain ⟨k,t,c,l,args⟩:=e
  cases args<;>rfl
 have hes:∀ t,t ∈ ZiA (Zm ob) (.ptr 1001 (ν 1001) 0)→t ∈ Zy (mkS tm ob ng) ⟨d,.call ⟨.value (.func f),es,ts⟩,ty,pos,after,gd⟩:=fun t ht=>by
  have hp:PV.ptr 1001 (ν 1001) 0 ∈ es.toList.map (evL tm):=by rw [he];exact List.mem_singleton.2 rfl
  obtain ⟨o,ho,e2⟩:=List.mem_map.1 hp
  unfold Zy
  rw [if_neg (by simp [quiet])]
  refine List.mem_flatMap.2 ⟨o,?_,?_⟩
  ·rw [ZfZ rfl]
   simp [Op.operands,Call.operands]
   exact .inr (by simpa using ho)
  ·rw [ZS,e2]
   exact ht
 refine Zm8 (Zmq (objs (elO NT AT 0 νa e))) κe (γe ν) κe hc hw ?_ hpre (by rw [hk1];exact Zeg _ _ _) (fun k hk=>?_) (fun t o' hm=>?_) hp hr1 (Zeg _ _ _) rfl ?_
 ·rw [he]
  rfl
 ·obtain ⟨q,hq,e2⟩:=List.any_eq_true.1 hk
  simp only [beq_iff_eq] at e2
  subst e2
  exact ⟨q.2,hq⟩
 ·obtain ⟨g,hg⟩:=ZfW hm
  have hm2:κe t ∈ (elO NT AT 1001 ν e).map (·.1):=by
   rw [← hk1]
   exact List.mem_map.2 ⟨_,hm,rfl⟩
  obtain ⟨⟨t2,g2,o2⟩,hq,e2⟩:=List.mem_map.1 hm2
  rw [← e2]
  exact hes _ (Zpy hHas (List.mem_singleton.2 rfl) hq 2)
 ·have e1:mkS (Za3 d p2 tm) ((usG κe (objs (elO NT AT 0 νa e)) (elO NT AT 1001 ν e)).reverse++ob) ng=mkS (Za3 d p2 tm) ob ng:=Zfw fun t=>?_
  ·rw [e1];exact k
  ·rw [Zid (Zeg _ _ _)]
   by_cases h1:∃ q ∈ elO NT AT 1001 ν e,q.1=t
   ·rw [if_pos h1]
    obtain ⟨⟨t',g,o⟩,hq,rfl⟩:=h1
    have w:=ZbI [] (Zeg 1001 ν e) hq
    rw [List.append_nil] at w
    rw [w]
    exact (hHas _ _ _ hq).symm
   ·rw [if_neg h1,if_neg fun ⟨q,hq,e3⟩=>h1 (by
     have hm2:κe q.1 ∈ (elO NT AT 1001 ν e).map (·.1):=by
      rw [← hk1]
      exact List.mem_map.2 ⟨_,hq,rfl⟩
     rw [e3] at hm2
     obtain ⟨q2,hq2,e4⟩:=List.mem_map.1 hm2
     exact ⟨q2,hq2,e4⟩)]
omit [WInv P] in
theorem Zmv {σ:Gen→Option (Nat×Gen)} {b:Nat} {ν ν':Nat→Gen} {e:El} (h:∀ q ∈ elO NT AT b ν e,σ (ν q.1)=some (q.1,ν' q.1)):ZaY σ (elO NT AT b ν e)=some (elO NT AT b ν' e):=by
 obtain ⟨e1,e2,e3,e4,args⟩:=e
 have h0:=h _ (List.mem_cons_self ..)
 have h1:=h _ (List.mem_cons_of_mem _ (List.mem_cons_self ..))
 have h2:=h _ (List.mem_cons_of_mem _ (List.mem_cons_of_mem _ (List.mem_cons_self ..)))
 rcases args with _ | ⟨pre,a⟩
 ·simp only [elO,Zmj,Zgc,ZaY,rnO,rnL,rn1,h0,h1,h2,Option.map_some,Zfh]
 ·have h3:=h _ (List.mem_cons_of_mem _ (List.mem_cons_of_mem _ (List.mem_cons_of_mem _ (List.mem_singleton.2 rfl))))
  have:Zfh σ (pre.map Arg.cs ++ [[.bool a.named,.sl a.name,.row (b+3) (ν (b+3))]])=some (pre.map Arg.cs ++ [[.bool a.named,.sl a.name,.row (b+3) (ν' (b+3))]]):=
   ZaR (Zjq pre) (by simp only [Zfh,rnL,rn1,h3,Option.map_some])
  simp only [elO,Zmj,Zgc,ZaY,rnO,rnL,rn1,h0,h1,h2,h3,Option.map_some,this]
omit [WInv P] in
theorem Zkv {σ:Gen→Option (Nat×Gen)} {ν ν':Nat→Gen}:∀ {r:List El},(∀ q ∈ Zfm NT AT ν r,σ (ν q.1)=some (q.1,ν' q.1))→ZaY σ (Zfm NT AT ν r)=some (Zfm NT AT ν' r)
 | [],_=>rfl
 | _::_,h=>Zaw (Zmv fun q hq=>h q (List.mem_append_left _ hq)) (Zkv fun q hq=>h q (List.mem_append_right _ hq))
omit [WInv P] in
theorem Zkw {σ:Gen→Option (Nat×Gen)} {ν ν':Nat→Gen}:∀ {r:List El},(∀ q ∈ Zfm NT AT ν r,σ (ν q.1)=some (q.1,ν' q.1))→Zfh σ (ZdD ν r)=some (ZdD ν' r)
 | [],_=>rfl
 | _::r,h=>ZaR (Zkw fun q hq=>h q (List.mem_append_right _ hq)) (by
   have:=h _ (List.mem_append_left _ (List.mem_cons_self ..))
   simp only [Zfh,rnL,rn1,this,Option.map_some])
omit [WInv P] in
theorem ZsU {σ:Gen→Option (Nat×Gen)} {ν ν':Nat→Gen} {e:El} {r:List El} (h:∀ q ∈ stO NT AT ET ν e r,σ (ν q.1)=some (q.1,ν' q.1)):ZaY σ (stO NT AT ET ν e r)=some (stO NT AT ET ν' e r):=by
 have h0:=h _ (List.mem_cons_self ..)
 have h1:=h _ (List.mem_cons_of_mem _ (List.mem_cons_self ..))
 have h2:=h _ (List.mem_cons_of_mem _ (List.mem_cons_of_mem _ (List.mem_append_left _ (List.mem_cons_self ..))))
 have hl:∀ q ∈ Zfm NT AT ν r,σ (ν q.1)=some (q.1,ν' q.1):=fun q hq=>h q (List.mem_cons_of_mem _ (List.mem_cons_of_mem _ (List.mem_append_right _ hq)))
 have hp:Zfh σ (ZdD ν r ++ [[.ptr 1001 (ν 1001) 0]])=some (ZdD ν' r ++ [[.ptr 1001 (ν' 1001) 0]]):=ZaR (Zkw hl) (by simp only [Zfh,rnL,rn1,h2,Option.map_some])
 have he:=Zaw (Zmv (NT:=NT) (AT:=AT) (σ:=σ) (b:=1001) (ν:=ν) (ν':=ν') (e:=e) fun q hq=>h q (List.mem_cons_of_mem _ (List.mem_cons_of_mem _ (List.mem_append_left _ hq)))) (Zkv hl)
 simp only [stO,ZaY,rnO,rnL,rn1,h0,h1,Option.map_some,hp,he]
theorem ZjS {f:FuncId} {es:Array Operand} {ts:Array TypeId} {args:List PV} {e:El} {r:List El} {p p2:PV} {X X2:List (Nat×Gen×VObj)} {ob2:List (Nat×Option (Gen×VObj))} (lits:List (Nat×Option (Gen×VObj))) (ν:Nat→Gen)
  (hc:ContractG P f (.ptr 0 (0,0) 0::args) (objs (stO NT AT ET νa e r)) p X) (hob:ob=lits++somes (stO NT AT ET ν e r)) (hl:(lits.all fun q=>!Zbi q.1)=true)
  (hw:Zf ops (mkS tm ob ng) ⟨d,.call ⟨.value (.func f),es,ts⟩,ty,pos,after,gd⟩=some true) (he:es.toList.map (evL tm) = .ptr 0 (ν 0) 0::args) (ha:rnA (σ0 (κp id) (γp ν ν)) args=some args) (hp:rnP (σ1 (Zmq (objs (stO NT AT ET νa e r))) (κp id) (γp ν ν) id ng i) p=some p2)
  (hX:ZaY (σ1 (Zmq (objs (stO NT AT ET νa e r))) (κp id) (γp ν ν) id ng i) X=some X2) (hXn:(X.map (·.1)).Nodup) (h2:∀ t,Zm ((usG (κp id) (objs (stO NT AT ET νa e r)) X2).reverse++ob) t=Zm ob2 t)
  (k:GoL P ops draw (i+1) L (acc ++ [(Zy (mkS tm ob ng) ⟨d,.call ⟨.value (.func f),es,ts⟩,ty,pos,after,gd⟩,(usG (κp id) (objs (stO NT AT ET νa e r)) X2).map (·.1))]) (mkS (Za3 d p2 tm) ob2 ng) K) :
  GoL P ops draw i (⟨d,.call ⟨.value (.func f),es,ts⟩,ty,pos,after,gd⟩::L) acc (mkS tm ob ng) K:=by
 have hHas:Has ob (stO NT AT ET ν e r):=by rw [hob];exact Za8 hl
 have par1:∀ {q:Nat×Gen×VObj} {ν:Nat→Gen} {e:El} {r:List El},q ∈ stO NT AT ET ν e r→Zbi q.1=true:=fun h=>Zdd (by have:=(ZdE h).1;omega)
 have hσ0:∀ k,k=0∨1000≤k→σ0 (κp id) (γp ν ν) (νa k)=some (k,ν k):=fun k hk=>by simp [σ0,νa,κp,γp,Zdd hk]
 have hpre:ZoP (σ0 (κp id) (γp ν ν)) (κp id) (γp ν ν) (Zm ob) (objs (stO NT AT ET νa e r)):=ZkJ (Zkk hσ0 e r) hHas fun q hq=>by
  rw [(ZdE hq).2]
  simp only [σ0,νa,if_true]
 have hinj:((objs (stO NT AT ET νa e r)).map fun q=>κp id q.1).Nodup:=by
  have e1:(objs (stO NT AT ET νa e r)).map (fun q=>κp id q.1)=(stO NT AT ET νa e r).map (·.1):=by
   unfold objs
   rw [List.map_map]
   refine List.map_congr_left fun q hq=>?_
   simp [κp]
  rw [e1]
  exact ZaP _ _ _
 refine Zm8 (Zmq (objs (stO NT AT ET νa e r))) (κp id) (γp ν ν) id hc hw ?_ hpre hinj (fun k hk=>?_) (fun t o' hm=>?_) hp hX hXn rfl ?_
 ·rw [he]
  show (match rnP _ (.ptr 0 (0,0) 0),rnA _ args with | some q,some qs=>some (q::qs) | _,_=>none)=_
  rw [ha]
  rfl
 ·obtain ⟨q,hq,e2⟩:=List.any_eq_true.1 hk
  simp only [beq_iff_eq] at e2
  subst e2
  exact ⟨q.2,hq⟩
 ·obtain ⟨g,hg⟩:=ZfW hm
  have hm2:t ∈ (stO NT AT ET ν e r).map (·.1):=by
   rw [ZeG ν νa]
   exact List.mem_map.2 ⟨_,hg,rfl⟩
  obtain ⟨⟨t2,g2,o2⟩,hq,e2⟩:=List.mem_map.1 hm2
  change t2=t at e2
  subst e2
  have hk:κp id t2=t2:=by simp [κp]
  rw [hk]
  have hpm:PV.ptr 0 (ν 0) 0 ∈ es.toList.map (evL tm):=by rw [he];exact List.mem_cons_self ..
  obtain ⟨o,ho,e3⟩:=List.mem_map.1 hpm
  unfold Zy
  rw [if_neg (by simp [quiet])]
  refine List.mem_flatMap.2 ⟨o,?_,?_⟩
  ·rw [ZfZ rfl]
   simp [Op.operands,Call.operands]
   exact .inr (by simpa using ho)
  ·rw [ZS,e3]
   exact Znq hHas hq
 ·have e1:mkS (Za3 d p2 tm) ((usG (κp id) (objs (stO NT AT ET νa e r)) X2).reverse++ob) ng=mkS (Za3 d p2 tm) ob2 ng:=Zfw h2
  rw [e1]
  exact k
omit [WInv P] in
theorem Zud {e:El} {r:List El} {q:Nat×Gen×VObj} (h:q ∈ stO NT AT ET νa e r):Zmq (objs (stO NT AT ET νa e r)) q.1=true:=List.any_eq_true.2 ⟨(q.1,q.2.2),List.mem_map.2 ⟨q,h,rfl⟩,by simp⟩
omit [WInv P] in
theorem ZoY (ν:Nat→Gen) (ng i:Nat) (e:El) (r:List El):∀ q ∈ stO NT AT ET νa e r,σ1 (Zmq (objs (stO NT AT ET νa e r))) (κp id) (γp ν ν) id ng i (νa q.1)=some (q.1,ν q.1):=fun q hq=>by
 have:=Zud hq
 simp only [σ1,νa,this,if_true]
 simp [κp,γp]
theorem Zac {f:FuncId} {es:Array Operand} {ts:Array TypeId} {args:List PV} {e:El} {r:List El} {p p2:PV} (lits:List (Nat×Option (Gen×VObj))) (ν:Nat→Gen)
  (hc:ContractG P f (.ptr 0 (0,0) 0::args) (objs (stO NT AT ET νa e r)) p (stO NT AT ET νa e r)) (hob:ob=lits++somes (stO NT AT ET ν e r)) (hl:(lits.all fun q=>!Zbi q.1)=true)
  (hw:Zf ops (mkS tm ob ng) ⟨d,.call ⟨.value (.func f),es,ts⟩,ty,pos,after,gd⟩=some true) (he:es.toList.map (evL tm) = .ptr 0 (ν 0) 0::args) (ha:rnA (σ0 (κp id) (γp ν ν)) args=some args) (hp:rnP (σ1 (Zmq (objs (stO NT AT ET νa e r))) (κp id) (γp ν ν) id ng i) p=some p2)
  (k:GoL P ops draw (i+1) L (acc ++ [(Zy (mkS tm ob ng) ⟨d,.call ⟨.value (.func f),es,ts⟩,ty,pos,after,gd⟩,(usG (κp id) (objs (stO NT AT ET νa e r)) (stO NT AT ET ν e r)).map (·.1))]) (mkS (Za3 d p2 tm) ob ng) K) :
  GoL P ops draw i (⟨d,.call ⟨.value (.func f),es,ts⟩,ty,pos,after,gd⟩::L) acc (mkS tm ob ng) K:=by
 have hHas:Has ob (stO NT AT ET ν e r):=by rw [hob];exact Za8 hl
 refine ZjS lits ν hc hob hl hw he ha hp (ZsU (ZoY ν ng i e r)) (ZaP _ _ _) (fun t=>?_) k
 rw [Zid (ZaP _ _ _)]
 by_cases h1:∃ q ∈ stO NT AT ET ν e r,q.1=t
 ·rw [if_pos h1]
  obtain ⟨⟨t',g,o⟩,hq,rfl⟩:=h1
  have w:=ZbI [] (ZaP ν e r) hq
  rw [List.append_nil] at w
  rw [w]
  exact (hHas _ _ _ hq).symm
 ·rw [if_neg h1,if_neg fun ⟨q,hq,e3⟩=>h1 (by
   obtain ⟨g,hg⟩:=ZfW (l:=stO NT AT ET νa e r) (t:=q.1) (o:=q.2) hq
   have hm2:q.1 ∈ (stO NT AT ET ν e r).map (·.1):=by
    rw [ZeG ν νa]
    exact List.mem_map.2 ⟨_,hg,rfl⟩
   obtain ⟨q2,hq2,e4⟩:=List.mem_map.1 hm2
   have hk:κp id q.1=q.1:=by simp [κp]
   exact ⟨q2,hq2,by rw [e4,← hk];exact e3⟩)]
theorem Ziv {x:Operand} (hw:Zf ops (mkS tm ob ng) ⟨d,.nilCheck x,ty,pos,after,gd⟩=some true) {t q k off:Nat} {g:Gen} (hx:evL tm x = .elp t g q k off)
  (kk:GoL P ops draw (i+1) L (acc ++ [(Zy (mkS tm ob ng) ⟨d,.nilCheck x,ty,pos,after,gd⟩,[])]) (mkS (Za3 d (.elp t g q k off) tm) ob ng) K):GoL P ops draw i (⟨d,.nilCheck x,ty,pos,after,gd⟩::L) acc (mkS tm ob ng) K:=
 ZbY (us:=[]) hw (.fn (by simp only [act,ZS,hx])) kk
theorem ZbL {x y:Operand} {T:TypeId} {agg:Bool} {n:Nat} [Ld P T agg n] (hw:Zf ops (mkS tm ob ng) ⟨d,.store T x y,ty,pos,after,gd⟩=some true) {t:Nat} {g:Gen} {E q kk off:Nat} {els els':List (List PV)} {e:List PV} {p:PV} {ps qs:List PV} {us:List (Nat×Option (Gen×VObj))}
  (hx:evL tm x = .elp t g q kk off) (hb:ZV (Zm ob) t g=some (.row E kk false els)) (he:els[q]? = some e) (hy:evL tm y=p) (hps:p.cells=ps) (hl:ps.length=n) (hr:Zdq (Zm ob) ps=some (qs,us)) (hf:off+n≤kk) (hus:us.all (fun q=>q.1 != t)=true) (hs:els.set q (Zam e off qs)=els')
  (k:GoL P ops draw (i+1) L (acc ++ [(Zy (mkS tm ob ng) ⟨d,.store T x y,ty,pos,after,gd⟩,(us ++ [(t,some (g,VObj.row E kk false els'))]).map (·.1))]) (mkS (Za3 d .un tm) ((t,some (g,VObj.row E kk false els'))::(us.reverse++ob)) ng) K) :
  GoL P ops draw i (⟨d,.store T x y,ty,pos,after,gd⟩::L) acc (mkS tm ob ng) K:=by
 subst hs
 refine ZiX hw hx hb he hy hps hl hr hf hus ?_
 simpa using k
theorem ZfQ {x:Operand} {T:TypeId} {agg:Bool} {n:Nat} [h:Ld P T agg n] (hw:Zf ops (mkS tm ob ng) ⟨d,.load T x,ty,pos,after,gd⟩=some true) {els:List (List PV)} {e:List PV} {q t:Nat} {g:Gen} {E kk off:Nat} {sh:Bool} {v:PV} (hx:evL tm x = .elp t g q kk off) (hb:ZV (Zm ob) t g=some (.row E kk sh els)) (he:els[q]? = some e) (hv:ZlD agg n (e.drop off)=some v)
  (k:GoL P ops draw (i+1) L (acc ++ [(Zy (mkS tm ob ng) ⟨d,.load T x,ty,pos,after,gd⟩,[])]) (mkS (Za3 d v tm) ob ng) K):GoL P ops draw i (⟨d,.load T x,ty,pos,after,gd⟩::L) acc (mkS tm ob ng) K:=by
 refine ZB (cs:=e.drop off) hw ?_ hv k
 rw [hx]
 simp only [ZeU,hb,if_true,he,Option.map_some]
omit [WInv P] in
theorem ZdQ {ex:Ex} (hex:ex = .ret∨ex = .normal) (n0 n1:Gen) (μ ν:Nat→Gen) {e0 e':El} {r:List El} (A:List (Nat×Option (Gen×VObj))) (tm':List (Nat×PV)) {rs:List ResultVar} {res:PV} {ps:List PV} (hob:ob=A++somes (stO NT AT ET ν e0 r)) (hA:(A.all fun q=>decide (q.1<2000))=true) (h1:Zfz (σf (topf n0 n1 μ ν)) tm tm')
  (a0:Zm ob 0=some (n0,.box [.row 1000 n1])) (a1:Zm ob 1000=some (n1,.prow ET 1 (ZdD ν r ++ [[.ptr 1001 (μ 1001) 0]]))) (a2:Has ob (elO NT AT 1001 μ e')) (h2:Zcd P (mkS tm' (somes (stO NT AT ET νb e' r)) 2) rs=some ps) (h3:Zce ps=res) (h00:n0=(0,0):=by rfl) :
  Zq2 P rs res (stO NT AT ET νb e' r) ex (mkS tm ob ng):=by
 have hs:Shift (mkS tm ob ng) (mkS tm' (somes (stO NT AT ET νb e' r)) 2):=ZpF n0 n1 μ ν tm' h1 a0 a1 a2 (by rw [hob];exact ZcU hA) h00
 have hH:Has (somes (stO NT AT ET νb e' r)) (stO NT AT ET νb e' r):=Za8 (lits:=[]) rfl
 rcases hex with rfl | rfl
 ·exact Zg1 hs h2 h3 hH
 ·exact Zje hs h2 h3 hH
theorem ZbU {α:Type} (l:List α) (a b:α):(l ++ [a]).set l.length b=l ++ [b]:=by
 rw [List.set_append_right _ _ (Nat.le_refl _),Nat.sub_self]
 rfl
theorem Zbl {α:Type} (l:List α) (a:α):(l ++ [a])[l.length]? = some a:=by
 rw [List.getElem?_append_right (Nat.le_refl _),Nat.sub_self]
 rfl
end
end VL
end Go.Proofs.YtmgfammllddkhaaGreatDoor
namespace Go.Proofs.YtmgfammllddkhaaGreatDoor
namespace VL
section
variable {P:Program} {NT AT ET:Nat} {tm:List (Nat×PV)} {ob:List (Nat×Option (Gen×VObj))} {ng:Nat}
theorem ZdC {ex:Ex} {rs:List ResultVar} {res:PV} {obs':List (Nat×Gen×VObj)} {s s1:FS} (h:Shift s s1) (k:Zq2 P rs res obs' ex s1):Zq2 P rs res obs' ex s:=by
 cases ex with
 | exit id=>exact k
 | normal=>obtain ⟨s2,h2,q⟩:=k;exact ⟨s2,h.trans h2,q⟩
 | ret=>obtain ⟨s2,h2,q⟩:=k;exact ⟨s2,h.trans h2,q⟩
theorem Zsf (ν:Nat→Gen) (r:List El) (p:List PV):(ZdD ν r ++ [p]).take r.length=ZdD ν r:=by
 have:=List.take_left (l₁:=ZdD ν r) (l₂:=[p])
 rwa [ZgI] at this
def Zmr (NT AT ET:Nat) (ν:Nat→Gen) (n1:Gen) (e e2:El) (r:List El):List (Nat×Gen×VObj):=(0,ν 0,.box [.row 1000 n1])::(1000,n1,.prow ET 1 (ZdD ν (e2::r)))::(elO NT AT 1001 ν e++Zfm NT AT ν (e2::r))
theorem Zji (ν:Nat→Gen) (n1:Gen) (e e2:El) (r:List El):(Zmr NT AT ET ν n1 e e2 r).map (·.1)=(stO NT AT ET ν e (e2::r)).map (·.1):=rfl
theorem Zsg (n1:Gen) {e e2:El} {r:List El} (A:List (Nat×Option (Gen×VObj))) (tm':List (Nat×PV)) {rs:List ResultVar} {res:PV} {ps:List PV} (hob:ob=A++somes (stO NT AT ET νa e (e2::r))) (hA:(A.all fun q=>decide (q.1≤1000))=true)
  (h1:Zfz (σf fun _=>(1000,n1)) tm tm') (a0:Zm ob 0=some ((0,0),.box [.row 1000 n1])) (a1:Zm ob 1000=some (n1,.prow ET 1 (ZdD νa (e2::r)))) (h2:Zcd P (mkS tm' (somes (Zmr NT AT ET νa (1,1000) e e2 r)) 2) rs=some ps) (h3:Zce ps=res) :
  Zq2 P rs res (Zmr NT AT ET νa (1,1000) e e2 r) .ret (mkS tm ob ng):=by
 have hA1:(A.all fun q=>decide (q.1<2000))=true:=List.all_eq_true.2 fun q hq=>by
  have:=List.all_eq_true.1 hA q hq
  simp only [decide_eq_true_eq] at this ⊢
  omega
 have hA2:(A.all fun q=>decide (q.1≤1000)||decide (1005≤q.1))=true:=List.all_eq_true.2 fun q hq=>by
  have:=List.all_eq_true.1 hA q hq
  simp only [decide_eq_true_eq] at this
  simp [this]
 have k0:∀ k,σf (fun _=>(1000,n1)) (νa k)=some (k,νa k):=fun k=>rfl
 have hp:=ZhG (σ:=σf fun _=>(1000,n1)) (ν:=νa) (ν':=νa) (fun k _=>k0 k) (e2::r)
 have he:=Zaw (Zha (NT:=NT) (AT:=AT) (b:=1001) (b':=1001) (ν':=νa) (fun j _=>k0 _) e) (ZhF (NT:=NT) (AT:=AT) (fun k _=>k0 k) (e2::r))
 have hx:ZaY (σf fun _=>(1000,n1)) (Zmr NT AT ET νa (1,1000) e e2 r)=some (Zmr NT AT ET νa n1 e e2 r):=by
  have e0:σf (fun _=>(1000,n1)) (νa 0)=some (0,νa 0):=rfl
  have e1:σf (fun _=>(1000,n1)) (1,1000)=some (1000,n1):=rfl
  simp only [Zmr,ZaY,rnO,rnL,rn1,e0,e1,Option.map_some,hp,he]
 have hn:∀ n1,((Zmr NT AT ET νa n1 e e2 r).map (·.1)).Nodup:=fun n1=>by rw [Zji];exact ZaP _ _ _
 refine Zg1 (Ze5 _ h1 hx (Zk a0 (Zk a1 (Zjd (by rw [hob];exact ZsF hA2) (by rw [hob];exact ZcU hA1)))) (hn _)) h2 h3 fun t g o hm=>?_
 have:=ZbI [] (hn (1,1000)) hm
 rwa [List.append_nil] at this
theorem Zqv {ν:Nat→Gen} {e:El} {r:List El} {lits:List (Nat×Option (Gen×VObj))} (h:(lits.all fun q=>!Zbi q.1)=true):mkS tm (somes (stO NT AT ET ν e r)++lits) ng=mkS tm (lits++somes (stO NT AT ET ν e r)) ng:=Zfw fun t=>by
 by_cases ht:∃ q ∈ stO NT AT ET ν e r,q.1=t
 ·obtain ⟨⟨t',g,o⟩,hq,rfl⟩:=ht
  rw [ZbI _ (ZaP ν e r) hq]
  exact (Za8 h _ _ _ hq).symm
 ·have e1:∀ b,Zm (somes (stO NT AT ET ν e r)++b) t=Zm b t:=fun b=>Zb1 _ _ _ fun q hq hqt=>by
   obtain ⟨g,o,h,_⟩:=Zf4 hq
   exact ht ⟨_,h,hqt⟩
  have e2:Zm (somes (stO NT AT ET ν e r)) t=none:=by
   have:=e1 []
   rwa [List.append_nil] at this
  rw [e1]
  have:∀ (l:List (Nat×Option (Gen×VObj))),Zm l t=Zm (l++somes (stO NT AT ET ν e r)) t:=fun l=>by
   induction l with
   | nil=>exact e2.symm
   | cons q l ih=>
     show (if t=q.1 then q.2 else Zm l t)=if t=q.1 then q.2 else Zm (l++somes (stO NT AT ET ν e r)) t
     rw [ih]
  exact this lits
theorem Zqw {ex:Ex} (hex:ex = .ret∨ex = .normal) (n0 n1 m1 m2 m3:Gen) (k1 k2 k3:Nat) (ν:Nat→Gen) {e:El} {r:List El} {kind tag count:Int} {list:List (List PV)} (A:List (Nat×Option (Gen×VObj))) (tm':List (Nat×PV)) {rs:List ResultVar} {res:PV} {ps:List PV} (hob:ob=A++somes (stO NT AT ET ν e r)) (hA:(A.all fun q=>decide (q.1≤1000))=true)
  (h1:Zfz (σf (pushf n0 n1 m1 m2 m3 k1 k2 k3 ν (ZaE r))) tm tm') (a0:Zm ob 0=some (n0,.box [.row 1000 n1])) (a1:Zm ob 1000=some (n1,.prow ET 1 (ZdD ν r ++ [[.ptr 1001 (ν 1001) 0]] ++ [[.ptr k1 m1 0]])))
  (b1:Zm ob k1=some (m1,.box [.int .i64 kind,.int .i64 tag,.int .i64 count,.row k2 m2,.row k3 m3])) (b2:Zm ob k2=some (m2,.row NT 5 false list)) (b3:Zm ob k3=some (m3,.prow AT 3 [])) (hk:(decide ([k1,k2,k3].Nodup) && [k1,k2,k3].all fun k=>!Zbi k)=true)
  (h2:Zcd P (mkS tm' (somes (stO NT AT ET νb ⟨kind,tag,count,list,none⟩ (e::r))) 2) rs=some ps) (h3:Zce ps=res) (h00:n0=(0,0):=by rfl):Zq2 P rs res (stO NT AT ET νb ⟨kind,tag,count,list,none⟩ (e::r)) ex (mkS tm ob ng):=by
 have hA1:(A.all fun q=>decide (q.1<2000))=true:=List.all_eq_true.2 fun q hq=>by
  have:=List.all_eq_true.1 hA q hq
  simp only [decide_eq_true_eq] at this ⊢
  omega
 have hA2:(A.all fun q=>decide (q.1≤1000)||decide (1005≤q.1))=true:=List.all_eq_true.2 fun q hq=>by
  have:=List.all_eq_true.1 hA q hq
  simp only [decide_eq_true_eq] at this
  simp [this]
 have hs:Shift (mkS tm ob ng) (mkS tm' (somes (stO NT AT ET νb ⟨kind,tag,count,list,none⟩ (e::r))) 2):=Zoh n0 n1 m1 m2 m3 k1 k2 k3 ν tm' h1 a0 a1 b1 b2 b3 hk (by rw [hob];exact ZsF hA2) (by rw [hob];exact ZcU hA1) h00
 have hH:Has (somes (stO NT AT ET νb ⟨kind,tag,count,list,none⟩ (e::r))) (stO NT AT ET νb ⟨kind,tag,count,list,none⟩ (e::r)):=Za8 (lits:=[]) rfl
 rcases hex with rfl | rfl
 ·exact Zg1 hs h2 h3 hH
 ·exact Zje hs h2 h3 hH
end
end VL
end Go.Proofs.YtmgfammllddkhaaGreatDoor
namespace Go.Proofs.YtmgfammllddkhaaGreatDoor
open VL
abbrev stP (ν:Nat→Gen) (e:El) (r:List El):List (Nat×Gen×VObj):=stO 78 111 98 ν e r
abbrev elP (b:Nat) (ν:Nat→Gen) (e:El):List (Nat×Gen×VObj):=elO 78 111 b ν e
abbrev PC (f:FuncId) (args:List PV) (e:El) (r:List El) (res:PV) (e':El) (r':List El):Prop:=Zvn 78 111 98 Tryz.prog f args e r res e' r'
set_option maxRecDepth 100000 in
theorem Zdo (e:El) (r:List El) (hr:r.length≤1000):ContractG Tryz.prog 65 [.ptr 0 (0,0) 0] (objs (stP νa e r)) (.ptr 1001 (0,1001) 0) (stP νa e r):=by
 refine Zz mix Tryz.func65 (by kernel_rfl) rfl (by kernel_rfl) ?_
 rw [ZbZ]
 repeat (first | (refine Za6 rfl rfl (ZbW _ _ _) ?_) | (refine Zf8 rfl rfl rfl (by omega) ?_) | (refine Zes rfl rfl rfl rfl (by rw [ZbW];omega) ?_) | (refine ZcB rfl rfl rfl (ZmB _ _ _) rfl ?_) | refine ZhE ?_)
 exact Zg1 (Shift.refl _) rfl rfl (Za8 (lits:=[]) rfl)
abbrev Zvo (f:FuncId) (e:El) (p:PV):Prop:=ContractG Tryz.prog f [.ptr 0 (0,0) 0] (objs (elP 0 νa e)) p (elP 0 νa e)
theorem Zev (b:Nat) (ν:Nat→Gen) (pre:List Arg) (a:Arg):(Zgc b ν (some (pre,a))).length=pre.length+1:=by simp [Zgc]
theorem ZaX (b:Nat) (ν:Nat→Gen) (pre:List Arg) (a:Arg):(Zgc b ν (some (pre,a)))[pre.length]? = some [.bool a.named,.sl a.name,.row (b+3) (ν (b+3))]:=by simp [Zgc]
theorem Zf5 (b:Nat) (ν:Nat→Gen) (pre:List Arg) (a:Arg) (x:List PV):(Zgc b ν (some (pre,a))).set pre.length x=pre.map Arg.cs ++ [x]:=by
 have:=ZbU (pre.map Arg.cs) [.bool a.named,.sl a.name,.row (b+3) (ν (b+3))] x
 rwa [List.length_map] at this
theorem ZnO {e:El} {rs:List ResultVar} {res:PV} {ps:List PV} {tm:List (Nat×PV)} {ng:Nat} (h2:Zcd Tryz.prog (mkS tm (obG (objs (elP 0 νa e))) ng) rs=some ps) (h3:Zce ps=res) :
  Zq2 Tryz.prog rs res (elP 0 νa e) .ret (mkS tm (obG (objs (elP 0 νa e))) ng):=by
 have ho:obG (objs (elP 0 νa e))=somes (elP 0 νa e):=by
  unfold obG objs somes
  rw [List.map_map]
  refine List.map_congr_left fun q hq=>?_
  have:=(Zc7 hq).2.2
  simp only [Function.comp]
  rw [show ((0,q.1):Gen)=q.2.1 from this.symm]
 refine Zg1 (Shift.refl _) h2 h3 fun t g o hm=>?_
 rw [ho]
 have:=ZbI [] (Zeg (NT:=78) (AT:=111) 0 νa e) hm
 rwa [List.append_nil] at this
set_option maxRecDepth 100000 in
theorem ZbD (e:El) (h:e.kind≠3∨e.args=none) (hn:∀ q,e.args=some q→q.1.length≤1000000):Zvo 169 e (.ptr 0 (0,0) 3):=by
 obtain ⟨kind,tag,count,list,args⟩:=e
 refine Zz mix Tryz.func169 (by kernel_rfl) rfl (by kernel_rfl) ?_
 by_cases hk:kind=3
 ·obtain rfl:args=none:=h.resolve_left (fun h=>h hk)
  subst hk
  repeat (first | (refine Za6 (n:=0) rfl rfl rfl ?_) | (refine Zg rfl rfl ?_) | refine ZhE ?_)
  exact ZnO rfl rfl
 ·cases args with
  | none=>
    repeat (first | (refine Za6 (n:=0) rfl rfl rfl ?_) | refine ZhE ?_)
    rw [decide_eq_false hk]
    repeat (first | (refine ZN rfl ?_) | (refine Zg rfl rfl ?_) | refine ZhE ?_)
    exact ZnO rfl rfl
  | some q=>
    obtain ⟨pre,a⟩:=q
    repeat (first | (refine Za6 rfl rfl (Zev ..) ?_) | refine ZhE ?_)
    rw [decide_eq_false hk]
    repeat (first | (refine ZN rfl ?_) | (refine Zg rfl rfl ?_) | refine ZhE ?_)
    exact ZnO rfl rfl
set_option maxRecDepth 100000 in
theorem Zfe (tag count:Int) (list:List (List PV)) (pre:List Arg) (a:Arg) (hn:pre.length≤1000000):Zvo 169 ⟨3,tag,count,list,some (pre,a)⟩ (.elp 2 (0,2) pre.length 3 2):=by
 refine Zz mix Tryz.func169 (by kernel_rfl) rfl (by kernel_rfl) ?_
 repeat (first | (refine Za6 rfl rfl (Zev ..) ?_) | refine ZhE ?_)
 have h0:decide ((0:Int)<((pre.length+1:Nat):Int))=true:=decide_eq_true (by omega)
 rw [h0]
 repeat (first | (refine Zf8 rfl rfl rfl (by omega) ?_) | (refine Zr rfl rfl ?_) | (refine Zes rfl rfl rfl rfl (by rw [Zev];omega) ?_) | refine ZhE ?_)
 exact ZnO rfl rfl
def Ztx:List PV→Option Node
 | [.int .i64 k,.int .i64 t,.str s,.sl a,.sl b]=>some ⟨k,t,s,a,b⟩
 | _=>none
theorem ZlQ {e:List PV} {n:Node} (h:Ztx e=some n):e=n.cs:=by
 unfold Ztx at h
 split at h
 ·injection h with h
  subst h
  rfl
 ·cases h
def VL.El.cur (e:El):List (List PV):=match e.args with
 | some (_,a)=>if e.kind=3 then a.value else e.list
 | none=>e.list
def VL.El.setCur (e:El) (l:List (List PV)):El:=match e.args with
 | some (pre,a)=>if e.kind=3 then ⟨e.kind,e.tag,e.count,e.list,some (pre,⟨a.named,a.name,l⟩)⟩ else ⟨e.kind,e.tag,e.count,l,e.args⟩
 | none=>⟨e.kind,e.tag,e.count,l,none⟩
def Zi8 (l:List (List PV)) (n:Node):Option (List (List PV)):=Zjw 80 l [n.cs]
def ZlR (l:List (List PV)) (s:ByteArray):Option (List (List PV)):=match l.getLast? with
 | none=>Zi8 l ⟨1,0,s,[],[]⟩
 | some e=>(Ztx e).bind fun n=>if n.kind=1 then (Zbk n.text s).map fun y=>l.dropLast ++ [Node.cs ⟨1,n.tag,y,n.kids,n.args⟩] else Zi8 l ⟨1,0,s,[],[]⟩
theorem Ze2 {l l':List (List PV)} {s:ByteArray} (h:ZlR l s=some l'):(l = []∧Zi8 l ⟨1,0,s,[],[]⟩=some l')∨∃ init n,l=init ++ [Node.cs n]∧((n.kind=1∧∃ y,Zbk n.text s=some y∧l'=init ++ [Node.cs ⟨1,n.tag,y,n.kids,n.args⟩])∨(n.kind≠1∧Zi8 l ⟨1,0,s,[],[]⟩=some l')):=by
 unfold ZlR at h
 split at h
 ·rename_i hl
  exact .inl ⟨List.getLast?_eq_none_iff.1 hl,h⟩
 ·rename_i e hl
  obtain ⟨n,hn,h⟩:=Option.bind_eq_some_iff.1 h
  obtain ⟨init,rfl⟩:=List.getLast?_eq_some_iff.1 hl
  refine .inr ⟨init,n,by rw [ZlQ hn],?_⟩
  split at h
  ·rename_i hk
   obtain ⟨y,hy,rfl⟩:=Option.map_eq_some_iff.1 h
   exact .inl ⟨hk,y,hy,by rw [List.dropLast_concat]⟩
  ·rename_i hk
   exact .inr ⟨hk,h⟩
def small (e:El) (r:List El):Prop:=r.length≤1000∧∀ q,e.args=some q→q.1.length≤1000000
def Zf9 (e:El) (n:Node):Option El:=(Zi8 e.cur n).map e.setCur
def Zby (e:El) (s:ByteArray):Option El:=if s=⟨#[]⟩ then some e else (ZlR e.cur s).map e.setCur
set_option maxRecDepth 100000 in
theorem ZlS (e:El) (r:List El) (n:Node) (hs:small e r) (l':List (List PV)) (h:e.kind≠3∨e.args=none) (hR:Zi8 e.list n=some l'):PC 103 [.agg n.cs] e r (.tup []) ⟨e.kind,e.tag,e.count,l',e.args⟩ r:=by
 refine Zz mix Tryz.func103 (by kernel_rfl) rfl (by kernel_rfl) ?_
 rw [ZbZ]
 obtain ⟨h1,h2,rfl⟩:=Zc4 hR
 obtain ⟨kind,tag,count,list,args⟩:=e
 rcases args with _ | ⟨pre,a⟩
 ·repeat (first | (refine Zac [_] νa (Zdo _ r hs.1) rfl rfl rfl rfl rfl rfl ?_) | (refine ZbK [_] νa (ZbD _ h hs.2) rfl rfl rfl rfl rfl ?_) | (refine Zbb rfl rfl rfl rfl h1 h2 (by rfl) ?_) | (refine Zat (n:=list.length) rfl rfl rfl rfl (by simp) ?_) | (refine ZbL rfl rfl rfl (Zbl _ _) rfl rfl rfl rfl (Nat.le_of_ble_eq_true rfl) rfl (ZbU _ _ _) ?_) | refine Zn rfl (by (conv=>lhs;whnf);try rfl) ?_ | refine ZB rfl rfl rfl ?_ | refine Zp rfl (by (conv=>lhs;whnf);try rfl) ?_ | refine ZaA rfl rfl ?_ | refine ZgR rfl rfl ?_ | refine ZjD rfl (by (conv=>lhs;whnf);try rfl) (by (conv=>lhs;whnf);try rfl) (by rfl) ?_ | refine ZaH rfl rfl rfl (by (conv=>lhs;whnf);try rfl) (by (conv=>lhs;whnf);try rfl) (by rfl) (by rfl) (Nat.le_of_ble_eq_true rfl) (by (conv=>lhs;whnf);try rfl) ?_ | refine Zae rfl rfl rfl (by rfl) (by decide) (by (conv=>lhs;whnf);try rfl) ?_ | refine Zc ?_ | refine Zb9 (by kernel_rfl) ?_ | refine Zh ?_ | refine Za ?_ | refine Zx ?_)
  exact ZdQ (.inr rfl) (0,0) (0,1000) (fun k=>if k=1002 then (3,6) else νa k) νa [_,_,_,_,_] [] rfl rfl trivial rfl rfl (Zk rfl (Zk rfl (Zk rfl (ZP _)))) rfl rfl
 ·repeat (first | (refine Zac [_] νa (Zdo _ r hs.1) rfl rfl rfl rfl rfl rfl ?_) | (refine ZbK [_] νa (ZbD _ h hs.2) rfl rfl rfl rfl rfl ?_) | (refine Zbb rfl rfl rfl rfl h1 h2 (by rfl) ?_) | (refine Zat (n:=list.length) rfl rfl rfl rfl (by simp) ?_) | (refine ZbL rfl rfl rfl (Zbl _ _) rfl rfl rfl rfl (Nat.le_of_ble_eq_true rfl) rfl (ZbU _ _ _) ?_) | refine Zn rfl (by (conv=>lhs;whnf);try rfl) ?_ | refine ZB rfl rfl rfl ?_ | refine Zp rfl (by (conv=>lhs;whnf);try rfl) ?_ | refine ZaA rfl rfl ?_ | refine ZgR rfl rfl ?_ | refine ZjD rfl (by (conv=>lhs;whnf);try rfl) (by (conv=>lhs;whnf);try rfl) (by rfl) ?_ | refine ZaH rfl rfl rfl (by (conv=>lhs;whnf);try rfl) (by (conv=>lhs;whnf);try rfl) (by rfl) (by rfl) (Nat.le_of_ble_eq_true rfl) (by (conv=>lhs;whnf);try rfl) ?_ | refine Zae rfl rfl rfl (by rfl) (by decide) (by (conv=>lhs;whnf);try rfl) ?_ | refine Zc ?_ | refine Zb9 (by kernel_rfl) ?_ | refine Zh ?_ | refine Za ?_ | refine Zx ?_)
  exact ZdQ (.inr rfl) (0,0) (0,1000) (fun k=>if k=1002 then (3,6) else νa k) νa [_,_,_,_,_] [] rfl rfl trivial rfl rfl (Zk rfl (Zk rfl (Zk rfl (Zk rfl (ZP _))))) rfl rfl
set_option maxRecDepth 100000 in
theorem ZrX (tag count:Int) (list:List (List PV)) (pre:List Arg) (a:Arg) (r:List El) (n:Node) (hs:small ⟨3,tag,count,list,some (pre,a)⟩ r) (l':List (List PV)) (hR:Zi8 a.value n=some l') :
  PC 103 [.agg n.cs] ⟨3,tag,count,list,some (pre,a)⟩ r (.tup []) ⟨3,tag,count,list,some (pre,⟨a.named,a.name,l'⟩)⟩ r:=by
 refine Zz mix Tryz.func103 (by kernel_rfl) rfl (by kernel_rfl) ?_
 rw [ZbZ]
 obtain ⟨h1,h2,rfl⟩:=Zc4 hR
 repeat (first | (refine Zac [_] νa (Zdo _ r hs.1) rfl rfl rfl rfl rfl rfl ?_) | (refine ZbK [_] νa (Zfe _ _ _ _ _ (hs.2 _ rfl)) rfl rfl rfl rfl rfl ?_) | (refine Ziv rfl rfl ?_) | (refine ZcB rfl rfl rfl (ZaX _ _ _ _) rfl ?_) | (refine Zbb rfl rfl rfl rfl h1 h2 (by rfl) ?_) | (refine Zat (n:=a.value.length) rfl rfl rfl rfl (by simp) ?_) | (refine ZbL rfl rfl rfl (Zbl _ _) rfl rfl rfl rfl (Nat.le_of_ble_eq_true rfl) rfl (ZbU _ _ _) ?_) | (refine Zin rfl rfl rfl (ZaX _ _ _ _) rfl rfl rfl rfl (Nat.le_of_ble_eq_true rfl) (Zf5 _ _ _ _ _) ?_) | refine Zn rfl (by (conv=>lhs;whnf);try rfl) ?_ | refine ZB rfl rfl rfl ?_ | refine Zp rfl (by (conv=>lhs;whnf);try rfl) ?_ | refine ZgR rfl rfl ?_ | refine ZjD rfl (by (conv=>lhs;whnf);try rfl) (by (conv=>lhs;whnf);try rfl) (by rfl) ?_ | refine Zae rfl rfl rfl (by rfl) (by decide) (by (conv=>lhs;whnf);try rfl) ?_ | refine Zc ?_ | refine Zb9 (by kernel_rfl) ?_ | refine Zh ?_ | refine Za ?_ | refine Zx ?_)
 exact ZdQ (.inr rfl) (0,0) (0,1000) (fun k=>if k=1004 then (3,6) else νa k) νa [_,_,_,_,_] [] rfl rfl trivial rfl rfl (Zk rfl (Zk rfl (Zk rfl (Zk rfl (ZP _))))) rfl rfl
end Go.Proofs.YtmgfammllddkhaaGreatDoor
