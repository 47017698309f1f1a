/- Functions of the program as Lean functions. Written by -/
import Derived.Test.YtmgfammllddkhaaGreatDoorCO09
set_option linter.unusedSimpArgs false
set_option linter.unusedVariables false
set_option maxHeartbeats 4000000
set_option maxRecDepth 100000
namespace Go.Proofs.YtmgfammllddkhaaGreatDoor
section
open VL
def WN (p0:Q1) (p1:Q1):Q2 (Q1×Bool):=(ZB p0 p1).bind fun r1=>if (!r1) then some (p0,false) else (AH p0 (p1.size:Int) (p0.size:Int)).bind fun l2=>some (l2,true)
theorem Zdz (p0:Q1) (p1:Q1) (r:Q1×Bool) (h:WN p0 p1=some r):Zg Tryz.prog 83 [.str p0,.str p1] (.tup [.str r.1,.bool r.2]):=by{
refine cF (fun r=>.tup [.str r.1,.bool r.2]) h mix Tryz.func83 fun r h=>?_
unfold WN at h
refine Zj ?_
refine rg ?_
refine rg ?_
refine aC h (cX _ _) fun r1 h=>?_
refine cS h rfl (fun h=>?_) fun h=>?_
refine rg ?_
cases h
exact rQ
refine rg ?_
refine sS h fun l2 h=>?_
cases h
exact rQ}
def LX (p0:Q1) (p1:Q1):Q2 (Q1×Bool):=(WN p0 p1).bind fun r1=>some (r1.1,r1.2)
theorem mA (p0:Q1) (p1:Q1) (r:Q1×Bool) (h:LX p0 p1=some r):Zg Tryz.prog 47 [.str p0,.str p1] (.tup [.str r.1,.bool r.2]):=by{
refine cF (fun r=>.tup [.str r.1,.bool r.2]) h mix Tryz.func47 fun r h=>?_
unfold LX at h
refine Zj ?_
refine rg ?_
refine rg ?_
refine aC h (Zdz _ _) fun r1 h=>?_
cases h
exact rQ}
def PX (p0:Q1):Q2 Q1:=(T9 p0 ⟨#[9,10,13,32]⟩).bind fun r1=>some r1
theorem mB (p0:Q1) (r:Q1) (h:PX p0=some r):Zg Tryz.prog 118 [.str p0] (.str r):=by{
refine cF (fun r=>.str r) h mix Tryz.func118 fun r h=>?_
unfold PX at h
refine Zj ?_
refine rg ?_
refine rg ?_
refine aC h (Zlp _ _) fun r1 h=>?_
cases h
exact rQ}
def PY (p0:Q1):Q2 Int:=A3 A9 (fun f12 (x58:Int)=>if decide (x58<(p0.size:Int)) then letk (fun (x83:Bool)=>if x83 then some x58 else f12 (w64 (x58+1))) fun k14=>(atS p0 x58).bind fun c84=>if decide (c84=124) then k14 true else (atS p0 x58).bind fun c85=>if decide (c85=93) then if decide ((w64 (x58+1))<(p0.size:Int)) then (atS p0 (w64 (x58+1))).bind fun c86=>k14 (decide (c86=93)) else k14 false else k14 false else some (-1)) 0
theorem mC (p0:Q1) (r:Int) (h:PY p0=some r):Zg Tryz.prog 49 [.str p0] (.int .i64 r):=by{
refine cF (fun r=>.int .i64 r) h mix Tryz.func49 fun r h=>?_
unfold PY at h
refine Zj ?_
refine rg ?_
refine rg ?_
refine bl ?_
refine Zz h fun f12 mf12 hf12 h=>?_
refine Zu (α:=Nat×Int) (fun a _=>mkS [(0,.str p0),(5,.int .i64 (p0.size:Int)),(6,.int .i64 a.2)] [] 2) (fun a=>A3 a.1 f12 a.2=some r) (fun a=>a.1) (mf12,0) 2 h (sR []) (fun a _ h=>?_)
obtain ⟨mf12,x58⟩:=a
obtain ⟨mf12,rfl,h⟩:=ZA hf12 h
dsimp only at h ⊢
refine Zj ?_
refine rg ?_
refine cS h rfl (fun h=>?_) fun h=>?_
refine bl ?_
refine rg ?_
refine jL h (fun x83=>mkS [(0,.str p0),(3,.int .i64 x58),(5,.int .i64 (p0.size:Int)),(6,.int .i64 x58),(32,.bool x83)] [] 2) (fun k14 h=>?_) fun x83 h=>?_
refine rg ?_
refine aS h fun c84 h=>?_
refine kS 13 h rfl (fun h=>?_) fun h=>?_
iterate 18 refine Zw rfl (Zj ?_)
exact jn true h (sR [])
refine aS h fun c85 h=>?_
refine kS 18 h rfl (fun h=>?_) fun h=>?_
refine kS 25 h rfl (fun h=>?_) fun h=>?_
refine aS h fun c86 h=>?_
exact jn (decide (c86=93)) h (sR [])
iterate 5 refine Zw rfl (Zj ?_)
exact jn false h (sR [])
iterate 10 refine Zw rfl (Zj ?_)
exact jn false h (sR [])
refine cS h rfl (fun h=>?_) fun h=>?_
refine rg ?_
cases h
exact rQ
refine rg ?_
exact rn (mf12,(w64 (x58+1))) h (sR [])
refine rg ?_
cases h
exact rQ}
def NB (p0:Q1):Q2 (Title×Int):=(strings_Cut p0 ⟨#[35]⟩).bind fun r1=>(T0 r1.1).bind fun r2=>some (r2.1,r2.2)
theorem dM (p0:Q1) (r:Title×Int) (h:NB p0=some r):Zg Tryz.prog 50 [.str p0] (.tup [r.1.pv,.int .i64 r.2]):=by{
refine cF (fun r=>.tup [r.1.pv,.int .i64 r.2]) h mix Tryz.func50 fun r h=>?_
unfold NB at h
refine Zj ?_
refine rg ?_
refine rg ?_
refine aC h (kB _ _) fun r1 h=>?_
refine rg ?_
refine aC h (zU _) fun r2 h=>?_
cases h
exact rQ}
def PZ (p0:Q1):Q2 Q1:=(atS p0 0).bind fun c1=>if (!decide (c1=124)) then some ⟨#[]⟩ else (AH p0 1 (p0.size:Int)).bind fun l2=>(strings_Cut l2 ⟨#[93,93]⟩).bind fun r3=>if (!r3.2.2) then some ⟨#[]⟩ else (PX r3.1).bind fun r4=>some r4
theorem Zk6 (p0:Q1) (r:Q1) (h:PZ p0=some r):Zg Tryz.prog 116 [.str p0] (.str r):=by{
refine cF (fun r=>.str r) h mix Tryz.func116 fun r h=>?_
unfold PZ at h
refine Zj ?_
refine rg ?_
refine rg ?_
refine aS h fun c1 h=>?_
refine cS h rfl (fun h=>?_) fun h=>?_
refine rg ?_
cases h
exact rQ
refine rg ?_
refine sS h fun l2 h=>?_
refine aC h (kB _ _) fun r3 h=>?_
refine rg ?_
refine cS h rfl (fun h=>?_) fun h=>?_
refine rg ?_
cases h
exact rQ
refine rg ?_
refine aC h (mB _) fun r4 h=>?_
cases h
exact rQ}
def Q0 (p0:Finder) (p1:Q1):Q2 Finder:=A3 A9 (fun f5 ((x21,x22,x23):Q1×(Q3 Link)×(Q3 Memb))=>(strings_Index x21 ⟨#[91,91]⟩).bind fun r44=>if decide (r44<0) then some ⟨x22,x23⟩ else (AH x21 (w64 (r44+2)) (x21.size:Int)).bind fun l45=>(AH x21 (w64 (r44+1)) (x21.size:Int)).bind fun l46=>(PY l45).bind fun r47=>if decide (r47<0) then some ⟨x22,x23⟩ else (AH l45 0 r47).bind fun l48=>letk (fun (x51:Bool)=>if x51 then f5 (l46,x22,x23) else (NB l48).bind fun r52=>if (!decide (r52.2=0)) then f5 (l46,x22,x23) else letk (fun (x55:Bool)=>if x55 then (AH l45 r47 (l45.size:Int)).bind fun l56=>(PZ l56).bind fun r57=>(A8 40 x23 [(⟨r52.1,r57⟩:Memb)]).bind fun l58=>f5 (l46,x22,l58) else (A8 32 x22 [(⟨1,r52.1⟩:Link)]).bind fun l59=>f5 (l46,l59,x23)) fun k7=>if decide (r52.1.space=4) then (LV l48 ⟨#[9,32,95]⟩).bind fun r60=>(ZR r60 ⟨#[58]⟩).bind fun r61=>k7 (!r61) else k7 false) fun k6=>(strings_Contains l48 ⟨#[91,91]⟩).bind fun r62=>if r62 then k6 true else (strings_Contains l48 ⟨#[10]⟩).bind fun r63=>k6 r63) (p1,p0.links,p0.members)
theorem ZgB (p0:Finder) (p1:Q1) (r:Finder) (h:Q0 p0 p1=some r):ContractP Tryz.prog 66 [.ptr 0 (0,0) 0,.str p1] 0 [.row 42 3 false (List.map Link.cs p0.links),.row 45 3 false (List.map Memb.cs p0.members)] (.tup []) [.row 42 3 false (List.map Link.cs r.links),.row 45 3 false (List.map Memb.cs r.members)]:=by{
refine bQ (R:=fun r=>.tup []) (O:=fun r=>[.row 42 3 false (List.map Link.cs r.links),.row 45 3 false (List.map Memb.cs r.members)]) h mix Tryz.func66 (by kernel_rfl) rfl (by kernel_rfl) rfl fun r h=>?_
unfold Q0 at h
refine Zj ?_
refine bl ?_
refine Zz h fun f5 mf5 hf5 h=>?_
refine Zu (α:=Nat×(Q1×(Q3 Link)×(Q3 Memb))) (fun a _=>mkS [(0,.ptr 0 (0,0) 0),(1,.str a.2.1)] [(0,some ((0,0),.box [.row 1000 (1,1000),.row 1001 (1,1001)])),(1000,some ((1,1000),.row 42 3 false (List.map Link.cs a.2.2.1))),(1001,some ((1,1001),.row 45 3 false (List.map Memb.cs a.2.2.2)))] 2) (fun a=>A3 a.1 f5 a.2=some r) (fun a=>a.1) (mf5,p1,p0.links,p0.members) 2 h (sR [(1000,0,1000),(1001,0,1001)]) (fun a _ h=>?_)
obtain ⟨mf5,x21,x22,x23⟩:=a
obtain ⟨mf5,rfl,h⟩:=ZA hf5 h
dsimp only at h ⊢
refine Zj ?_
refine bl ?_
refine rg ?_
refine aC h (cU _ _) fun r44 h=>?_
refine rg ?_
refine cS h rfl (fun h=>?_) fun h=>?_
cases h
exact iK rfl rfl rfl rfl rfl rfl
refine rg ?_
refine sS h fun l45 h=>?_
refine rg ?_
refine sS h fun l46 h=>?_
refine rg ?_
refine aC h (mC _) fun r47 h=>?_
refine rg ?_
refine cS h rfl (fun h=>?_) fun h=>?_
cases h
exact iK rfl rfl rfl rfl rfl rfl
refine rg ?_
refine sS h fun l48 h=>?_
refine jL h (fun x51=>mkS [(0,.ptr 0 (0,0) 0),(1,.str l46),(5,.str l45),(6,.int .i64 r47),(7,.str l48),(34,.bool x51)] [(0,some ((0,0),.box [.row 1000 (1,1000),.row 1001 (1,1001)])),(1000,some ((1,1000),.row 42 3 false (List.map Link.cs x22))),(1001,some ((1,1001),.row 45 3 false (List.map Memb.cs x23)))] 2) (fun k6 h=>?_) fun x51 h=>?_
refine rg ?_
refine aC h (W6 _ _) fun r62 h=>?_
refine kS 31 h rfl (fun h=>?_) fun h=>?_
iterate 2 refine Zw rfl (Zj ?_)
exact jn true h (sR [(1000,1,1000),(1001,1,1001)])
refine aC h (W6 _ _) fun r63 h=>?_
exact jn r63 h (sR [(1000,1,1000),(1001,1,1001)])
refine cS h rfl (fun h=>?_) fun h=>?_
exact rn (mf5,l46,x22,x23) h (sR [(1000,1,1000),(1001,1,1001)])
refine rg ?_
refine aC h (dM _) fun r52 h=>?_
refine rg ?_
refine cS h rfl (fun h=>?_) fun h=>?_
exact rn (mf5,l46,x22,x23) h (sR [(1000,1,1000),(1001,1,1001)])
refine jL h (fun x55=>mkS [(0,.ptr 0 (0,0) 0),(1,.str l46),(5,.str l45),(6,.int .i64 r47),(8,.ptr 8 (1,8) 0),(50,.bool x55)] [(0,some ((0,0),.box [.row 1000 (1,1000),.row 1001 (1,1001)])),(8,some ((1,8),.box (Title.cs r52.1))),(1000,some ((1,1000),.row 42 3 false (List.map Link.cs x22))),(1001,some ((1,1001),.row 45 3 false (List.map Memb.cs x23)))] 2) (fun k7 h=>?_) fun x55 h=>?_
refine rg ?_
refine kS 45 h rfl (fun h=>?_) fun h=>?_
refine aC h (m9 _ _) fun r60 h=>?_
refine aC h (LN _ _) fun r61 h=>?_
exact jn (!r61) h (sR [(8,2,5),(1000,1,1000),(1001,1,1001)])
iterate 4 refine Zw rfl (Zj ?_)
exact jn false h (sR [(8,2,5),(1000,1,1000),(1001,1,1001)])
refine cS h rfl (fun h=>?_) fun h=>?_
refine rg ?_
refine sS h fun l56 h=>?_
refine aC h (Zk6 _) fun r57 h=>?_
refine CT (M:=([(⟨r52.1,r57⟩:Memb)]:Q3 Memb)) (f:=Memb.cs) rfl rfl rfl rfl (Yk rfl) rfl (Zj ?_)
refine pR Memb.cs h fun l58 h=>?_
exact rn (mf5,l46,x22,l58) h (sR [(1000,1,1000),(1001,2,12)])
refine rg ?_
refine CT (M:=([(⟨1,r52.1⟩:Link)]:Q3 Link)) (f:=Link.cs) rfl rfl rfl rfl (Yk rfl) rfl (Zj ?_)
refine pR Link.cs h fun l59 h=>?_
exact rn (mf5,l46,l59,x23) h (sR [(1000,2,8),(1001,1,1001)])}
def LY (p0:Q1):Q2 (Title×Bool):=(LX p0 ⟨#[35,82,69,68,73,82,69,67,84]⟩).bind fun r1=>if (!r1.2) then some (⟨0,⟨#[]⟩⟩,false) else (LV r1.1 ⟨#[32,9]⟩).bind fun r2=>(LX r2 ⟨#[91,91]⟩).bind fun r3=>(PY r3.1).bind fun r4=>letk (fun (x9:Bool)=>if x9 then (some ((⟨0,(⟨#[]⟩:Q1)⟩:Title),false):Q2 (Title×Bool)) else (AH r3.1 0 r4).bind fun l10=>(NB l10).bind fun r11=>(some (r11.1,(decide (r11.2=0))):Q2 (Title×Bool))) fun k1=>if (!r3.2) then k1 true else if decide (r4<0) then k1 true else (AH r3.1 0 r4).bind fun l12=>(strings_Contains l12 ⟨#[91,91]⟩).bind fun r13=>if r13 then k1 true else (AH r3.1 0 r4).bind fun l14=>(strings_Contains l14 ⟨#[10]⟩).bind fun r15=>k1 r15
theorem mD (p0:Q1) (r:Title×Bool) (h:LY p0=some r):Zg Tryz.prog 13 [.str p0] (.tup [r.1.pv,.bool r.2]):=by{
refine cF (fun r=>.tup [r.1.pv,.bool r.2]) h mix Tryz.func13 fun r h=>?_
unfold LY at h
refine Zj ?_
refine rg ?_
refine rg ?_
refine aC h (mA _ _) fun r1 h=>?_
refine rg ?_
refine cS h rfl (fun h=>?_) fun h=>?_
refine rg ?_
cases h
exact rQ
refine rg ?_
refine aC h (m9 _ _) fun r2 h=>?_
refine aC h (mA _ _) fun r3 h=>?_
refine rg ?_
refine aC h (mC _) fun r4 h=>?_
refine jL h (fun x9=>mkS [(2,.ptr 2 (1,2) 0),(4,.str r3.1),(6,.int .i64 r4),(42,.bool x9)] [(2,some ((1,2),.box [.int .i64 0,.str ⟨#[]⟩]))] 2) (fun k1 h=>?_) fun x9 h=>?_
refine rg ?_
refine kS 27 h rfl (fun h=>?_) fun h=>?_
iterate 10 refine Zw rfl (Zj ?_)
exact jn true h (sR [(2,1,0)])
refine kS 31 h rfl (fun h=>?_) fun h=>?_
iterate 8 refine Zw rfl (Zj ?_)
exact jn true h (sR [(2,1,0)])
refine sS h fun l12 h=>?_
refine aC h (W6 _ _) fun r13 h=>?_
refine kS 37 h rfl (fun h=>?_) fun h=>?_
iterate 4 refine Zw rfl (Zj ?_)
exact jn true h (sR [(2,1,0)])
refine sS h fun l14 h=>?_
refine aC h (W6 _ _) fun r15 h=>?_
exact jn r15 h (sR [(2,1,0)])
refine cS h rfl (fun h=>?_) fun h=>?_
refine rg ?_
cases h
exact rQ
refine rg ?_
refine sS h fun l10 h=>?_
refine aC h (dM _) fun r11 h=>?_
refine rg ?_
cases h
exact rQ}
end
namespace VL
open Go.RowKit
def νa (k:Nat):Gen:=(0,k)
def νb (k:Nat):Gen:=if k=0 then (0,0) else (1,k)
def νn (g0:Gen) (ng i k:Nat):Gen:=if k=0 then g0 else (ng,i+1000000 * (k+1))
abbrev νc (ng i:Nat):Nat->Gen:=νn (0,0) ng i
def objs (l:Q3 (Nat×Gen×VObj)):Q3 (Nat×VObj):=l.map fun q=>(q.1,q.2.2)
theorem Q5 {l:Q3 (Nat×Gen×VObj)} {t:Nat} {o:VObj} (h:(t,o) ∈ objs l):∃ g,(t,g,o) ∈ l:=by{
obtain ⟨⟨t',g,o'⟩,h1,e⟩:=Yy.1 h
injection e with e1 e2
subst e1 e2
exact ⟨g,h1⟩}
section
variable {NT AT ET:Nat}
theorem NC {f:Nat->Q2 (Gen×VObj)} {y:Nat} {l:Q3 Nat} (h:y ∈ l):∀ n,y ∈ CR f n l
 | 0=>h
 | _+1=>Yz _ h
theorem ND {f:Nat->Q2 (Gen×VObj)} {x y:Nat} {l:Q3 Nat} {n:Nat} (hx:x ∈ l) (h:∀ l':Q3 Nat,(∀ z ∈ EQ f x,z ∈ l')->y ∈ CR f n l'):y ∈ CR f (n+1) l:=
 YK _ (h _ fun _ hz=>YS.2 ⟨x,hx,hz⟩)
theorem WO {f:Nat->Q2 (Gen×VObj)} {t:Nat} {g:Gen} {cs:Q3 PV} (h:f t=some (g,.box cs)) {p:PV} (hp:p ∈ cs) {k:Nat} (hk:k ∈ AB p):k ∈ EQ f t:=by
 unfold EQ
 rw [h]
 exact YS.2 ⟨p,hp,hk⟩
theorem mG {f:Nat->Q2 (Gen×VObj)} {t:Nat} {g:Gen} {E n:Nat} {els:Q3 (Q3 PV)} (h:f t=some (g,.prow E n els)) {el:Q3 PV} (he:el ∈ els) {p:PV} (hp:p ∈ el) {k:Nat} (hk:k ∈ AB p):k ∈ EQ f t:=by
 unfold EQ
 rw [h]
 exact YS.2 ⟨p,FH.2 ⟨el,he,hp⟩,hk⟩
theorem mH {ob:Q3 (Nat×Q2 (Gen×VObj))} {b:Nat} {ν:Nat->Gen} {e:El} (h:Has ob (elO NT AT b ν e)) {l:Q3 Nat} (hb:b ∈ l) {t:Nat} {g:Gen} {o:VObj} (hm:(t,g,o) ∈ elO NT AT b ν e) (n:Nat):t ∈ CR (Zn ob) (n+2) l:=by{
unfold elO at h hm
rcases Ys.1 hm with q | hm'
injection q with q1 q2;subst q1;exact NC hb _
have hbox:=h _ _ _ (Yi ..)
rcases Ys.1 hm' with q | hm'
injection q with q1 q2
subst q1
exact ND hb fun l' h'=>NC (h' _ (WO hbox (p:=.row (b+1) (ν (b+1))) (by simp) (by simp [AB]))) _
rcases Ys.1 hm' with q | hm'
injection q with q1 q2
subst q1
exact ND hb fun l' h'=>NC (h' _ (WO hbox (p:=.row (b+2) (ν (b+2))) (by simp) (by simp [AB]))) _
have hrow:=h _ _ _ (Yg _ (Yg _ (Yi ..)))
unfold LK at hm'
split at hm'
cases hm'
rename_i pre a hl
obtain q:=YG.1 hm'
injection q with q1 q2
subst q1
refine ND hb fun l' h'=>ND (h' _ (WO hbox (p:=.row (b+2) (ν (b+2))) (by simp) (by simp [AB]))) fun l2 h2=>NC (h2 _ (mG hrow (el:=[.bool a.named,.sl a.name,.row (b+3) (ν (b+3))]) (by rw [hl];simp [EY]) (p:=.row (b+3) (ν (b+3))) (by simp) (by simp [AB]))) _}
theorem mI {ν:Nat->Gen}:∀ {r:Q3 El} {t:Nat} {g:Gen} {o:VObj},(t,g,o) ∈ AX NT AT ν r->∃ b e,[PV.ptr b (ν b) 0] ∈ AL ν r/\(t,g,o) ∈ elO NT AT b ν e/\∀ q ∈ elO NT AT b ν e,q ∈ AX NT AT ν r
 | [],_,_,_,h=>by cases h
 | e::r,t,g,o,h=>by
   rcases YD.1 h with h | h
   exact ⟨A4 r,e,YK _ (YG.2 rfl),h,fun q hq=>Yz _ hq⟩
   obtain ⟨b,e',h1,h2,h3⟩:=mI h
   exact ⟨b,e',Yz _ h1,h2,fun q hq=>YK _ (h3 q hq)⟩
theorem mJ {ob:Q3 (Nat×Q2 (Gen×VObj))} {ν:Nat->Gen} {e:El} {r:Q3 El} (h:Has ob (stO NT AT ET ν e r)) {t:Nat} {g:Gen} {o:VObj} (hm:(t,g,o) ∈ stO NT AT ET ν e r):t ∈ IE (Zn ob) (.ptr 0 (ν 0) 0):=by{
show t ∈ CR (Zn ob) 4 [0]
have h0:=h _ _ _ (Yi ..)
have h1:=h _ _ _ (Yg _ (Yi ..))
rcases Ys.1 hm with q | hm'
injection q with q1 q2;subst q1;exact NC (YG.2 rfl) _
have k1:∀ l':Q3 Nat,(∀ z ∈ EQ (Zn ob) 0,z ∈ l')->1000 ∈ l':=fun l' h'=>h' _ (WO h0 (p:=.row 1000 (ν 1000)) (by simp) (by simp [AB]))
rcases Ys.1 hm' with q | hm'
injection q with q1 q2
subst q1
exact ND (YG.2 rfl) fun l' h'=>NC (k1 l' h') _
have main:∃ b e',[PV.ptr b (ν b) 0] ∈ AL ν r ++ [[.ptr 1001 (ν 1001) 0]]/\(t,g,o) ∈ elO NT AT b ν e'/\∀ q ∈ elO NT AT b ν e',q ∈ stO NT AT ET ν e r:=by
 rcases YD.1 hm' with h | h
 exact ⟨1001,e,YK _ (YG.2 rfl),h,fun q hq=>Yg _ (Yg _ (Yz _ hq))⟩
 obtain ⟨b,e',w1,w2,w3⟩:=mI h
 exact ⟨b,e',Yz _ w1,w2,fun q hq=>Yg _ (Yg _ (YK _ (w3 q hq)))⟩
obtain ⟨b,e',w1,w2,w3⟩:=main
refine ND (YG.2 rfl) fun l' h'=>ND (k1 l' h') fun l2 h2=>mH (fun t g o hq=>h t g o (w3 _ hq)) (h2 _ (mG h1 w1 (YG.2 rfl) (by simp [AB]))) w2 0}
theorem WP {σ:Gen->Q2 (Nat×Gen)} {κ:Nat->Nat} {γ:Nat->Gen} {f:Nat->Q2 (Gen×VObj)}:∀ {l l2:Q3 (Nat×Gen×VObj)},AI σ l=some l2->(∀ t g o,(t,g,o) ∈ l2->f t=some (g,o))->(∀ q ∈ l,σ q.2.1=some (κ q.1,γ q.1))->HJ σ κ γ f (objs l)
 | [],_,_,_,_=>trivial
 | (t,g,o)::r,l2,h,hf,hk=>by
  simp only [AI] at h
  split at h
  rename_i t3 g3 o3 r3 h1 h2 h3
  injection h with h
  subst h
  have e:=hk _ (Yi ..)
  rw [h1] at e
  injection e with e
  injection e with e1 e2
  subst e1 e2
  exact ⟨⟨o3,h2,hf _ _ _ (Yi ..)⟩,WP h3 (fun t g o hm=>hf t g o (Yg _ hm)) fun q hq=>hk q (Yg _ hq)⟩
  cases h
theorem WQ {κ:Nat->Nat} {obs:Q3 (Nat×VObj)} {obs2:Q3 (Nat×Gen×VObj)} {ob:Q3 (Nat×Q2 (Gen×VObj))} (hn:(obs2.map (·.1)).Nodup) (t:Nat) :
  Zn ((usG κ obs obs2).reverse++ob) t=if ∃ q ∈ obs2,q.1=t then Zn (somes obs2) t else if ∃ q ∈ obs,κ q.1=t then none else Zn ob t:=by{
unfold usG
rw [O9,YM]
have hrev:((obs2.reverse).map (·.1)).Nodup:=by rw [Z5];exact (List.reverse_perm _).nodup_iff.2 hn
have e:(obs2.map fun q=>(q.1,some q.2)).reverse=somes obs2.reverse:=by unfold somes;rw [Z5]
rw [e]
by_cases h1:∃ q ∈ obs2,q.1=t
rw [if_pos h1]
obtain ⟨⟨t',g,o⟩,hq,rfl⟩:=h1
have w:=FQ [] hn hq
rw [YB] at w
rw [w]
exact FQ _ hrev (UO.2 hq)
rw [if_neg h1,IJ _ _ _ fun q hq hqt=>h1 (by
 obtain ⟨g,o,h2,_⟩:=VT hq
 exact ⟨_,UO.1 h2,hqt⟩)]
by_cases h2:∃ q ∈ obs,κ q.1=t
rw [if_pos h2]
have:∀ (l:Q3 (Nat×VObj)) (b:Q3 (Nat×Q2 (Gen×VObj))),(∃ q ∈ l,κ q.1=t)->Zn ((l.map fun q=>(κ q.1,(none:Q2 (Gen×VObj))))++b) t=none:=fun l b=>by
 induction l with
 | nil=>rintro ⟨q,hq,_⟩;cases hq
 | cons q l ih=>
   rintro ⟨q',hq',e⟩
   show (if t=κ q.1 then none else Zn (_++b) t)=none
   split
   rfl
   rename_i hne
   rcases Ys.1 hq' with rfl | hq'
   exact absurd e.symm hne
   exact ih ⟨q',hq',e⟩
rw [<- Z5]
obtain ⟨q,hq,e2⟩:=h2
exact this _ _ ⟨q,UO.2 hq,e2⟩
rw [if_neg h2,IJ _ _ _ fun q hq hqt=>h2 (by
 obtain ⟨q',hq',rfl⟩:=Yy.1 (UO.1 hq)
 exact ⟨q',hq',hqt⟩)]}
theorem mK (b:Nat) (ν ν':Nat->Gen) (e:El):(elO NT AT b ν e).map (·.1)=(elO NT AT b ν' e).map (·.1):=by
 obtain ⟨k,t,c,l,args⟩:=e
 cases args<;>rfl
theorem dN (ν ν':Nat->Gen):∀ (r:Q3 El),(AX NT AT ν r).map (·.1)=(AX NT AT ν' r).map (·.1)
 | []=>rfl
 | e::r=>by unfold AX;rw [YR,YR,mK,dN ν ν' r]
theorem TA (ν ν':Nat->Gen) (e:El) (r:Q3 El):(stO NT AT ET ν e r).map (·.1)=(stO NT AT ET ν' e r).map (·.1):=by
 unfold stO
 rw [YO,YO,YO,YO,YR,YR,mK 1001 ν ν',dN ν ν']
def κp (κx:Nat->Nat) (k:Nat):Nat:=if BK k=true then k else κx k
def γp (ν γx:Nat->Gen) (k:Nat):Gen:=if BK k=true then ν k else γx k
def no1 (k:Nat):Bool:=k == 0
def nones (κx:Nat->Nat) (xin:Q3 (Nat×VObj)):Q3 (Nat×Q2 (Gen×VObj)):=xin.map fun q=>(κx q.1,none)
end
section
variable {NT AT ET:Nat} {P:Program} [WInv P] {ops:Array Oper} {draw:Bool} {i:Nat} {L:Q3 Oper} {acc:Q3 (Q3 Nat×Q3 Nat)} {K:FS->Prop} {tm:Q3 (Nat×PV)} {ob:Q3 (Nat×Q2 (Gen×VObj))} {ng:Nat}
 {d:Q2 Tmp} {ty:TypeId} {pos:String} {after:Array Edge} {gd:Q2 (Nat×Bool)}
theorem LZ {k:Nat} (h:k=0\/1000<=k):BK k=true:=by{
unfold BK
rcases h with rfl | h
rfl
rw [Yh h,Bool.or_true]}
def dO (l:Q3 (Nat×Gen×VObj)):Bool:=decide ((l.map (·.1)).Nodup)&&l.all fun q=>decide (1100<=q.1)&&decide (q.1<2000)
def mL (κx:Nat->Nat) (l:Q3 (Nat×VObj)):Bool:=decide ((l.map fun q=>κx q.1).Nodup)&&l.all fun q=>!BK q.1 && !BK (κx q.1)
theorem TB {ob ob':Q3 (Nat×Q2 (Gen×VObj))} (h:∀ t,Zn ob t=Zn ob' t):mkS tm ob ng=mkS tm ob' ng:=by
 unfold mkS
 rw [show Zn ob=Zn ob' from funext h]
theorem WR {f:FuncId} {es:Array Operand} {ts:Array TypeId} {args:Q3 PV} {e e':El} {r r':Q3 El} {xin:Q3 (Nat×VObj)} {res res2:PV} {ext ext2:Q3 (Nat×Gen×VObj)} (lits:Q3 (Nat×Q2 (Gen×VObj))) (ν:Nat->Gen) (κx:Nat->Nat) (γx:Nat->Gen)
  (hc:ContractG P f args (objs (stO NT AT ET νa e r)++xin) res (stO NT AT ET νb e' r'++ext)) (hob:ob=lits++somes (stO NT AT ET ν e r)) (hl:(lits.all fun q=>!BK q.1)=true)
  (hw:Zh ops (mkS tm ob ng) ⟨d,.call ⟨.value (.func f),es,ts⟩,ty,pos,after,gd⟩=some true) (he:rnA (σ0 (κp κx) (γp ν γx)) args=some (es.toList.map (evL tm))) (h0:PV.ptr 0 (ν 0) 0 ∈ es.toList.map (evL tm))
  (hx:HJ (σ0 (κp κx) (γp ν γx)) (κp κx) (γp ν γx) (Zn ob) xin) (hxk:∀ q ∈ xin,∃ g,PV.ptr (κx q.1) g 0 ∈ es.toList.map (evL tm)) (hxn:mL κx xin=true)
  (hres:rnP (σ1 no1 (κp κx) (γp ν γx) id ng i) res=some res2) (hext:AI (σ1 no1 (κp κx) (γp ν γx) id ng i) ext=some ext2) (hek:(dO ext&&dO ext2)=true)
  (k:GoL P ops draw (i+1) L (acc ++ [(ZD (mkS tm ob ng) ⟨d,.call ⟨.value (.func f),es,ts⟩,ty,pos,after,gd⟩,(usG (κp κx) (objs (stO NT AT ET νa e r)++xin) (stO NT AT ET (νn (ν 0) ng i) e' r'++ext2)).map (·.1))]) (mkS (A5 d res2 tm) (nones κx xin++(somes ext2++(lits++somes (stO NT AT ET (νn (ν 0) ng i) e' r')))) ng) K) :
  GoL P ops draw i (⟨d,.call ⟨.value (.func f),es,ts⟩,ty,pos,after,gd⟩::L) acc (mkS tm ob ng) K:=by{
have hHas:Has ob (stO NT AT ET ν e r):=by rw [hob];exact DN hl
have par1:∀ {q:Nat×Gen×VObj} {ν:Nat->Gen} {e:El} {r:Q3 El},q ∈ stO NT AT ET ν e r->BK q.1=true:=fun h=>LZ (by have:=(KB h).1;omega)
have hσ0:∀ k,k=0\/1000<=k->σ0 (κp κx) (γp ν γx) (νa k)=some (k,ν k):=fun k hk=>by simp [σ0,νa,κp,γp,LZ hk]
have hσ1:∀ k,k=0\/1000<=k->σ1 no1 (κp κx) (γp ν γx) id ng i (νb k)=some (k,νn (ν 0) ng i k):=fun k hk=>by
 by_cases h0:k=0
 subst h0
 simp [σ1,νb,νn,no1,κp,γp,BK]
 simp [σ1,νb,νn,h0]
simp only [dO,YH,YT,Yq] at hek
obtain ⟨⟨x1,x2⟩,x3,x4⟩:=hek
simp only [mL,YH,YT,Yq,IB] at hxn
obtain ⟨n1,n2⟩:=hxn
have disj:∀ {ν:Nat->Gen} {e:El} {r:Q3 El} {l:Q3 (Nat×Gen×VObj)},(l.map (·.1)).Nodup->(∀ q ∈ l,1100<=q.1/\q.1<2000)->((stO NT AT ET ν e r++l).map (·.1)).Nodup:=fun h1 h2=>by
 rw [YR]
 refine P8 (DX _ _ _) h1 fun k hk hk'=>?_
 obtain ⟨q,hq,rfl⟩:=Yy.1 hk
 obtain ⟨q',hq',e'⟩:=Yy.1 hk'
 have:=(KB hq).1
 have:=h2 _ hq'
 omega
have hpre:HJ (σ0 (κp κx) (γp ν γx)) (κp κx) (γp ν γx) (Zn ob) (objs (stO NT AT ET νa e r)++xin):=jE (WP (P7 hσ0 e r) hHas fun q hq=>by
 rw [(KB hq).2]
 simp only [σ0,νa,if_true]) hx
have hinj:((objs (stO NT AT ET νa e r)++xin).map fun q=>κp κx q.1).Nodup:=by
 rw [YR]
 have e1:(objs (stO NT AT ET νa e r)).map (fun q=>κp κx q.1)=(stO NT AT ET νa e r).map (·.1):=by
  unfold objs
  rw [JW]
  refine E4 fun q hq=>?_
  simp [κp,par1 hq]
 have e2:xin.map (fun q=>κp κx q.1)=xin.map fun q=>κx q.1:=E4 fun q hq=>by simp [κp,(n2 q hq).1]
 rw [e1,e2]
 refine P8 (DX _ _ _) n1 fun k hk hk'=>?_
 obtain ⟨q,hq,rfl⟩:=Yy.1 hk
 obtain ⟨q',hq',e'⟩:=Yy.1 hk'
 have w1:=par1 hq
 have w2:=(n2 q' hq').2
 rw [e',w1] at w2
 cases w2
have hes:∀ p,p ∈ es.toList.map (evL tm)->∀ t,t ∈ IE (Zn ob) p->t ∈ ZD (mkS tm ob ng) ⟨d,.call ⟨.value (.func f),es,ts⟩,ty,pos,after,gd⟩:=fun p hp t ht=>by
 obtain ⟨o,ho,rfl⟩:=Yy.1 hp
 unfold ZD
 rw [if_neg (by simp [quiet])]
 refine YS.2 ⟨o,?_,?_⟩
 rw [V4 rfl]
 simp [Op.operands,Call.operands]
 exact .inr (by simpa using ho)
 rw [ZZ]
 exact ht
have h2:=GA (P7 (NT:=NT) (AT:=AT) (ET:=ET) hσ1 e' r') hext
refine bX no1 (κp κx) (γp ν γx) id hc hw he hpre hinj (fun k hk=>?_) (fun t o' hm=>?_) hres h2 (disj x1 fun q hq=>by simpa using x2 q hq) rfl ?_
obtain rfl:k=0:=by simpa [no1] using hk
exact ⟨_,Yz _ (Yy.2 ⟨_,Yi ..,rfl⟩)⟩
rcases YD.1 hm with hm | hm
obtain ⟨g,hg⟩:=Q5 hm
have hg':∃ g2 o2,(t,g2,o2) ∈ stO NT AT ET ν e r:=by
 obtain ⟨o2,_,q2⟩:=bW hpre t o' (Yz _ hm)
 have hm2:t ∈ (stO NT AT ET νa e r).map (·.1):=Yy.2 ⟨_,hg,rfl⟩
 have:(stO NT AT ET νa e r).map (·.1)=(stO NT AT ET ν e r).map (·.1):=by
  exact TA _ _ e r
 rw [this] at hm2
 obtain ⟨⟨t2,g2,o3⟩,hq,rfl⟩:=Yy.1 hm2
 exact ⟨g2,o3,hq⟩
obtain ⟨g2,o2,hm2⟩:=hg'
have:κp κx t=t:=by simp [κp,par1 hm2]
rw [this]
exact hes _ h0 _ (mJ hHas hm2)
have:κp κx t=κx t:=by simp [κp,(n2 _ hm).1]
rw [this]
obtain ⟨g,hg⟩:=hxk _ hm
exact hes _ hg _ (NC (by simp [C4,AB]) 4)
have e:mkS (A5 d res2 tm) ((usG (κp κx) (objs (stO NT AT ET νa e r)++xin) (stO NT AT ET (νn (ν 0) ng i) e' r'++ext2)).reverse++ob) ng=mkS (A5 d res2 tm) (nones κx xin++(somes ext2++(lits++somes (stO NT AT ET (νn (ν 0) ng i) e' r')))) ng:=TB fun t=>?_
rw [e];exact k
have hn:=disj (ν:=νn (ν 0) ng i) (e:=e') (r:=r') x3 fun q hq=>by simpa using x4 q hq
rw [WQ hn]
have skip:∀ t,BK t=true->∀ b,Zn (nones κx xin++b) t=Zn b t:=fun t ht b=>IJ _ _ _ fun q hq hqt=>by
 obtain ⟨q',hq',rfl⟩:=Yy.1 hq
 have:=(n2 q' hq').2
 change κx q'.1=t at hqt
 rw [hqt,ht] at this
 cases this
have skipL:∀ t,BK t=true->∀ b,Zn (lits++b) t=Zn b t:=fun t ht b=>IJ _ _ _ fun q hq hqt=>by
 have:=Yq.1 hl q hq
 rw [hqt,ht] at this
 cases this
have skipE:∀ t,(¬ ∃ q ∈ ext2,q.1=t)->∀ b,Zn (somes ext2++b) t=Zn b t:=fun t ht b=>IJ _ _ _ fun q hq hqt=>by
 obtain ⟨g,o,h,_⟩:=VT hq
 exact ht ⟨_,h,hqt⟩
have skipS:∀ {ν:Nat->Gen} {e:El} {r:Q3 El} (t:Nat),(¬ ∃ q ∈ stO NT AT ET ν e r,q.1=t)->Zn (somes (stO NT AT ET ν e r)) t=none:=fun {ν e r} t ht=>by
 have:=IJ (somes (stO NT AT ET ν e r)) [] t fun q hq hqt=>by
  obtain ⟨g,o,h,_⟩:=VT hq
  exact ht ⟨_,h,hqt⟩
 rwa [YB] at this
have ext_par:∀ q ∈ ext2,BK q.1=true:=fun q hq=>by
 have:=x4 q hq
 exact LZ (by omega)
by_cases h1:∃ q ∈ stO NT AT ET (νn (ν 0) ng i) e' r'++ext2,q.1=t
rw [if_pos h1]
obtain ⟨⟨t',g,o⟩,hq,rfl⟩:=h1
have w:=FQ [] hn hq
rw [YB] at w
rw [w]
have hpk:BK t'=true:=by
 rcases YD.1 hq with hq | hq
 exact par1 hq
 exact ext_par _ hq
rw [skip _ hpk]
rcases YD.1 hq with hq | hq
rw [skipE _ fun ⟨q',h',e'⟩=>by
 have a1:=x4 q' h'
 have a2:=(KB hq).1
 change q'.1=t' at e'
 rw [e'] at a1
 change t'=0\/_ at a2
 omega,skipL _ hpk]
have:=FQ [] (DX (NT:=NT) (AT:=AT) (ET:=ET) (νn (ν 0) ng i) e' r') hq
rw [YB] at this
exact this.symm
exact (FQ _ x3 hq).symm
rw [if_neg h1]
have hs:¬ ∃ q ∈ stO NT AT ET (νn (ν 0) ng i) e' r',q.1=t:=fun ⟨q,hq,e⟩=>h1 ⟨q,Yz _ hq,e⟩
have hx2:¬ ∃ q ∈ ext2,q.1=t:=fun ⟨q,hq,e⟩=>h1 ⟨q,YK _ hq,e⟩
by_cases h3:∃ q ∈ objs (stO NT AT ET νa e r)++xin,κp κx q.1=t
rw [if_pos h3]
obtain ⟨q,hq,rfl⟩:=h3
rcases YD.1 hq with hq | hq
obtain ⟨g,hg⟩:=Q5 (l:=stO NT AT ET νa e r) (t:=q.1) (o:=q.2) hq
have hpk:=par1 hg
have hk:κp κx q.1=q.1:=if_pos hpk
rw [hk] at hs hx2 ⊢
rw [skip _ hpk,skipE _ hx2,skipL _ hpk,skipS _ hs]
have hk:κp κx q.1=κx q.1:=if_neg (by rw [(n2 q hq).1];exact RJ)
rw [hk]
symm
have:∀ (l:Q3 (Nat×VObj)) (b:Q3 (Nat×Q2 (Gen×VObj))),q ∈ l->Zn (nones κx l++b) (κx q.1)=none:=fun l b=>by
 induction l with
 | nil=>intro h;cases h
 | cons q' l ih=>
   intro h
   show (if κx q.1=κx q'.1 then none else Zn (nones κx l++b) (κx q.1))=none
   split
   rfl
   rename_i hne
   rcases Ys.1 h with rfl | h
   exact absurd rfl hne
   exact ih h
exact this _ _ hq
rw [if_neg h3]
have hxs:∀ b,Zn (nones κx xin++b) t=Zn b t:=fun b=>IJ _ _ _ fun q hq hqt=>by
 obtain ⟨q',hq',rfl⟩:=Yy.1 hq
 refine h3 ⟨q',YK _ hq',?_⟩
 have hk:κp κx q'.1=κx q'.1:=if_neg (by rw [(n2 q' hq').1];exact RJ)
 rw [hk]
 exact hqt
have hs0:¬ ∃ q ∈ stO NT AT ET ν e r,q.1=t:=fun ⟨q,hq,e0⟩=>by
 have hm2:t ∈ (stO NT AT ET νa e r).map (·.1):=by
  rw [TA νa ν]
  exact Yy.2 ⟨q,hq,e0⟩
 obtain ⟨q',hq',e1⟩:=Yy.1 hm2
 refine h3 ⟨(q'.1,q'.2.2),Yz _ (Yy.2 ⟨q',hq',rfl⟩),?_⟩
 have hk:κp κx q'.1=q'.1:=if_pos (par1 hq')
 rw [<- e1]
 exact hk
rw [hxs,skipE _ hx2,hob]
have two:∀ (a b c:Q3 (Nat×Q2 (Gen×VObj))),Zn b t=Zn c t->Zn (a++b) t=Zn (a++c) t:=fun a b c h=>by
 induction a with
 | nil=>exact h
 | cons q a ih=>
   show (if t=q.1 then q.2 else Zn (a++b) t)=if t=q.1 then q.2 else Zn (a++c) t
   rw [ih]
exact two _ _ _ ((skipS _ hs0).trans (skipS _ hs).symm)}
end
open Go.RowKit
def σf (f:Nat->Nat×Gen) (g:Gen):Q2 (Nat×Gen):=if g.1=0 then some (g.2,g) else if g.1=1 then some (f g.2) else none
theorem mM {σ:Gen->Q2 (Nat×Gen)}:∀ {l l2:Q3 (Nat×Gen×VObj)},AI σ l=some l2->l.map (fun q=>(σ q.2.1).map (·.1))=l2.map fun q=>some q.1
 | [],l2,h=>by injection h with h;subst h;rfl
 | (t,g,o)::r,l2,h=>by
  simp only [AI] at h
  split at h
  rename_i t3 g3 o3 r3 h1 h2 h3
  injection h with h
  subst h
  rw [YO,YO,mM h3]
  simp only [h1,Yo]
  cases h
theorem mN {σ:Gen->Q2 (Nat×Gen)} {ob:Q3 (Nat×Q2 (Gen×VObj))}:∀ {l' l:Q3 (Nat×Gen×VObj)},AI σ l'=some l->Has ob l->VP σ ob l'
 | [],_,_,_=>trivial
 | (t,g,o)::r,l,h,hH=>by
  simp only [AI] at h
  split at h
  rename_i t3 g3 o3 r3 h1 h2 h3
  injection h with h
  subst h
  exact ⟨⟨t3,g3,o3,h1,h2,hH _ _ _ (Yi ..)⟩,mN h3 fun t g o hm=>hH t g o (Yg _ hm)⟩
  cases h
theorem KF (f:Nat->Nat×Gen) {tm tm':Q3 (Nat×PV)} {ob:Q3 (Nat×Q2 (Gen×VObj))} {ng:Nat} {l l':Q3 (Nat×Gen×VObj)} (h1:EA (σf f) tm tm') (h2:AI (σf f) l'=some l) (h3:Has ob l) (h4:(l.map (·.1)).Nodup) :
  Shift (mkS tm ob ng) (mkS tm' (somes l') 2):=by{
refine wX (σf f) (fun g hg=>⟨g.2,by simp [σf,hg]⟩) h1 (mN h2 h3) (fun g k g0 h=>?_) ?_
unfold σf at h
split at h
omega
split at h
omega
cases h
rw [mM h2]
have:l.map (fun q=>some q.1)=(l.map (·.1)).map some:=by rw [JW];rfl
rw [this]
exact List.Pairwise.map _ (fun a b hab e=>hab (by injection e)) h4}
section
variable {NT AT ET:Nat} {P:Program} [WInv P]
theorem TC {ob:Q3 (Nat×Q2 (Gen×VObj))} {a b:Q3 (Nat×Gen×VObj)} (h1:Has ob a) (h2:Has ob b):Has ob (a++b):=fun t g o h=>(YD.1 h).elim (h1 t g o) (h2 t g o)
theorem AO (ob:Q3 (Nat×Q2 (Gen×VObj))):Has ob []:=fun t g o h=>by cases h
theorem Zp {ob:Q3 (Nat×Q2 (Gen×VObj))} {t:Nat} {g:Gen} {o:VObj} {l:Q3 (Nat×Gen×VObj)} (h:Zn ob t=some (g,o)) (h2:Has ob l):Has ob ((t,g,o)::l):=fun t' g' o' hm=>by
 rcases Ys.1 hm with e | hm
 injection e with e1 e2
 injection e2 with e2 e3
 subst e1 e2 e3
 exact h
 exact h2 t' g' o' hm
theorem C8 (ν:Nat->Gen) {e:El} {r:Q3 El} (lits:Q3 (Nat×Q2 (Gen×VObj))) (f:Nat->Nat×Gen) {tm tm':Q3 (Nat×PV)} {ob:Q3 (Nat×Q2 (Gen×VObj))} {ng:Nat} {x x':Q3 (Nat×Gen×VObj)} (hf:∀ k,k=0\/1000<=k->f k=(k,ν k)) (h00:ν 0=(0,0))
  (h1:EA (σf f) tm tm') (hx:AI (σf f) x'=some x) (hob:ob=lits++somes (stO NT AT ET ν e r)) (hl:(lits.all fun q=>!BK q.1)=true) (hh:Has ob x) (hn:(decide ((x.map (·.1)).Nodup)&&x.all fun q=>!BK q.1)=true) :
  Shift (mkS tm ob ng) (mkS tm' (somes (x'++stO NT AT ET νb e r)) 2):=by{
have h2:AI (σf f) (stO NT AT ET νb e r)=some (stO NT AT ET ν e r):=P7 (fun k hk=>by
 by_cases h0:k=0
 subst h0
 simp [σf,νb,h00]
 simp [σf,νb,h0,hf k hk]) e r
simp only [YH,YT,Yq,IB] at hn
refine KF f h1 (GA hx h2) (TC hh (by rw [hob];exact DN hl)) ?_
rw [YR]
refine P8 hn.1 (DX _ _ _) fun k hk hk'=>?_
obtain ⟨q,hq,rfl⟩:=Yy.1 hk
obtain ⟨q',hq',e'⟩:=Yy.1 hk'
have w1:BK q'.1=true:=LZ (by have:=(KB hq').1;omega)
have w2:=hn.2 q hq
rw [<- e',w1] at w2
cases w2}
def mO (NT AT ET:Nat) (P:Program) [WInv P] (f:FuncId) (args:Q3 PV) (e:El) (r:Q3 El) (res:PV) (e':El) (r':Q3 El):Prop:=ContractG P f (.ptr 0 (0,0) 0::args) (objs (stO NT AT ET νa e r)) res (stO NT AT ET νb e' r')
def JJ (P:Program) (rs:Q3 ResultVar) (res:PV) (obs':Q3 (Nat×Gen×VObj)):Ex->FS->Prop
 | .exit _,_=>False
 | _,s=>∃ s2,Shift s s2/\∃ ps,BJ P s2 rs=some ps/\BA ps=res/\Has' s2 obs'
where Has' (s2:FS) (obs':Q3 (Nat×Gen×VObj)):Prop:=∀ t g o,(t,g,o) ∈ obs'->s2.ob t=some (g,o)
end
section
variable {P:Program} [WInv P]
theorem ZG (hmix:P.follows .mixedOrders=true) {f:FuncId} {fn:Func} {c:Code} {args:Q3 PV} {obs:Q3 (Nat×VObj)} {res:PV} {obs':Q3 (Nat×Gen×VObj)} (hf:P.funcs[f]? = some fn) (hg:isGo P f=true) (hb:fn.body=some c) (hok:(decide (args.length<=fn.ntmps)&&B9 fn.ntmps c)=true)
  (h:PWs P [c] (JJ P fn.results.toList res obs') (mkS (CJ 0 args) (obG obs) 1)):ContractG P f args obs res obs':=by{
simp only [YH,YT] at hok
obtain ⟨e,s',h1,h2⟩:=J8 h
have hsh:Shift (bU args obs) (mkS (CJ 0 args) (obG obs) 1):=OQ (fun t=>by
 rcases MW args 0 t with h | ⟨_,h⟩
 exact .inl h
 exact .inr h) (fun t=>.inr rfl) (Yn _)
cases e with
| exit id=>exact h2.elim
| normal=>
  obtain ⟨s2,q0,ps,q1,q2,q3⟩:=h2
  exact jB hmix hg hf hb hok.1 hok.2 (.shift hsh h1) q0 (.inl rfl) q1 q2 q3
| ret=>
  obtain ⟨s2,q0,ps,q1,q2,q3⟩:=h2
  exact jB hmix hg hf hb hok.1 hok.2 (.shift hsh h1) q0 (.inr rfl) q1 q2 q3}
omit [WInv P] in
theorem KG {rs:Q3 ResultVar} {res:PV} {obs':Q3 (Nat×Gen×VObj)} {s:FS} {tm:Q3 (Nat×PV)} {ob:Q3 (Nat×Q2 (Gen×VObj))} {ng:Nat} {ps:Q3 PV} (h:Shift s (mkS tm ob ng)) (h1:BJ P (mkS tm ob ng) rs=some ps) (h2:BA ps=res) (h3:Has ob obs'):JJ P rs res obs' .ret s:=⟨_,h,ps,h1,h2,h3⟩
omit [WInv P] in
theorem dP {rs:Q3 ResultVar} {res:PV} {obs':Q3 (Nat×Gen×VObj)} {s:FS} {tm:Q3 (Nat×PV)} {ob:Q3 (Nat×Q2 (Gen×VObj))} {ng:Nat} {ps:Q3 PV} (h:Shift s (mkS tm ob ng)) (h1:BJ P (mkS tm ob ng) rs=some ps) (h2:BA ps=res) (h3:Has ob obs'):JJ P rs res obs' .normal s:=⟨_,h,ps,h1,h2,h3⟩
end
section
variable {NT AT ET:Nat}
theorem CV (e:El) (r:Q3 El):obG (objs (stO NT AT ET νa e r))=somes (stO NT AT ET νa e r):=by{
unfold obG objs somes
rw [JW]
refine E4 fun q hq=>?_
have:=(KB hq).2
simp only [Function.comp]
rw [show ((0,q.1):Gen)=q.2.1 from this.symm]}
theorem mP (a b:Q3 (Nat×VObj)):obG (a++b)=obG a++obG b:=by unfold obG;rw [YR]
end
section
variable {NT AT ET:Nat} {P:Program} [WInv P] {ops:Array Oper} {draw:Bool} {i:Nat} {L:Q3 Oper} {acc:Q3 (Q3 Nat×Q3 Nat)} {K:FS->Prop} {tm:Q3 (Nat×PV)} {ob:Q3 (Nat×Q2 (Gen×VObj))} {ng:Nat}
 {d:Q2 Tmp} {ty:TypeId} {pos:String} {after:Array Edge} {gd:Q2 (Nat×Bool)}
theorem ZC {f:FuncId} {es:Array Operand} {ts:Array TypeId} {args:Q3 PV} {e e':El} {r r':Q3 El} {res res2:PV} (lits:Q3 (Nat×Q2 (Gen×VObj))) (ν:Nat->Gen) (hc:mO NT AT ET P f args e r res e' r') (hob:ob=lits++somes (stO NT AT ET ν e r)) (hl:(lits.all fun q=>!BK q.1)=true)
  (hw:Zh ops (mkS tm ob ng) ⟨d,.call ⟨.value (.func f),es,ts⟩,ty,pos,after,gd⟩=some true) (he:es.toList.map (evL tm) = .ptr 0 (ν 0) 0::args) (ha:rnA (σ0 (κp id) (γp ν ν)) args=some args)
  (hres:rnP (σ1 no1 (κp id) (γp ν ν) id ng i) res=some res2)
  (k:GoL P ops draw (i+1) L (acc ++ [(ZD (mkS tm ob ng) ⟨d,.call ⟨.value (.func f),es,ts⟩,ty,pos,after,gd⟩,(usG (κp id) (objs (stO NT AT ET νa e r) ++ []) (stO NT AT ET (νn (ν 0) ng i) e' r' ++ [])).map (·.1))]) (mkS (A5 d res2 tm) (lits++somes (stO NT AT ET (νn (ν 0) ng i) e' r')) ng) K) :
  GoL P ops draw i (⟨d,.call ⟨.value (.func f),es,ts⟩,ty,pos,after,gd⟩::L) acc (mkS tm ob ng) K:=by{
have hc':ContractG P f (.ptr 0 (0,0) 0::args) (objs (stO NT AT ET νa e r) ++ []) res (stO NT AT ET νb e' r' ++ []):=by
 rw [YB,YB]
 exact hc
refine WR (xin:=[]) (ext:=[]) (ext2:=[]) lits ν id ν hc' hob hl hw ?_ (by rw [he];exact Yi ..) trivial (fun q hq=>by cases hq) rfl hres rfl rfl k
rw [he]
show (match rnP _ (.ptr 0 (0,0) 0),rnA _ args with | some q,some qs=>some (q::qs) | _,_=>none)=_
rw [ha]
rfl}
end
open Go.RowKit
theorem mQ {els:Q3 (Q3 PV)} {k i j:Nat} {el:Q3 PV} {q:PV} (h1:∀ e ∈ els,e.length=k) (hi:els[i]? = some el) (hj:j<k):(els.set i (AN el j [q])).flatten=els.flatten.set (i * k+j) q:=by{
have hf:=V0 els h1 i el j [q] hi hj
refine hf.trans ?_
have hil:i<els.length:=(Yd.1 hi).1
have hlen:i * k+j<els.flatten.length:=by
 rw [BQ els h1]
 calc i * k+j<i * k+k:=by omega
  _=(i+1) * k:=by rw [FI]
  _<=els.length * k:=H5 _ hil
rw [List.set_eq_take_append_cons_drop,if_pos hlen]
simp}
theorem Zrh {s:FS} {u i j E k:Nat} {g:Gen} {els:Q3 (Q3 PV)} {el:Q3 PV} {p q:PV} {us:Q3 (Nat×Q2 (Gen×VObj))} (h0:s.ob u=some (g,.prow E k els)) (hi:els[i]? = some el) (hj:el[j]? = some p) (h:CW s.ob p=some (q,us)) :
  Shift s ⟨s.tm,AZ (flips s.ob us) u (some (g,.prow E k (els.set i (AN el j [q])))),s.ng⟩:=fun r a x hX=>by
 obtain ⟨hg,e1,e2,vs,e3,e4,e5⟩:=hX.ob u g _ h0
 have hjk:j<k:=by rw [<- e1 el (Yj hi)];exact (Yd.1 hj).1
 have hfl:=IC els e1 i el j p hi hj
 have hvl:vs.length=els.length * k:=e3.1
 have hlt:i * k+j<vs.length:=by
  rw [hvl,<- BQ els e1]
  exact (Yd.1 hfl).1
 have hv:vs[i * k+j]? = some vs[i * k+j]:=Yc hlt
 obtain ⟨F',st,hX',hR,hpure,hf⟩:=OK (Flip.refl _) hX h (e4 _ p _ hfl hv)
 have hu:(flips s.ob us) u=some (g,.prow E k els):=by
  rcases hf u with e | ⟨g2,E2,k2,sh2,els2,e,_⟩
  ·rw [e,h0]
  ·rw [h0] at e;cases e
 refine ⟨{ x with F:=F' },rfl,hX'.defers,hX'.size,hX'.gr,hX'.gens,hX'.tm,fun t' g' o' ho=>?_,fun t1 t2 g1 g2 o1 o2 bb hne k1 k2 hb=>?_,hX'.flt,hX'.f0,hX'.fnew,hX'.rho,hX'.inv,hX'.keep⟩
 ·change (if t'=u then some (g,VObj.prow E k (els.set i (AN el j [q]))) else flips s.ob us t')=some (g',o') at ho
  split at ho
  ·injection ho with ho
   injection ho with j1 j2
   subst j1 j2
   obtain ⟨_,j1,j2,vs2,j3,j4,j5⟩:=hX'.ob u g _ hu
   have hlen2:(AN el j [q]).length=k:=by
    rw [MP _ _ _ (by rw [e1 el (Yj hi)];exact hjk)]
    exact e1 el (Yj hi)
   refine ⟨hg,fun e he=>?_,fun e he p' hp=>?_,vs,by rw [H6];exact e3,fun m p' v hp hv'=>?_,j5⟩
   ·rcases IX he with h | h
    ·exact e1 e h
    ·rw [h];exact hlen2
   ·rcases IX he with h | h
    ·exact e2 e h p' hp
    ·subst h
     unfold AN at hp
     rcases YD.1 hp with hp | hp
     ·rcases YD.1 hp with hp | hp
      ·exact e2 el (Yj hi) p' (EJ hp)
      ·rw [YG.1 hp];exact PV.cell_of_pure hpure
     ·exact e2 el (Yj hi) p' (KX hp)
   ·rw [mQ e1 hi hjk] at hp
    by_cases hm:i * k+j=m
    ·subst hm
     rw [UF (by rw [BQ els e1,<- hvl];exact hlt)] at hp
     injection hp with hp
     subst hp
     rw [hv] at hv'
     injection hv' with hv'
     rw [<- hv']
     exact hR
    ·rw [UI hm] at hp
     exact (e4 m p' v hp hv').step st
  ·exact hX'.ob t' g' o' ho
 ·change (if t1=u then some (g,VObj.prow E k (els.set i (AN el j [q]))) else flips s.ob us t1)=some (g1,o1) at k1
  change (if t2=u then some (g,VObj.prow E k (els.set i (AN el j [q]))) else flips s.ob us t2)=some (g2,o2) at k2
  have f1:∃ o1',(flips s.ob us) t1=some (g1,o1'):=by
   split at k1
   ·rename_i e;subst e;injection k1 with k1;injection k1 with e3 e4;subst e3;exact ⟨_,hu⟩
   ·exact ⟨_,k1⟩
  have f2:∃ o2',(flips s.ob us) t2=some (g2,o2'):=by
   split at k2
   ·rename_i e;subst e;injection k2 with k2;injection k2 with e3 e4;subst e3;exact ⟨_,hu⟩
   ·exact ⟨_,k2⟩
  obtain ⟨o1',f1⟩:=f1
  obtain ⟨o2',f2⟩:=f2
  exact hX'.apart t1 t2 g1 g2 o1' o2' bb hne f1 f2 hb
theorem Zri {s:FS} {u w i j E k E' k':Nat} {g:Gen} {els:Q3 (Q3 PV)} {el:Q3 PV} (hne:w≠u) (h0:s.ob u=some (g,.prow E k els)) (hi:els[i]? = some el) (hj:el[j]? = some .nil) :
  Shift s ⟨s.tm,AZ (AZ s.ob u (some (g,.prow E k (els.set i (AN el j [.row w (s.ng,0)]))))) w (some ((s.ng,0),.row E' k' false [])),s.ng+1⟩:=fun r a x hX=>by
 have hnew:¬ x.G (s.ng,0):=fun hg=>by
  rcases hX.gens _ hg with e | ⟨_,e⟩
  exact absurd e (JV _)
  exact e.elim
 let y:Ctx:=⟨fun g=>x.G g\/g=(s.ng,0),x.F,x.W,fun g=>if g=(s.ng,0) then .slice none 0 0 else x.ρ g⟩
 have st:Step x y:=⟨fun g hg=>⟨.inl hg,if_neg (fun (e:g=(s.ng,0))=>hnew (by rw [<- e];exact hg))⟩,fun _ _ h=>h,fun _ _ _ _ h=>h⟩
 have hρ:y.ρ (s.ng,0) = .slice none 0 0:=if_pos rfl
 obtain ⟨hgu,hO⟩:=hX.ob u g _ h0
 have hO2:ObRep y r.W0.heap.size r.D g (.prow E k els):=hO.step hgu st fun b _=>⟨rfl,fun _ h=>h⟩
 have old:∀ t' g' o',(if t'=w then some ((s.ng,0),VObj.row E' k' false []) else if t'=u then some (g,VObj.prow E k (els.set i (AN el j [.row w (s.ng,0)]))) else s.ob t')=some (g',o')->(t'=w/\g'=(s.ng,0)/\o' = .row E' k' false [])\/(t'=u/\g'=g/\o' = .prow E k (els.set i (AN el j [.row w (s.ng,0)])))\/s.ob t'=some (g',o'):=fun t' g' o' ho=>by
  split at ho
  rename_i e
  injection ho with ho
  injection ho with e1 e2
  exact .inl ⟨e,e1.symm,e2.symm⟩
  split at ho
  rename_i e
  injection ho with ho
  injection ho with e1 e2
  exact .inr (.inl ⟨e,e1.symm,e2.symm⟩)
  exact .inr (.inr ho)
 refine ⟨y,rfl,hX.defers,hX.size,hX.gr,fun g hg=>.inl ?_,fun t'=>(hX.tm t').step st,fun t' g' o' ho=>?_,fun t1 t2 g1 g2 o1 o2 b hne' k1 k2 hb=>?_,hX.flt,hX.f0,hX.fnew,fun g hg=>⟨(st.G g (hX.rho g hg).1).1,(st.G g (hX.rho g hg).1).2.trans (hX.rho g hg).2⟩,hX.inv,hX.keep⟩
 rcases hg with hg | rfl
 rcases hX.gens g hg with e | ⟨_,e⟩
 show g.1<s.ng+1;omega
 exact e.elim
 exact EK _
 rcases old t' g' o' ho with ⟨rfl,rfl,rfl⟩ | ⟨rfl,rfl,rfl⟩ | ho
 exact ⟨.inr rfl,by simp,by simp,[],by rw [hρ];exact World.ownsRow_nil _ _ _ _,fun m p v hp=>by simp at hp,fun b hb=>by rw [hρ] at hb;simp [blk] at hb⟩
 obtain ⟨e1,e2,vs,e3,e4,e5⟩:=hO2
 have hk1:=e1 el (Yj hi)
 have hjk:j<k:=by rw [<- hk1];exact (Yd.1 hj).1
 have hfl:=IC els e1 i el j _ hi hj
 refine ⟨.inl hgu,fun e he=>?_,fun e he p' hp=>?_,vs,by rw [H6];exact e3,fun m p' v hp hv'=>?_,e5⟩
 rcases IX he with h | h
 exact e1 e h
 rw [h,MP _ _ _ (by rw [hk1];exact hjk),hk1]
 rcases IX he with h | h
 exact e2 e h p' hp
 subst h
 unfold AN at hp
 rcases YD.1 hp with hp | hp
 rcases YD.1 hp with hp | hp
 exact e2 el (Yj hi) p' (EJ hp)
 rw [YG.1 hp];rfl
 exact e2 el (Yj hi) p' (KX hp)
 rw [mQ e1 hi hjk] at hp
 by_cases hm:i * k+j=m
 subst hm
 rw [UF (Yd.1 hfl).1] at hp
 injection hp with hp
 subst hp
 have hr:=e4 _ _ v hfl hv'
 cases hr
 exact .row w (s.ng,0) none 0 0 (.inr rfl) hρ
 rw [UI hm] at hp
 exact e4 m p' v hp hv'
 obtain ⟨h3,h4⟩:=hX.ob t' g' o' ho
 exact ⟨.inl h3,h4.step h3 st fun b _=>⟨rfl,fun _ h=>h⟩⟩
 have noB:∀ b,blk (y.ρ (s.ng,0))≠some b:=fun b hb=>by rw [hρ] at hb;simp [blk] at hb
 have tr:∀ t' g' o',((t'=w/\g'=(s.ng,0)/\o' = .row E' k' false [])\/(t'=u/\g'=g/\o' = .prow E k (els.set i (AN el j [.row w (s.ng,0)])))\/s.ob t'=some (g',o'))->g'=(s.ng,0)\/∃ o2,s.ob t'=some (g',o2):=fun t' g' o' h=>by
  rcases h with ⟨_,e,_⟩ | ⟨e1,e2,_⟩ | h
  exact .inl e
  subst e1 e2;exact .inr ⟨_,h0⟩
  exact .inr ⟨_,h⟩
 rcases tr _ _ _ (old t1 g1 o1 k1) with rfl | ⟨p1,q1⟩
 exact absurd hb (noB b)
 rcases tr _ _ _ (old t2 g2 o2 k2) with rfl | ⟨p2,q2⟩
 exact noB b
 rw [(st.G g1 (hX.ob t1 g1 p1 q1).1).2] at hb
 rw [(st.G g2 (hX.ob t2 g2 p2 q2).1).2]
 exact hX.apart t1 t2 g1 g2 p1 p2 b hne' q1 q2 hb
section
variable {tm:Q3 (Nat×PV)} {ob:Q3 (Nat×Q2 (Gen×VObj))} {ng:Nat}
theorem KH (u i j:Nat) {g:Gen} {E k:Nat} {els els':Q3 (Q3 PV)} {el:Q3 PV} {p q:PV} {us:Q3 (Nat×Q2 (Gen×VObj))} (h0:Zn ob u=some (g,.prow E k els)) (hi:els[i]? = some el) (hj:el[j]? = some p) (h:CW (Zn ob) p=some (q,us)) (he:els.set i (AN el j [q])=els') :
  Shift (mkS tm ob ng) (mkS tm ((u,some (g,.prow E k els'))::(us.reverse++ob)) ng):=by{
subst he
have:=Zrh (s:=mkS tm ob ng) h0 hi hj h
have e:(⟨look tm,AZ (flips (Zn ob) us) u (some (g,.prow E k (els.set i (AN el j [q])))),ng⟩:FS)=mkS tm ((u,some (g,.prow E k (els.set i (AN el j [q]))))::(us.reverse++ob)) ng:=by
 rw [OO,P0]
 rfl
rw [<- e]
exact this}
theorem dQ (u w i j E' k':Nat) {g:Gen} {E k:Nat} {els els':Q3 (Q3 PV)} {el:Q3 PV} (hne:(w == u)=false) (h0:Zn ob u=some (g,.prow E k els)) (hi:els[i]? = some el) (hj:el[j]? = some .nil) (he:els.set i (AN el j [.row w (ng,0)])=els') :
  Shift (mkS tm ob ng) (mkS tm ((w,some ((ng,0),.row E' k' false []))::(u,some (g,.prow E k els'))::ob) (ng+1)):=by{
subst he
have:=Zri (s:=mkS tm ob ng) (E':=E') (k':=k') (by simpa using hne) h0 hi hj
have e:(⟨look tm,AZ (AZ (Zn ob) u (some (g,.prow E k (els.set i (AN el j [.row w (ng,0)]))))) w (some ((ng,0),.row E' k' false [])),ng+1⟩:FS)=mkS tm ((w,some ((ng,0),.row E' k' false []))::(u,some (g,.prow E k (els.set i (AN el j [.row w (ng,0)]))))::ob) (ng+1):=by
 rw [P0,P0]
 rfl
rw [<- e]
exact this}
theorem mR (t:Nat) {E k:Nat} {g:Gen} {els:Q3 (Q3 PV)} (h:Zn ob t=some (g,.prow E k els)) (hp:∀ e ∈ els,∀ p ∈ e,p.pure=true):Shift (mkS tm ob ng) (mkS tm ((t,some (g,.row E k false els))::ob) ng):=fun r a x hX=>by
 have hob:∀ t' g' o',(mkS tm ((t,some (g,.row E k false els))::ob) ng).ob t'=some (g',o')->(t'=t/\g'=g/\o' = .row E k false els)\/(mkS tm ob ng).ob t'=some (g',o'):=fun t' g' o' ho=>by
  change (if t'=t then some (g,VObj.row E k false els) else Zn ob t')=some (g',o') at ho
  split at ho
  rename_i e
  injection ho with ho
  injection ho with e1 e2
  exact .inl ⟨e,e1.symm,e2.symm⟩
  exact .inr ho
 have hsame:∀ t' g' o',(mkS tm ((t,some (g,.row E k false els))::ob) ng).ob t'=some (g',o')->∃ o2,(mkS tm ob ng).ob t'=some (g',o2):=fun t' g' o' ho=>by
  rcases hob t' g' o' ho with ⟨rfl,rfl,rfl⟩ | ho
  exact ⟨_,h⟩
  exact ⟨_,ho⟩
 refine ⟨x,rfl,hX.defers,hX.size,hX.gr,hX.gens,hX.tm,fun t' g' o' ho=>?_,fun t1 t2 g1 g2 o1 o2 b hne h1 h2 hb=>?_,hX.flt,hX.f0,hX.fnew,hX.rho,hX.inv,hX.keep⟩
 rcases hob t' g' o' ho with ⟨rfl,rfl,rfl⟩ | ho
 obtain ⟨hg,q1,q2,vs,q3,q4,q5⟩:=hX.ob t' g' _ h
 exact ⟨hg,q1,hp,vs,q3,q4,fun b hb=>⟨(q5 b hb).1,fun o hF=>absurd hF ((q5 b hb).2 o)⟩⟩
 exact hX.ob t' g' o' ho
 obtain ⟨o1',h1'⟩:=hsame t1 g1 o1 h1
 obtain ⟨o2',h2'⟩:=hsame t2 g2 o2 h2
 exact hX.apart t1 t2 g1 g2 o1' o2' b hne h1' h2' hb
end
section
variable {P:Program} [WInv P] {ops:Array Oper} {draw:Bool} {i:Nat} {L:Q3 Oper} {acc:Q3 (Q3 Nat×Q3 Nat)} {K:FS->Prop} {tm:Q3 (Nat×PV)} {ob:Q3 (Nat×Q2 (Gen×VObj))} {ng:Nat}
 {d:Q2 Tmp} {ty:TypeId} {pos:String} {after:Array Edge} {gd:Q2 (Nat×Bool)} {T:TypeId} {x y:Operand} {E kk by_:Nat} {z:Q3 PV} {t:Nat} {g:Gen} {els new:Q3 (Q3 PV)}
theorem CO {n:Nat} [Sl P T E kk by_ z] (hw:Zh ops (mkS tm ob ng) ⟨d,.call ⟨.builtin .len,#[x],#[T]⟩,ty,pos,after,gd⟩=some true) (hx:G8 (Zn ob) (evL tm x)=some els) (hn:els.length=n)
  (k:GoL P ops draw (i+1) L (acc ++ [(ZD (mkS tm ob ng) ⟨d,.call ⟨.builtin .len,#[x],#[T]⟩,ty,pos,after,gd⟩,[])]) (mkS (A5 d (.int .i64 (n:Int)) tm) ob ng) K):GoL P ops draw i (⟨d,.call ⟨.builtin .len,#[x],#[T]⟩,ty,pos,after,gd⟩::L) acc (mkS tm ob ng) K:=by
 subst hn
 exact wQ hw hx k
end
theorem TD (ν:Nat->Gen):∀ (r:Q3 El),(AL ν r).length=r.length
 | []=>rfl
 | _::r=>by unfold AL;rw [Yb,TD ν r];rfl
theorem EF (ν:Nat->Gen) (r:Q3 El) (p:Q3 PV):(AL ν r ++ [p]).length=r.length+1:=by rw [Yb,TD];rfl
theorem dR (ν:Nat->Gen) (r:Q3 El) (p:Q3 PV):(AL ν r ++ [p])[r.length]? = some p:=by
 rw [YP (by rw [TD];exact Yn _),TD,E6]
 rfl
section
variable {P:Program} {NT AT ET:Nat} {tm:Q3 (Nat×PV)} {ob:Q3 (Nat×Q2 (Gen×VObj))} {ng:Nat}
theorem BX {ex:Ex} (hex:ex = .ret\/ex = .normal) (ν:Nat->Gen) {e:El} {r:Q3 El} (lits:Q3 (Nat×Q2 (Gen×VObj))) (tm':Q3 (Nat×PV)) {rs:Q3 ResultVar} {res:PV} {ps:Q3 PV} (hob:ob=lits++somes (stO NT AT ET ν e r)) (hl:(lits.all fun q=>!BK q.1)=true) (h1:EA (σf fun k=>(k,ν k)) tm tm')
  (h2:BJ P (mkS tm' (somes (stO NT AT ET νb e r)) 2) rs=some ps) (h3:BA ps=res) (h00:ν 0=(0,0):=by rfl):JJ P rs res (stO NT AT ET νb e r) ex (mkS tm ob ng):=by{
have hs:Shift (mkS tm ob ng) (mkS tm' (somes ([]++stO NT AT ET νb e r)) 2):=C8 ν lits (fun k=>(k,ν k)) (fun _ _=>rfl) h00 h1 (x:=[]) (x':=[]) rfl hob hl (AO _) rfl
have hH:Has (somes (stO NT AT ET νb e r)) (stO NT AT ET νb e r):=DN (lits:=[]) rfl
rcases hex with rfl | rfl
exact KG hs h2 h3 hH
exact dP hs h2 h3 hH}
end
section
variable {NT AT ET:Nat} {σ:Gen->Q2 (Nat×Gen)}
theorem mS {ν ν':Nat->Gen}:∀ (r:Q3 El),(∀ k,2000<=k->k<A4 r->σ (ν k)=some (k,ν' k))->AI σ (AX NT AT ν r)=some (AX NT AT ν' r)
 | [],_=>rfl
 | e::r,h=>by
   have hb:A4 (e::r)=A4 r+10:=by unfold A4;rw [Yr];omega
   have hb2:2000<=A4 r:=by unfold A4;omega
   exact GA (K9 (fun j _=>h _ (by omega) (by omega)) e) (mS r fun k h1 h2=>h k h1 (by omega))
theorem mT {ν ν':Nat->Gen}:∀ (r:Q3 El),(∀ k,2000<=k->k<A4 r->σ (ν k)=some (k,ν' k))->AW σ (AL ν r)=some (AL ν' r)
 | [],_=>rfl
 | e::r,h=>by
   have hb:A4 (e::r)=A4 r+10:=by unfold A4;rw [Yr];omega
   have hb2:2000<=A4 r:=by unfold A4;omega
   exact GU (mT r fun k h1 h2=>h k h1 (by omega)) (by simp only [AW,rnL,rn1,h (A4 r) hb2 (by omega),Yo])
theorem GX {A:Q3 (Nat×Q2 (Gen×VObj))} {ν:Nat->Gen} {e:El} {r:Q3 El} (hA:(A.all fun q=>decide (q.1<2000))=true):Has (A++somes (stO NT AT ET ν e r)) (AX NT AT ν r):=fun t g o hm=>by
 have hk:=(KA hm).1
 rw [IJ _ _ t fun q hq hqt=>by
  have:=Yq.1 hA q hq
  rw [hqt] at this
  simp only [YT] at this
  change 2000<=t at hk
  omega]
 have:=FQ [] (DX (NT:=NT) (AT:=AT) (ET:=ET) ν e r) (Yg _ (Yg _ (YK _ hm)))
 rwa [YB] at this
theorem mU {A:Q3 (Nat×Q2 (Gen×VObj))} {ν:Nat->Gen} {e:El} {r:Q3 El} (hA:(A.all fun q=>decide (q.1<=1000)||decide (1005<=q.1))=true):Has (A++somes (stO NT AT ET ν e r)) (elO NT AT 1001 ν e):=fun t g o hm=>by
 obtain ⟨hk,hk2,_⟩:=JE hm
 change 1001<=t at hk
 change t<1005 at hk2
 rw [IJ _ _ t fun q hq hqt=>by
  have:=Yq.1 hA q hq
  rw [hqt] at this
  simp only [Bool.or_eq_true,YT] at this
  omega]
 have:=FQ [] (DX (NT:=NT) (AT:=AT) (ET:=ET) ν e r) (Yg _ (Yg _ (Yz _ hm)))
 rwa [YB] at this
def topf (n0 n1:Gen) (μ ν:Nat->Gen) (k:Nat):Nat×Gen:=if k=0 then (0,n0) else if k=1000 then (1000,n1) else if k<2000 then (k,μ k) else (k,ν k)
section
variable {tm:Q3 (Nat×PV)} {ob:Q3 (Nat×Q2 (Gen×VObj))} {ng:Nat}
theorem ZtA (n0 n1:Gen) (μ ν:Nat->Gen) {e':El} {r:Q3 El} (tm':Q3 (Nat×PV)) (h1:EA (σf (topf n0 n1 μ ν)) tm tm') (a0:Zn ob 0=some (n0,.box [.row 1000 n1])) (a1:Zn ob 1000=some (n1,.prow ET 1 (AL ν r ++ [[.ptr 1001 (μ 1001) 0]])))
  (a2:Has ob (elO NT AT 1001 μ e')) (a3:Has ob (AX NT AT ν r)) (h00:n0=(0,0):=by rfl):Shift (mkS tm ob ng) (mkS tm' (somes (stO NT AT ET νb e' r)) 2):=by{
have hl:∀ k,2000<=k->σf (topf n0 n1 μ ν) (νb k)=some (k,ν k):=fun k hk=>by
 have h1:¬ k=0:=by omega
 have h2:¬ k=1000:=by omega
 have h3:¬ k<2000:=by omega
 simp [σf,νb,topf,h1,h2,h3]
have ht:∀ j,j<4->σf (topf n0 n1 μ ν) (νb (1001+j))=some (1001+j,μ (1001+j)):=fun j hj=>by
 have h1:¬ 1001+j=0:=by omega
 have h2:¬ 1001+j=1000:=by omega
 have h3:1001+j<2000:=by omega
 simp [σf,νb,topf,h2,h3]
have e0:σf (topf n0 n1 μ ν) (νb 0)=some (0,n0):=by rw [h00];rfl
have e1:σf (topf n0 n1 μ ν) (νb 1000)=some (1000,n1):=rfl
have e2:σf (topf n0 n1 μ ν) (νb 1001)=some (1001,μ 1001):=ht 0 (by omega)
have hp:AW (σf (topf n0 n1 μ ν)) (AL νb r ++ [[.ptr 1001 (νb 1001) 0]])=some (AL ν r ++ [[.ptr 1001 (μ 1001) 0]]):=GU (P6 hl r) (by simp only [AW,rnL,rn1,e2,Yo])
have he:=GA (K9 (NT:=NT) (AT:=AT) (b:=1001) (b':=1001) (ν':=μ) ht e') (P5 (NT:=NT) (AT:=AT) hl r)
have h2:AI (σf (topf n0 n1 μ ν)) (stO NT AT ET νb e' r)=some ((0,n0,.box [.row 1000 n1])::(1000,n1,.prow ET 1 (AL ν r ++ [[.ptr 1001 (μ 1001) 0]]))::(elO NT AT 1001 μ e'++AX NT AT ν r)):=by
 simp only [stO,AI,rnO,rnL,rn1,e0,e1,Yo,hp,he]
refine KF _ h1 h2 (Zp a0 (Zp a1 (TC a2 a3))) ?_
have:=DX (NT:=NT) (AT:=AT) (ET:=ET) μ e' r
have e:((0,n0,VObj.box [.row 1000 n1])::(1000,n1,.prow ET 1 (AL ν r ++ [[.ptr 1001 (μ 1001) 0]]))::(elO NT AT 1001 μ e'++AX NT AT ν r)).map (·.1)=(stO NT AT ET μ e' r).map (·.1):=by
 unfold stO
 rw [YO,YO,YO,YO,YR,YR,dN ν μ]
rw [e]
exact this}
def popf (n0 n1:Gen) (fx:Nat->Nat×Gen) (ν:Nat->Gen) (b:Nat) (k:Nat):Nat×Gen:=if k=0 then (0,n0) else if k=1000 then (1000,n1) else if k<1000 then fx k else if k<1005 then (b+(k-1001),ν (b+(k-1001))) else if k<2000 then (k-100,ν (k-100)) else (k,ν k)
theorem WS (n0 n1:Gen) (fx:Nat->Nat×Gen) (ν:Nat->Gen) {e2:El} {r:Q3 El} {X X':Q3 (Nat×Gen×VObj)} (tm':Q3 (Nat×PV)) (h1:EA (σf (popf n0 n1 fx ν (A4 r))) tm tm') (a0:Zn ob 0=some (n0,.box [.row 1000 n1])) (a1:Zn ob 1000=some (n1,.prow ET 1 (AL ν (e2::r))))
  (hx:AI (σf (popf n0 n1 fx ν (A4 r))) X'=some X) (hX:∀ q ∈ X,q.1≠0/\q.1≠1000/\q.1<2000) (hXn:(X.map (·.1)).Nodup) (a2:Has ob X) (a3:Has ob (AX NT AT ν (e2::r))) (h00:n0=(0,0):=by rfl):Shift (mkS tm ob ng) (mkS tm' (somes (X'++stO NT AT ET νb e2 r)) 2):=by{
have hb:2000<=A4 r:=by unfold A4;omega
have hl:∀ k,2000<=k->σf (popf n0 n1 fx ν (A4 r)) (νb k)=some (k,ν k):=fun k hk=>by
 have h1:¬ k=0:=by omega
 have h2:¬ k=1000:=by omega
 have h3:¬ k<1005:=by omega
 have h4:¬ k<2000:=by omega
 have h5:¬ k<1000:=by omega
 simp [σf,νb,popf,h1,h2,h3,h4,h5]
have ht:∀ j,j<4->σf (popf n0 n1 fx ν (A4 r)) (νb (1001+j))=some (A4 r+j,ν (A4 r+j)):=fun j hj=>by
 have h2:¬ 1001+j=1000:=by omega
 have h3:1001+j<1005:=by omega
 have h4:1001+j-1001=j:=by omega
 have h5:¬ 1001+j<1000:=by omega
 simp [σf,νb,popf,h2,h3,h4,h5]
have e0:σf (popf n0 n1 fx ν (A4 r)) (νb 0)=some (0,n0):=by rw [h00];rfl
have e1:σf (popf n0 n1 fx ν (A4 r)) (νb 1000)=some (1000,n1):=rfl
have ee2:σf (popf n0 n1 fx ν (A4 r)) (νb 1001)=some (A4 r,ν (A4 r)):=ht 0 (by omega)
have hp:AW (σf (popf n0 n1 fx ν (A4 r))) (AL νb r ++ [[.ptr 1001 (νb 1001) 0]])=some (AL ν r ++ [[.ptr (A4 r) (ν (A4 r)) 0]]):=GU (P6 hl r) (by simp only [AW,rnL,rn1,ee2,Yo])
have he:=GA (K9 (NT:=NT) (AT:=AT) (b:=1001) (b':=A4 r) (ν':=ν) ht e2) (P5 (NT:=NT) (AT:=AT) hl r)
have h2:AI (σf (popf n0 n1 fx ν (A4 r))) (stO NT AT ET νb e2 r)=some ((0,n0,.box [.row 1000 n1])::(1000,n1,.prow ET 1 (AL ν (e2::r)))::AX NT AT ν (e2::r)):=by
 simp only [stO,AI,rnO,rnL,rn1,e0,e1,Yo,hp,he]
 rfl
refine KF _ h1 (GA hx h2) (TC a2 (Zp a0 (Zp a1 a3))) ?_
rw [YR]
have hlow:∀ k ∈ (AX NT AT ν (e2::r)).map (·.1),2000<=k:=fun k hk=>by
 obtain ⟨q,hq,rfl⟩:=Yy.1 hk
 exact (KA hq).1
refine P8 hXn ?_ fun k hk' hk=>?_
rw [YO,YO,GN,GN]
refine ⟨fun h=>?_,fun h=>?_,VS ν _⟩
rcases Ys.1 h with h | h
cases h
have:=hlow _ h;omega
have:=hlow _ h
change 2000<=1000 at this
omega
obtain ⟨q',hq',rfl⟩:=Yy.1 hk'
have:=hX q' hq'
rw [YO,YO] at hk
rcases Ys.1 hk with e | hk
change q'.1=0 at e;omega
rcases Ys.1 hk with e | hk
change q'.1=1000 at e;omega
have:=hlow _ hk;omega}
def pushf (n0 n1 m1 m2 m3:Gen) (k1 k2 k3:Nat) (ν:Nat->Gen) (b:Nat) (k:Nat):Nat×Gen:=if k=0 then (0,n0) else if k=1000 then (1000,n1) else if k=1001 then (k1,m1) else if k=1002 then (k2,m2) else if k=1003 then (k3,m3) else if b<=k then (1001+(k-b),ν (1001+(k-b))) else (k,ν k)
theorem ZrK (n0 n1 m1 m2 m3:Gen) (k1 k2 k3:Nat) (ν:Nat->Gen) {e:El} {r:Q3 El} {kind tag count:Int} {list:Q3 (Q3 PV)} (tm':Q3 (Nat×PV)) (h1:EA (σf (pushf n0 n1 m1 m2 m3 k1 k2 k3 ν (A4 r))) tm tm') (a0:Zn ob 0=some (n0,.box [.row 1000 n1])) (a1:Zn ob 1000=some (n1,.prow ET 1 (AL ν r ++ [[.ptr 1001 (ν 1001) 0]] ++ [[.ptr k1 m1 0]])))
  (b1:Zn ob k1=some (m1,.box [.int .i64 kind,.int .i64 tag,.int .i64 count,.row k2 m2,.row k3 m3])) (b2:Zn ob k2=some (m2,.row NT 5 false list)) (b3:Zn ob k3=some (m3,.prow AT 3 [])) (hk:(decide ([k1,k2,k3].Nodup) && [k1,k2,k3].all fun k=>!BK k)=true) (a2:Has ob (elO NT AT 1001 ν e)) (a3:Has ob (AX NT AT ν r)) (h00:n0=(0,0):=by rfl) :
  Shift (mkS tm ob ng) (mkS tm' (somes (stO NT AT ET νb ⟨kind,tag,count,list,none⟩ (e::r))) 2):=by{
have hb:2000<=A4 r:=by unfold A4;omega
have hl:∀ k,2000<=k->k<A4 r->σf (pushf n0 n1 m1 m2 m3 k1 k2 k3 ν (A4 r)) (νb k)=some (k,ν k):=fun k hk hk'=>by
 have h1:¬ k=0:=by omega
 have h2:¬ k=1000:=by omega
 have h3:¬ k=1001:=by omega
 have h4:¬ k=1002:=by omega
 have h5:¬ k=1003:=by omega
 have h6:¬ A4 r<=k:=by omega
 simp [σf,νb,pushf,h1,h2,h3,h4,h5,h6]
have ht:∀ j,j<4->σf (pushf n0 n1 m1 m2 m3 k1 k2 k3 ν (A4 r)) (νb (A4 r+j))=some (1001+j,ν (1001+j)):=fun j hj=>by
 have h1:¬ A4 r+j=0:=by omega
 have h2:¬ A4 r+j=1000:=by omega
 have h3:¬ A4 r+j=1001:=by omega
 have h4:¬ A4 r+j=1002:=by omega
 have h5:¬ A4 r+j=1003:=by omega
 have h6:A4 r<=A4 r+j:=by omega
 have h7:A4 r+j-A4 r=j:=by omega
 simp only [σf,νb,pushf,h1,h2,h3,h4,h5,h6,h7,if_true,if_false]
 rfl
have e0:σf (pushf n0 n1 m1 m2 m3 k1 k2 k3 ν (A4 r)) (νb 0)=some (0,n0):=by rw [h00];rfl
have e1:σf (pushf n0 n1 m1 m2 m3 k1 k2 k3 ν (A4 r)) (νb 1000)=some (1000,n1):=rfl
have e2:σf (pushf n0 n1 m1 m2 m3 k1 k2 k3 ν (A4 r)) (νb 1001)=some (k1,m1):=rfl
have e3:σf (pushf n0 n1 m1 m2 m3 k1 k2 k3 ν (A4 r)) (νb (1001+1))=some (k2,m2):=rfl
have e4:σf (pushf n0 n1 m1 m2 m3 k1 k2 k3 ν (A4 r)) (νb (1001+2))=some (k3,m3):=rfl
have e5:σf (pushf n0 n1 m1 m2 m3 k1 k2 k3 ν (A4 r)) (νb (A4 r))=some (1001,ν 1001):=ht 0 (by omega)
have hp:AW (σf (pushf n0 n1 m1 m2 m3 k1 k2 k3 ν (A4 r))) (AL νb (e::r) ++ [[.ptr 1001 (νb 1001) 0]])=some (AL ν r ++ [[.ptr 1001 (ν 1001) 0]] ++ [[.ptr k1 m1 0]]):=
 GU (GU (mT r hl) (by simp only [AW,rnL,rn1,e5,Yo])) (by simp only [AW,rnL,rn1,e2,Yo])
have he:=GA (K9 (NT:=NT) (AT:=AT) (b:=A4 r) (b':=1001) (ν':=ν) ht e) (mS (NT:=NT) (AT:=AT) r hl)
have h2:AI (σf (pushf n0 n1 m1 m2 m3 k1 k2 k3 ν (A4 r))) (stO NT AT ET νb ⟨kind,tag,count,list,none⟩ (e::r))=some ((0,n0,.box [.row 1000 n1])::(1000,n1,.prow ET 1 (AL ν r ++ [[.ptr 1001 (ν 1001) 0]] ++ [[.ptr k1 m1 0]]))::(k1,m1,.box [.int .i64 kind,.int .i64 tag,.int .i64 count,.row k2 m2,.row k3 m3])::(k2,m2,.row NT 5 false list)::(k3,m3,.prow AT 3 [])::(elO NT AT 1001 ν e++AX NT AT ν r)):=by
 have he':AI (σf (pushf n0 n1 m1 m2 m3 k1 k2 k3 ν (A4 r))) (AX NT AT νb (e::r))=some (elO NT AT 1001 ν e++AX NT AT ν r):=he
 have key:∀ X,elO NT AT 1001 νb ⟨kind,tag,count,list,none⟩++X=(1001,νb 1001,.box [.int .i64 kind,.int .i64 tag,.int .i64 count,.row (1001+1) (νb (1001+1)),.row (1001+2) (νb (1001+2))])::(1001+1,νb (1001+1),.row NT 5 false list)::(1001+2,νb (1001+2),.prow AT 3 [])::X:=fun _=>rfl
 unfold stO
 rw [key]
 simp only [AI,rnO,rnL,AW,rn1,e0,e1,e2,e3,e4,Yo,hp,he']
simp only [YH,YT,Yq,IB] at hk
obtain ⟨hn,hpk⟩:=hk
have hpk':∀ k ∈ [k1,k2,k3],¬ (k=0\/1000<=k):=fun k hk h=>by
 have:=hpk k hk
 rw [LZ h] at this
 cases this
refine KF _ h1 h2 (Zp a0 (Zp a1 (Zp b1 (Zp b2 (Zp b3 (TC a2 a3)))))) ?_
have hold:=DX (NT:=NT) (AT:=AT) (ET:=ET) ν e r
unfold stO at hold
rw [YO,YO,GN,GN] at hold
obtain ⟨w1,w2,w3⟩:=hold
have hrest:∀ k ∈ (elO NT AT 1001 ν e++AX NT AT ν r).map (·.1),1000<=k:=fun k hk=>by
 obtain ⟨q,hq,rfl⟩:=Yy.1 hk
 rcases YD.1 hq with hq | hq
 have:=(JE hq).1;omega
 have:=(KA hq).1;omega
have p1:=hpk' k1 (by simp)
have p2:=hpk' k2 (by simp)
have p3:=hpk' k3 (by simp)
simp only [GN,Ys,L3,or_false,not_or] at hn
obtain ⟨⟨n12,n13⟩,n23,_⟩:=hn
simp only [YO,GN,Ys,not_or]
refine ⟨⟨by omega,by omega,by omega,by omega,fun h=>by have:=hrest _ h;omega⟩,⟨by omega,by omega,by omega,fun h=>w2 h⟩,⟨n12,n13,fun h=>by have:=hrest _ h;omega⟩,⟨n23,fun h=>by have:=hrest _ h;omega⟩,fun h=>by have:=hrest _ h;omega,w3⟩}
end
end
def κe (k:Nat):Nat:=1001+k
def γe (ν:Nat->Gen) (k:Nat):Gen:=ν (1001+k)
section
variable {NT AT ET:Nat} {P:Program} [WInv P] {ops:Array Oper} {draw:Bool} {i:Nat} {L:Q3 Oper} {acc:Q3 (Q3 Nat×Q3 Nat)} {K:FS->Prop} {tm:Q3 (Nat×PV)} {ob:Q3 (Nat×Q2 (Gen×VObj))} {ng:Nat}
 {d:Q2 Tmp} {ty:TypeId} {pos:String} {after:Array Edge} {gd:Q2 (Nat×Bool)}
def F6 (l:Q3 (Nat×VObj)) (k:Nat):Bool:=l.any fun q=>q.1 == k
theorem I0 {f:FuncId} {es:Array Operand} {ts:Array TypeId} {e:El} {r:Q3 El} {p p2:PV} (lits:Q3 (Nat×Q2 (Gen×VObj))) (ν:Nat->Gen) (hc:ContractG P f [.ptr 0 (0,0) 0] (objs (elO NT AT 0 νa e)) p (elO NT AT 0 νa e)) (hob:ob=lits++somes (stO NT AT ET ν e r)) (hl:(lits.all fun q=>!BK q.1)=true)
  (hw:Zh ops (mkS tm ob ng) ⟨d,.call ⟨.value (.func f),es,ts⟩,ty,pos,after,gd⟩=some true) (he:es.toList.map (evL tm) = [.ptr 1001 (ν 1001) 0]) (hp:rnP (σ1 (F6 (objs (elO NT AT 0 νa e))) κe (γe ν) κe ng i) p=some p2)
  (k:GoL P ops draw (i+1) L (acc ++ [(ZD (mkS tm ob ng) ⟨d,.call ⟨.value (.func f),es,ts⟩,ty,pos,after,gd⟩,(usG κe (objs (elO NT AT 0 νa e)) (elO NT AT 1001 ν e)).map (·.1))]) (mkS (A5 d p2 tm) ob ng) K) :
  GoL P ops draw i (⟨d,.call ⟨.value (.func f),es,ts⟩,ty,pos,after,gd⟩::L) acc (mkS tm ob ng) K:=by{
have hHas:Has ob (elO NT AT 1001 ν e):=fun t g o hm=>by
 rw [hob]
 exact DN hl t g o (Yg _ (Yg _ (Yz _ hm)))
have hr0:AI (σ0 κe (γe ν)) (elO NT AT 0 νa e)=some (elO NT AT 1001 ν e):=K9 (fun j _=>by simp [σ0,νa,κe,γe]) e
have hr1:AI (σ1 (F6 (objs (elO NT AT 0 νa e))) κe (γe ν) κe ng i) (elO NT AT 0 νa e)=some (elO NT AT 1001 ν e):=by
 obtain ⟨e1,e2,e3,e4,args⟩:=e
 rcases args with _ | ⟨pre,a⟩
 rfl
 have h3:∀ j,j<4->σ1 (F6 (objs (elO NT AT 0 νa ⟨e1,e2,e3,e4,some (pre,a)⟩))) κe (γe ν) κe ng i (νa (0+j))=some (1001+j,ν (1001+j)):=fun j hj=>by
  have:F6 (objs (elO NT AT 0 νa ⟨e1,e2,e3,e4,some (pre,a)⟩)) (0+j)=true:=by
   match j,hj with
   | 0,_=>rfl
   | 1,_=>rfl
   | 2,_=>rfl
   | 3,_=>rfl
  simp only [σ1,νa,this,if_true]
  simp only [κe,γe,YY]
 exact K9 h3 _
have hpre:HJ (σ0 κe (γe ν)) κe (γe ν) (Zn ob) (objs (elO NT AT 0 νa e)):=WP hr0 hHas fun q hq=>by
 rw [(JE hq).2.2]
 simp [σ0,νa]
have hk1:(objs (elO NT AT 0 νa e)).map (fun q=>κe q.1)=(elO NT AT 1001 ν e).map (·.1):=by
 obtain ⟨k,t,c,l,args⟩:=e
 cases args<;>rfl
have hes:∀ t,t ∈ IE (Zn ob) (.ptr 1001 (ν 1001) 0)->t ∈ ZD (mkS tm ob ng) ⟨d,.call ⟨.value (.func f),es,ts⟩,ty,pos,after,gd⟩:=fun t ht=>by
 have hp:PV.ptr 1001 (ν 1001) 0 ∈ es.toList.map (evL tm):=by rw [he];exact YG.2 rfl
 obtain ⟨o,ho,e2⟩:=Yy.1 hp
 unfold ZD
 rw [if_neg (by simp [quiet])]
 refine YS.2 ⟨o,?_,?_⟩
 rw [V4 rfl]
 simp [Op.operands,Call.operands]
 exact .inr (by simpa using ho)
 rw [ZZ,e2]
 exact ht
refine bX (F6 (objs (elO NT AT 0 νa e))) κe (γe ν) κe hc hw ?_ hpre (by rw [hk1];exact N4 _ _ _) (fun k hk=>?_) (fun t o' hm=>?_) hp hr1 (N4 _ _ _) rfl ?_
rw [he]
rfl
obtain ⟨q,hq,e2⟩:=UM.1 hk
simp only [DC] at e2
subst e2
exact ⟨q.2,hq⟩
obtain ⟨g,hg⟩:=Q5 hm
have hm2:κe t ∈ (elO NT AT 1001 ν e).map (·.1):=by
 rw [<- hk1]
 exact Yy.2 ⟨_,hm,rfl⟩
obtain ⟨⟨t2,g2,o2⟩,hq,e2⟩:=Yy.1 hm2
rw [<- e2]
exact hes _ (mH hHas (YG.2 rfl) hq 2)
have e1:mkS (A5 d p2 tm) ((usG κe (objs (elO NT AT 0 νa e)) (elO NT AT 1001 ν e)).reverse++ob) ng=mkS (A5 d p2 tm) ob ng:=TB fun t=>?_
rw [e1];exact k
rw [WQ (N4 _ _ _)]
by_cases h1:∃ q ∈ elO NT AT 1001 ν e,q.1=t
rw [if_pos h1]
obtain ⟨⟨t',g,o⟩,hq,rfl⟩:=h1
have w:=FQ [] (N4 1001 ν e) hq
rw [YB] at w
rw [w]
exact (hHas _ _ _ hq).symm
rw [if_neg h1,if_neg fun ⟨q,hq,e3⟩=>h1 (by
 have hm2:κe q.1 ∈ (elO NT AT 1001 ν e).map (·.1):=by
  rw [<- hk1]
  exact Yy.2 ⟨_,hq,rfl⟩
 rw [e3] at hm2
 obtain ⟨q2,hq2,e4⟩:=Yy.1 hm2
 exact ⟨q2,hq2,e4⟩)]}
omit [WInv P] in
theorem dS {σ:Gen->Q2 (Nat×Gen)} {b:Nat} {ν ν':Nat->Gen} {e:El} (h:∀ q ∈ elO NT AT b ν e,σ (ν q.1)=some (q.1,ν' q.1)):AI σ (elO NT AT b ν e)=some (elO NT AT b ν' e):=by{
obtain ⟨e1,e2,e3,e4,args⟩:=e
have h0:=h _ (Yi ..)
have h1:=h _ (Yg _ (Yi ..))
have h2:=h _ (Yg _ (Yg _ (Yi ..)))
rcases args with _ | ⟨pre,a⟩
simp only [elO,LK,EY,AI,rnO,rnL,rn1,h0,h1,h2,Yo,AW]
have h3:=h _ (Yg _ (Yg _ (Yg _ (YG.2 rfl))))
have:AW σ (pre.map Arg.cs ++ [[.bool a.named,.sl a.name,.row (b+3) (ν (b+3))]])=some (pre.map Arg.cs ++ [[.bool a.named,.sl a.name,.row (b+3) (ν' (b+3))]]):=
 GU (bY pre) (by simp only [AW,rnL,rn1,h3,Yo])
simp only [elO,LK,EY,AI,rnO,rnL,rn1,h0,h1,h2,h3,Yo,this]}
omit [WInv P] in
theorem dT {σ:Gen->Q2 (Nat×Gen)} {ν ν':Nat->Gen}:∀ {r:Q3 El},(∀ q ∈ AX NT AT ν r,σ (ν q.1)=some (q.1,ν' q.1))->AI σ (AX NT AT ν r)=some (AX NT AT ν' r)
 | [],_=>rfl
 | _::_,h=>GA (dS fun q hq=>h q (Yz _ hq)) (dT fun q hq=>h q (YK _ hq))
omit [WInv P] in
theorem dU {σ:Gen->Q2 (Nat×Gen)} {ν ν':Nat->Gen}:∀ {r:Q3 El},(∀ q ∈ AX NT AT ν r,σ (ν q.1)=some (q.1,ν' q.1))->AW σ (AL ν r)=some (AL ν' r)
 | [],_=>rfl
 | _::r,h=>GU (dU fun q hq=>h q (YK _ hq)) (by
   have:=h _ (Yz _ (Yi ..))
   simp only [AW,rnL,rn1,this,Yo])
omit [WInv P] in
theorem Zxe {σ:Gen->Q2 (Nat×Gen)} {ν ν':Nat->Gen} {e:El} {r:Q3 El} (h:∀ q ∈ stO NT AT ET ν e r,σ (ν q.1)=some (q.1,ν' q.1)):AI σ (stO NT AT ET ν e r)=some (stO NT AT ET ν' e r):=by{
have h0:=h _ (Yi ..)
have h1:=h _ (Yg _ (Yi ..))
have h2:=h _ (Yg _ (Yg _ (Yz _ (Yi ..))))
have hl:∀ q ∈ AX NT AT ν r,σ (ν q.1)=some (q.1,ν' q.1):=fun q hq=>h q (Yg _ (Yg _ (YK _ hq)))
have hp:AW σ (AL ν r ++ [[.ptr 1001 (ν 1001) 0]])=some (AL ν' r ++ [[.ptr 1001 (ν' 1001) 0]]):=GU (dU hl) (by simp only [AW,rnL,rn1,h2,Yo])
have he:=GA (dS (NT:=NT) (AT:=AT) (σ:=σ) (b:=1001) (ν:=ν) (ν':=ν') (e:=e) fun q hq=>h q (Yg _ (Yg _ (Yz _ hq)))) (dT hl)
simp only [stO,AI,rnO,rnL,rn1,h0,h1,Yo,hp,he]}
theorem mV {f:FuncId} {es:Array Operand} {ts:Array TypeId} {args:Q3 PV} {e:El} {r:Q3 El} {p p2:PV} {X X2:Q3 (Nat×Gen×VObj)} {ob2:Q3 (Nat×Q2 (Gen×VObj))} (lits:Q3 (Nat×Q2 (Gen×VObj))) (ν:Nat->Gen)
  (hc:ContractG P f (.ptr 0 (0,0) 0::args) (objs (stO NT AT ET νa e r)) p X) (hob:ob=lits++somes (stO NT AT ET ν e r)) (hl:(lits.all fun q=>!BK q.1)=true)
  (hw:Zh ops (mkS tm ob ng) ⟨d,.call ⟨.value (.func f),es,ts⟩,ty,pos,after,gd⟩=some true) (he:es.toList.map (evL tm) = .ptr 0 (ν 0) 0::args) (ha:rnA (σ0 (κp id) (γp ν ν)) args=some args) (hp:rnP (σ1 (F6 (objs (stO NT AT ET νa e r))) (κp id) (γp ν ν) id ng i) p=some p2)
  (hX:AI (σ1 (F6 (objs (stO NT AT ET νa e r))) (κp id) (γp ν ν) id ng i) X=some X2) (hXn:(X.map (·.1)).Nodup) (h2:∀ t,Zn ((usG (κp id) (objs (stO NT AT ET νa e r)) X2).reverse++ob) t=Zn ob2 t)
  (k:GoL P ops draw (i+1) L (acc ++ [(ZD (mkS tm ob ng) ⟨d,.call ⟨.value (.func f),es,ts⟩,ty,pos,after,gd⟩,(usG (κp id) (objs (stO NT AT ET νa e r)) X2).map (·.1))]) (mkS (A5 d p2 tm) ob2 ng) K) :
  GoL P ops draw i (⟨d,.call ⟨.value (.func f),es,ts⟩,ty,pos,after,gd⟩::L) acc (mkS tm ob ng) K:=by{
have hHas:Has ob (stO NT AT ET ν e r):=by rw [hob];exact DN hl
have par1:∀ {q:Nat×Gen×VObj} {ν:Nat->Gen} {e:El} {r:Q3 El},q ∈ stO NT AT ET ν e r->BK q.1=true:=fun h=>LZ (by have:=(KB h).1;omega)
have hσ0:∀ k,k=0\/1000<=k->σ0 (κp id) (γp ν ν) (νa k)=some (k,ν k):=fun k hk=>by simp [σ0,νa,κp,γp,LZ hk]
have hpre:HJ (σ0 (κp id) (γp ν ν)) (κp id) (γp ν ν) (Zn ob) (objs (stO NT AT ET νa e r)):=WP (P7 hσ0 e r) hHas fun q hq=>by
 rw [(KB hq).2]
 simp only [σ0,νa,if_true]
have hinj:((objs (stO NT AT ET νa e r)).map fun q=>κp id q.1).Nodup:=by
 have e1:(objs (stO NT AT ET νa e r)).map (fun q=>κp id q.1)=(stO NT AT ET νa e r).map (·.1):=by
  unfold objs
  rw [JW]
  refine E4 fun q hq=>?_
  simp [κp]
 rw [e1]
 exact DX _ _ _
refine bX (F6 (objs (stO NT AT ET νa e r))) (κp id) (γp ν ν) id hc hw ?_ hpre hinj (fun k hk=>?_) (fun t o' hm=>?_) hp hX hXn rfl ?_
rw [he]
show (match rnP _ (.ptr 0 (0,0) 0),rnA _ args with | some q,some qs=>some (q::qs) | _,_=>none)=_
rw [ha]
rfl
obtain ⟨q,hq,e2⟩:=UM.1 hk
simp only [DC] at e2
subst e2
exact ⟨q.2,hq⟩
obtain ⟨g,hg⟩:=Q5 hm
have hm2:t ∈ (stO NT AT ET ν e r).map (·.1):=by
 rw [TA ν νa]
 exact Yy.2 ⟨_,hg,rfl⟩
obtain ⟨⟨t2,g2,o2⟩,hq,e2⟩:=Yy.1 hm2
change t2=t at e2
subst e2
have hk:κp id t2=t2:=by simp [κp]
rw [hk]
have hpm:PV.ptr 0 (ν 0) 0 ∈ es.toList.map (evL tm):=by rw [he];exact Yi ..
obtain ⟨o,ho,e3⟩:=Yy.1 hpm
unfold ZD
rw [if_neg (by simp [quiet])]
refine YS.2 ⟨o,?_,?_⟩
rw [V4 rfl]
simp [Op.operands,Call.operands]
exact .inr (by simpa using ho)
rw [ZZ,e3]
exact mJ hHas hq
have e1:mkS (A5 d p2 tm) ((usG (κp id) (objs (stO NT AT ET νa e r)) X2).reverse++ob) ng=mkS (A5 d p2 tm) ob2 ng:=TB h2
rw [e1]
exact k}
omit [WInv P] in
theorem ZyG {e:El} {r:Q3 El} {q:Nat×Gen×VObj} (h:q ∈ stO NT AT ET νa e r):F6 (objs (stO NT AT ET νa e r)) q.1=true:=UM.2 ⟨(q.1,q.2.2),Yy.2 ⟨q,h,rfl⟩,by simp⟩
omit [WInv P] in
theorem mW (ν:Nat->Gen) (ng i:Nat) (e:El) (r:Q3 El):∀ q ∈ stO NT AT ET νa e r,σ1 (F6 (objs (stO NT AT ET νa e r))) (κp id) (γp ν ν) id ng i (νa q.1)=some (q.1,ν q.1):=fun q hq=>by
 have:=ZyG hq
 simp only [σ1,νa,this,if_true]
 simp [κp,γp]
theorem C9 {f:FuncId} {es:Array Operand} {ts:Array TypeId} {args:Q3 PV} {e:El} {r:Q3 El} {p p2:PV} (lits:Q3 (Nat×Q2 (Gen×VObj))) (ν:Nat->Gen)
  (hc:ContractG P f (.ptr 0 (0,0) 0::args) (objs (stO NT AT ET νa e r)) p (stO NT AT ET νa e r)) (hob:ob=lits++somes (stO NT AT ET ν e r)) (hl:(lits.all fun q=>!BK q.1)=true)
  (hw:Zh ops (mkS tm ob ng) ⟨d,.call ⟨.value (.func f),es,ts⟩,ty,pos,after,gd⟩=some true) (he:es.toList.map (evL tm) = .ptr 0 (ν 0) 0::args) (ha:rnA (σ0 (κp id) (γp ν ν)) args=some args) (hp:rnP (σ1 (F6 (objs (stO NT AT ET νa e r))) (κp id) (γp ν ν) id ng i) p=some p2)
  (k:GoL P ops draw (i+1) L (acc ++ [(ZD (mkS tm ob ng) ⟨d,.call ⟨.value (.func f),es,ts⟩,ty,pos,after,gd⟩,(usG (κp id) (objs (stO NT AT ET νa e r)) (stO NT AT ET ν e r)).map (·.1))]) (mkS (A5 d p2 tm) ob ng) K) :
  GoL P ops draw i (⟨d,.call ⟨.value (.func f),es,ts⟩,ty,pos,after,gd⟩::L) acc (mkS tm ob ng) K:=by{
have hHas:Has ob (stO NT AT ET ν e r):=by rw [hob];exact DN hl
refine mV lits ν hc hob hl hw he ha hp (Zxe (mW ν ng i e r)) (DX _ _ _) (fun t=>?_) k
rw [WQ (DX _ _ _)]
by_cases h1:∃ q ∈ stO NT AT ET ν e r,q.1=t
rw [if_pos h1]
obtain ⟨⟨t',g,o⟩,hq,rfl⟩:=h1
have w:=FQ [] (DX ν e r) hq
rw [YB] at w
rw [w]
exact (hHas _ _ _ hq).symm
rw [if_neg h1,if_neg fun ⟨q,hq,e3⟩=>h1 (by
 obtain ⟨g,hg⟩:=Q5 (l:=stO NT AT ET νa e r) (t:=q.1) (o:=q.2) hq
 have hm2:q.1 ∈ (stO NT AT ET ν e r).map (·.1):=by
  rw [TA ν νa]
  exact Yy.2 ⟨_,hg,rfl⟩
 obtain ⟨q2,hq2,e4⟩:=Yy.1 hm2
 have hk:κp id q.1=q.1:=by simp [κp]
 exact ⟨q2,hq2,by rw [e4,<- hk];exact e3⟩)]}
theorem NE {x:Operand} (hw:Zh ops (mkS tm ob ng) ⟨d,.nilCheck x,ty,pos,after,gd⟩=some true) {t q k off:Nat} {g:Gen} (hx:evL tm x = .elp t g q k off)
  (kk:GoL P ops draw (i+1) L (acc ++ [(ZD (mkS tm ob ng) ⟨d,.nilCheck x,ty,pos,after,gd⟩,[])]) (mkS (A5 d (.elp t g q k off) tm) ob ng) K):GoL P ops draw i (⟨d,.nilCheck x,ty,pos,after,gd⟩::L) acc (mkS tm ob ng) K:=
 CC (us:=[]) hw (.fn (by simp only [act,ZZ,hx])) kk
theorem I1 {x y:Operand} {T:TypeId} {agg:Bool} {n:Nat} [Ld P T agg n] (hw:Zh ops (mkS tm ob ng) ⟨d,.store T x y,ty,pos,after,gd⟩=some true) {t:Nat} {g:Gen} {E q kk off:Nat} {els els':Q3 (Q3 PV)} {e:Q3 PV} {p:PV} {ps qs:Q3 PV} {us:Q3 (Nat×Q2 (Gen×VObj))}
  (hx:evL tm x = .elp t g q kk off) (hb:A6 (Zn ob) t g=some (.row E kk false els)) (he:els[q]? = some e) (hy:evL tm y=p) (hps:p.cells=ps) (hl:ps.length=n) (hr:AM (Zn ob) ps=some (qs,us)) (hf:off+n<=kk) (hus:us.all (fun q=>q.1 != t)=true) (hs:els.set q (AN e off qs)=els')
  (k:GoL P ops draw (i+1) L (acc ++ [(ZD (mkS tm ob ng) ⟨d,.store T x y,ty,pos,after,gd⟩,(us ++ [(t,some (g,VObj.row E kk false els'))]).map (·.1))]) (mkS (A5 d .un tm) ((t,some (g,VObj.row E kk false els'))::(us.reverse++ob)) ng) K) :
  GoL P ops draw i (⟨d,.store T x y,ty,pos,after,gd⟩::L) acc (mkS tm ob ng) K:=by
 subst hs
 refine hZ hw hx hb he hy hps hl hr hf hus ?_
 simpa using k
theorem Q6 {x:Operand} {T:TypeId} {agg:Bool} {n:Nat} [h:Ld P T agg n] (hw:Zh ops (mkS tm ob ng) ⟨d,.load T x,ty,pos,after,gd⟩=some true) {els:Q3 (Q3 PV)} {e:Q3 PV} {q t:Nat} {g:Gen} {E kk off:Nat} {sh:Bool} {v:PV} (hx:evL tm x = .elp t g q kk off) (hb:A6 (Zn ob) t g=some (.row E kk sh els)) (he:els[q]? = some e) (hv:K2 agg n (e.drop off)=some v)
  (k:GoL P ops draw (i+1) L (acc ++ [(ZD (mkS tm ob ng) ⟨d,.load T x,ty,pos,after,gd⟩,[])]) (mkS (A5 d v tm) ob ng) K):GoL P ops draw i (⟨d,.load T x,ty,pos,after,gd⟩::L) acc (mkS tm ob ng) K:=by
 refine ZJ (cs:=e.drop off) hw ?_ hv k
 rw [hx]
 simp only [GO,hb,if_true,he,Yo]
omit [WInv P] in
theorem FU {ex:Ex} (hex:ex = .ret\/ex = .normal) (n0 n1:Gen) (μ ν:Nat->Gen) {e0 e':El} {r:Q3 El} (A:Q3 (Nat×Q2 (Gen×VObj))) (tm':Q3 (Nat×PV)) {rs:Q3 ResultVar} {res:PV} {ps:Q3 PV} (hob:ob=A++somes (stO NT AT ET ν e0 r)) (hA:(A.all fun q=>decide (q.1<2000))=true) (h1:EA (σf (topf n0 n1 μ ν)) tm tm')
  (a0:Zn ob 0=some (n0,.box [.row 1000 n1])) (a1:Zn ob 1000=some (n1,.prow ET 1 (AL ν r ++ [[.ptr 1001 (μ 1001) 0]]))) (a2:Has ob (elO NT AT 1001 μ e')) (h2:BJ P (mkS tm' (somes (stO NT AT ET νb e' r)) 2) rs=some ps) (h3:BA ps=res) (h00:n0=(0,0):=by rfl) :
  JJ P rs res (stO NT AT ET νb e' r) ex (mkS tm ob ng):=by{
have hs:Shift (mkS tm ob ng) (mkS tm' (somes (stO NT AT ET νb e' r)) 2):=ZtA n0 n1 μ ν tm' h1 a0 a1 a2 (by rw [hob];exact GX hA) h00
have hH:Has (somes (stO NT AT ET νb e' r)) (stO NT AT ET νb e' r):=DN (lits:=[]) rfl
rcases hex with rfl | rfl
exact KG hs h2 h3 hH
exact dP hs h2 h3 hH}
theorem EG {α:Type} (l:Q3 α) (a b:α):(l ++ [a]).set l.length b=l ++ [b]:=by
 rw [MD _ _ (Yn _),E6]
 rfl
theorem D0 {α:Type} (l:Q3 α) (a:α):(l ++ [a])[l.length]? = some a:=by
 rw [YP (Yn _),E6]
 rfl
end
section
variable {P:Program} {NT AT ET:Nat} {tm:Q3 (Nat×PV)} {ob:Q3 (Nat×Q2 (Gen×VObj))} {ng:Nat}
theorem KI {ex:Ex} {rs:Q3 ResultVar} {res:PV} {obs':Q3 (Nat×Gen×VObj)} {s s1:FS} (h:Shift s s1) (k:JJ P rs res obs' ex s1):JJ P rs res obs' ex s:=by{
cases ex with
| exit id=>exact k
| normal=>obtain ⟨s2,h2,q⟩:=k;exact ⟨s2,h.trans h2,q⟩
| ret=>obtain ⟨s2,h2,q⟩:=k;exact ⟨s2,h.trans h2,q⟩}
theorem Zwq (ν:Nat->Gen) (r:Q3 El) (p:Q3 PV):(AL ν r ++ [p]).take r.length=AL ν r:=by
 have:=ML (l₁:=AL ν r) (l₂:=[p])
 rwa [TD] at this
def F7 (NT AT ET:Nat) (ν:Nat->Gen) (n1:Gen) (e e2:El) (r:Q3 El):Q3 (Nat×Gen×VObj):=(0,ν 0,.box [.row 1000 n1])::(1000,n1,.prow ET 1 (AL ν (e2::r)))::(elO NT AT 1001 ν e++AX NT AT ν (e2::r))
theorem dV (ν:Nat->Gen) (n1:Gen) (e e2:El) (r:Q3 El):(F7 NT AT ET ν n1 e e2 r).map (·.1)=(stO NT AT ET ν e (e2::r)).map (·.1):=rfl
theorem Zwr (n1:Gen) {e e2:El} {r:Q3 El} (A:Q3 (Nat×Q2 (Gen×VObj))) (tm':Q3 (Nat×PV)) {rs:Q3 ResultVar} {res:PV} {ps:Q3 PV} (hob:ob=A++somes (stO NT AT ET νa e (e2::r))) (hA:(A.all fun q=>decide (q.1<=1000))=true)
  (h1:EA (σf fun _=>(1000,n1)) tm tm') (a0:Zn ob 0=some ((0,0),.box [.row 1000 n1])) (a1:Zn ob 1000=some (n1,.prow ET 1 (AL νa (e2::r)))) (h2:BJ P (mkS tm' (somes (F7 NT AT ET νa (1,1000) e e2 r)) 2) rs=some ps) (h3:BA ps=res) :
  JJ P rs res (F7 NT AT ET νa (1,1000) e e2 r) .ret (mkS tm ob ng):=by{
have hA1:(A.all fun q=>decide (q.1<2000))=true:=Yq.2 fun q hq=>by
 have:=Yq.1 hA q hq
 simp only [YT] at this ⊢
 omega
have hA2:(A.all fun q=>decide (q.1<=1000)||decide (1005<=q.1))=true:=Yq.2 fun q hq=>by
 have:=Yq.1 hA q hq
 simp only [YT] at this
 simp [this]
have k0:∀ k,σf (fun _=>(1000,n1)) (νa k)=some (k,νa k):=fun k=>rfl
have hp:=P6 (σ:=σf fun _=>(1000,n1)) (ν:=νa) (ν':=νa) (fun k _=>k0 k) (e2::r)
have he:=GA (K9 (NT:=NT) (AT:=AT) (b:=1001) (b':=1001) (ν':=νa) (fun j _=>k0 _) e) (P5 (NT:=NT) (AT:=AT) (fun k _=>k0 k) (e2::r))
have hx:AI (σf fun _=>(1000,n1)) (F7 NT AT ET νa (1,1000) e e2 r)=some (F7 NT AT ET νa n1 e e2 r):=by
 have e0:σf (fun _=>(1000,n1)) (νa 0)=some (0,νa 0):=rfl
 have e1:σf (fun _=>(1000,n1)) (1,1000)=some (1000,n1):=rfl
 simp only [F7,AI,rnO,rnL,rn1,e0,e1,Yo,hp,he]
have hn:∀ n1,((F7 NT AT ET νa n1 e e2 r).map (·.1)).Nodup:=fun n1=>by rw [dV];exact DX _ _ _
refine KG (KF _ h1 hx (Zp a0 (Zp a1 (TC (by rw [hob];exact mU hA2) (by rw [hob];exact GX hA1)))) (hn _)) h2 h3 fun t g o hm=>?_
have:=FQ [] (hn (1,1000)) hm
rwa [YB] at this}
theorem mX {ν:Nat->Gen} {e:El} {r:Q3 El} {lits:Q3 (Nat×Q2 (Gen×VObj))} (h:(lits.all fun q=>!BK q.1)=true):mkS tm (somes (stO NT AT ET ν e r)++lits) ng=mkS tm (lits++somes (stO NT AT ET ν e r)) ng:=TB fun t=>by
 by_cases ht:∃ q ∈ stO NT AT ET ν e r,q.1=t
 ·obtain ⟨⟨t',g,o⟩,hq,rfl⟩:=ht
  rw [FQ _ (DX ν e r) hq]
  exact (DN h _ _ _ hq).symm
 ·have e1:∀ b,Zn (somes (stO NT AT ET ν e r)++b) t=Zn b t:=fun b=>IJ _ _ _ fun q hq hqt=>by
   obtain ⟨g,o,h,_⟩:=VT hq
   exact ht ⟨_,h,hqt⟩
  have e2:Zn (somes (stO NT AT ET ν e r)) t=none:=by
   have:=e1 []
   rwa [YB] at this
  rw [e1]
  have:∀ (l:Q3 (Nat×Q2 (Gen×VObj))),Zn l t=Zn (l++somes (stO NT AT ET ν e r)) t:=fun l=>by
   induction l with
   | nil=>exact e2.symm
   | cons q l ih=>
     show (if t=q.1 then q.2 else Zn l t)=if t=q.1 then q.2 else Zn (l++somes (stO NT AT ET ν e r)) t
     rw [ih]
  exact this lits
theorem Zuu {ex:Ex} (hex:ex = .ret\/ex = .normal) (n0 n1 m1 m2 m3:Gen) (k1 k2 k3:Nat) (ν:Nat->Gen) {e:El} {r:Q3 El} {kind tag count:Int} {list:Q3 (Q3 PV)} (A:Q3 (Nat×Q2 (Gen×VObj))) (tm':Q3 (Nat×PV)) {rs:Q3 ResultVar} {res:PV} {ps:Q3 PV} (hob:ob=A++somes (stO NT AT ET ν e r)) (hA:(A.all fun q=>decide (q.1<=1000))=true)
  (h1:EA (σf (pushf n0 n1 m1 m2 m3 k1 k2 k3 ν (A4 r))) tm tm') (a0:Zn ob 0=some (n0,.box [.row 1000 n1])) (a1:Zn ob 1000=some (n1,.prow ET 1 (AL ν r ++ [[.ptr 1001 (ν 1001) 0]] ++ [[.ptr k1 m1 0]])))
  (b1:Zn ob k1=some (m1,.box [.int .i64 kind,.int .i64 tag,.int .i64 count,.row k2 m2,.row k3 m3])) (b2:Zn ob k2=some (m2,.row NT 5 false list)) (b3:Zn ob k3=some (m3,.prow AT 3 [])) (hk:(decide ([k1,k2,k3].Nodup) && [k1,k2,k3].all fun k=>!BK k)=true)
  (h2:BJ P (mkS tm' (somes (stO NT AT ET νb ⟨kind,tag,count,list,none⟩ (e::r))) 2) rs=some ps) (h3:BA ps=res) (h00:n0=(0,0):=by rfl):JJ P rs res (stO NT AT ET νb ⟨kind,tag,count,list,none⟩ (e::r)) ex (mkS tm ob ng):=by{
have hA1:(A.all fun q=>decide (q.1<2000))=true:=Yq.2 fun q hq=>by
 have:=Yq.1 hA q hq
 simp only [YT] at this ⊢
 omega
have hA2:(A.all fun q=>decide (q.1<=1000)||decide (1005<=q.1))=true:=Yq.2 fun q hq=>by
 have:=Yq.1 hA q hq
 simp only [YT] at this
 simp [this]
have hs:Shift (mkS tm ob ng) (mkS tm' (somes (stO NT AT ET νb ⟨kind,tag,count,list,none⟩ (e::r))) 2):=ZrK n0 n1 m1 m2 m3 k1 k2 k3 ν tm' h1 a0 a1 b1 b2 b3 hk (by rw [hob];exact mU hA2) (by rw [hob];exact GX hA1) h00
have hH:Has (somes (stO NT AT ET νb ⟨kind,tag,count,list,none⟩ (e::r))) (stO NT AT ET νb ⟨kind,tag,count,list,none⟩ (e::r)):=DN (lits:=[]) rfl
rcases hex with rfl | rfl
exact KG hs h2 h3 hH
exact dP hs h2 h3 hH}
end
end VL
section
open VL
abbrev stP (ν:Nat->Gen) (e:El) (r:Q3 El):Q3 (Nat×Gen×VObj):=stO 78 111 98 ν e r
abbrev elP (b:Nat) (ν:Nat->Gen) (e:El):Q3 (Nat×Gen×VObj):=elO 78 111 b ν e
abbrev PC (f:FuncId) (args:Q3 PV) (e:El) (r:Q3 El) (res:PV) (e':El) (r':Q3 El):Prop:=mO 78 111 98 Tryz.prog f args e r res e' r'
theorem CE (e:El) (r:Q3 El) (hr:r.length<=1000):ContractG Tryz.prog 65 [.ptr 0 (0,0) 0] (objs (stP νa e r)) (.ptr 1001 (0,1001) 0) (stP νa e r):=by{
refine ZG mix Tryz.func65 (by kernel_rfl) rfl (by kernel_rfl) ?_
rw [CV]
repeat (first | (refine CO rfl rfl (EF _ _ _) ?_) | (refine EV rfl rfl rfl (by omega) ?_) | (refine LJ rfl rfl rfl rfl (by rw [EF];omega) ?_) | (refine G9 rfl rfl rfl (dR _ _ _) rfl ?_) | refine C5 ?_)
exact KG (Shift.refl _) rfl rfl (DN (lits:=[]) rfl)}
abbrev mY (f:FuncId) (e:El) (p:PV):Prop:=ContractG Tryz.prog f [.ptr 0 (0,0) 0] (objs (elP 0 νa e)) p (elP 0 νa e)
theorem M3 (b:Nat) (ν:Nat->Gen) (pre:Q3 Arg) (a:Arg):(EY b ν (some (pre,a))).length=pre.length+1:=by simp [EY]
theorem EH (b:Nat) (ν:Nat->Gen) (pre:Q3 Arg) (a:Arg):(EY b ν (some (pre,a)))[pre.length]? = some [.bool a.named,.sl a.name,.row (b+3) (ν (b+3))]:=by simp [EY]
theorem Q7 (b:Nat) (ν:Nat->Gen) (pre:Q3 Arg) (a:Arg) (x:Q3 PV):(EY b ν (some (pre,a))).set pre.length x=pre.map Arg.cs ++ [x]:=by
 have:=EG (pre.map Arg.cs) [.bool a.named,.sl a.name,.row (b+3) (ν (b+3))] x
 rwa [Yv] at this
theorem WT {e:El} {rs:Q3 ResultVar} {res:PV} {ps:Q3 PV} {tm:Q3 (Nat×PV)} {ng:Nat} (h2:BJ Tryz.prog (mkS tm (obG (objs (elP 0 νa e))) ng) rs=some ps) (h3:BA ps=res) :
  JJ Tryz.prog rs res (elP 0 νa e) .ret (mkS tm (obG (objs (elP 0 νa e))) ng):=by{
have ho:obG (objs (elP 0 νa e))=somes (elP 0 νa e):=by
 unfold obG objs somes
 rw [JW]
 refine E4 fun q hq=>?_
 have:=(JE hq).2.2
 simp only [Function.comp]
 rw [show ((0,q.1):Gen)=q.2.1 from this.symm]
refine KG (Shift.refl _) h2 h3 fun t g o hm=>?_
rw [ho]
have:=FQ [] (N4 (NT:=78) (AT:=111) 0 νa e) hm
rwa [YB] at this}
theorem M4 (e:El) (h:e.kind≠3\/e.args=none) (hn:∀ q,e.args=some q->q.1.length<=1000000):mY 169 e (.ptr 0 (0,0) 3):=by{
obtain ⟨kind,tag,count,list,args⟩:=e
refine ZG mix Tryz.func169 (by kernel_rfl) rfl (by kernel_rfl) ?_
by_cases hk:kind=3
·obtain rfl:args=none:=h.resolve_left (fun h=>h hk)
 subst hk
 repeat (first | (refine CO (n:=0) rfl rfl rfl ?_) | (refine Zk rfl rfl ?_) | refine C5 ?_)
 exact WT rfl rfl
·cases args with
 | none=>
   repeat (first | (refine CO (n:=0) rfl rfl rfl ?_) | refine C5 ?_)
   rw [Yf hk]
   repeat (first | (refine Zw rfl ?_) | (refine Zk rfl rfl ?_) | refine C5 ?_)
   exact WT rfl rfl
 | some q=>
   obtain ⟨pre,a⟩:=q
   repeat (first | (refine CO rfl rfl (M3 ..) ?_) | refine C5 ?_)
   rw [Yf hk]
   repeat (first | (refine Zw rfl ?_) | (refine Zk rfl rfl ?_) | refine C5 ?_)
   exact WT rfl rfl}
theorem WU (tag count:Int) (list:Q3 (Q3 PV)) (pre:Q3 Arg) (a:Arg) (hn:pre.length<=1000000):mY 169 ⟨3,tag,count,list,some (pre,a)⟩ (.elp 2 (0,2) pre.length 3 2):=by{
refine ZG mix Tryz.func169 (by kernel_rfl) rfl (by kernel_rfl) ?_
repeat (first | (refine CO rfl rfl (M3 ..) ?_) | refine C5 ?_)
have h0:decide ((0:Int)<((pre.length+1:Nat):Int))=true:=Yh (by omega)
rw [h0]
repeat (first | (refine EV rfl rfl rfl (by omega) ?_) | (refine Zv rfl rfl ?_) | (refine LJ rfl rfl rfl rfl (by rw [M3];omega) ?_) | refine C5 ?_)
exact WT rfl rfl}
def NF:Q3 PV->Q2 Node | [.int .i64 k,.int .i64 t,.str s,.sl a,.sl b]=>some ⟨k,t,s,a,b⟩ | _=>none
theorem mZ {e:Q3 PV} {n:Node} (h:NF e=some n):e=n.cs:=by{
unfold NF at h
split at h
injection h with h
subst h
rfl
cases h}
def VL.El.cur (e:El):Q3 (Q3 PV):=match e.args with | some (_,a)=>if e.kind=3 then a.value else e.list | none=>e.list
def VL.El.setCur (e:El) (l:Q3 (Q3 PV)):El:=match e.args with | some (pre,a)=>if e.kind=3 then ⟨e.kind,e.tag,e.count,e.list,some (pre,⟨a.named,a.name,l⟩)⟩ else ⟨e.kind,e.tag,e.count,l,e.args⟩ | none=>⟨e.kind,e.tag,e.count,l,none⟩
def F8 (l:Q3 (Q3 PV)) (n:Node):Q2 (Q3 (Q3 PV)):=A8 80 l [n.cs]
def GY (l:Q3 (Q3 PV)) (s:Q1):Q2 (Q3 (Q3 PV)):=match l.getLast? with | none=>F8 l ⟨1,0,s,[],[]⟩ | some e=>(NF e).bind fun n=>if n.kind=1 then (BV n.text s).map fun y=>l.dropLast ++ [Node.cs ⟨1,n.tag,y,n.kids,n.args⟩] else F8 l ⟨1,0,s,[],[]⟩
theorem WV {l l':Q3 (Q3 PV)} {s:Q1} (h:GY l s=some l'):(l = []/\F8 l ⟨1,0,s,[],[]⟩=some l')\/∃ init n,l=init ++ [Node.cs n]/\((n.kind=1/\∃ y,BV n.text s=some y/\l'=init ++ [Node.cs ⟨1,n.tag,y,n.kids,n.args⟩])\/(n.kind≠1/\F8 l ⟨1,0,s,[],[]⟩=some l')):=by{
unfold GY at h
split at h
rename_i hl
exact .inl ⟨List.getLast?_eq_none_iff.1 hl,h⟩
rename_i e hl
obtain ⟨n,hn,h⟩:=Ya.1 h
obtain ⟨init,rfl⟩:=List.getLast?_eq_some_iff.1 hl
refine .inr ⟨init,n,by rw [mZ hn],?_⟩
split at h
rename_i hk
obtain ⟨y,hy,rfl⟩:=Ye.1 h
exact .inl ⟨hk,y,hy,by rw [Y6]⟩
rename_i hk
exact .inr ⟨hk,h⟩}
def small (e:El) (r:Q3 El):Prop:=r.length<=1000/\∀ q,e.args=some q->q.1.length<=1000000
def EI (e:El) (n:Node):Q2 El:=(F8 e.cur n).map e.setCur
def AK (e:El) (s:Q1):Q2 El:=if s=⟨#[]⟩ then some e else (GY e.cur s).map e.setCur
theorem n8 (e:El) (r:Q3 El) (n:Node) (hs:small e r) (l':Q3 (Q3 PV)) (h:e.kind≠3\/e.args=none) (hR:F8 e.list n=some l'):PC 103 [.agg n.cs] e r (.tup []) ⟨e.kind,e.tag,e.count,l',e.args⟩ r:=by{
refine ZG mix Tryz.func103 (by kernel_rfl) rfl (by kernel_rfl) ?_
rw [CV]
obtain ⟨h1,h2,rfl⟩:=GS hR
obtain ⟨kind,tag,count,list,args⟩:=e
rcases args with _ | ⟨pre,a⟩
·repeat (first | (refine C9 [_] νa (CE _ r hs.1) rfl rfl rfl rfl rfl rfl ?_) | (refine I0 [_] νa (M4 _ h hs.2) rfl rfl rfl rfl rfl ?_) | (refine JA rfl rfl rfl rfl h1 h2 (by rfl) ?_) | (refine ES (n:=list.length) rfl rfl rfl rfl (by simp) ?_) | (refine I1 rfl rfl rfl (D0 _ _) rfl rfl rfl rfl (Yk rfl) rfl (EG _ _ _) ?_) | refine Zr rfl (by (conv=>lhs;whnf);try rfl) ?_ | refine ZJ rfl rfl rfl ?_ | refine Zs rfl (by (conv=>lhs;whnf);try rfl) ?_ | refine AA rfl rfl ?_ | refine G5 rfl rfl ?_ | refine J9 rfl (by (conv=>lhs;whnf);try rfl) (by (conv=>lhs;whnf);try rfl) (by rfl) ?_ | refine BS rfl rfl rfl (by (conv=>lhs;whnf);try rfl) (by (conv=>lhs;whnf);try rfl) (by rfl) (by rfl) (Yk rfl) (by (conv=>lhs;whnf);try rfl) ?_ | refine E9 rfl rfl rfl (by rfl) (by decide) (by (conv=>lhs;whnf);try rfl) ?_ | refine Zf ?_ | refine EU (by kernel_rfl) ?_ | refine Zl ?_ | refine Zb ?_ | refine ZE ?_)
 exact FU (.inr rfl) (0,0) (0,1000) (fun k=>if k=1002 then (3,6) else νa k) νa [_,_,_,_,_] [] rfl rfl trivial rfl rfl (Zp rfl (Zp rfl (Zp rfl (AO _)))) rfl rfl
·repeat (first | (refine C9 [_] νa (CE _ r hs.1) rfl rfl rfl rfl rfl rfl ?_) | (refine I0 [_] νa (M4 _ h hs.2) rfl rfl rfl rfl rfl ?_) | (refine JA rfl rfl rfl rfl h1 h2 (by rfl) ?_) | (refine ES (n:=list.length) rfl rfl rfl rfl (by simp) ?_) | (refine I1 rfl rfl rfl (D0 _ _) rfl rfl rfl rfl (Yk rfl) rfl (EG _ _ _) ?_) | refine Zr rfl (by (conv=>lhs;whnf);try rfl) ?_ | refine ZJ rfl rfl rfl ?_ | refine Zs rfl (by (conv=>lhs;whnf);try rfl) ?_ | refine AA rfl rfl ?_ | refine G5 rfl rfl ?_ | refine J9 rfl (by (conv=>lhs;whnf);try rfl) (by (conv=>lhs;whnf);try rfl) (by rfl) ?_ | refine BS rfl rfl rfl (by (conv=>lhs;whnf);try rfl) (by (conv=>lhs;whnf);try rfl) (by rfl) (by rfl) (Yk rfl) (by (conv=>lhs;whnf);try rfl) ?_ | refine E9 rfl rfl rfl (by rfl) (by decide) (by (conv=>lhs;whnf);try rfl) ?_ | refine Zf ?_ | refine EU (by kernel_rfl) ?_ | refine Zl ?_ | refine Zb ?_ | refine ZE ?_)
 exact FU (.inr rfl) (0,0) (0,1000) (fun k=>if k=1002 then (3,6) else νa k) νa [_,_,_,_,_] [] rfl rfl trivial rfl rfl (Zp rfl (Zp rfl (Zp rfl (Zp rfl (AO _))))) rfl rfl}
theorem ZvZ (tag count:Int) (list:Q3 (Q3 PV)) (pre:Q3 Arg) (a:Arg) (r:Q3 El) (n:Node) (hs:small ⟨3,tag,count,list,some (pre,a)⟩ r) (l':Q3 (Q3 PV)) (hR:F8 a.value n=some l') :
  PC 103 [.agg n.cs] ⟨3,tag,count,list,some (pre,a)⟩ r (.tup []) ⟨3,tag,count,list,some (pre,⟨a.named,a.name,l'⟩)⟩ r:=by{
refine ZG mix Tryz.func103 (by kernel_rfl) rfl (by kernel_rfl) ?_
rw [CV]
obtain ⟨h1,h2,rfl⟩:=GS hR
repeat (first | (refine C9 [_] νa (CE _ r hs.1) rfl rfl rfl rfl rfl rfl ?_) | (refine I0 [_] νa (WU _ _ _ _ _ (hs.2 _ rfl)) rfl rfl rfl rfl rfl ?_) | (refine NE rfl rfl ?_) | (refine G9 rfl rfl rfl (EH _ _ _ _) rfl ?_) | (refine JA rfl rfl rfl rfl h1 h2 (by rfl) ?_) | (refine ES (n:=a.value.length) rfl rfl rfl rfl (by simp) ?_) | (refine I1 rfl rfl rfl (D0 _ _) rfl rfl rfl rfl (Yk rfl) rfl (EG _ _ _) ?_) | (refine VN rfl rfl rfl (EH _ _ _ _) rfl rfl rfl rfl (Yk rfl) (Q7 _ _ _ _ _) ?_) | refine Zr rfl (by (conv=>lhs;whnf);try rfl) ?_ | refine ZJ rfl rfl rfl ?_ | refine Zs rfl (by (conv=>lhs;whnf);try rfl) ?_ | refine G5 rfl rfl ?_ | refine J9 rfl (by (conv=>lhs;whnf);try rfl) (by (conv=>lhs;whnf);try rfl) (by rfl) ?_ | refine E9 rfl rfl rfl (by rfl) (by decide) (by (conv=>lhs;whnf);try rfl) ?_ | refine Zf ?_ | refine EU (by kernel_rfl) ?_ | refine Zl ?_ | refine Zb ?_ | refine ZE ?_)
exact FU (.inr rfl) (0,0) (0,1000) (fun k=>if k=1004 then (3,6) else νa k) νa [_,_,_,_,_] [] rfl rfl trivial rfl rfl (Zp rfl (Zp rfl (Zp rfl (Zp rfl (AO _))))) rfl rfl}
end
end Go.Proofs.YtmgfammllddkhaaGreatDoor
