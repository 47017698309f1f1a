/- Functions of -/
import Derived.Test.YtmgfammllddkhaaGreatDoorCU08
set_option linter.unusedSimpArgs false
set_option linter.unusedVariables false
set_option maxHeartbeats 4000000
set_option maxRecDepth 100000
namespace Go.Proofs.YtmgfammllddkhaaGreatDoor
section
open VL
def GS (p0:Q3 Node):Q2 (Title×Bool):=(NM p0).bind fun r1=>(PY r1.1).bind fun r2=>letk (fun (x5:Bool)=>if x5 then (some ((⟨0,(⟨#[]⟩:Q1)⟩:Title),false):Q2 (Title×Bool)) else (NE r2).bind fun r6=>if (!decide (r6.2=0)) then (some ((⟨0,(⟨#[]⟩:Q1)⟩:Title),false):Q2 (Title×Bool)) else letk (fun (x8:Bool)=>letk (fun (x9:Int)=>(some ((⟨x9,r6.1.name⟩:Title),true):Q2 (Title×Bool))) fun k3=>if x8 then k3 3 else k3 r6.1.space) fun k2=>if decide (r6.1.space=0) then (ZV r2 ⟨#[58]⟩).bind fun r10=>k2 (!r10) else k2 false) fun k1=>if (!r1.2) then k1 true else (ZV r2 ⟨#[35]⟩).bind fun r11=>if r11 then k1 true else (ZV r2 ⟨#[47]⟩).bind fun r12=>k1 r12
theorem Zkx (p0:Q3 Node) (r:Title×Bool) (h:GS p0=some r):Zg Q7 67 [.sl (List.map Node.cs p0)] (.tup [r.1.pv,.bool r.2]):=by{
refine cF (fun r=>.tup [r.1.pv,.bool r.2]) h mix Tryz.func67 fun r h=>?_
unfold GS at h
refine Zi ?_
refine rg ?_
refine rg ?_
refine aC h (Zo0 _) fun r1 h=>?_
refine rg ?_
refine aC h (nH _) fun r2 h=>?_
refine jL h (fun x5=>mkS [(2,.ptr 2 (1,2) 0),(6,.str r2),(25,.bool x5)] [(2,some ((1,2),.box [Q5 0,.str ⟨#[]⟩]))] 2) (fun k1 h=>?_) fun x5 h=>?_
refine rg ?_
refine kS 18 h rfl (fun h=>?_) fun h=>?_
iterate 4 refine Zw rfl (Zi ?_)
exact jn true h (sR [(2,1,0)])
refine aC h (LN _ _) fun r11 h=>?_
refine kS 22 h rfl (fun h=>?_) fun h=>?_
iterate 2 refine Zw rfl (Zi ?_)
exact jn true h (sR [(2,1,0)])
refine aC h (LN _ _) fun r12 h=>?_
exact jn r12 h (sR [(2,1,0)])
refine cS h rfl (fun h=>?_) fun h=>?_
refine rg ?_
cases h
exact rQ
refine rg ?_
refine aC h (dV _) fun r6 h=>?_
refine rg ?_
refine cS h rfl (fun h=>?_) fun h=>?_
refine rg ?_
cases h
exact rQ
refine jL h (fun x8=>mkS [(2,.ptr 2 (1,2) 0),(7,.ptr 7 (1,7) 0),(42,.bool x8)] [(2,some ((1,2),.box [Q5 0,.str ⟨#[]⟩])),(7,some ((1,7),.box (Title.cs r6.1)))] 2) (fun k2 h=>?_) fun x8 h=>?_
refine rg ?_
refine kS 38 h rfl (fun h=>?_) fun h=>?_
refine aC h (LN _ _) fun r10 h=>?_
exact jn (!r10) h (sR [(2,1,2),(7,2,5)])
iterate 3 refine Zw rfl (Zi ?_)
exact jn false h (sR [(2,1,2),(7,2,5)])
refine jL h (fun x9=>mkS [(2,.ptr 2 (1,2) 0),(7,.ptr 7 (1,7) 0)] [(2,some ((1,2),.box [Q5 0,.str ⟨#[]⟩])),(7,some ((1,7),.box [Q5 x9,.str r6.1.name]))] 2) (fun k3 h=>?_) fun x9 h=>?_
refine cS h rfl (fun h=>?_) fun h=>?_
refine rg ?_
exact jn 3 h (sR [(2,1,2),(7,1,7)])
exact jn r6.1.space h (sR [(2,1,2),(7,1,7)])
refine rg ?_
cases h
exact rQ}
def KL:Nat->Finder->(Q3 Node)->Q2 Finder | 0,_,_=>none | mF+1,p0,p1=>A4 A9 (fun f7 ((x13,x14,x15):Int×(Q3 Link)×(Q3 Memb))=>if decide (x13<(p1.length:Int)) then letk (fun (x33:Q3 Link) (x34:Q3 Memb)=>f7 ((w64 (x13+1)),x33,x34)) fun k9=>(atI p1 x13).bind fun e35=>if decide (e35.kind=1) then (Q9 (⟨x14,x15⟩:Finder) e35.text).bind fun r36=>k9 r36.links r36.members else letk (fun (x37:Bool)=>if x37 then (AV e35.kids).bind fun l38=>(KL mF (⟨x14,x15⟩:Finder) l38).bind fun r39=>k9 r39.links r39.members else k9 x14 x15) fun k10=>if decide (e35.kind=6) then k10 (!decide (e35.tag=2)) else k10 false else (some (⟨x14,x15⟩:Finder):Q2 Finder)) (0,p0.links,p0.members)
theorem Zji (mF:Nat):∀ (p0:Finder) (p1:Q3 Node) (r:Finder),KL mF p0 p1=some r->ContractP Q7 30 [.ptr 0 (0,0) 0,.sl (List.map Node.cs p1)] 0 [.row 42 3 false (List.map Link.cs p0.links),.row 45 3 false (List.map Memb.cs p0.members)] (.tup []) [.row 42 3 false (List.map Link.cs r.links),.row 45 3 false (List.map Memb.cs r.members)]:=by{
induction mF with
| zero=>intro p0 p1 r h;cases h
| succ mF ihF=>
intro p0 p1 r h
refine bZ (R:=fun r=>.tup []) (O:=fun r=>[.row 42 3 false (Q8 Link.cs r.links),.row 45 3 false (Q8 Memb.cs r.members)]) h mix Tryz.func30 (by kernel_rfl) rfl (by kernel_rfl) rfl fun r h=>?_
simp only [KL] at h
refine Zi ?_
refine rg ?_
refine lM Node.cs p1 ?_
refine bl ?_
refine Zy h fun f7 mf7 hf7 h=>?_
refine Zu (α:=Nat×(Int×(Q3 Link)×(Q3 Memb))) (fun a _=>mkS [(0,Q6),(6,.sl (Q8 Node.cs p1)),(7,Q5 (p1.length:Int)),(8,Q5 a.2.1)] [(0,some ((0,0),.box [.row 1000 (1,1000),.row 1001 (1,1001)])),(1000,some ((1,1000),.row 42 3 false (Q8 Link.cs a.2.2.1))),(1001,some ((1,1001),.row 45 3 false (Q8 Memb.cs a.2.2.2)))] 2) (fun a=>A4 a.1 f7 a.2=some r) (fun a=>a.1) (mf7,0,p0.links,p0.members) 2 h (sR [(1000,0,1000),(1001,0,1001)]) (fun a _ h=>?_)
obtain ⟨mf7,x13,x14,x15⟩:=a
obtain ⟨mf7,rfl,h⟩:=Zz hf7 h
dsimp only at h ⊢
refine Zi ?_
refine rg ?_
refine cS h rfl (fun h=>?_) fun h=>?_
refine ER h fun k9 hk9 h=>?_
refine DA (α:=(Q3 Link)×(Q3 Memb)) (fun a _=>mkS [(0,Q6),(6,.sl (Q8 Node.cs p1)),(7,Q5 (p1.length:Int)),(8,Q5 x13)] [(0,some ((0,0),.box [.row 1000 (1,1000),.row 1001 (1,1001)])),(1000,some ((1,1000),.row 42 3 false (Q8 Link.cs a.1))),(1001,some ((1,1001),.row 45 3 false (Q8 Memb.cs a.2)))] 2) (fun a=>k9 a.1 a.2=some r) (Zi ?_) (fun a _ h=>?_)
refine bl ?_
refine rg ?_
refine aI Node.cs h fun e35 h=>?_
refine bl ?_
refine rg ?_
refine cS h rfl (fun h=>?_) fun h=>?_
refine rg ?_
let ⟨r36,h22,h⟩:=bnd h
refine N6 (ZgQ _ _ _ h22) rfl rfl rfl rfl rfl rfl rfl rfl (Zi ?_)
exact jn (r36.links,r36.members) h (sR [(1000,5,1000003),(1001,5,2000003)])
refine jL h (fun x37=>mkS [(0,Q6),(5,.ptr 5 (1,5) 0),(6,.sl (Q8 Node.cs p1)),(7,Q5 (p1.length:Int)),(8,Q5 x13),(20,.bool x37)] [(0,some ((0,0),.box [.row 1000 (1,1000),.row 1001 (1,1001)])),(5,some ((1,5),.box [Q5 e35.kind,Q5 e35.tag,.str e35.text,.sl e35.kids,.sl e35.args])),(1000,some ((1,1000),.row 42 3 false (Q8 Link.cs x14))),(1001,some ((1,1001),.row 45 3 false (Q8 Memb.cs x15)))] 2) (fun k10 h=>?_) fun x37 h=>?_
refine rg ?_
refine kS 24 h rfl (fun h=>?_) fun h=>?_
exact jn (!decide (e35.tag=2)) h (sR [(5,3,2),(1000,1,1000),(1001,1,1001)])
iterate 3 refine Zw rfl (Zi ?_)
exact jn false h (sR [(5,3,2),(1000,1,1000),(1001,1,1001)])
refine cS h rfl (fun h=>?_) fun h=>?_
refine rg ?_
let ⟨l38,h23,h⟩:=bnd h
refine E9 31 (G6 h23) rfl (Zi ?_)
let ⟨r39,h24,h⟩:=bnd h
refine N6 (ihF _ _ _ h24) rfl rfl rfl rfl rfl rfl rfl rfl (Zi ?_)
exact jn (r39.links,r39.members) h (sR [(1000,2,1000003),(1001,2,2000003)])
exact jn (x14,x15) h (sR [(1000,1,1000),(1001,1,1001)])
obtain ⟨x33,x34⟩:=a
subst hk9
dsimp only at h ⊢
refine Zi ?_
refine rg ?_
exact rn (mf7,(w64 (x13+1)),x33,x34) h (sR [(1000,1,1000),(1001,1,1001)])
cases h
exact kC rfl rfl rfl rfl rfl rfl}
def Zo:Nat->Finder->(Q3 Node)->Q2 Finder | 0,_,_=>none | mF+1,p0,p1=>A4 A9 (fun f15 ((x93,x94,x95):Int×(Q3 Link)×(Q3 Memb))=>if decide (x93<(p1.length:Int)) then letk (fun (x233:Q3 Link) (x234:Q3 Memb)=>f15 ((w64 (x93+1)),x233,x234)) fun k19=>(atI p1 x93).bind fun e235=>letk (fun (x236:Bool)=>if x236 then k19 x94 x95 else letk (fun (x240:Q3 Link)=>(AV e235.kids).bind fun l241=>(Zo mF (⟨x240,x95⟩:Finder) l241).bind fun r242=>(DM e235.args).bind fun l243=>A4 A9 (fun f22 ((x254,x255,x256):Int×(Q3 Link)×(Q3 Memb))=>if decide (x254<(l243.length:Int)) then (atI l243 x254).bind fun e272=>(AV e272.name).bind fun l273=>(Zo mF (⟨x255,x256⟩:Finder) l273).bind fun r274=>(AV e272.value).bind fun l275=>(Zo mF r274 l275).bind fun r276=>f22 ((w64 (x254+1)),r276.links,r276.members) else k19 x255 x256) (0,r242.links,r242.members)) fun k21=>if decide (e235.kind=4) then (AV e235.kids).bind fun l277=>(GS l277).bind fun r278=>if r278.2 then (AA 32 x94 [(⟨2,r278.1⟩:Link)]).bind fun l279=>k21 l279 else k21 x94 else k21 x94) fun k20=>if decide (e235.kind=6) then k20 (decide (e235.tag=2)) else k20 false else (some (⟨x94,x95⟩:Finder):Q2 Finder)) (0,p0.links,p0.members)
theorem Zgd (mF:Nat):∀ (p0:Finder) (p1:Q3 Node) (r:Finder),Zo mF p0 p1=some r->ContractP Q7 31 [.ptr 0 (0,0) 0,.sl (List.map Node.cs p1)] 0 [.row 42 3 false (List.map Link.cs p0.links),.row 45 3 false (List.map Memb.cs p0.members)] (.tup []) [.row 42 3 false (List.map Link.cs r.links),.row 45 3 false (List.map Memb.cs r.members)]:=by{
induction mF with
| zero=>intro p0 p1 r h;cases h
| succ mF ihF=>
intro p0 p1 r h
refine bZ (R:=fun r=>.tup []) (O:=fun r=>[.row 42 3 false (Q8 Link.cs r.links),.row 45 3 false (Q8 Memb.cs r.members)]) h mix Tryz.func31 (by kernel_rfl) rfl (by kernel_rfl) rfl fun r h=>?_
simp only [Zo] at h
refine Zi ?_
refine rg ?_
refine lM Node.cs p1 ?_
refine bl ?_
refine Zy h fun f15 mf15 hf15 h=>?_
refine Zu (α:=Nat×(Int×(Q3 Link)×(Q3 Memb))) (fun a _=>mkS [(0,Q6),(10,.sl (Q8 Node.cs p1)),(11,Q5 (p1.length:Int)),(12,Q5 a.2.1)] [(0,some ((0,0),.box [.row 1000 (1,1000),.row 1001 (1,1001)])),(1000,some ((1,1000),.row 42 3 false (Q8 Link.cs a.2.2.1))),(1001,some ((1,1001),.row 45 3 false (Q8 Memb.cs a.2.2.2)))] 2) (fun a=>A4 a.1 f15 a.2=some r) (fun a=>a.1) (mf15,0,p0.links,p0.members) 2 h (sR [(1000,0,1000),(1001,0,1001)]) (fun a _ h=>?_)
obtain ⟨mf15,x93,x94,x95⟩:=a
obtain ⟨mf15,rfl,h⟩:=Zz hf15 h
dsimp only at h ⊢
refine Zi ?_
refine rg ?_
refine cS h rfl (fun h=>?_) fun h=>?_
refine ER h fun k19 hk19 h=>?_
refine DA (α:=(Q3 Link)×(Q3 Memb)) (fun a _=>mkS [(0,Q6),(10,.sl (Q8 Node.cs p1)),(11,Q5 (p1.length:Int)),(12,Q5 x93)] [(0,some ((0,0),.box [.row 1000 (1,1000),.row 1001 (1,1001)])),(1000,some ((1,1000),.row 42 3 false (Q8 Link.cs a.1))),(1001,some ((1,1001),.row 45 3 false (Q8 Memb.cs a.2)))] 2) (fun a=>k19 a.1 a.2=some r) (Zi ?_) (fun a _ h=>?_)
refine bl ?_
refine rg ?_
refine aI Node.cs h fun e235 h=>?_
refine jL h (fun x236=>mkS [(0,Q6),(5,.ptr 5 (1,5) 0),(10,.sl (Q8 Node.cs p1)),(11,Q5 (p1.length:Int)),(12,Q5 x93),(23,.bool x236)] [(0,some ((0,0),.box [.row 1000 (1,1000),.row 1001 (1,1001)])),(5,some ((1,5),.box [Q5 e235.kind,Q5 e235.tag,.str e235.text,.sl e235.kids,.sl e235.args])),(1000,some ((1,1000),.row 42 3 false (Q8 Link.cs x94))),(1001,some ((1,1001),.row 45 3 false (Q8 Memb.cs x95)))] 2) (fun k20 h=>?_) fun x236 h=>?_
refine rg ?_
refine kS 19 h rfl (fun h=>?_) fun h=>?_
exact jn (decide (e235.tag=2)) h (sR [(5,3,2),(1000,1,1000),(1001,1,1001)])
iterate 3 refine Zw rfl (Zi ?_)
exact jn false h (sR [(5,3,2),(1000,1,1000),(1001,1,1001)])
refine cS h rfl (fun h=>?_) fun h=>?_
exact jn (x94,x95) h (sR [(1000,1,1000),(1001,1,1001)])
refine rg ?_
refine jL h (fun x240=>mkS [(0,Q6),(5,.ptr 5 (1,5) 0),(10,.sl (Q8 Node.cs p1)),(11,Q5 (p1.length:Int)),(12,Q5 x93)] [(0,some ((0,0),.box [.row 1000 (1,1000),.row 1001 (1,1001)])),(5,some ((1,5),.box [Q5 e235.kind,Q5 e235.tag,.str e235.text,.sl e235.kids,.sl e235.args])),(1000,some ((1,1000),.row 42 3 false (Q8 Link.cs x240))),(1001,some ((1,1001),.row 45 3 false (Q8 Memb.cs x95)))] 2) (fun k21 h=>?_) fun x240 h=>?_
refine cS h rfl (fun h=>?_) fun h=>?_
refine rg ?_
let ⟨l277,h238,h⟩:=bnd h
refine E9 29 (G6 h238) rfl (Zi ?_)
refine aC h (Zkx _) fun r278 h=>?_
refine rg ?_
refine cS h rfl (fun h=>?_) fun h=>?_
refine rg ?_
refine CR (M:=([(⟨2,r278.1⟩:Link)]:Q3 Link)) (f:=Link.cs) rfl rfl rfl rfl (Yk rfl) rfl (Zi ?_)
refine pR Link.cs h fun l279 h=>?_
exact jn l279 h (sR [(5,1,5),(1000,5,8),(1001,1,1001)])
exact jn x94 h (sR [(5,1,5),(1000,1,1000),(1001,1,1001)])
exact jn x94 h (sR [(5,1,5),(1000,1,1000),(1001,1,1001)])
refine rg ?_
let ⟨l241,h205,h⟩:=bnd h
refine E9 47 (G6 h205) rfl (Zi ?_)
let ⟨r242,h206,h⟩:=bnd h
refine N6 (ihF _ _ _ h206) rfl rfl rfl rfl rfl rfl rfl rfl (Zi ?_)
refine rg ?_
let ⟨l243,h207,h⟩:=bnd h
refine E9 50 (W9 h207) rfl (Zi ?_)
refine lM Arg.cs l243 ?_
refine bl ?_
refine Zy h fun f22 mf22 hf22 h=>?_
refine Zu (α:=Nat×(Int×(Q3 Link)×(Q3 Memb))) (fun a _=>mkS [(0,Q6),(10,.sl (Q8 Node.cs p1)),(11,Q5 (p1.length:Int)),(12,Q5 x93),(50,.sl (Q8 Arg.cs l243)),(51,Q5 (l243.length:Int)),(52,Q5 a.2.1)] [(0,some ((0,0),.box [.row 1000 (1,1000),.row 1001 (1,1001)])),(1000,some ((1,1000),.row 42 3 false (Q8 Link.cs a.2.2.1))),(1001,some ((1,1001),.row 45 3 false (Q8 Memb.cs a.2.2.2)))] 2) (fun a=>A4 a.1 f22 a.2=some r) (fun a=>a.1) (mf22,0,r242.links,r242.members) 2 h (sR [(1000,2,1000003),(1001,2,2000003)]) (fun a _ h=>?_)
obtain ⟨mf22,x254,x255,x256⟩:=a
obtain ⟨mf22,rfl,h⟩:=Zz hf22 h
dsimp only at h ⊢
refine Zi ?_
refine rg ?_
refine cS h rfl (fun h=>?_) fun h=>?_
refine bl ?_
refine rg ?_
refine aI Arg.cs h fun e272 h=>?_
refine rg ?_
let ⟨l273,h234,h⟩:=bnd h
refine E9 58 (G6 h234) rfl (Zi ?_)
let ⟨r274,h235,h⟩:=bnd h
refine N6 (ihF _ _ _ h235) rfl rfl rfl rfl rfl rfl rfl rfl (Zi ?_)
refine rg ?_
let ⟨l275,h236,h⟩:=bnd h
refine E9 62 (G6 h236) rfl (Zi ?_)
let ⟨r276,h237,h⟩:=bnd h
refine N6 (ihF _ _ _ h237) rfl rfl rfl rfl rfl rfl rfl rfl (Zi ?_)
refine rg ?_
exact rn (mf22,(w64 (x254+1)),r276.links,r276.members) h (sR [(1000,5,1000003),(1001,5,2000003)])
exact jn (x255,x256) h (sR [(1000,1,1000),(1001,1,1001)])
obtain ⟨x233,x234⟩:=a
subst hk19
dsimp only at h ⊢
refine Zi ?_
refine rg ?_
exact rn (mf15,(w64 (x93+1)),x233,x234) h (sR [(1000,1,1000),(1001,1,1001)])
cases h
exact kC rfl rfl rfl rfl rfl rfl}
end
section
open Go.RowKit
theorem p6 (a b:Link) (W:World):(binOp .eql 42 (.agg #[.int .i64 a.kind,.int .i64 a.title.space,.string a.title.name]) (.agg #[.int .i64 b.kind,.int .i64 b.title.space,.string b.title.name])).run Q7 W = .ok (.bool (decide (a=b))) W:=by{
have e:(if a.kind=b.kind then if a.title.space=b.title.space then if a.title.name.toList=b.title.name.toList then true else false else false else false)=(decide (a=b)):=by
 obtain ⟨a1,⟨a2,a3⟩⟩:=a
 obtain ⟨b1,⟨b2,b3⟩⟩:=b
 simp only [Link.mk.injEq,Title.mk.injEq,OI]
 (repeat' split)<;>simp_all
rw [<- e]
go_simp
(repeat' split)<;>simp_all}
theorem p7 (a b:Link) (W:World):(binOp .neq 42 (.agg #[.int .i64 a.kind,.int .i64 a.title.space,.string a.title.name]) (.agg #[.int .i64 b.kind,.int .i64 b.title.space,.string b.title.name])).run Q7 W = .ok (.bool (!decide (a=b))) W:=by{
have e:(if a.kind=b.kind then if a.title.space=b.title.space then if a.title.name.toList=b.title.name.toList then false else true else true else true)=(!decide (a=b)):=by
 obtain ⟨a1,⟨a2,a3⟩⟩:=a
 obtain ⟨b1,⟨b2,b3⟩⟩:=b
 simp only [Link.mk.injEq,Title.mk.injEq,OI]
 (repeat' split)<;>simp_all
rw [<- e]
go_simp
(repeat' split)<;>simp_all}
theorem Zyx (a b:Memb) (W:World):(binOp .neq 45 (.agg #[.int .i64 a.category.space,.string a.category.name,.string a.sort]) (.agg #[.int .i64 b.category.space,.string b.category.name,.string b.sort])).run Q7 W = .ok (.bool (!decide (a=b))) W:=by{
have e:(if a.category.space=b.category.space then if a.category.name.toList=b.category.name.toList then if a.sort.toList=b.sort.toList then false else true else true else true)=(!decide (a=b)):=by
 obtain ⟨⟨a1,a2⟩,a3⟩:=a
 obtain ⟨⟨b1,b2⟩,b3⟩:=b
 simp only [Memb.mk.injEq,Title.mk.injEq,OI]
 (repeat' split)<;>simp_all
rw [<- e]
go_simp
(repeat' split)<;>simp_all}
end
section
open VL Go.RowKit
def strings_Compare (a b:Q1):Q2 Int:=some (Lib.compareBytes a.data.toList b.data.toList)
theorem ZjK (a b:Q1) (r:Int) (h:strings_Compare a b=some r):Zg Q7 71 [.str a,.str b] (.int .i64 r):=by
 unfold strings_Compare at h
 cases h
 exact H3 (vals:=[.string a,.string b]) (by kernel_rfl) rfl rfl (fun x=>.int _ _) fun w hw=>(kO a b w).mono fun e w' ⟨h1,h2⟩=>⟨h1,by rw [<- h2];exact Below.refl _ _⟩
end
section
open VL
def TS (p0:Int):Q2 Bool:=some (!decide (p0=p0))
theorem p8 (p0:Int) (r:Bool) (h:TS p0=some r):Zg Q7 70 [.int .i64 p0] (.bool r):=by{
refine cF (fun r=>.bool r) h mix Tryz.func70 fun r h=>?_
unfold TS at h
refine Zi ?_
refine rg ?_
refine rg ?_
cases h
exact rQ}
def cmp_Compare_int (p0:Int) (p1:Int):Q2 Int:=(TS p0).bind fun r1=>(TS p1).bind fun r2=>if r1 then if r2 then some 0 else some (-1) else if r2 then some 1 else if decide (p0<p1) then some (-1) else if decide (p1<p0) then some 1 else some 0
theorem ZjY (p0:Int) (p1:Int) (r:Int) (h:cmp_Compare_int p0 p1=some r):Zg Q7 35 [.int .i64 p0,.int .i64 p1] (.int .i64 r):=by{
refine cF (fun r=>.int .i64 r) h mix Tryz.func35 fun r h=>?_
unfold cmp_Compare_int at h
refine Zi ?_
refine rg ?_
refine rg ?_
refine aC h (p8 _) fun r1 h=>?_
refine rg ?_
refine aC h (p8 _) fun r2 h=>?_
refine rg ?_
refine cS h rfl (fun h=>?_) fun h=>?_
refine rg ?_
refine cS h rfl (fun h=>?_) fun h=>?_
refine rg ?_
cases h
exact rQ
refine rg ?_
cases h
exact rQ
refine rg ?_
refine cS h rfl (fun h=>?_) fun h=>?_
refine rg ?_
cases h
exact rQ
refine rg ?_
refine cS h rfl (fun h=>?_) fun h=>?_
refine rg ?_
cases h
exact rQ
refine rg ?_
refine cS h rfl (fun h=>?_) fun h=>?_
refine rg ?_
cases h
exact rQ
refine rg ?_
cases h
exact rQ}
def QK (p0:Q3 Int):Q2 Int:=A4 A9 (fun f2 (x10:Int)=>if decide (x10<(p0.length:Int)) then (atI p0 x10).bind fun e14=>if (!decide (e14=0)) then some e14 else f2 (w64 (x10+1)) else some 0) 0
theorem Zpi (p0:Q3 Int) (r:Int) (h:QK p0=some r):Zg Q7 34 [.sl (List.map csI p0)] (.int .i64 r):=by{
refine cF (fun r=>.int .i64 r) h mix Tryz.func34 fun r h=>?_
unfold QK at h
refine Zi ?_
refine rg ?_
refine rg ?_
refine rg ?_
refine lM csI p0 ?_
refine bl ?_
refine Zy h fun f2 mf2 hf2 h=>?_
refine Zu (α:=Nat×Int) (fun a _=>mkS [(3,Q5 0),(6,.sl (Q8 csI p0)),(7,Q5 (p0.length:Int)),(8,Q5 a.2)] [] 2) (fun a=>A4 a.1 f2 a.2=some r) (fun a=>a.1) (mf2,0) 2 h (sR []) (fun a _ h=>?_)
obtain ⟨mf2,x10⟩:=a
obtain ⟨mf2,rfl,h⟩:=Zz hf2 h
dsimp only at h ⊢
refine Zi ?_
refine rg ?_
refine cS h rfl (fun h=>?_) fun h=>?_
refine bl ?_
refine rg ?_
refine aI csI h fun e14 h=>?_
refine rg ?_
refine cS h rfl (fun h=>?_) fun h=>?_
refine rg ?_
cases h
exact rQ
refine rg ?_
exact rn (mf2,(w64 (x10+1))) h (sR [])
refine rg ?_
cases h
exact rQ}
def TT (p0:Title) (p1:Title):Q2 Int:=(cmp_Compare_int p0.space p1.space).bind fun r1=>(strings_Compare p0.name p1.name).bind fun r2=>(QK [r1,r2]).bind fun r3=>some r3
theorem ZlT (p0:Title) (p1:Title) (r:Int) (h:TT p0 p1=some r):Zg Q7 36 [p0.pv,p1.pv] (.int .i64 r):=by{
refine cF (fun r=>.int .i64 r) h mix Tryz.func36 fun r h=>?_
unfold TT at h
refine Zi ?_
refine rg ?_
refine rg ?_
refine aC h (ZjY _ _) fun r1 h=>?_
refine aC h (ZjK _ _) fun r2 h=>?_
refine bM csI ([r1,r2]:Q3 Int) ?_
refine aL h (Zpi _) fun r3 h=>?_
cases h
exact rQ}
def M9 (p0:Memb) (p1:Memb):Q2 Int:=(TT p0.category p1.category).bind fun r1=>some r1
theorem XG (p0:Memb) (p1:Memb) (r:Int) (h:M9 p0 p1=some r):Zg Q7 38 [p0.pv,p1.pv] (.int .i64 r):=by{
refine cF (fun r=>.int .i64 r) h mix Tryz.func38 fun r h=>?_
unfold M9 at h
refine Zi ?_
refine rg ?_
refine rg ?_
refine aC h (ZlT _ _) fun r1 h=>?_
cases h
exact rQ}
def TU (p0:Memb) (p1:Memb):Q2 Bool:=some (decide (p0.category=p1.category))
theorem p9 (p0:Memb) (p1:Memb) (r:Bool) (h:TU p0 p1=some r):Zg Q7 40 [p0.pv,p1.pv] (.bool r):=by{
refine cF (fun r=>.bool r) h mix Tryz.func40 fun r h=>?_
unfold TU at h
refine Zi ?_
refine rg ?_
refine rg ?_
refine LF (.inl rfl) rfl rfl rfl rfl rfl (fun W=>bH p0.category p1.category W) (Zi ?_)
cases h
exact rQ}
end
end Go.Proofs.YtmgfammllddkhaaGreatDoor
