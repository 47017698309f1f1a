/- Functions of the program as Lean functions. Written by -/
import Derived.Test.YtpdaeclbndpabaaGreatDoorCM26
import Derived.ProofKit
import Derived.OpenShut
import Derived.Deep.Strs
import Derived.MakeChecks
set_option linter.unusedSimpArgs false
set_option linter.unusedVariables false
set_option maxHeartbeats 4000000
set_option maxRecDepth 100000
namespace Go.Proofs.YtpdaeclbndpabaaGreatDoor
section
open VL
def ZcO (p0:List Title) (p1:List Title):Option Bool:=if (!decide ((p0.length:Int)=(p1.length:Int))) then (some false:Option Bool) else ZE Zaq (fun f2 (x18:Int)=>if (decide (x18<(p0.length:Int))) then (atI p0 x18).bind fun e25=>(atI p1 x18).bind fun e26=>if (!decide (e25=e26)) then (some false:Option Bool) else f2 (w64 (x18+1)) else (some true:Option Bool)) 0
theorem ZgD (p0:List Title) (p1:List Title) (r:Bool) (h:ZcO p0 p1=some r):Zb Tryz.prog 19 [.sl (List.map Title.cs p0),.sl (List.map Title.cs p1)] (.bool r):=by{
refine cF (fun r=>.bool r) h mix Tryz.func19 fun r h=>?_
unfold ZcO at h
refine Zf ?_
refine rg ?_
refine rg ?_
refine lM Title.cs p0 ?_
refine lM Title.cs p1 ?_
refine cS h rfl (fun h=>?_) fun h=>?_
refine rg ?_
cases h
exact rQ
refine rg ?_
refine bl ?_
refine Zk h fun f2 mf2 hf2 h=>?_
refine Zi (α:=Nat×Int) (fun a _=>mkS [(0,.sl (List.map Title.cs p0)),(1,.sl (List.map Title.cs p1)),(5,.int .i64 a.2)] [] 2) (fun a=>ZE a.1 f2 a.2=some r) (fun a=>a.1) (mf2,0) 2 h (sR []) (fun a _ h=>?_)
obtain ⟨mf2,x18⟩:=a
obtain ⟨mf2,rfl,h⟩:=Zl hf2 h
dsimp only at h ⊢
refine Zf ?_
refine rg ?_
refine lM Title.cs p0 ?_
refine cS h rfl (fun h=>?_) fun h=>?_
refine bl ?_
refine rg ?_
refine aI Title.cs h fun e25 h=>?_
refine aI Title.cs h fun e26 h=>?_
refine ZeM (.inr rfl) rfl rfl rfl rfl rfl (fun W=>ZeX e25 e26 W) (Zf ?_)
refine cS h rfl (fun h=>?_) fun h=>?_
refine rg ?_
cases h
exact rQ
refine rg ?_
exact rn (mf2,(w64 (x18+1))) h (sR [])
refine rg ?_
cases h
exact rQ}
def ZdK (p0:List Item) (p1:List Item):Option Bool:=if (!decide ((p0.length:Int)=(p1.length:Int))) then (some false:Option Bool) else ZE Zaq (fun f2 (x18:Int)=>if (decide (x18<(p0.length:Int))) then (atI p0 x18).bind fun e25=>(atI p1 x18).bind fun e26=>if (!decide (e25=e26)) then (some false:Option Bool) else f2 (w64 (x18+1)) else (some true:Option Bool)) 0
theorem ZhA (p0:List Item) (p1:List Item) (r:Bool) (h:ZdK p0 p1=some r):Zb Tryz.prog 23 [.sl (List.map Item.cs p0),.sl (List.map Item.cs p1)] (.bool r):=by{
refine cF (fun r=>.bool r) h mix Tryz.func23 fun r h=>?_
unfold ZdK at h
refine Zf ?_
refine rg ?_
refine rg ?_
refine lM Item.cs p0 ?_
refine lM Item.cs p1 ?_
refine cS h rfl (fun h=>?_) fun h=>?_
refine rg ?_
cases h
exact rQ
refine rg ?_
refine bl ?_
refine Zk h fun f2 mf2 hf2 h=>?_
refine Zi (α:=Nat×Int) (fun a _=>mkS [(0,.sl (List.map Item.cs p0)),(1,.sl (List.map Item.cs p1)),(5,.int .i64 a.2)] [] 2) (fun a=>ZE a.1 f2 a.2=some r) (fun a=>a.1) (mf2,0) 2 h (sR []) (fun a _ h=>?_)
obtain ⟨mf2,x18⟩:=a
obtain ⟨mf2,rfl,h⟩:=Zl hf2 h
dsimp only at h ⊢
refine Zf ?_
refine rg ?_
refine lM Item.cs p0 ?_
refine cS h rfl (fun h=>?_) fun h=>?_
refine bl ?_
refine rg ?_
refine aI Item.cs h fun e25 h=>?_
refine aI Item.cs h fun e26 h=>?_
refine ZeM (.inr rfl) rfl rfl rfl rfl rfl (fun W=>Zx7 e25 e26 W) (Zf ?_)
refine cS h rfl (fun h=>?_) fun h=>?_
refine rg ?_
cases h
exact rQ
refine rg ?_
exact rn (mf2,(w64 (x18+1))) h (sR [])
refine rg ?_
cases h
exact rQ}
def ZgE:Option Bool:=(Zha (⟨#[97,108,108,111,119,32,114,101,97,100,32,97,108,108,32,60,97,108,108,62]⟩:ByteArray)).bind fun r1=>(Zay r1 [(⟨1,(⟨#[]⟩:ByteArray),(⟨#[]⟩:ByteArray),(⟨0,(⟨#[65]⟩:ByteArray)⟩:Title),(⟨0,(⟨#[]⟩:ByteArray)⟩:Title),(⟨#[120]⟩:ByteArray),0,[]⟩:Change),(⟨7,(⟨#[97,110,110]⟩:ByteArray),(⟨#[]⟩:ByteArray),(⟨0,(⟨#[65]⟩:ByteArray)⟩:Title),(⟨0,(⟨#[]⟩:ByteArray)⟩:Title),(⟨#[]⟩:ByteArray),0,[]⟩:Change)]).bind fun r2=>(Zay r2.1 [(⟨1,(⟨#[98,111,98]⟩:ByteArray),(⟨#[110]⟩:ByteArray),(⟨0,(⟨#[65]⟩:ByteArray)⟩:Title),(⟨0,(⟨#[]⟩:ByteArray)⟩:Title),(⟨#[121]⟩:ByteArray),0,[]⟩:Change)]).bind fun r3=>(ZeG r3.1 (⟨#[97,110,110]⟩:ByteArray) 1).bind fun r4=>(Zfy r3.1 (⟨#[97,110,110]⟩:ByteArray) (⟨0,(⟨#[65]⟩:ByteArray)⟩:Title) 1 2).bind fun r5=>letk (fun (x11:Bool)=>(some x11:Option Bool)) fun k1=>if (decide ((r4.length:Int)=1)) then (atI r4 0).bind fun e12=>if (decide (e12=(⟨(⟨0,(⟨#[65]⟩:ByteArray)⟩:Title),2,(⟨#[98,111,98]⟩:ByteArray),(⟨#[110]⟩:ByteArray),0⟩:Item))) then (ZeG r3.1 (⟨#[98,111,98]⟩:ByteArray) 0).bind fun r13=>if (decide ((r13.length:Int)=0)) then (Zdn r3.1 (⟨#[]⟩:ByteArray) 9).bind fun r14=>if (decide ((r14.length:Int)=3)) then if (decide (r5.2=0)) then if (decide ((r5.1.length:Int)=2)) then (ZbV r3.1 (⟨#[97,110,110]⟩:ByteArray)).bind fun r15=>(ZcO r15 [(⟨0,(⟨#[65]⟩:ByteArray)⟩:Title)]).bind fun r16=>k1 r16 else k1 false else k1 false else k1 false else k1 false else k1 false else k1 false
theorem ZpT  (r:Bool) (h:ZgE=some r):Zb Tryz.prog 5 [] (.bool r):=by{
refine cF (fun r=>.bool r) h mix Tryz.func5 fun r h=>?_
unfold ZgE at h
refine Zf ?_
refine rg ?_
refine rg ?_
refine rg ?_
refine aC h (Zmd _) fun r1 h=>?_
refine rg ?_
refine ZF (M:=([(⟨1,(⟨#[]⟩:ByteArray),(⟨#[]⟩:ByteArray),(⟨0,(⟨#[65]⟩:ByteArray)⟩:Title),(⟨0,(⟨#[]⟩:ByteArray)⟩:Title),(⟨#[120]⟩:ByteArray),0,[]⟩:Change),(⟨7,(⟨#[97,110,110]⟩:ByteArray),(⟨#[]⟩:ByteArray),(⟨0,(⟨#[65]⟩:ByteArray)⟩:Title),(⟨0,(⟨#[]⟩:ByteArray)⟩:Title),(⟨#[]⟩:ByteArray),0,[]⟩:Change)]:List Change)) (f:=Change.cs) rfl rfl rfl rfl (Nat.le_of_ble_eq_true rfl) rfl (Zf ?_)
refine aC h (Zdt _ _) fun r2 h=>?_
refine rg ?_
refine ZF (M:=([(⟨1,(⟨#[98,111,98]⟩:ByteArray),(⟨#[110]⟩:ByteArray),(⟨0,(⟨#[65]⟩:ByteArray)⟩:Title),(⟨0,(⟨#[]⟩:ByteArray)⟩:Title),(⟨#[121]⟩:ByteArray),0,[]⟩:Change)]:List Change)) (f:=Change.cs) rfl rfl rfl rfl (Nat.le_of_ble_eq_true rfl) rfl (Zf ?_)
refine aC h (Zdt _ _) fun r3 h=>?_
refine rg ?_
refine aC h (Zh3 _ _ _) fun r4 h=>?_
refine rg ?_
refine aC h (Zlf _ _ _ _ _) fun r5 h=>?_
refine jL h (fun x11=>mkS [(0,.bool x11)] [] 2) (fun k1 h=>?_) fun x11 h=>?_
refine rg ?_
refine lM Item.cs r4 ?_
refine kS 37 h rfl (fun h=>?_) fun h=>?_
refine aI Item.cs h fun e12 h=>?_
refine ZeM (.inl rfl) rfl rfl rfl rfl rfl (fun W=>Zx6 e12 (⟨(⟨0,(⟨#[65]⟩:ByteArray)⟩:Title),2,(⟨#[98,111,98]⟩:ByteArray),(⟨#[110]⟩:ByteArray),0⟩:Item) W) (Zf ?_)
refine kS 45 h rfl (fun h=>?_) fun h=>?_
refine aC h (Zh3 _ _ _) fun r13 h=>?_
refine lM Item.cs r13 ?_
refine kS 51 h rfl (fun h=>?_) fun h=>?_
refine aC h (ZiP _ _ _) fun r14 h=>?_
refine lM Item.cs r14 ?_
refine kS 57 h rfl (fun h=>?_) fun h=>?_
refine kS 61 h rfl (fun h=>?_) fun h=>?_
refine lM Edit.cs r5.1 ?_
refine kS 66 h rfl (fun h=>?_) fun h=>?_
refine aN h (Zfd _ _) fun r15 h=>?_
refine ZF (M:=([(⟨0,(⟨#[65]⟩:ByteArray)⟩:Title)]:List Title)) (f:=Title.cs) rfl rfl rfl rfl (Nat.le_of_ble_eq_true rfl) rfl (Zf ?_)
refine aL h (ZgD _ _) fun r16 h=>?_
exact jn r16 h (sR [])
iterate 5 refine Zg rfl (Zf ?_)
exact jn false h (sR [])
iterate 8 refine Zg rfl (Zf ?_)
exact jn false h (sR [])
iterate 10 refine Zg rfl (Zf ?_)
exact jn false h (sR [])
iterate 14 refine Zg rfl (Zf ?_)
exact jn false h (sR [])
iterate 18 refine Zg rfl (Zf ?_)
exact jn false h (sR [])
iterate 24 refine Zg rfl (Zf ?_)
exact jn false h (sR [])
cases h
exact rQ}
def Zey (p0:List Int) (p1:List Int):Option State:=(Zir p0).bind fun r1=>(Zi2 p1).bind fun r2=>(Zz r2 7).bind fun r3=>ZE Zaq (fun f7 ((x92,x93,x94,x95,x96,x97,x98,x99,x100,x101,x102,x103):Int×Int×Int×(List Stored)×(List Stored)×(List Proposal)×Int×(List Watch)×(List Last)×(List Int)×Int×Int)=>if (decide (0<x92)) then letk (fun (x127:Int) (x128:Int) (x129:List Stored) (x130:List Stored) (x131:List Proposal) (x132:Int) (x133:List Watch) (x134:List Last) (x135:List Int) (x136:Int) (x137:Int)=>f7 ((w64 (x92-1)),x127,x128,x129,x130,x131,x132,x133,x134,x135,x136,x137)) fun k8=>(Zz (⟨x101,x102,x103⟩:SrcF) 3).bind fun r138=>(atI ([(⟨#[97,110,110]⟩:ByteArray),(⟨#[98,111,98]⟩:ByteArray),(⟨#[99,121]⟩:ByteArray)]:List ByteArray) r138.1).bind fun c139=>(ZfK r138.2).bind fun r140=>(Zay (⟨x93,x94,x95,x96,x97,x98,x99,x100⟩:State) [(⟨7,c139,(⟨#[]⟩:ByteArray),r140.1,(⟨0,(⟨#[]⟩:ByteArray)⟩:Title),(⟨#[]⟩:ByteArray),0,[]⟩:Change)]).bind fun r141=>if (decide (r141.2=0)) then k8 r141.1.seq r141.1.clock r141.1.pages r141.1.gone r141.1.proposals r141.1.proposed r141.1.watches r141.1.lasts r140.2.l r140.2.pos r140.2.seed else k8 x93 x94 x95 x96 x97 x98 x99 x100 r140.2.l r140.2.pos r140.2.seed else (some (⟨x93,x94,x95,x96,x97,x98,x99,x100⟩:State):Option State)) (r3.1,r1.seq,r1.clock,r1.pages,r1.gone,r1.proposals,r1.proposed,r1.watches,r1.lasts,r3.2.l,r3.2.pos,r3.2.seed)
theorem Znb (p0:List Int) (p1:List Int) (r:State) (h:Zey p0 p1=some r):Zb Tryz.prog 4 [.sl (List.map csI p0),.sl (List.map csI p1)] (r.pv):=by{
refine cF (fun r=>r.pv) h mix Tryz.func4 fun r h=>?_
unfold Zey at h
refine Zf ?_
refine rg ?_
refine rg ?_
refine aC h (ZrI _) fun r1 h=>?_
refine aN h (Zn2 _) fun r2 h=>?_
refine rg ?_
refine aO h (ZB _ _) fun r3 h=>?_
refine bl ?_
refine Zk h fun f7 mf7 hf7 h=>?_
refine Zi (α:=Nat×(Int×Int×Int×(List Stored)×(List Stored)×(List Proposal)×Int×(List Watch)×(List Last)×(List Int)×Int×Int)) (fun a _=>mkS [(4,.ptr 4 (1,4) 0),(5,.ptr 5 (1,5) 0),(6,.ptr 13 (1,13) 0),(7,.int .i64 a.2.1)] [(4,some ((1,4),.box [.int .i64 0,.int .i64 0,.nil,.nil,.nil,.int .i64 0,.nil,.nil])),(5,some ((1,5),.box [.int .i64 a.2.2.1,.int .i64 a.2.2.2.1,.sl (List.map Stored.cs a.2.2.2.2.1),.sl (List.map Stored.cs a.2.2.2.2.2.1),.sl (List.map Proposal.cs a.2.2.2.2.2.2.1),.int .i64 a.2.2.2.2.2.2.2.1,.sl (List.map Watch.cs a.2.2.2.2.2.2.2.2.1),.sl (List.map Last.cs a.2.2.2.2.2.2.2.2.2.1)])),(13,some ((1,13),.box [.sl (List.map csI a.2.2.2.2.2.2.2.2.2.2.1),.int .i64 a.2.2.2.2.2.2.2.2.2.2.2.1,.int .u64 a.2.2.2.2.2.2.2.2.2.2.2.2]))] 2) (fun a=>ZE a.1 f7 a.2=some r) (fun a=>a.1) (mf7,r3.1,r1.seq,r1.clock,r1.pages,r1.gone,r1.proposals,r1.proposed,r1.watches,r1.lasts,r3.2.l,r3.2.pos,r3.2.seed) 2 h (sR [(4,1,0),(5,2,4),(13,2,3)]) (fun a _ h=>?_)
obtain ⟨mf7,x92,x93,x94,x95,x96,x97,x98,x99,x100,x101,x102,x103⟩:=a
obtain ⟨mf7,rfl,h⟩:=Zl hf7 h
dsimp only at h ⊢
refine Zf ?_
refine rg ?_
refine cS h rfl (fun h=>?_) fun h=>?_
refine Zag h fun k8 hk8 h=>?_
refine Zax (α:=Int×Int×(List Stored)×(List Stored)×(List Proposal)×Int×(List Watch)×(List Last)×(List Int)×Int×Int) (fun a _=>mkS [(4,.ptr 4 (1,4) 0),(5,.ptr 5 (1,5) 0),(6,.ptr 13 (1,13) 0),(7,.int .i64 x92)] [(4,some ((1,4),.box [.int .i64 0,.int .i64 0,.nil,.nil,.nil,.int .i64 0,.nil,.nil])),(5,some ((1,5),.box [.int .i64 a.1,.int .i64 a.2.1,.sl (List.map Stored.cs a.2.2.1),.sl (List.map Stored.cs a.2.2.2.1),.sl (List.map Proposal.cs a.2.2.2.2.1),.int .i64 a.2.2.2.2.2.1,.sl (List.map Watch.cs a.2.2.2.2.2.2.1),.sl (List.map Last.cs a.2.2.2.2.2.2.2.1)])),(13,some ((1,13),.box [.sl (List.map csI a.2.2.2.2.2.2.2.2.1),.int .i64 a.2.2.2.2.2.2.2.2.2.1,.int .u64 a.2.2.2.2.2.2.2.2.2.2]))] 2) (fun a=>k8 a.1 a.2.1 a.2.2.1 a.2.2.2.1 a.2.2.2.2.1 a.2.2.2.2.2.1 a.2.2.2.2.2.2.1 a.2.2.2.2.2.2.2.1 a.2.2.2.2.2.2.2.2.1 a.2.2.2.2.2.2.2.2.2.1 a.2.2.2.2.2.2.2.2.2.2=some r) (Zf ?_) (fun a _ h=>?_)
refine bl ?_
refine rg ?_
refine aO h (ZB _ _) fun r138 h=>?_
obtain ⟨c139,h49,h⟩:=bnd h
refine Zpy (p:=PV.str) rfl h49 rfl rfl rfl rfl rfl (Zf ?_)
refine aO h (Zi3 _) fun r140 h=>?_
refine ZF (M:=([(⟨7,c139,(⟨#[]⟩:ByteArray),r140.1,(⟨0,(⟨#[]⟩:ByteArray)⟩:Title),(⟨#[]⟩:ByteArray),0,[]⟩:Change)]:List Change)) (f:=Change.cs) rfl rfl rfl rfl (Nat.le_of_ble_eq_true rfl) rfl (Zf ?_)
refine aC h (Zdt _ _) fun r141 h=>?_
refine rg ?_
refine cS h rfl (fun h=>?_) fun h=>?_
refine rg ?_
exact jn (r141.1.seq,r141.1.clock,r141.1.pages,r141.1.gone,r141.1.proposals,r141.1.proposed,r141.1.watches,r141.1.lasts,r140.2.l,r140.2.pos,r140.2.seed) h (sR [(4,1,4),(5,1,5),(13,1,13)])
exact jn (x93,x94,x95,x96,x97,x98,x99,x100,r140.2.l,r140.2.pos,r140.2.seed) h (sR [(4,1,4),(5,1,5),(13,1,13)])
obtain ⟨x127,x128,x129,x130,x131,x132,x133,x134,x135,x136,x137⟩:=a
subst hk8
dsimp only at h ⊢
refine Zf ?_
refine rg ?_
exact rn (mf7,(w64 (x92-1)),x127,x128,x129,x130,x131,x132,x133,x134,x135,x136,x137) h (sR [(4,1,4),(5,1,5),(13,1,13)])
refine rg ?_
cases h
exact rQ}
theorem ZtM:ZgE=some true:=by
 unfold ZgE
 kernel_rfl
theorem ZtN {w:Int} (h0:0<=w) (h1:w<4) {R:Bool->Prop} {f:ByteArray->Option Bool} (k:∀ u ∈ usersG,Tot (f u) R):Tot ((atI usersG w).bind f) R:=
 Zq h0 h1 fun u hu _=>k u hu
theorem ZtO (l m:List Int) (hl:l.length<=9223372036854775807) (hm:m.length<=9223372036854775807):Tot (Zey l m) fun s=>ZlE s 30:=by{
unfold Zey
refine Zh (ZwH madeW l hl) fun s hs=>?_
refine Zh (Zwk m hm) fun x hx=>?_
refine Zh (ZcB x 7 hx (by omega) (by omega)) fun q hq=>?_
refine Zr (fun a:Int×Int×Int×List Stored×List Stored×List Proposal×Int×List Watch×List Last×List Int×Int×Int=>(0<=a.1/\a.1<=7)/\(⟨a.2.2.2.2.2.2.2.2.2.1,a.2.2.2.2.2.2.2.2.2.2.1,a.2.2.2.2.2.2.2.2.2.2.2⟩:SrcF).ok/\ZlE ⟨a.2.1,a.2.2.1,a.2.2.2.1,a.2.2.2.2.1,a.2.2.2.2.2.1,a.2.2.2.2.2.2.1,a.2.2.2.2.2.2.2.1,a.2.2.2.2.2.2.2.2.1⟩ (27-a.1)) (fun a=>a.1.toNat) ⟨⟨by dsimp only;omega,by dsimp only;omega⟩,hq.2,madeW.mono _ _ _ hs (by first | omega | (dsimp only;omega))⟩ (by first | omega | (dsimp only;omega)) ?_
rintro ⟨n,sq,cl,pg,gn,pr,pd,wt,ls,li,ps,sd⟩ rec ⟨⟨h1,h2⟩,h3,h4⟩ ih
dsimp only at h1 h2 h3 h4
refine Zd (fun hlt=>?_) fun hlt=>Zc (madeW.mono _ _ _ h4 (by omega))
refine Zap ?_
refine Zh (ZcB _ 3 h3 (by omega) (by omega)) fun a ha=>?_
refine Zq ha.1.1 (by simpa using ha.1.2) fun c hc _=>?_
refine Zh (ZpW _ ha.2) fun t ht=>?_
rw [Zn]
refine Zh (madeW.step _ _ _ h4 (by omega) (fun d hd=>?_) (by simp) (by simp)) fun r hr=>?_
simp at hd
subst hd
exact ⟨⟨Zii _ ht.1,ZdZ,by simp,by simp,by simp,show (⟨#[]⟩:ByteArray).size<=300 by decide⟩,⟨fun _ _=>ht.1,fun e=>by cases e⟩⟩
refine Zd (fun h0=>?_) fun _=>?_
exact ih _ ⟨⟨by dsimp only;omega,by dsimp only;omega⟩,ht.2,madeW.mono _ _ _ (hr h0) (by first | omega | (dsimp only;omega))⟩ (by first | omega | (dsimp only;omega))
exact ih _ ⟨⟨by dsimp only;omega,by dsimp only;omega⟩,ht.2,madeW.mono _ _ _ h4 (by first | omega | (dsimp only;omega))⟩ (by first | omega | (dsimp only;omega))}
def ZhL (l:List Stored) (t:Title):Stored×Bool:=match l.find? (fun p=>decide (p.title=t)) with | some p=>(p,true) | none=>(⟨⟨0,⟨#[]⟩⟩,[]⟩,false)
theorem Zg5 (l:List Stored) (t:Title):(ZhL l t).1.history=ZaV l t:=by
 unfold ZhL ZaV
 cases l.find? (fun p=>decide (p.title=t))<;>rfl
theorem ZqF (l:List Stored) (t:Title):(ZhL l t).2=l.any (fun p=>decide (p.title=t)):=by{
unfold ZhL
cases h:l.find? (fun p=>decide (p.title=t)) with
| none=>
  have:=List.find?_eq_none.1 h
  exact (List.any_eq_false.2 this).symm
| some p=>
  have h1:=List.mem_of_find?_eq_some h
  have h2:=List.find?_some h
  exact (List.any_eq_true.2 ⟨p,h1,h2⟩).symm}
theorem ZwQ {l:List Stored} {t:Title} {i:Nat} {e:Stored} (h:∀ (j:Nat) p,j<i->l[j]? = some p->p.title≠t) (he:l[i]? = some e) (ht:e.title=t):l.find? (fun p=>decide (p.title=t))=some e:=by{
obtain ⟨hl,rfl⟩:=List.getElem?_eq_some_iff.1 he
conv=>lhs;rw [<- List.take_append_drop i l,List.drop_eq_getElem_cons hl]
rw [List.find?_append,List.find?_eq_none.2,Option.none_or,List.find?_cons_of_pos (by simpa using ht)]
intro p hp
obtain ⟨j,hj⟩:=List.getElem?_of_mem hp
have hji:=(List.getElem?_eq_some_iff.1 hj).1
rw [List.length_take] at hji
rw [List.getElem?_take_of_lt (by omega)] at hj
simpa using h j p (by omega) hj}
theorem ZsQ (s:State) (t:Title) (hl:s.pages.length<=1000000) (hh:∀ p ∈ s.pages,1<=p.history.length/\p.history.length<=1000000):Zbs s t=some (ZhL s.pages t):=by{
refine Zad ?_
unfold Zbs
refine Zr (fun i:Int=>(0<=i/\i<=(s.pages.length:Int))/\∀ (j:Nat) p,(j:Int)<i->s.pages[j]? = some p->p.title≠t) (fun i=>((s.pages.length:Int)-i).toNat) ⟨⟨by omega,by omega⟩,fun j p h=>by omega⟩ (by first | omega | (dsimp only;omega)) ?_
rintro i rec ⟨⟨h0,h1⟩,h2⟩ ih
refine Zd (fun hlt=>?_) fun hlt=>?_
refine Zq h0 hlt fun e he hg=>?_
refine Zd (fun ht=>?_) fun ht=>?_
refine Za (v:=e) ?_ (Zc ?_)
unfold ZcV
rw [ZtV _ (hh e he).1 (hh e he).2]
rfl
unfold ZhL
rw [ZwQ (fun j p hj hp=>h2 j p (by omega) hp) hg ht]
rw [Zn]
refine ih _ ⟨⟨by omega,by omega⟩,fun j p hj hp=>?_⟩ (by omega)
by_cases hji:(j:Int)<i
exact h2 j p hji hp
rw [show i.toNat=j by omega,hp] at hg
injection hg with hg
rw [hg]
exact ht
refine Zc ?_
unfold ZhL
rw [List.find?_eq_none.2]
intro p hp
obtain ⟨j,hj,rfl⟩:=List.getElem_of_mem hp
simpa using h2 j _ (by omega) (List.getElem?_eq_getElem hj)}
def Zsq (h:List Revision) (n:Int):Revision×Bool:=match h.find? (fun r=>decide (r.number=n)) with | some r=>(r,true) | none=>(⟨0,⟨#[]⟩,⟨#[]⟩,⟨#[]⟩,0,0⟩,false)
theorem ZqG {l:List Revision} {n:Int} {i:Nat} {e:Revision} (h:∀ (j:Nat) p,j<i->l[j]? = some p->p.number≠n) (he:l[i]? = some e) (ht:e.number=n):l.find? (fun p=>decide (p.number=n))=some e:=by{
obtain ⟨hl,rfl⟩:=List.getElem?_eq_some_iff.1 he
conv=>lhs;rw [<- List.take_append_drop i l,List.drop_eq_getElem_cons hl]
rw [List.find?_append,List.find?_eq_none.2,Option.none_or,List.find?_cons_of_pos (by simpa using ht)]
intro p hp
obtain ⟨j,hj⟩:=List.getElem?_of_mem hp
have hji:=(List.getElem?_eq_some_iff.1 hj).1
rw [List.length_take] at hji
rw [List.getElem?_take_of_lt (by omega)] at hj
simpa using h j p (by omega) hj}
theorem ZsR (h:List Revision) (n:Int) (hl:h.length<=1000000):ZE Zaq (fun f2 (x11:Int)=>if decide (x11<(h.length:Int))=true then (atI h x11).bind fun e15=>if decide (e15.number=n)=true then some (e15,true) else f2 (w64 (x11+1)) else some ((⟨0,(⟨#[]⟩:ByteArray),(⟨#[]⟩:ByteArray),(⟨#[]⟩:ByteArray),0,0⟩:Revision),false)) 0=some (Zsq h n):=by{
refine Zad ?_
refine Zr (fun i:Int=>(0<=i/\i<=(h.length:Int))/\∀ (j:Nat) p,(j:Int)<i->h[j]? = some p->p.number≠n) (fun i=>((h.length:Int)-i).toNat) ⟨⟨by omega,by omega⟩,fun j p h=>by omega⟩ (by first | omega | (dsimp only;omega)) ?_
rintro i rec ⟨⟨h0,h1⟩,h2⟩ ih
refine Zd (fun hlt=>?_) fun hlt=>?_
refine Zq h0 hlt fun e he hg=>?_
refine Zd (fun ht=>Zc ?_) fun ht=>?_
unfold Zsq
rw [ZqG (fun j p hj hp=>h2 j p (by omega) hp) hg ht]
rw [Zn]
refine ih _ ⟨⟨by omega,by omega⟩,fun j p hj hp=>?_⟩ (by omega)
by_cases hji:(j:Int)<i
exact h2 j p hji hp
rw [show i.toNat=j by omega,hp] at hg
injection hg with hg
rw [hg]
exact ht
refine Zc ?_
unfold Zsq
rw [List.find?_eq_none.2]
intro p hp
obtain ⟨j,hj,rfl⟩:=List.getElem_of_mem hp
simpa using h2 j _ (by omega) (List.getElem?_eq_getElem hj)}
def Zke (h:List Revision) (n:Int):ByteArray×Bool:=if n=0 then (⟨#[]⟩,true) else ((Zsq h n).1.text,(Zsq h n).2)
theorem Zi9 {l:List Stored} {m:Nat} (h:∀ p ∈ l,p.history.length<=m) (t:Title):(ZaV l t).length<=m:=by{
unfold ZaV
cases hf:l.find? (fun p=>decide (p.title=t)) with
| none=>exact Nat.zero_le _
| some p=>exact h p (List.mem_of_find?_eq_some hf)}
theorem Zn7 {s:State} (hl:s.pages.length<=1000000) (hh:∀ p ∈ s.pages,1<=p.history.length/\p.history.length<=1000000) (t:Title) (n:Int):Za1 s t n=some (Zke (ZaV s.pages t) n):=by{
unfold Za1 Zke
by_cases h:n=0
rw [if_pos (decide_eq_true h),if_pos h]
rw [if_neg (by simpa using h),if_neg h]
unfold Zdy
rw [ZsQ s t hl hh,Option.bind_some,Zg5]
have:=Zi9 (fun p hp=>(hh p hp).2) t
have e:=ZsR (ZaV s.pages t) n this
rw [e]
rfl}
def Zrp (may there:Bool) (h:List Revision) (a b:Int):Option (List Edit×Int):=if may=false then some ([],10) else if (there&&(Zke h a).2&&(Zke h b).2)=true then (ZcU (Zke h a).1 (Zke h b).1).bind fun r=>some (r,0) else some ([],4)
theorem Zrq {s:State} {m:Int} {u:ByteArray} {P:Policy} {G:List ByteArray} (hs:MadeK s m) (hR:RdAt s u P G) (hu:u ∈ usersG) (t:Title) (ht:t ∈ ZcA) (a b:Int):Zfy s u t a b=Zrp (Zjf P G 1 t) (s.pages.any (fun p=>decide (p.title=t))) (ZaV s.pages t) a b:=by{
obtain ⟨t0,_,hv⟩:=hs.1.ex
have hl:=hv.plen
have hh:=ZtW hv
have hr:=(Zkn _ hR.pol).1
have hval:t.valid=true:=(show ∀ t ∈ ZcA,t.valid=true by decide +kernel) t ht
have hname:u=⟨#[]⟩\/Za0 u=true:=(show ∀ u ∈ usersG,u=⟨#[]⟩\/Za0 u=true by decide +kernel) u hu
unfold Zfy letk Zdh Zb0
rw [hR.prog,ZsQ s t (by omega) hh,Zn7 (by omega) hh,Zn7 (by omega) hh,hval]
simp only [Option.bind_some]
have e1:Zbb P u=some G:=hR.gprog
have e2:Zdo P G 1 t=some (Zjf P G 1 t):=by unfold Zdo;rw [if_pos (by omega)]
rw [e1]
simp only [Option.bind_some]
rw [e2,ZqF]
simp only [Option.bind_some]
unfold Zrp
have hcond:∀ (X Y:Option (List Edit×Int)),(if (!decide (u=(⟨#[]⟩:ByteArray)))=true then (if (!Za0 u)=true then X else Y) else Y)=Y:=fun X Y=>by
 rcases hname with h | h
 simp [h]
 simp [h]
cases Zjf P G 1 t<;>cases s.pages.any (fun p=>decide (p.title=t))<;>cases (Zke (ZaV s.pages t) a).2<;>cases (Zke (ZaV s.pages t) b).2<;>simp
all_goals
 rcases hname with h | h<;>simp [h]}
theorem Zll {s:State} (hs:s.pages.Pairwise fun a b=>tlt a.title b.title) (t:Title) (hl:s.pages.length<=1000000):ZbY s t=some (ZhL s.pages t):=by{
refine Zad ((ZtT s t hl).mono fun r hr=>?_)
unfold ZhL
rcases hr with ⟨rfl,h⟩ | ⟨h1,h2,h3⟩
rw [List.find?_eq_none.2 (fun p hp=>by simpa using h p hp)]
cases hf:s.pages.find? (fun p=>decide (p.title=t)) with
| none=>
  have:=List.find?_eq_none.1 hf _ h2
  simp [h3] at this
| some p=>
  have e1:=List.mem_of_find?_eq_some hf
  have e2:=of_decide_eq_true (p:=p.title=t) (List.find?_some (p:=fun p:Stored=>decide (p.title=t)) hf)
  have:=Zx8 hs e1 h2 (e2.trans h3.symm)
  rw [this]
  exact Prod.ext rfl h1}
theorem Znq {s:State} (hs:s.pages.Pairwise fun a b=>tlt a.title b.title) (t:Title) (hl:s.pages.length<=1000000) (hh:(ZaV s.pages t).length<=1000000) (n:Int):ZdW s t n=some (Zsq (ZaV s.pages t) n):=by{
refine Zad ?_
unfold ZdW
refine Za (Zll hs t hl) ?_
rw [Zg5]
generalize ZaV s.pages t=h at hh
refine Zr (fun i:Int=>(0<=i/\i<=(h.length:Int))/\∀ (j:Nat) p,(j:Int)<i->h[j]? = some p->p.number≠n) (fun i=>((h.length:Int)-i).toNat) ⟨⟨by omega,by omega⟩,fun j p h=>by omega⟩ (by first | omega | (dsimp only;omega)) ?_
rintro i rec ⟨⟨h0,h1⟩,h2⟩ ih
refine Zd (fun hlt=>?_) fun hlt=>?_
refine Zq h0 hlt fun e he hg=>?_
refine Zd (fun ht=>?_) fun ht=>?_
refine Zq h0 hlt fun e' _ hg'=>Zc ?_
rw [hg] at hg'
injection hg' with hg'
subst hg'
unfold Zsq
rw [ZqG (fun j p hj hp=>h2 j p (by omega) hp) hg ht]
rw [Zn]
refine ih _ ⟨⟨by omega,by omega⟩,fun j p hj hp=>?_⟩ (by omega)
by_cases hji:(j:Int)<i
exact h2 j p hji hp
rw [show i.toNat=j by omega,hp] at hg
injection hg with hg
rw [hg]
exact ht
refine Zc ?_
unfold Zsq
rw [List.find?_eq_none.2]
intro p hp
obtain ⟨j,hj,rfl⟩:=List.getElem_of_mem hp
simpa using h2 j _ (by omega) (List.getElem?_eq_getElem hj)}
structure HistN (h:List Revision):Prop where
 len:h.length<=40
 num:∀ (i:Nat) r,h[i]? = some r->r.number=(i:Int)+1
 text:∀ r ∈ h,r.text.size<=8192
theorem Zzi {t0:ByteArray} {q:Int} {s:State} (hv:VS t0 q s) (t:Title):HistN (ZaV s.pages t):=by{
unfold ZaV
cases hf:s.pages.find? (fun p=>decide (p.title=t)) with
| none=>exact ⟨Nat.zero_le _,fun i r h=>(by simp at h),fun r h=>(by cases h)⟩
| some p=>
  have hp:=(hv.pages p (List.mem_of_find?_eq_some hf)).hist
  exact ⟨hp.len2,hp.num,fun r hr=>(hp.all r hr).text⟩}
theorem ZiO {h:List Revision} (hN:HistN h) (n:Int):(Zke h n).1=(Zsq h n).1.text/\(Zke h n).1.size<=8192:=by{
have hr:(Zsq h n).1.text.size<=8192:=by
 unfold Zsq
 cases hf:h.find? (fun r=>decide (r.number=n)) with
 | none=>decide
 | some r=>exact hN.text r (List.mem_of_find?_eq_some hf)
unfold Zke
split
rename_i h0
refine ⟨?_,by decide⟩
unfold Zsq
rw [List.find?_eq_none.2]
intro r hm
obtain ⟨j,hj⟩:=List.getElem?_of_mem hm
have:=hN.num j r hj
simp
omega
exact ⟨rfl,hr⟩}
theorem Zj1 (s:State) (u:ByteArray) (hl:s.watches.length<=1000):Zdd s u=some (ZZ s.watches u):=by{
refine Zad ?_
unfold Zdd
refine Zr (fun a:Int×List Title=>∃ n:Nat,a.1=n/\n<=s.watches.length/\a.2=ZZ (s.watches.take n) u) (fun a=>((s.watches.length:Int)-a.1).toNat) ⟨0,rfl,Nat.zero_le _,rfl⟩ (by first | omega | (dsimp only;omega)) ?_
rintro ⟨i,l⟩ rec ⟨n,e1,hn,hl2⟩ ih
dsimp only at e1 hl2 ⊢
subst e1
have hll:l.length<=n:=by
 rw [hl2]
 unfold ZZ
 rw [List.length_map]
 exact Nat.le_trans (List.length_filter_le ..) (by rw [List.length_take];omega)
refine Zd (fun hlt=>?_) fun hlt=>?_
refine Zw (fun k=>∀ l':List Title,l'=ZZ (s.watches.take (n+1)) u->Tot (k l') fun r=>r=ZZ s.watches u) (fun l' hl'=>ih _ ⟨n+1,(Zn).trans (by omega),by omega,hl'⟩ (by dsimp only;rw [Zn];omega)) fun k hk=>?_
refine Zq (by omega) hlt fun e _ he=>?_
rw [Int.toNat_natCast] at he
have htk:ZZ (s.watches.take (n+1)) u=ZZ (s.watches.take n) u++ZZ [e] u:=by
 unfold ZZ
 rw [List.take_add_one,he,List.filter_append,List.map_append]
 rfl
refine Zd (fun hu=>?_) fun hu=>hk _ ?_
refine Za (Zan2 he) ?_
refine ZC 2000 (by simp;omega) (by decide) (by decide) ?_
refine hk _ ?_
rw [htk,hl2]
unfold ZZ
simp [hu]
rw [htk,hl2]
unfold ZZ
simp [hu]
refine Zc ?_
have:n=s.watches.length:=by omega
subst this
rw [hl2,List.take_length]}
def toN (e:Ent):Num:=⟨e.item,e.seq⟩
theorem Zv5 (a b:Ent):Zfp a b=some (nLt (toN a) (toN b)):=by{
have hk:nLt (toN a) (toN b)=decide (a.seq<b.seq\/(a.seq=b.seq/\(tlt a.item.title b.item.title\/(a.item.title=b.item.title/\a.item.number<b.item.number)))):=rfl
rw [hk]
refine Zad ?_
unfold Zfp
refine Zak (fun h=>Zc ?_) fun h=>?_
apply decide_eq_decide.2
constructor
exact .inl
rintro (h2 | ⟨h2,_⟩)
exact h2
exact absurd h2 h
refine Za (v:=Title.cmp a.item.title b.item.title) rfl (Zak (fun h2=>Zc ?_) fun h2=>Zc ?_)
apply decide_eq_decide.2
constructor
exact fun h3=>.inr ⟨h,.inl h3⟩
rintro (h3 | ⟨_,h3 | ⟨h3,_⟩⟩)
omega
exact h3
exact absurd ((ZzJ _ _).2 h3) h2
have he:=(ZzJ _ _).1 h2
apply decide_eq_decide.2
constructor
exact fun h3=>.inr ⟨h,.inr ⟨he,h3⟩⟩
rintro (h3 | ⟨_,h3 | ⟨_,h3⟩⟩)
omega
have:Title.cmp a.item.title b.item.title<0:=h3
omega
exact h3}
theorem Zye (T:List Title) (h:T.Nodup) (n:Nat) (hn:n<T.length) (hl:T.length<=1000000):Zgz T (n:Int)=some true:=by{
refine Zad ?_
unfold Zgz
refine Zr (fun i:Int=>0<=i/\i<=(n:Int)) (fun i=>((n:Int)-i).toNat) ⟨Int.le_refl _,by omega⟩ (by omega) ?_
rintro i rec ⟨h0,h1⟩ ih
refine Zd (fun hlt=>?_) fun _=>Zc rfl
obtain ⟨k,rfl⟩:∃ k:Nat,i=k:=⟨i.toNat,by omega⟩
refine Za (Zan2 (List.getElem?_eq_getElem (show k<T.length by omega))) (Za (Zan2 (List.getElem?_eq_getElem hn)) (Zd (fun e=>?_) fun _=>?_))
exact absurd ((List.getElem_inj h).1 e) (by omega)
rw [Zn]
exact ih _ ⟨by omega,by omega⟩ (by omega)}
structure EntsR (l:List Ent) (M:List Num):Prop where
 perm:(l.map toN).Perm M
 srt:Srt nLt (l.map toN)
theorem EntsR.ins {A B:List Ent} {M:List Num} {e:Ent} (h:EntsR (A++B) M) (h1:∀ P u,A=P ++ [u]->nLt (toN e) (toN u)=false) (h2:∀ v Q,B=v::Q->nLt (toN e) (toN v)=true):EntsR (A ++ [e]++B) (M ++ [toN e]):=by{
obtain ⟨hp,hs⟩:=h
rw [List.map_append] at hp hs
have e1:(A ++ [e]++B).map toN=A.map toN++toN e::B.map toN:=by simp
refine ⟨?_,?_⟩
rw [e1]
refine List.perm_middle.trans ?_
exact ((hp.cons _).trans (List.perm_append_singleton _ _).symm)
rw [e1]
refine ZmH nLt_ord hs (fun P u hP=>?_) fun v Q hQ=>?_
rcases List.eq_nil_or_concat A with rfl | ⟨P',u',rfl⟩
simp at hP
rw [List.concat_eq_append,List.map_append] at hP
have:=List.append_inj_right' hP (by simp)
injection this with this
rw [<- this]
exact h1 P' u' List.concat_eq_append
cases B with
| nil=>cases hQ
| cons v' Q'=>
  injection hQ with hv hq
  rw [<- hv]
  exact nLt_ord.asym _ _ (h2 v' Q' rfl)}
theorem ZmE {s:State} {u:ByteArray} {P:Policy} {G:List ByteArray} (h:Rd2 s u P G) (hs:s.pages.Pairwise fun a b=>tlt a.title b.title) (hl:s.pages.length<=200) (hh:∀ p ∈ s.pages,1<=p.history.length/\p.history.length<=40) (T:List Title) (hn:T.Nodup) (hT:T.length<=12) :
  Tot (Zfq s u T) fun r=>∃ L:List Num,L.Perm (ents s.pages (rdB s.pages P G) T)/\Srt nLt L/\r=L.map (·.item):=by{
unfold Zfq
refine Zr (fun a:List Ent×Int=>∃ n:Nat,a.2=n/\n<=T.length/\a.1.length<=40 * n/\EntsR a.1 (ents s.pages (rdB s.pages P G) (T.take n))) (fun a=>((T.length:Int)-a.2).toNat) ⟨0,rfl,Nat.zero_le _,by simp,⟨.refl _,.nil⟩⟩ (by first | omega | (dsimp only;omega)) ?_
rintro ⟨l,i⟩ rec ⟨n,e1,hnT,hlen,hents⟩ ih
dsimp only at e1 hlen hents ⊢
subst e1
refine Zd (fun hlt=>?_) fun hlt=>?_
have hlt':n<T.length:=by omega
have htk:T.take (n+1)=T.take n ++ [T[n]]:=List.take_succ_eq_append_getElem hlt'
have htn:T[n]? = some T[n]:=List.getElem?_eq_getElem hlt'
generalize T[n]=t at htk htn
refine Za (Zan2 htn) (Za (Zll hs t (by omega)) ?_)
have hti:∀ r ∈ (ZhL s.pages t).1.history,(ZhL s.pages t).1.title=t:=fun r hr=>by
 unfold ZhL at hr ⊢
 cases hf:s.pages.find? (fun p=>decide (p.title=t)) with
 | none=>rw [hf] at hr;cases hr
 | some p=>exact of_decide_eq_true (p:=p.title=t) (List.find?_some (p:=fun p:Stored=>decide (p.title=t)) hf)
have hhl:=Zi9 (fun p hp=>(hh p hp).2) t
rw [<- Zg5] at hhl
have hset:ents s.pages (rdB s.pages P G) (T.take (n+1))=ents s.pages (rdB s.pages P G) (T.take n)++(if rdB s.pages P G t=true then (ZhL s.pages t).1.history.map (Zo8 t) else []):=by
 rw [htk,Zg5]
 unfold ents
 rw [List.flatMap_append]
 simp [Zo9]
generalize hH:(ZhL s.pages t).1.history=H at *
generalize (ZhL s.pages t).1.title=pt at *
refine Zr (fun a:List Ent×Int=>∃ k:Nat,a.2=k/\k<=H.length/\a.1.length<=40 * n+k/\EntsR a.1 (ents s.pages (rdB s.pages P G) (T.take n)++(if rdB s.pages P G t=true then (H.take k).map (Zo8 t) else []))/\(k=0\/rdB s.pages P G t=true)) (fun a=>((H.length:Int)-a.2).toNat) ⟨0,rfl,Nat.zero_le _,by dsimp only;omega,by
 dsimp only
 rw [List.take_zero,List.map_nil]
 simpa using hents,.inl rfl⟩ (by first | omega | (dsimp only;omega)) ?_
rintro ⟨l2,kk⟩ rec2 ⟨k,e1,hk,hlen2,hents2,hrd⟩ ih2
dsimp only at e1 hlen2 hents2 ⊢
subst e1
refine Zw (fun q=>(k<H.length->rdB s.pages P G t=true->Tot (q true) fun r=>∃ L:List Num,L.Perm (ents s.pages (rdB s.pages P G) T)/\Srt nLt L/\r=L.map (·.item))/\((k=H.length\/rdB s.pages P G t=false)->Tot (q false) fun r=>∃ L:List Num,L.Perm (ents s.pages (rdB s.pages P G) T)/\Srt nLt L/\r=L.map (·.item))) ⟨fun hkl hr=>?_,fun hend=>?_⟩ fun q hq=>?_
refine ZH rfl ?_
have hHk:H[k]? = some H[k]:=List.getElem?_eq_getElem hkl
have hmem:H[k] ∈ H:=List.mem_of_getElem? hHk
generalize H[k]=rv at hHk hmem
refine Za (Zan2 hHk) ?_
have hpt:pt=t:=hti rv hmem
subst hpt
generalize hE:(⟨rv.seq,⟨pt,rv.number,rv.user,rv.note,rv.minute⟩⟩:Ent)=E
have hEn:toN E=Zo8 pt rv:=by rw [<- hE];rfl
refine Zr (fun m:Int=>∃ A B,l2=A++B/\m=(A.length:Int)/\∀ P u,A=P ++ [u]->nLt (toN E) (toN u)=false) (fun m=>l2.length-m.toNat) ⟨[],l2,rfl,rfl,fun P u h=>by simp at h⟩ (by omega) ?_
rintro m rec3 ⟨A,B,hAB,rfl,hlast⟩ ih3
have ll:l2.length=A.length+B.length:=by rw [hAB,List.length_append]
refine Zw (fun q=>(∀ v Q,B=v::Q->nLt (toN E) (toN v)=false->Tot (q true) fun r=>∃ L:List Num,L.Perm (ents s.pages (rdB s.pages P G) T)/\Srt nLt L/\r=L.map (·.item))/\((∀ v Q,B=v::Q->nLt (toN E) (toN v)=true)->Tot (q false) fun r=>∃ L:List Num,L.Perm (ents s.pages (rdB s.pages P G) T)/\Srt nLt L/\r=L.map (·.item))) ⟨fun v Q hB hv=>?_,fun hB=>?_⟩ fun q hq=>?_
refine ZH rfl ?_
rw [Zn]
subst hB
refine ih3 _ ⟨A ++ [v],Q,by rw [hAB];simp,by simp,fun P' u' hP=>?_⟩ (by simp only [List.length_cons] at ll;omega)
have:=List.append_inj_right' hP (by simp)
injection this with this
rw [<- this]
exact hv
refine Zs rfl ?_
have d1:Zgj l2 0 (A.length:Int)=some A:=by
 unfold Zgj
 rw [if_pos ⟨by omega,by omega,by omega⟩,hAB]
 simp
have d2:Zgj l2 (A.length:Int) (l2.length:Int)=some B:=by
 unfold Zgj
 rw [if_pos ⟨by omega,by omega,by omega⟩,hAB]
 simp
 exact List.take_of_length_le (by omega)
refine Za d1 ?_
refine ZC 1000 (by simp;omega) (by decide) (by decide) ?_
refine ZC 1000 (by simp;omega) (by decide) (by decide) ?_
refine Za d2 ?_
refine ZC 1000 (by simp;omega) (by decide) (by decide) ?_
rw [List.nil_append,Zn]
have hin:=EntsR.ins (hAB ▸ hents2) hlast hB
refine ih2 _ ⟨k+1,by dsimp only;omega,hkl,by dsimp only;simp;omega,?_,.inr hr⟩ (by dsimp only;omega)
dsimp only
rw [if_pos hr] at hin ⊢
rw [List.take_add_one,hHk,List.map_append,<- List.append_assoc]
rw [hEn] at hin
exact hin
refine Zd (fun hm=>?_) fun hm=>hq.2 fun v Q hB=>by rw [hB] at ll;simp only [List.length_cons] at ll;omega
cases B with
| nil=>simp only [List.length_nil] at ll;omega
| cons v Q=>
  refine Za (by rw [hAB];exact Zb9 A Q v rfl) (Za (Zv5 E v) ?_)
  cases hb:nLt (toN E) (toN v)
  exact hq.1 v Q rfl hb
  exact hq.2 fun v' Q' hB=>by injection hB with h1 h2;rw [<- h1];exact hb
refine Zs rfl ?_
rw [Zn]
refine ih _ ⟨n+1,by dsimp only;omega,by omega,by dsimp only;omega,?_⟩ (by dsimp only;omega)
dsimp only
rw [hset]
rcases hend with he | he
rw [he,List.take_length] at hents2
exact hents2
rw [if_neg (by rw [he];simp)] at hents2 ⊢
exact hents2
refine Zd (fun hkl=>?_) fun hkl=>hq.2 (.inl (by omega))
refine Za (Zye T hn n hlt' (by omega)) (ZH rfl ?_)
refine Za (Zan2 htn) (Za (Zo6 h (by omega) t) ?_)
cases hr:rdB s.pages P G t
exact hq.2 (.inr hr)
exact hq.1 (by omega) hr
have hnn:n=T.length:=by omega
subst hnn
rw [List.take_length] at hents
refine Zr (fun a:Int×List Item=>∃ n:Nat,a.1=n/\n<=l.length/\a.2=(l.take n).map (·.item)) (fun a=>((l.length:Int)-a.1).toNat) ⟨0,rfl,Nat.zero_le _,by simp⟩ (by first | omega | (dsimp only;omega)) ?_
rintro ⟨i,o⟩ rec2 ⟨k,e1,hk,e2⟩ ih2
dsimp only at e1 e2 ⊢
subst e1 e2
refine Zd (fun hlt2=>?_) fun hlt2=>Zc ?_
have hlk:l[k]? = some l[k]:=List.getElem?_eq_getElem (by omega)
refine Za (Zan2 hlk) ?_
refine ZC 1000 (by simp;omega) (by decide) (by decide) ?_
rw [Zn]
refine ih2 _ ⟨k+1,by dsimp only;omega,by omega,?_⟩ (by dsimp only;omega)
dsimp only
rw [List.take_add_one,hlk,List.map_append]
rfl
have hkk:k=l.length:=by omega
subst hkk
refine ⟨l.map toN,hents.perm,hents.srt,?_⟩
rw [List.take_length,List.map_map]
rfl}
def ZyO {α:Type} [DecidableEq α] (p0 p1:List α):Option Bool:=if (!decide ((p0.length:Int)=(p1.length:Int)))=true then some false else ZE Zaq (fun f2 (x18:Int)=>if decide (x18<(p0.length:Int))=true then (atI p0 x18).bind fun e25=>(atI p1 x18).bind fun e26=>if (!decide (e25=e26))=true then some false else f2 (w64 (x18+1)) else some true) 0
theorem Zog {α:Type} [DecidableEq α] (l:List α) (hl:l.length<=1000000):ZyO l l=some true:=by{
refine Zad ?_
unfold ZyO
refine Zak (fun h=>absurd rfl h) fun _=>?_
refine Zr (fun i:Int=>0<=i/\i<=(l.length:Int)) (fun i=>((l.length:Int)-i).toNat) ⟨Int.le_refl _,by omega⟩ (by first | omega | (dsimp only;omega)) ?_
rintro i rec ⟨h0,h1⟩ ih
refine Zd (fun hlt=>?_) fun _=>Zc rfl
refine Zq h0 hlt fun x _ hx=>?_
refine Zq h0 hlt fun y _ hy=>?_
refine Zak (fun hne=>?_) fun _=>?_
rw [hx] at hy
injection hy with hy
exact absurd hy hne
rw [Zn]
exact ih _ ⟨by omega,by omega⟩ (by omega)}
theorem Zrz (l:List Title) (hl:l.length<=1000000):ZcO l l=some true:=Zog l hl
theorem Zma (l:List Item) (hl:l.length<=1000000):ZdK l l=some true:=Zog l hl
theorem ZrA (l:List ByteArray) (hl:l.length<=1000000):Zcn l l=some true:=by{
refine Zad ?_
unfold Zcn
refine Zak (fun h=>absurd rfl h) fun _=>?_
refine Zpw (fun i:Int=>0<=i/\i<=(l.length:Int)) (fun i=>((l.length:Int)-i).toNat) _ ?_ _ _ ⟨Int.le_refl _,by omega⟩ (by first | omega | (dsimp only;omega))
rintro i rec ⟨h0,h1⟩ ih
refine Zd (fun hlt=>?_) fun _=>Zc rfl
refine Zq h0 hlt fun x _ hx=>?_
refine Zq h0 hlt fun y _ hy=>?_
refine Zak (fun hne=>?_) fun _=>?_
rw [hx] at hy
injection hy with hy
exact absurd hy hne
rw [Zn]
exact ih _ ⟨by omega,by omega⟩ (by omega)}
theorem ZrB (l:List Edit) (hl:l.length<=1000000) (hh:∀ e ∈ l,e.lines.length<=1000000):ZdY l l=some true:=by{
refine Zad ?_
unfold ZdY
refine Zak (fun h=>absurd rfl h) fun _=>?_
refine Zr (fun i:Int=>0<=i/\i<=(l.length:Int)) (fun i=>((l.length:Int)-i).toNat) ⟨Int.le_refl _,by omega⟩ (by first | omega | (dsimp only;omega)) ?_
rintro i rec ⟨h0,h1⟩ ih
refine Zd (fun hlt=>?_) fun _=>Zc rfl
obtain ⟨x,hx⟩:∃ x,l[i.toNat]? = some x:=⟨_,List.getElem?_eq_getElem (by omega)⟩
have get:∀ {f:Edit->Option Bool} {Q:Bool->Prop},Tot (f x) Q->Tot ((atI l i).bind f) Q:=fun hf=>by
 refine Za ?_ hf
 have:=Zed hx
 rw [show ((i.toNat:Nat):Int)=i by omega] at this
 exact this
refine Zw (fun k=>Tot (k false) fun r=>r=true) (Zs rfl (ih _ ⟨by rw [Zn];omega,by rw [Zn];omega⟩ (by rw [Zn];omega))) fun k hk=>?_
refine get (get ?_)
refine Zak (fun h=>absurd rfl h) fun _=>?_
refine get (get ?_)
refine Za (ZrA _ (hh x (List.mem_of_getElem? hx))) ?_
exact hk}
theorem ZqN {α β:Type} {f:α->List β} {l:List α} {a:α} (h:a ∈ l):(f a).Sublist (l.flatMap f):=by
 obtain ⟨A,B,rfl⟩:=List.append_of_mem h
 rw [List.flatMap_append,List.flatMap_cons]
 exact (List.sublist_append_left _ _).trans (List.sublist_append_right _ _)
def ZdJ (p0:State) (p1:ByteArray) (p2:Title) (p3:Int) (p4:Int):Option Bool:=(Zfy p0 p1 p2 p3 p4).bind fun r1=>(Ziv p0 p1 p2 p3 p4).bind fun r2=>letk (fun (x13:Bool)=>(some x13:Option Bool)) fun k1=>(ZbV p0 p1).bind fun r14=>(Zdd p0 p1).bind fun r15=>(ZcO r14 r15).bind fun r16=>if r16 then (ZeG p0 p1 p3).bind fun r17=>(Zit p0 p1 p3).bind fun r18=>(ZdK r17 r18).bind fun r19=>if r19 then (Zdn p0 p1 p4).bind fun r20=>(Zfr p0 p1 p4).bind fun r21=>(ZdK r20 r21).bind fun r22=>if r22 then if (decide (r1.2=r2.2)) then (ZdY r1.1 r2.1).bind fun r23=>k1 r23 else k1 false else k1 false else k1 false else k1 false
theorem ZlO (p0:State) (p1:ByteArray) (p2:Title) (p3:Int) (p4:Int) (r:Bool) (h:ZdJ p0 p1 p2 p3 p4=some r):Zb Tryz.prog 6 [p0.pv,.str p1,p2.pv,.int .i64 p3,.int .i64 p4] (.bool r):=by{
refine cF (fun r=>.bool r) h mix Tryz.func6 fun r h=>?_
unfold ZdJ at h
refine Zf ?_
refine rg ?_
refine rg ?_
refine aC h (Zlf _ _ _ _ _) fun r1 h=>?_
refine rg ?_
refine aC h (ZrM _ _ _ _ _) fun r2 h=>?_
refine jL h (fun x13=>mkS [(10,.bool x13)] [] 2) (fun k1 h=>?_) fun x13 h=>?_
refine rg ?_
refine aN h (Zfd _ _) fun r14 h=>?_
refine aC h (Zis _ _) fun r15 h=>?_
refine aL h (ZgD _ _) fun r16 h=>?_
refine kS 40 h rfl (fun h=>?_) fun h=>?_
refine aC h (Zh3 _ _ _) fun r17 h=>?_
refine aC h (ZrJ _ _ _) fun r18 h=>?_
refine aC h (ZhA _ _) fun r19 h=>?_
refine kS 51 h rfl (fun h=>?_) fun h=>?_
refine aC h (ZiP _ _ _) fun r20 h=>?_
refine aC h (Zos _ _ _) fun r21 h=>?_
refine aC h (ZhA _ _) fun r22 h=>?_
refine kS 62 h rfl (fun h=>?_) fun h=>?_
refine kS 67 h rfl (fun h=>?_) fun h=>?_
refine aC h (ZlW _ _) fun r23 h=>?_
exact jn r23 h (sR [])
iterate 3 refine Zg rfl (Zf ?_)
exact jn false h (sR [])
iterate 6 refine Zg rfl (Zf ?_)
exact jn false h (sR [])
iterate 15 refine Zg rfl (Zf ?_)
exact jn false h (sR [])
iterate 24 refine Zg rfl (Zf ?_)
exact jn false h (sR [])
cases h
exact rQ}
def ZeW (p0:List Int) (p1:List Int) (p2:Int) (p3:Int) (p4:Int) (p5:Int):Option Bool:=(Zey p0 p1).bind fun r1=>letk (fun (x12:Bool)=>(some x12:Option Bool)) fun k1=>(ZgE).bind fun r13=>if r13 then (ZmM).bind fun r14=>(Zea p2 4).bind fun r15=>(atI r14 r15).bind fun e16=>(Zfi).bind fun r17=>(Zea p3 8).bind fun r18=>(atI r17 r18).bind fun e19=>(Zea p4 6).bind fun r20=>(Zea p5 8).bind fun r21=>(ZdJ r1 e16 e19 (w64 (r20-1)) (w64 (r21-1))).bind fun r22=>k1 r22 else k1 false
theorem ZlP (p0:List Int) (p1:List Int) (p2:Int) (p3:Int) (p4:Int) (p5:Int) (r:Bool) (h:ZeW p0 p1 p2 p3 p4 p5=some r):Zb Tryz.prog 3 [.sl (List.map csI p0),.sl (List.map csI p1),.int .i64 p2,.int .i64 p3,.int .i64 p4,.int .i64 p5] (.bool r):=by{
refine cF (fun r=>.bool r) h mix Tryz.func3 fun r h=>?_
unfold ZeW at h
refine Zf ?_
refine rg ?_
refine rg ?_
refine aC h (Znb _ _) fun r1 h=>?_
refine jL h (fun x12=>mkS [(12,.bool x12)] [] 2) (fun k1 h=>?_) fun x12 h=>?_
refine rg ?_
refine aC h ZpT fun r13 h=>?_
refine kS 18 h rfl (fun h=>?_) fun h=>?_
refine aC h Zrl fun r14 h=>?_
refine aC h (Zfh _ _) fun r15 h=>?_
refine aI csS h fun e16 h=>?_
refine aC h ZhF fun r17 h=>?_
refine aC h (Zfh _ _) fun r18 h=>?_
refine aI Title.cs h fun e19 h=>?_
refine aC h (Zfh _ _) fun r20 h=>?_
refine aC h (Zfh _ _) fun r21 h=>?_
refine aC h (ZlO _ _ _ _ _) fun r22 h=>?_
exact jn r22 h (sR [])
iterate 18 refine Zg rfl (Zf ?_)
exact jn false h (sR [])
cases h
exact rQ}
theorem ZsY {s:State} {m:Int} {u:ByteArray} {P:Policy} {G:List ByteArray} (hs:ZlE s m) (hR:Rd2 s u P G) (k:Int):Tot (Zit s u k) fun r=>∃ L:List Num,L.Perm (ents s.pages (rdB s.pages P G) (ZZ s.watches u))/\Srt nLt L/\r=(L.map (·.item)).drop (clip k L.length).toNat:=by{
obtain ⟨t0,ht,hv⟩:=hs.1.1.ex
have hp:=hs.1.plen
have hh:∀ p ∈ s.pages,1<=p.history.length/\p.history.length<=40:=fun p hp=>⟨(hv.pages p hp).hist.len1,(hv.pages p hp).hist.len2⟩
have hw:=Zg0 hv.wsort hs.2 u
unfold Zit
refine Za (Zj1 s u (by have:=hv.wlen;omega)) ?_
refine Zh (ZmE hR hv.sorted (by omega) hh _ (Zdl (Zic hv.wsort u)) (by omega)) fun r hr=>?_
obtain ⟨L,hL1,hL2,rfl⟩:=hr
have hc:(if ((L.map (·.item)).length:Int)<(if 0 > k then 0 else k) then ((L.map (·.item)).length:Int) else (if 0 > k then 0 else k))=clip k L.length:=by
 rw [List.length_map]
 unfold clip
 split<;>split<;>split<;>omega
rw [hc]
obtain ⟨c1,c2⟩:=ZpE k L.length
refine ZiB c1 (by rw [List.length_map];exact c2) (Int.le_refl _) fun x hx _=>Zc ⟨L,hL1,hL2,?_⟩
rw [hx]
apply List.take_of_length_le
rw [List.length_drop]
omega}
theorem ZqJ (l:List Stored) (f:Title->Bool) (hh:∀ p ∈ l,p.history.length<=40):∀ T:List Title,(ents l f T).length<=40 * T.length
 | []=>by simp [ents]
 | t::T=>by
   have ih:=ZqJ l f hh T
   have h1:(Zo9 l f t).length<=40:=by
    unfold Zo9
    split
    ·rw [List.length_map];exact Zi9 hh t
    ·simp
   unfold ents at ih ⊢
   rw [List.flatMap_cons,List.length_append,List.length_cons]
   omega
theorem ZpA {s:State} {m:Int} {u:ByteArray} {P:Policy} {G:List ByteArray} (hs:ZlE s m) (hR:Rd2 s u P G) (k:Int):Tot (Zfr s u k) fun r=>∃ L:List Num,L.Perm (ents s.pages (rdB s.pages P G) (s.pages.map (·.title)))/\Srt nLt L/\(L.length<=100000->r=(L.map (·.item)).reverse.take (clip k L.length).toNat):=by{
obtain ⟨t0,ht,hv⟩:=hs.1.1.ex
have hp:=hs.1.plen
have hh:∀ p ∈ s.pages,1<=p.history.length/\p.history.length<=40:=fun p hp=>⟨(hv.pages p hp).hist.len1,(hv.pages p hp).hist.len2⟩
unfold Zfr
refine Zr (fun a:Int×List Title=>∃ n:Nat,a.1=n/\n<=s.pages.length/\a.2=(s.pages.take n).map (·.title)) (fun a=>((s.pages.length:Int)-a.1).toNat) ⟨0,rfl,Nat.zero_le _,by simp⟩ (by first | omega | (dsimp only;omega)) ?_
rintro ⟨i,l⟩ rec ⟨n,e1,hn,e2⟩ ih
dsimp only at e1 e2 ⊢
subst e1 e2
refine Zd (fun hlt=>?_) fun hlt=>?_
refine Zq (by omega) hlt fun p _ hg=>?_
rw [Int.toNat_natCast] at hg
refine ZC 1000 (by simp;omega) (by decide) (by decide) ?_
refine ih _ ⟨n+1,(Zn).trans (by omega),by omega,?_⟩ (by dsimp only;rw [Zn];omega)
dsimp only
rw [List.take_add_one,hg]
simp
have:n=s.pages.length:=by omega
subst this
rw [List.take_length]
refine Zh (ZmE hR hv.sorted (by omega) hh _ (Zdl hs.1.titles) (by rw [List.length_map];omega)) fun r hr=>?_
obtain ⟨L,hL1,hL2,rfl⟩:=hr
have hlen:=ZqJ s.pages (rdB s.pages P G) (fun p hp=>(hh p hp).2) (s.pages.map (·.title))
rw [<- hL1.length_eq,List.length_map] at hlen
generalize hM:L.map (·.item)=M
have hMl:M.length=L.length:=by rw [<- hM,List.length_map]
rw [Zn]
refine Zr (fun a:Int×List Item=>∃ n:Nat,a.1=(M.length:Int)-1-n/\n<=M.length/\a.2=M.reverse.take n/\(n=0\/(n:Int)<=k)) (fun a=>(a.1+1).toNat) ⟨0,by dsimp only;omega,Nat.zero_le _,by simp,.inl rfl⟩ (by dsimp only;omega) ?_
rintro ⟨i,o⟩ rec2 ⟨n,e1,hn2,e2,hnk⟩ ih2
dsimp only at e1 e2 ⊢
have hol:o.length=n:=by rw [e2,List.length_take,List.length_reverse];omega
refine Zw (fun q=>(n<M.length->(n:Int)<k->Tot (q true) fun r=>∃ L:List Num,L.Perm (ents s.pages (rdB s.pages P G) (s.pages.map (·.title)))/\Srt nLt L/\(L.length<=100000->r=(L.map (·.item)).reverse.take (clip k L.length).toNat))/\((n=M.length\/k<=n)->Tot (q false) fun r=>∃ L:List Num,L.Perm (ents s.pages (rdB s.pages P G) (s.pages.map (·.title)))/\Srt nLt L/\(L.length<=100000->r=(L.map (·.item)).reverse.take (clip k L.length).toNat))) ⟨fun h1 h2=>?_,fun h=>?_⟩ fun q hq=>?_
refine ZH rfl ?_
obtain ⟨v,hg⟩:∃ v,M[M.length-1-n]? = some v:=⟨_,List.getElem?_eq_getElem (by omega)⟩
have hr:M.reverse[n]? = some v:=by rw [List.getElem?_reverse h1];exact hg
rw [e1,show (M.length:Int)-1-(n:Int)=((M.length-1-n:Nat):Int) by omega]
refine Za (Zan2 hg) ?_
refine ZC 1000000 (by simp;omega) (by decide) (by decide) ?_
rw [Zn]
refine ih2 _ ⟨n+1,by dsimp only;omega,h1,?_,.inr (by omega)⟩ (by dsimp only;omega)
dsimp only
rw [e2,List.take_add_one,hr]
rfl
refine Zs rfl (Zc ⟨L,hL1,hL2,fun _=>?_⟩)
rw [hM,e2]
congr 1
unfold clip
split<;>split<;>omega
refine Zd (fun h=>?_) fun h=>hq.2 (.inl (by omega))
by_cases hk:(n:Int)<k
rw [show decide ((o.length:Int)<k)=true from decide_eq_true (by omega)]
exact hq.1 (by omega) hk
rw [show decide ((o.length:Int)<k)=false from decide_eq_false (by omega)]
exact hq.2 (.inr (by omega))}
theorem Zob {s:State} (hs:s.pages.Pairwise fun a b=>tlt a.title b.title) (t:Title) (hl:s.pages.length<=1000000) (hh:(ZaV s.pages t).length<=1000000) (n:Int):Zhb s t n=some (Zke (ZaV s.pages t) n):=by{
refine Zad ?_
unfold Zhb
refine Zd (fun h=>Zc ?_) fun h=>Za (Znq hs t hl hh n) (Zc ?_)
unfold Zke
rw [if_pos h]
unfold Zke
rw [if_neg h]}
theorem Zw1 {s:State} {u:ByteArray} {P:Policy} {G:List ByteArray} (h:Rd2 s u P G) (t:Title):ZhM s u 1 t=some (Zjf P G 1 t):=by{
have hR:=(Zkn _ h.rd.pol).1
refine Zad ?_
unfold ZhM
refine Za h.ref ?_
refine Za h.gref ?_
exact Za (v:=Zjf P G 1 t) (by unfold Zls;rw [if_pos (by omega)]) (Zc rfl)}
theorem ZmV {s:State} {m:Int} {u:ByteArray} {P:Policy} {G:List ByteArray} {t0:ByteArray} {q:Int} (hv:VS t0 q s) (hs:MadeK s m) (hR:Rd2 s u P G) (hu:u ∈ usersG) (t:Title) (ht:t ∈ ZcA) (a b:Int):Ziv s u t a b=Zrp (Zjf P G 1 t) (s.pages.any (fun p=>decide (p.title=t))) (ZaV s.pages t) a b:=by{
have hl:=hv.plen
have hN:=Zzi hv t
have hval:t.valid=true:=(show ∀ t ∈ ZcA,t.valid=true by decide +kernel) t ht
have hname:u=⟨#[]⟩\/Za0 u=true:=(show ∀ u ∈ usersG,u=⟨#[]⟩\/Za0 u=true by decide +kernel) u hu
have b1:=(ZiO hN a).2
have b2:=(ZiO hN b).2
have hd:Zhc (Zke (ZaV s.pages t) a).1 (Zke (ZaV s.pages t) b).1=ZcU (Zke (ZaV s.pages t) a).1 (Zke (ZaV s.pages t) b).1:=by
 rw [ZyZ _ _ (by omega) (by omega),Zto _ _ (by omega) (by omega)]
have hus:Zfo u=some true:=by
 unfold Zfo letk
 dsimp only
 by_cases h0:u=⟨#[]⟩
 rw [if_pos (decide_eq_true h0)]
 rw [if_neg (by simpa using h0)]
 unfold Zaz
 rw [hname.resolve_left h0]
 rfl
unfold Ziv letk Za9
rw [hval,hus,Zw1 hR,Zob hv.sorted t (by omega) (by have:=hN.len;omega),Zob hv.sorted t (by omega) (by have:=hN.len;omega),Zll hv.sorted t (by omega)]
simp only [Option.bind_some]
rw [ZqF,hd]
unfold Zrp
cases Zjf P G 1 t<;>cases s.pages.any (fun p=>decide (p.title=t))<;>cases (Zke (ZaV s.pages t) a).2<;>cases (Zke (ZaV s.pages t) b).2<;>simp}
theorem Zw2 {t0:ByteArray} {q:Int} {s:State} (hv:VS t0 q s) (may there:Bool) (t:Title) (a b:Int):Tot (Zrp may there (ZaV s.pages t) a b) fun r=>r.1.length<=1000000/\∀ e ∈ r.1,e.lines.length<=1000000:=by{
have hN:=Zzi hv t
unfold Zrp
split
exact ⟨([],10),rfl,by simp,fun e h=>by cases h⟩
split
have b1:=(ZiO hN a).2
have b2:=(ZiO hN b).2
obtain ⟨D,hD1,k1,k2,k3,k4⟩:=Zyw (Zke (ZaV s.pages t) a).1 (Zke (ZaV s.pages t) b).1 (by omega) (by omega)
rw [hD1]
refine ⟨(D,0),rfl,k4,fun e he=>?_⟩
have l1:e.lines.length<=(Zfk D).length\/e.lines.length<=(Zfl D).length:=by
 by_cases h3:e.kind=3
 right
 unfold Zfl
 have:e.lines.Sublist (D.flatMap fun e=>if e.kind=2 then [] else e.lines):=by
  have:=ZqN (f:=fun e:Edit=>if e.kind=2 then [] else e.lines) he
  rwa [if_neg (by omega)] at this
 exact this.length_le
 left
 unfold Zfk
 have:e.lines.Sublist (D.flatMap fun e=>if e.kind=3 then [] else e.lines):=by
  have:=ZqN (f:=fun e:Edit=>if e.kind=3 then [] else e.lines) he
  rwa [if_neg h3] at this
 exact this.length_le
have c1:=ZmQ (Zke (ZaV s.pages t) a).1
have c2:=ZmQ (Zke (ZaV s.pages t) b).1
rw [k2,k3] at l1
rcases l1 with h | h<;>omega
exact ⟨([],4),rfl,by simp,fun e h=>by cases h⟩}
theorem Zrw {s:State} {m:Int} {u:ByteArray} (hs:ZlE s m) (hu:u ∈ usersG) (t:Title) (ht:t ∈ ZcA) (a b:Int):ZdJ s u t a b=some true:=by{
obtain ⟨t0,ht0,hv⟩:=hs.1.1.ex
obtain ⟨P0,hP,G,hR,_⟩:=Zzt (u:=u) hv ht0 hu
have hwl:=hv.wlen
have hww:=Zg0 hv.wsort hs.2 u
refine Zad ?_
unfold ZdJ
obtain ⟨r,hr,d1,d2⟩:=Zw2 hv (Zjf (ZiS P0 s.pages) G 1 t) (s.pages.any (fun p=>decide (p.title=t))) t a b
refine Za ((Zrq hs.1 hR.rd hu t ht a b).trans hr) (Za ((ZmV hv hs.1 hR hu t ht a b).trans hr) ?_)
refine Zw (fun k=>Tot (k true) fun r=>r=true) (Zc rfl) fun k hk=>?_
refine Za (Zo7 s u (by omega)) (Za (Zj1 s u (by omega)) (Za (Zrz _ (by omega)) (ZH rfl ?_)))
obtain ⟨F,hF1,hF2,hF3,hF⟩:=Zzu hs hR.rd
refine Za (hF a) (Zh (ZsY hs hR a) fun x hx=>?_)
obtain ⟨L,hL1,hL2,rfl⟩:=hx
obtain rfl:F=L:=Zuh (fun a ha b hb=>Zrc hv a (hF1.mem_iff.1 ha) b (hF1.mem_iff.1 hb)) (hF1.trans hL1.symm) hF2 hL2
refine Za (Zma _ (by rw [List.length_drop,List.length_map];omega)) (ZH rfl ?_)
obtain ⟨R,hR1,hR2,hR3,hRk⟩:=ZvZ hs hR.rd
refine Za (hRk b) (Zh (ZpA hs hR b) fun x hx=>?_)
obtain ⟨L,hL1,hL2,hL3⟩:=hx
obtain rfl:R=L:=Zuh (fun a ha b hb=>Zrc hv a (hR1.mem_iff.1 ha) b (hR1.mem_iff.1 hb)) (hR1.trans hL1.symm) hR2 hL2
obtain rfl:=hL3 (by omega)
refine Za (Zma _ (by rw [List.length_take,List.length_reverse,List.length_map];omega)) (ZH rfl ?_)
refine Zd (fun _=>Za (ZrB _ d1 d2) hk) fun h=>absurd rfl h}
theorem Zoc (l m:List Int) (who at_ a b:Int) (hl:l.length<=9223372036854775807) (hm:m.length<=9223372036854775807):ZeW l m who at_ a b=some true:=by{
refine Zad ?_
unfold ZeW
refine Zh (ZtO l m hl hm) fun s hs=>?_
refine Zw (fun k=>Tot (k true) fun r=>r=true) (Zc rfl) fun k hk=>?_
refine Za ZtM (ZH rfl ?_)
refine Za (v:=usersG) rfl ?_
refine Zh (Zk5 who 4 (by omega) (by omega)) fun w hw=>?_
refine ZtN hw.1 hw.2 fun u hu=>?_
refine Za (v:=ZcA) rfl ?_
refine Zh (Zk5 at_ 8 (by omega) (by omega)) fun w2 hw2=>?_
refine Zq hw2.1 hw2.2 fun t ht _=>?_
refine Zh (Zk5 a 6 (by omega) (by omega)) fun w3 _=>Zh (Zk5 b 8 (by omega) (by omega)) fun w4 _=>?_
exact Za (Zrw hs hu t ht _ _) hk}
end
section
open Go.RowKit Go.ChangeShapes Go.WideShapes Go.Deep
theorem ZiW {α:Type} (f:Nat->Option α):∀ n,(∀ i,i<n->∃ t,f i=some t)->((List.range n).filterMap f).length=n/\∀ i,i<n->((List.range n).filterMap f)[i]? = f i
 | 0,_=>⟨rfl,fun i h=>absurd h (by omega)⟩
 | n+1,h=>by
   obtain ⟨h1,h2⟩:=ZiW f n fun i hi=>h i (by omega)
   obtain ⟨t,ht⟩:=h n (by omega)
   rw [List.range_succ,List.filterMap_append]
   have e:List.filterMap f [n] = [t]:=by simp [ht]
   rw [e]
   refine ⟨by simp [h1],fun i hi=>?_⟩
   rcases Nat.lt_or_ge i n with hl | hl
   rw [List.getElem?_append_left (by omega)];exact h2 i hl
   obtain rfl:i=n:=by omega
   rw [List.getElem?_append_right (by omega),h1,ht];simp
section
variable {H:Type} {enc:TypeId×Value->H} {P:Program} {W:World}
def Rd (enc:TypeId×Value->H) (P:Program) (W:World) (T:TypeId) (α:Type) [Enc α]:Prop:=∀ fuel cs x,DataW.trod enc P W 0 (fun _=>true) true fuel T cs=some x->∃ t:α,Enc.RT W t cs
theorem Zzq {T:TypeId} (hT:P.underlying T=some (.int .i64)):Rd enc P W T Int:=fun _ _ _ h=>by
 obtain ⟨n,hc,_⟩:=DataW.trod_int hT h
 exact ⟨n,hc⟩
theorem ZvW {S E:TypeId} {α:Type} [Enc α] (hS:P.underlying S=some (.slice E)) (hk:P.cellsOf E=Enc.k α) (h0:0<Enc.k α) (hE:Rd enc P W E α):Rd enc P W S (List α):=fun fuel cs x h=>by
 rcases open_slice hS h with ⟨hc,_⟩ | ⟨a,len,cap,m,n,D,Pl,hc,_,hl,hm,hmm,_,hel⟩
 ·exact ⟨[],none,0,0,hc,SlR.nil W⟩
 ·have hm':m=cap:=by simpa using hmm
  have hx:∀ i,∃ (cs':List Value) (t:Option α),i<len->∃ t',t=some t'/\Enc.RT W t' cs'/\∀ j v,cs'[j]? = some v->W.cell? (a.add (i * P.cellsOf E+j))=some v:=fun i=>by
   by_cases hi:i<len
   ·obtain ⟨cs',h1,h2⟩:=hel i (by omega)
    obtain ⟨t,ht⟩:=hE _ _ _ h2
    obtain ⟨_,hlen,hcell⟩:=World.cells?_some h1
    refine ⟨cs',some t,fun _=>⟨t,rfl,ht,fun j v hj=>?_⟩⟩
    have hjl:j<P.cellsOf E:=by rw [<- hlen];exact (List.getElem?_eq_some_iff.1 hj).1
    rw [<- Go.Deep.add_add,hcell j hjl,hj]
   ·exact ⟨[],none,fun h=>absurd h hi⟩
  obtain ⟨css,hx⟩:=Classical.axiomOfChoice hx
  obtain ⟨ts,hx⟩:=Classical.axiomOfChoice hx
  refine ⟨(List.range len).filterMap ts,some a,len,cap,hc,?_⟩
  have hlen:((List.range len).filterMap ts).length=len/\∀ i,i<len->((List.range len).filterMap ts)[i]? = ts i:=ZiW ts len fun i hi=>by
   obtain ⟨t,ht,_⟩:=hx i hi
   exact ⟨t,ht⟩
  refine ⟨hlen.1.symm,hl,by unfold maxLen at hm;exact hm,fun hpos=>?_⟩
  obtain ⟨t0,_,hR0,hc0⟩:=hx 0 hpos
  have hl0:=Enc.len hR0
  have hcell0:=hc0 0 ((css 0)[0]'(by omega)) (List.getElem?_eq_getElem (by omega))
  obtain ⟨b,off,spot⟩:=a
  have hspot:spot=none:=by
   simp only [Nat.zero_mul,Nat.add_zero,Addr.add,if_true] at hcell0
   cases spot with
   | none=>rfl
   | some s=>
     exfalso
     unfold World.cell? at hcell0
     split at hcell0<;>simp at hcell0
  subst hspot
  refine ⟨b,off,css,rfl,trivial,?_,fun i x hi=>?_⟩
  ·simp only [Nat.zero_mul,Nat.add_zero,Addr.add,if_true] at hcell0
   exact Za3 hcell0
  ·have hil:i<len:=by rw [<- hlen.1];exact (List.getElem?_eq_some_iff.1 hi).1
   obtain ⟨t,ht,hR,hcell⟩:=hx i hil
   rw [hlen.2 i hil,ht] at hi
   obtain rfl:t=x:=by simpa using hi
   refine ⟨hR,fun j v hj=>?_⟩
   have:=hcell j v hj
   rw [hk] at this
   unfold Addr.add at this
   split at this
   ·rename_i h0;rw [Nat.add_assoc,h0];exact this
   ·rw [Nat.add_assoc];exact this
theorem ZrK {α:Type}:∀ {l:List α},l.length=2->∃ a b,l = [a,b]
 | [a,b],_=>⟨a,b,rfl⟩
end
theorem ZuH:Tryz.prog.cellsOf 3=1:=by kernel_rfl
section
variable {H:Type} {enc:TypeId×Value->H} {W:World}
theorem ZzL:Rd enc Tryz.prog W 3 Int:=Zzq Tryz.underlying3
end
end
section
open VL Go.RowKit Go.ChangeShapes Go.WideShapes
theorem Zwg {H:Type} {enc:TypeId×Value->H} {W:World}:Rd enc Tryz.prog W 22 (List Int):=ZvW Tryz.underlying22 ZuH (by decide) ZzL
theorem ZuU {W:World} (h:laidMetH Tryz.prog [("unicode/utf8.acceptRanges",Rows.laid_unicode_utf8_acceptRanges),("transclude/edit.rules",Rows.laid_transclude_edit_rules),("unicode/utf8.first",Rows.laid_unicode_utf8_first)] W) :
  W.cell? ⟨0,0,none⟩=some (.int .i64 5)/\W.cell? ⟨0,1,none⟩=some (.string ⟨#[80,111,108,105,99,121]⟩):=by{
rw [MakeChecks.laidMetH_plain _ _ _ (by kernel_rfl)] at h
obtain ⟨_,⟨_,_,_,_,_,_,_,_,_,_,⟨g,t,cs,fuel,p,q,hg,ht,hv,hd,_,_⟩,_⟩,_,_⟩:=h
obtain rfl:=Option.some.inj ((show Tryz.prog.globalNamed "transclude/edit.rules" = some 0 by kernel_rfl).symm.trans hg)
obtain rfl:=Option.some.inj ((show (Tryz.prog.globals[0]?).map (·.type)=some 36 by kernel_rfl).symm.trans ht)
obtain ⟨y0,y1,n,ex,hl,h0,h1⟩:=trod_struct2 Tryz.underlying36 hd
obtain ⟨z,e1,e2,_⟩:=DataW.trod_int Tryz.underlying3 h0
obtain ⟨s,e3,e4,_⟩:=DataW.trod_string Tryz.underlying9 h1
have c2:Tryz.prog.cellsOf 36=2:=by kernel_rfl
have ci:Tryz.prog.cellsOf 3=1:=by kernel_rfl
have cs1:Tryz.prog.cellsOf 9=1:=by kernel_rfl
rw [c2] at hl
rw [ci] at e1
rw [cs1] at e3
have hx:=(Prod.mk.inj ex).1
simp only [Rows.laid_transclude_edit_rules,e2,e4,DataW.agg.injEq,List.cons.injEq,DataW.lit.injEq,Lit.int.injEq,Lit.string.injEq,true_and,and_true] at hx
obtain ⟨rfl,hs⟩:=hx
obtain rfl:s=⟨#[80,111,108,105,99,121]⟩:=by
 obtain ⟨⟨l⟩⟩:=s
 exact congrArg (fun l:List UInt8=>(⟨⟨l⟩⟩:ByteArray)) hs.symm
obtain ⟨x0,x1,hcs⟩:=ZrK hl
rw [hcs] at e1 e3
cases (show [x0] = [_] from e1)
cases (show [x1] = [_] from e3)
have hc0:=World.var?_cell hg hv 0
have hc1:=World.var?_cell hg hv 1
rw [<- Array.getElem?_toList,hcs] at hc0 hc1
exact ⟨hc0,hc1⟩}
theorem ZyD {W:World} (hG:Glob W) (hR:W.cell? ⟨0,0,none⟩=some (.int .i64 5)/\W.cell? ⟨0,1,none⟩=some (.string ⟨#[80,111,108,105,99,121]⟩)) (W':World) (hb:Below W.heap.size W W'):WInv.I Tryz.prog W':=
 ⟨hG.imp fun _ hm=>re1 hb (Za3 hm) hm,re1 hb (Za3 hR.1) hR.1,re1 hb (Za3 hR.2) hR.2⟩
end
section
open VL Go.RowKit
theorem Zuf {α:Type} [Enc α] {w:World} {A:Option Addr} {n c:Nat} {xs:List α} (h:SlR w A n c xs):xs.length<=9223372036854775807:=by
 obtain ⟨h1,h2,h3,h4⟩:=h
 omega
theorem Zz5 {x:Ctx} (i:Nat) (p:PV) (v:Value) (hp:([]:List PV)[i]? = some p) (hv:([]:List Value)[i]? = some v):Rep x p v:=by simp at hp
theorem Zsn {x:Ctx} {p:PV} {v:Value} {ps:List PV} {vs:List Value} (h:Rep x p v) (r:∀ (i:Nat) (p:PV) (v:Value),ps[i]? = some p->vs[i]? = some v->Rep x p v) (i:Nat) (q:PV) (w:Value) (hp:(p::ps)[i]? = some q) (hv:(v::vs)[i]? = some w):Rep x q w:=by
 cases i with
 | zero=>injection hp with hp;injection hv with hv;subst hp hv;exact h
 | succ i=>exact r i q w (by simpa using hp) (by simpa using hv)
theorem Zz6 {x:Ctx} {ps:List PV} {vs:List Value} (r:∀ (i:Nat) (p:PV) (v:Value),ps[i]? = some p->vs[i]? = some v->Rep x p v) (i:Nat) (p:PV) (v:Value) (hp:ps[i]? = some p) (hv:vs.toArray[i]? = some v):Rep x p v:=r i p v hp (by simpa using hv)
theorem Zo4 {A0:Option Addr} {n0 c0:Nat} {l0:List Int} {A1:Option Addr} {n1 c1:Nat} {l1:List Int} (i2:Int) (i3:Int) (i4:Int) (i5:Int) (W:World) (h0:SlR W A0 n0 c0 l0) (h1:SlR W A1 n1 c1 l1) (hI:∀ W',Below W.heap.size W W'->WInv.I Tryz.prog W') :
  Calls Tryz.prog 3 #[.slice A0 n0 c0,.slice A1 n1 c1,.int .i64 i2,.int .i64 i3,.int .i64 i4,.int .i64 i5] W fun e w'=>e = .returned (.bool true)/\Below W.heap.size W w':=
 Zmv (ZlP l0 l1 i2 i3 i4 i5 true (Zoc l0 l1 i2 i3 i4 i5 (Zuf h0) (Zuf h1))) rfl (fun i p v hp hv=>Zz6 (vs:=[.slice A0 n0 c0,.slice A1 n1 c1,.int .i64 i2,.int .i64 i3,.int .i64 i4,.int .i64 i5]) (Zsn (ZoQ h0) (Zsn (ZoQ h1) (Zsn (.int _ _) (Zsn (.int _ _) (Zsn (.int _ _) (Zsn (.int _ _) Zz5)))))) i p v hp hv) hI
end
end Go.Proofs.YtpdaeclbndpabaaGreatDoor
