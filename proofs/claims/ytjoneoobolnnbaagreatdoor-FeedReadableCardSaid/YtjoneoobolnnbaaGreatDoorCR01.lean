/- What the rules ask of the types. Printed by facts.sh. -/
import Derived.Test.YtjoneoobolnnbaaGreatDoorCB34
import Derived.Test.YtjoneoobolnnbaaGreatDoorRows
namespace Go.Proofs.YtjoneoobolnnbaaGreatDoor
namespace VL
instance:Fld Tryz.prog 52 2 3 false 1:=⟨by kernel_rfl,rfl⟩
instance:Fld Tryz.prog 52 3 4 false 1:=⟨by kernel_rfl,rfl⟩
instance:Fld Tryz.prog 52 4 5 false 1:=⟨by kernel_rfl,rfl⟩
end VL
end Go.Proofs.YtjoneoobolnnbaaGreatDoor
namespace Go.Proofs.YtjoneoobolnnbaaGreatDoor
namespace VL
open Go.RowKit
section
variable {α β γ:Type}
theorem ZkW {x:Option α} {v:α} {Q:α→Prop} (e:x=some v) (h:Q v):Tot x Q:=⟨v,e,h⟩
end
end VL
end Go.Proofs.YtjoneoobolnnbaaGreatDoor
set_option linter.unusedVariables false
set_option maxHeartbeats 4000000
set_option maxRecDepth 100000
namespace Go.Proofs.YtjoneoobolnnbaaGreatDoor
open VL
def Item.pv (x:Item):PV:=.agg x.cs
end Go.Proofs.YtjoneoobolnnbaaGreatDoor
namespace Go.Proofs.YtjoneoobolnnbaaGreatDoor
namespace VL
open Go.RowKit
theorem Za8 {α:Type} (l:List α) (q:Int) (x:α):(ZaS l q x).length=l.length:=List.length_set ..
end VL
end Go.Proofs.YtjoneoobolnnbaaGreatDoor
namespace Go.Proofs.YtjoneoobolnnbaaGreatDoor
open VL
def Zf3 (p0:List Title) (p1:Title):Option Bool:=
 ZE Zaj (fun f2 (x10:Int)=>
  if (decide (x10<(p0.length:Int))) then
   (atI p0 x10).bind fun e14=>
   if (decide (e14=p1)) then
    (some true:Option Bool)
   else
   f2 (w64 (x10+1))
  else
  (some false:Option Bool)) 0
theorem Znr (p0:List Title) (p1:Title) (r:Bool) (h:Zf3 p0 p1=some r):Zd Tryz.prog 20 [.sl (List.map Title.cs p0),p1.pv] (.bool r):=by
 refine cF (fun r=>.bool r) h mix Tryz.func20 fun r h=>?_
 unfold Zf3 at h
 refine Zh ?_
 refine rg ?_
 refine rg ?_
 refine bl ?_
 refine Zn h fun f2 mf2 hf2 h=>?_
 refine Zk (α:=Nat×Int) (fun a _=>mkS [(0,.sl (List.map Title.cs p0)),(3,.ptr 3 (1,3) 0),(5,.int .i64 a.2)] [(3,some ((1,3),.box (Title.cs p1)))] 2) (fun a=>ZE a.1 f2 a.2=some r) (fun a=>a.1) (mf2,0) 2 h (sR [(3,1,0)]) (fun a _ h=>?_)
 obtain ⟨mf2,x10⟩:=a
 obtain ⟨mf2,rfl,h⟩:=Zo hf2 h
 dsimp only at h ⊢
 refine Zh ?_
 refine rg ?_
 refine lM Title.cs p0 ?_
 refine cS h rfl (fun h=>?_) fun h=>?_
 ·refine bl ?_
  refine rg ?_
  refine aI Title.cs h fun e14 h=>?_
  refine Ze3 (.inl rfl) rfl rfl rfl rfl rfl (fun W=>ZdP e14 p1 W) (Zh ?_)
  refine cS h rfl (fun h=>?_) fun h=>?_
  ·refine rg ?_
   cases h
   exact rQ
  refine rg ?_
  exact rn (mf2,(w64 (x10+1))) h (sR [(3,1,3)])
 refine rg ?_
 cases h
 exact rQ
def Zhc (p0:List Item) (p1:Item):Option Bool:=
 ZE Zaj (fun f2 (x10:Int)=>
  if (decide (x10<(p0.length:Int))) then
   (atI p0 x10).bind fun e14=>
   if (decide (e14=p1)) then
    (some true:Option Bool)
   else
   f2 (w64 (x10+1))
  else
  (some false:Option Bool)) 0
theorem Zo4 (p0:List Item) (p1:Item) (r:Bool) (h:Zhc p0 p1=some r):Zd Tryz.prog 22 [.sl (List.map Item.cs p0),p1.pv] (.bool r):=by
 refine cF (fun r=>.bool r) h mix Tryz.func22 fun r h=>?_
 unfold Zhc at h
 refine Zh ?_
 refine rg ?_
 refine rg ?_
 refine bl ?_
 refine Zn h fun f2 mf2 hf2 h=>?_
 refine Zk (α:=Nat×Int) (fun a _=>mkS [(0,.sl (List.map Item.cs p0)),(3,.ptr 3 (1,3) 0),(5,.int .i64 a.2)] [(3,some ((1,3),.box (Item.cs p1)))] 2) (fun a=>ZE a.1 f2 a.2=some r) (fun a=>a.1) (mf2,0) 2 h (sR [(3,1,0)]) (fun a _ h=>?_)
 obtain ⟨mf2,x10⟩:=a
 obtain ⟨mf2,rfl,h⟩:=Zo hf2 h
 dsimp only at h ⊢
 refine Zh ?_
 refine rg ?_
 refine lM Item.cs p0 ?_
 refine cS h rfl (fun h=>?_) fun h=>?_
 ·refine bl ?_
  refine rg ?_
  refine aI Item.cs h fun e14 h=>?_
  refine Ze3 (.inl rfl) rfl rfl rfl rfl rfl (fun W=>ZuF e14 p1 W) (Zh ?_)
  refine cS h rfl (fun h=>?_) fun h=>?_
  ·refine rg ?_
   cases h
   exact rQ
  refine rg ?_
  exact rn (mf2,(w64 (x10+1))) h (sR [(3,1,3)])
 refine rg ?_
 cases h
 exact rQ
def ZaU (p0:State) (p1:Title) (p2:Int):Option (Revision×Bool):=
 (Zce p0 p1).bind fun r1=>
 ZE Zaj (fun f2 (x19:Int)=>
  if (decide (x19<(r1.1.history.length:Int))) then
   (atI r1.1.history x19).bind fun e26=>
   if (decide (e26.number=p2)) then
    (atI r1.1.history x19).bind fun e27=>
    (some (e27,true):Option (Revision×Bool))
   else
   f2 (w64 (x19+1))
  else
  (some ((⟨0,(⟨#[]⟩:ByteArray),(⟨#[]⟩:ByteArray),(⟨#[]⟩:ByteArray),0,0⟩:Revision),false):Option (Revision×Bool))) 0
theorem Zew (p0:State) (p1:Title) (p2:Int) (r:Revision×Bool) (h:ZaU p0 p1 p2=some r):Zd Tryz.prog 23 [p0.pv,p1.pv,.int .i64 p2] (.tup [r.1.pv,.bool r.2]):=by
 refine cF (fun r=>.tup [r.1.pv,.bool r.2]) h mix Tryz.func23 fun r h=>?_
 unfold ZaU at h
 refine Zh ?_
 refine rg ?_
 refine rg ?_
 refine aC h (Zef _ _) fun r1 h=>?_
 refine rg ?_
 refine bl ?_
 refine Zn h fun f2 mf2 hf2 h=>?_
 refine Zk (α:=Nat×Int) (fun a _=>mkS [(2,.int .i64 p2),(6,.ptr 6 (1,6) 0),(8,.ptr 8 (1,8) 0),(10,.int .i64 a.2)] [(6,some ((1,6),.box [.int .i64 0,.str (⟨#[]⟩:ByteArray),.str (⟨#[]⟩:ByteArray),.str (⟨#[]⟩:ByteArray),.int .i64 0,.int .i64 0])),(8,some ((1,8),.box (Stored.cs r1.1)))] 2) (fun a=>ZE a.1 f2 a.2=some r) (fun a=>a.1) (mf2,0) 2 h (sR [(6,1,2),(8,2,6)]) (fun a _ h=>?_)
 obtain ⟨mf2,x19⟩:=a
 obtain ⟨mf2,rfl,h⟩:=Zo hf2 h
 dsimp only at h ⊢
 refine Zh ?_
 refine rg ?_
 refine lM Revision.cs r1.1.history ?_
 refine cS h rfl (fun h=>?_) fun h=>?_
 ·refine bl ?_
  refine rg ?_
  refine aI Revision.cs h fun e26 h=>?_
  refine cS h rfl (fun h=>?_) fun h=>?_
  ·refine rg ?_
   refine aI Revision.cs h fun e27 h=>?_
   cases h
   exact rQ
  refine rg ?_
  exact rn (mf2,(w64 (x19+1))) h (sR [(6,1,6),(8,1,8)])
 refine rg ?_
 cases h
 exact rQ
def Zdz:Option (List ByteArray):=
 (some [(⟨#[]⟩:ByteArray),(⟨#[97,110,110]⟩:ByteArray),(⟨#[98,111,98]⟩:ByteArray),(⟨#[99,121]⟩:ByteArray)]:Option (List ByteArray))
theorem Zgg  (r:List ByteArray) (h:Zdz=some r):Zd Tryz.prog 14 [] (.sl (List.map csS r)):=by
 refine cF (fun r=>.sl (List.map csS r)) h mix Tryz.func14 fun r h=>?_
 unfold Zdz at h
 refine Zh ?_
 refine rg ?_
 refine rg ?_
 refine bM csS ([(⟨#[]⟩:ByteArray),(⟨#[97,110,110]⟩:ByteArray),(⟨#[98,111,98]⟩:ByteArray),(⟨#[99,121]⟩:ByteArray)]:List ByteArray) ?_
 cases h
 exact rQ
def Zau (p0:List Int) (p1:List Int):Option State:=
 (ZfS p0).bind fun r1=>
 (ZgQ p1).bind fun r2=>
 (ZA r2 7).bind fun r3=>
 ZE Zaj (fun f7 ((x92,x93,x94,x95,x96,x97,x98,x99,x100,x101,x102,x103):Int×Int×Int×(List Stored)×(List Stored)×(List Proposal)×Int×(List Watch)×(List Last)×(List Int)×Int×Int)=>
  if (decide (0<x92)) then
   letk (fun (x127:Int) (x128:Int) (x129:List Stored) (x130:List Stored) (x131:List Proposal) (x132:Int) (x133:List Watch) (x134:List Last) (x135:List Int) (x136:Int) (x137:Int)=>
    f7 ((w64 (x92 - 1)),x127,x128,x129,x130,x131,x132,x133,x134,x135,x136,x137)) fun k8=>
   (ZA (⟨x101,x102,x103⟩:SrcF) 3).bind fun r138=>
   (atI ([(⟨#[97,110,110]⟩:ByteArray),(⟨#[98,111,98]⟩:ByteArray),(⟨#[99,121]⟩:ByteArray)]:List ByteArray) r138.1).bind fun c139=>
   (Ze1 r138.2).bind fun r140=>
   (Zao (⟨x93,x94,x95,x96,x97,x98,x99,x100⟩:State) [(⟨7,c139,(⟨#[]⟩:ByteArray),r140.1,(⟨0,(⟨#[]⟩:ByteArray)⟩:Title),(⟨#[]⟩:ByteArray),0,[]⟩:Change)]).bind fun r141=>
   if (decide (r141.2=0)) then
    k8 r141.1.seq r141.1.clock r141.1.pages r141.1.gone r141.1.proposals r141.1.proposed r141.1.watches r141.1.lasts r140.2.l r140.2.pos r140.2.seed
   else
   k8 x93 x94 x95 x96 x97 x98 x99 x100 r140.2.l r140.2.pos r140.2.seed
  else
  (some (⟨x93,x94,x95,x96,x97,x98,x99,x100⟩:State):Option State)) (r3.1,r1.seq,r1.clock,r1.pages,r1.gone,r1.proposals,r1.proposed,r1.watches,r1.lasts,r3.2.l,r3.2.pos,r3.2.seed)
theorem ZdK (p0:List Int) (p1:List Int) (r:State) (h:Zau p0 p1=some r):Zd Tryz.prog 13 [.sl (List.map csI p0),.sl (List.map csI p1)] (r.pv):=by
 refine cF (fun r=>r.pv) h mix Tryz.func13 fun r h=>?_
 unfold Zau at h
 refine Zh ?_
 refine rg ?_
 refine rg ?_
 refine aC h (Ziy _) fun r1 h=>?_
 refine aN h (ZhC _) fun r2 h=>?_
 refine rg ?_
 refine aO h (Zy _ _) fun r3 h=>?_
 refine bl ?_
 refine Zn h fun f7 mf7 hf7 h=>?_
 refine Zk (α:=Nat×(Int×Int×Int×(List Stored)×(List Stored)×(List Proposal)×Int×(List Watch)×(List Last)×(List Int)×Int×Int)) (fun a _=>mkS [(4,.ptr 4 (1,4) 0),(5,.ptr 5 (1,5) 0),(6,.ptr 13 (1,13) 0),(7,.int .i64 a.2.1)] [(4,some ((1,4),.box [.int .i64 0,.int .i64 0,.nil,.nil,.nil,.int .i64 0,.nil,.nil])),(5,some ((1,5),.box [.int .i64 a.2.2.1,.int .i64 a.2.2.2.1,.sl (List.map Stored.cs a.2.2.2.2.1),.sl (List.map Stored.cs a.2.2.2.2.2.1),.sl (List.map Proposal.cs a.2.2.2.2.2.2.1),.int .i64 a.2.2.2.2.2.2.2.1,.sl (List.map Watch.cs a.2.2.2.2.2.2.2.2.1),.sl (List.map Last.cs a.2.2.2.2.2.2.2.2.2.1)])),(13,some ((1,13),.box [.sl (List.map csI a.2.2.2.2.2.2.2.2.2.2.1),.int .i64 a.2.2.2.2.2.2.2.2.2.2.2.1,.int .u64 a.2.2.2.2.2.2.2.2.2.2.2.2]))] 2) (fun a=>ZE a.1 f7 a.2=some r) (fun a=>a.1) (mf7,r3.1,r1.seq,r1.clock,r1.pages,r1.gone,r1.proposals,r1.proposed,r1.watches,r1.lasts,r3.2.l,r3.2.pos,r3.2.seed) 2 h (sR [(4,1,0),(5,2,4),(13,2,3)]) (fun a _ h=>?_)
 obtain ⟨mf7,x92,x93,x94,x95,x96,x97,x98,x99,x100,x101,x102,x103⟩:=a
 obtain ⟨mf7,rfl,h⟩:=Zo hf7 h
 dsimp only at h ⊢
 refine Zh ?_
 refine rg ?_
 refine cS h rfl (fun h=>?_) fun h=>?_
 ·refine Zax h fun k8 hk8 h=>?_
  refine ZaO (α:=Int×Int×(List Stored)×(List Stored)×(List Proposal)×Int×(List Watch)×(List Last)×(List Int)×Int×Int) (fun a _=>mkS [(4,.ptr 4 (1,4) 0),(5,.ptr 5 (1,5) 0),(6,.ptr 13 (1,13) 0),(7,.int .i64 x92)] [(4,some ((1,4),.box [.int .i64 0,.int .i64 0,.nil,.nil,.nil,.int .i64 0,.nil,.nil])),(5,some ((1,5),.box [.int .i64 a.1,.int .i64 a.2.1,.sl (List.map Stored.cs a.2.2.1),.sl (List.map Stored.cs a.2.2.2.1),.sl (List.map Proposal.cs a.2.2.2.2.1),.int .i64 a.2.2.2.2.2.1,.sl (List.map Watch.cs a.2.2.2.2.2.2.1),.sl (List.map Last.cs a.2.2.2.2.2.2.2.1)])),(13,some ((1,13),.box [.sl (List.map csI a.2.2.2.2.2.2.2.2.1),.int .i64 a.2.2.2.2.2.2.2.2.2.1,.int .u64 a.2.2.2.2.2.2.2.2.2.2]))] 2) (fun a=>k8 a.1 a.2.1 a.2.2.1 a.2.2.2.1 a.2.2.2.2.1 a.2.2.2.2.2.1 a.2.2.2.2.2.2.1 a.2.2.2.2.2.2.2.1 a.2.2.2.2.2.2.2.2.1 a.2.2.2.2.2.2.2.2.2.1 a.2.2.2.2.2.2.2.2.2.2=some r) (Zh ?_) (fun a _ h=>?_)
  ·refine bl ?_
   refine rg ?_
   refine aO h (Zy _ _) fun r138 h=>?_
   obtain ⟨c139,h49,h⟩:=bnd h
   refine Zpa (p:=PV.str) rfl h49 rfl rfl rfl rfl rfl (Zh ?_)
   refine aO h (Zgj _) fun r140 h=>?_
   refine ZZ (M:=([(⟨7,c139,(⟨#[]⟩:ByteArray),r140.1,(⟨0,(⟨#[]⟩:ByteArray)⟩:Title),(⟨#[]⟩:ByteArray),0,[]⟩:Change)]:List Change)) (f:=Change.cs) rfl rfl rfl rfl (Nat.le_of_ble_eq_true rfl) rfl (Zh ?_)
   refine aC h (ZbT _ _) fun r141 h=>?_
   refine rg ?_
   refine cS h rfl (fun h=>?_) fun h=>?_
   ·refine rg ?_
    exact jn (r141.1.seq,r141.1.clock,r141.1.pages,r141.1.gone,r141.1.proposals,r141.1.proposed,r141.1.watches,r141.1.lasts,r140.2.l,r140.2.pos,r140.2.seed) h (sR [(4,1,4),(5,1,5),(13,1,13)])
   exact jn (x93,x94,x95,x96,x97,x98,x99,x100,r140.2.l,r140.2.pos,r140.2.seed) h (sR [(4,1,4),(5,1,5),(13,1,13)])
  obtain ⟨x127,x128,x129,x130,x131,x132,x133,x134,x135,x136,x137⟩:=a
  subst hk8
  dsimp only at h ⊢
  refine Zh ?_
  refine rg ?_
  exact rn (mf7,(w64 (x92 - 1)),x127,x128,x129,x130,x131,x132,x133,x134,x135,x136,x137) h (sR [(4,1,4),(5,1,5),(13,1,13)])
 refine rg ?_
 cases h
 exact rQ
end Go.Proofs.YtjoneoobolnnbaaGreatDoor
