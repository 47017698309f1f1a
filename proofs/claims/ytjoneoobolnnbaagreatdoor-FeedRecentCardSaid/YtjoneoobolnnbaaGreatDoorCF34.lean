/- Functions of the program as Lean functions. Written by fxgen.py. | Functions of the program as Lean functions. Written by fxgen.py. | Lists in sections, read and turned by number; sorted lists that are put together. No program is named. | The steps of slices.SortStableFunc on lists: exchange of ranges, rotation. No program is named. | The insertion sort of slices.SortFunc and SortStableFunc on lists. No program is named. | The merge of slices.SortStableFunc on lists. No program is named. | The merge of slices.SortStableFunc on lists, whole. No program is named. | slices.SortStableFunc on lists: it returns the sorted list. No program is named. | Orders of titles and strings; sorted lists. No program is named. | The orders of titles and of items in the feed. No program is named. -/
import Derived.Test.YtjoneoobolnnbaaGreatDoorCF16
import Derived.Test.YtjoneoobolnnbaaGreatDoorCF18
import Derived.Test.YtjoneoobolnnbaaGreatDoorCF33
import Derived.Test.YtjoneoobolnnbaaGreatDoorCF04
import Derived.Test.YtjoneoobolnnbaaGreatDoorCF06
import Derived.Test.YtjoneoobolnnbaaGreatDoorCF03
import Derived.Sort.Walk0
set_option linter.unusedVariables false
set_option maxHeartbeats 4000000
set_option maxRecDepth 100000
namespace Go.Proofs.YtjoneoobolnnbaaGreatDoor
open VL
def Zfl (p0:List Title) (p1:List Title):Option Bool:=
 if (!decide ((p0.length:Int)=(p1.length:Int))) then
  (some false:Option Bool)
 else
 ZK Zax (fun f2 (x18:Int)=>
  if (decide (x18<(p0.length:Int))) then
   (atI p0 x18).bind fun e25=>
   (atI p1 x18).bind fun e26=>
   if (!decide (e25=e26)) then
    (some false:Option Bool)
   else
   f2 (w64 (x18+1))
  else
  (some true:Option Bool)) 0
theorem ZjS (p0:List Title) (p1:List Title) (r:Bool) (hF:Zfl p0 p1=some r):Zb Tryz.prog 30 [.sl (List.map Title.cs p0),.sl (List.map Title.cs p1)] (.bool r):=by
 refine cF (fun r=>.bool r) hF mix Tryz.func30 fun r hF=>?_
 unfold Zfl at hF
 refine Za ?_
 refine rg ?_
 refine rg ?_
 refine Zr rfl (M:=p0) (f:=Title.cs) rfl (Za ?_)
 refine Zr rfl (M:=p1) (f:=Title.cs) rfl (Za ?_)
 refine cS hF rfl (fun hF=>?_) fun hF=>?_
 ·refine rg ?_
  cases hF
  exact rQ
 refine rg ?_
 refine bl ?_
 refine Zn hF fun f2 mf2 hf2 hF=>?_
 refine Zl (α:=Nat×Int) (fun a _=>mkS [(0,.sl (List.map Title.cs p0)),(1,.sl (List.map Title.cs p1)),(5,.int .i64 a.2)] [] 2) (fun a=>ZK a.1 f2 a.2=some r) (fun a=>a.1) (mf2,0) 2 hF (sR []) (fun a _ hF=>?_)
 obtain ⟨mf2,x18⟩:=a
 obtain ⟨mf2,rfl,hF⟩:=Zo hf2 hF
 dsimp only at hF ⊢
 refine Za ?_
 refine rg ?_
 refine Zr rfl (M:=p0) (f:=Title.cs) rfl (Za ?_)
 refine cS hF rfl (fun hF=>?_) fun hF=>?_
 ·refine bl ?_
  refine rg ?_
  obtain ⟨e25,h23,hF⟩:=bnd hF
  refine Zk (f:=Title.cs) rfl h23 rfl rfl rfl (Za ?_)
  obtain ⟨e26,h24,hF⟩:=bnd hF
  refine Zk (f:=Title.cs) rfl h24 rfl rfl rfl (Za ?_)
  refine Zeu (.inr rfl) rfl rfl rfl rfl rfl (fun W=>Zem e25 e26 W) (Za ?_)
  refine cS hF rfl (fun hF=>?_) fun hF=>?_
  ·refine rg ?_
   cases hF
   exact rQ
  refine rg ?_
  exact rn (mf2,(w64 (x18+1))) hF (sR [])
 refine rg ?_
 cases hF
 exact rQ
def Zdl (p0:List Item) (p1:List Item):Option Bool:=
 if (!decide ((p0.length:Int)=(p1.length:Int))) then
  (some false:Option Bool)
 else
 ZK Zax (fun f2 (x18:Int)=>
  if (decide (x18<(p0.length:Int))) then
   (atI p0 x18).bind fun e25=>
   (atI p1 x18).bind fun e26=>
   if (!decide (e25=e26)) then
    (some false:Option Bool)
   else
   f2 (w64 (x18+1))
  else
  (some true:Option Bool)) 0
theorem Zku (p0:List Item) (p1:List Item) (r:Bool) (hF:Zdl p0 p1=some r):Zb Tryz.prog 28 [.sl (List.map Item.cs p0),.sl (List.map Item.cs p1)] (.bool r):=by
 refine cF (fun r=>.bool r) hF mix Tryz.func28 fun r hF=>?_
 unfold Zdl at hF
 refine Za ?_
 refine rg ?_
 refine rg ?_
 refine Zr rfl (M:=p0) (f:=Item.cs) rfl (Za ?_)
 refine Zr rfl (M:=p1) (f:=Item.cs) rfl (Za ?_)
 refine cS hF rfl (fun hF=>?_) fun hF=>?_
 ·refine rg ?_
  cases hF
  exact rQ
 refine rg ?_
 refine bl ?_
 refine Zn hF fun f2 mf2 hf2 hF=>?_
 refine Zl (α:=Nat×Int) (fun a _=>mkS [(0,.sl (List.map Item.cs p0)),(1,.sl (List.map Item.cs p1)),(5,.int .i64 a.2)] [] 2) (fun a=>ZK a.1 f2 a.2=some r) (fun a=>a.1) (mf2,0) 2 hF (sR []) (fun a _ hF=>?_)
 obtain ⟨mf2,x18⟩:=a
 obtain ⟨mf2,rfl,hF⟩:=Zo hf2 hF
 dsimp only at hF ⊢
 refine Za ?_
 refine rg ?_
 refine Zr rfl (M:=p0) (f:=Item.cs) rfl (Za ?_)
 refine cS hF rfl (fun hF=>?_) fun hF=>?_
 ·refine bl ?_
  refine rg ?_
  obtain ⟨e25,h23,hF⟩:=bnd hF
  refine Zk (f:=Item.cs) rfl h23 rfl rfl rfl (Za ?_)
  obtain ⟨e26,h24,hF⟩:=bnd hF
  refine Zk (f:=Item.cs) rfl h24 rfl rfl rfl (Za ?_)
  refine Zeu (.inr rfl) rfl rfl rfl rfl rfl (fun W=>ZuP e25 e26 W) (Za ?_)
  refine cS hF rfl (fun hF=>?_) fun hF=>?_
  ·refine rg ?_
   cases hF
   exact rQ
  refine rg ?_
  exact rn (mf2,(w64 (x18+1))) hF (sR [])
 refine rg ?_
 cases hF
 exact rQ
def Zf4:Option Bool:=
 (Zgq (⟨#[97,108,108,111,119,32,114,101,97,100,32,97,108,108,32,60,97,108,108,62]⟩:ByteArray)).bind fun r1=>
 (ZaZ r1 [(⟨1,(⟨#[]⟩:ByteArray),(⟨#[]⟩:ByteArray),(⟨0,(⟨#[65]⟩:ByteArray)⟩:Title),(⟨0,(⟨#[]⟩:ByteArray)⟩:Title),(⟨#[120]⟩:ByteArray),0,[]⟩:Change),(⟨7,(⟨#[97,110,110]⟩:ByteArray),(⟨#[]⟩:ByteArray),(⟨0,(⟨#[65]⟩:ByteArray)⟩:Title),(⟨0,(⟨#[]⟩:ByteArray)⟩:Title),(⟨#[]⟩:ByteArray),0,[]⟩:Change)]).bind fun r2=>
 (ZaZ r2.1 [(⟨1,(⟨#[98,111,98]⟩:ByteArray),(⟨#[110]⟩:ByteArray),(⟨0,(⟨#[65]⟩:ByteArray)⟩:Title),(⟨0,(⟨#[]⟩:ByteArray)⟩:Title),(⟨#[121]⟩:ByteArray),0,[]⟩:Change)]).bind fun r3=>
 (ZhP r3.1 (⟨#[97,110,110]⟩:ByteArray) 1).bind fun r4=>
 (Zkc r3.1 (⟨#[97,110,110]⟩:ByteArray) (⟨0,(⟨#[65]⟩:ByteArray)⟩:Title) 1 2).bind fun r5=>
 letk (fun (x11:Bool)=>
  (some x11:Option Bool)) fun k1=>
 if (decide ((r4.length:Int)=1)) then
  (atI r4 0).bind fun e12=>
  if (decide (e12=(⟨(⟨0,(⟨#[65]⟩:ByteArray)⟩:Title),2,(⟨#[98,111,98]⟩:ByteArray),(⟨#[110]⟩:ByteArray),0⟩:Item))) then
   (ZhP r3.1 (⟨#[98,111,98]⟩:ByteArray) 0).bind fun r13=>
   if (decide ((r13.length:Int)=0)) then
    (Zch r3.1 (⟨#[]⟩:ByteArray) 9).bind fun r14=>
    if (decide ((r14.length:Int)=3)) then
     if (decide (r5.2=0)) then
      if (decide ((r5.1.length:Int)=2)) then
       (Zee r3.1 (⟨#[97,110,110]⟩:ByteArray)).bind fun r15=>
       (Zfl r15 [(⟨0,(⟨#[65]⟩:ByteArray)⟩:Title)]).bind fun r16=>
       k1 r16
      else
      k1 false
     else
     k1 false
    else
    k1 false
   else
   k1 false
  else
  k1 false
 else
 k1 false
theorem ZnY  (r:Bool) (hF:Zf4=some r):Zb Tryz.prog 11 [] (.bool r):=by
 refine cF (fun r=>.bool r) hF mix Tryz.func11 fun r hF=>?_
 unfold Zf4 at hF
 refine Za ?_
 refine rg ?_
 refine rg ?_
 refine rg ?_
 obtain ⟨r1,h1,hF⟩:=bnd hF
 refine Zf (ZkI _ _ h1) rfl rfl (Za ?_)
 refine rg ?_
 refine Zw (M:=([(⟨1,(⟨#[]⟩:ByteArray),(⟨#[]⟩:ByteArray),(⟨0,(⟨#[65]⟩:ByteArray)⟩:Title),(⟨0,(⟨#[]⟩:ByteArray)⟩:Title),(⟨#[120]⟩:ByteArray),0,[]⟩:Change),(⟨7,(⟨#[97,110,110]⟩:ByteArray),(⟨#[]⟩:ByteArray),(⟨0,(⟨#[65]⟩:ByteArray)⟩:Title),(⟨0,(⟨#[]⟩:ByteArray)⟩:Title),(⟨#[]⟩:ByteArray),0,[]⟩:Change)]:List Change)) (f:=Change.cs) rfl rfl rfl rfl (Nat.le_of_ble_eq_true rfl) rfl (Za ?_)
 obtain ⟨r2,h2,hF⟩:=bnd hF
 refine Zf (Zc1 _ _ _ h2) rfl rfl (Za ?_)
 refine rg ?_
 refine Zw (M:=([(⟨1,(⟨#[98,111,98]⟩:ByteArray),(⟨#[110]⟩:ByteArray),(⟨0,(⟨#[65]⟩:ByteArray)⟩:Title),(⟨0,(⟨#[]⟩:ByteArray)⟩:Title),(⟨#[121]⟩:ByteArray),0,[]⟩:Change)]:List Change)) (f:=Change.cs) rfl rfl rfl rfl (Nat.le_of_ble_eq_true rfl) rfl (Za ?_)
 obtain ⟨r3,h3,hF⟩:=bnd hF
 refine Zf (Zc1 _ _ _ h3) rfl rfl (Za ?_)
 refine rg ?_
 obtain ⟨r4,h4,hF⟩:=bnd hF
 refine Zf (Zke _ _ _ _ h4) rfl rfl (Za ?_)
 refine rg ?_
 obtain ⟨r5,h5,hF⟩:=bnd hF
 refine Zf (Zoc _ _ _ _ _ _ h5) rfl rfl (Za ?_)
 refine jL hF (fun x11=>mkS [(0,.bool x11)] [] 2) (fun k1 hF=>?_) fun x11 hF=>?_
 ·refine rg ?_
  refine Zr rfl (M:=r4) (f:=Item.cs) rfl (Za ?_)
  refine kS 37 hF rfl (fun hF=>?_) fun hF=>?_
  ·obtain ⟨e12,h11,hF⟩:=bnd hF
   refine Zk (f:=Item.cs) rfl h11 rfl rfl rfl (Za ?_)
   refine Zeu (.inl rfl) rfl rfl rfl rfl rfl (fun W=>ZuO e12 (⟨(⟨0,(⟨#[65]⟩:ByteArray)⟩:Title),2,(⟨#[98,111,98]⟩:ByteArray),(⟨#[110]⟩:ByteArray),0⟩:Item) W) (Za ?_)
   refine kS 45 hF rfl (fun hF=>?_) fun hF=>?_
   ·obtain ⟨r13,h12,hF⟩:=bnd hF
    refine Zf (Zke _ _ _ _ h12) rfl rfl (Za ?_)
    refine Zr rfl (M:=r13) (f:=Item.cs) rfl (Za ?_)
    refine kS 51 hF rfl (fun hF=>?_) fun hF=>?_
    ·obtain ⟨r14,h13,hF⟩:=bnd hF
     refine Zf (Zfu _ _ _ _ h13) rfl rfl (Za ?_)
     refine Zr rfl (M:=r14) (f:=Item.cs) rfl (Za ?_)
     refine kS 57 hF rfl (fun hF=>?_) fun hF=>?_
     ·refine kS 61 hF rfl (fun hF=>?_) fun hF=>?_
      ·refine Zr rfl (M:=r5.1) (f:=Edit.cs) rfl (Za ?_)
       refine kS 66 hF rfl (fun hF=>?_) fun hF=>?_
       ·obtain ⟨r15,h14,hF⟩:=bnd hF
        refine Zev (ZgN _ _ _ h14) rfl rfl (Za ?_)
        refine Zw (M:=([(⟨0,(⟨#[65]⟩:ByteArray)⟩:Title)]:List Title)) (f:=Title.cs) rfl rfl rfl rfl (Nat.le_of_ble_eq_true rfl) rfl (Za ?_)
        obtain ⟨r16,h15,hF⟩:=bnd hF
        refine Zej (ZjS _ _ _ h15) rfl rfl rfl (Za ?_)
        exact jn r16 hF (sR [])
       iterate 5 refine Zh rfl (Za ?_)
       exact jn false hF (sR [])
      iterate 8 refine Zh rfl (Za ?_)
      exact jn false hF (sR [])
     iterate 10 refine Zh rfl (Za ?_)
     exact jn false hF (sR [])
    iterate 14 refine Zh rfl (Za ?_)
    exact jn false hF (sR [])
   iterate 18 refine Zh rfl (Za ?_)
   exact jn false hF (sR [])
  iterate 24 refine Zh rfl (Za ?_)
  exact jn false hF (sR [])
 cases hF
 exact rQ
def Zd2 (p0:List Int) (p1:List Int):Option State:=
 (Zhx p0).bind fun r1=>
 (ZhU p1).bind fun r2=>
 (ZA r2 7).bind fun r3=>
 ZK Zax (fun f7 ((x92,x93,x94,x95,x96,x97,x98,x99,x100,x101,x102,x103):Int×Int×Int×(List Stored)×(List Stored)×(List Proposal)×Int×(List Watch)×(List Last)×(List Int)×Int×Int)=>
  if (decide (0<x92)) then
   letk (fun (x127:Int) (x128:Int) (x129:List Stored) (x130:List Stored) (x131:List Proposal) (x132:Int) (x133:List Watch) (x134:List Last) (x135:List Int) (x136:Int) (x137:Int)=>
    f7 ((w64 (x92 - 1)),x127,x128,x129,x130,x131,x132,x133,x134,x135,x136,x137)) fun k8=>
   (ZA (⟨x101,x102,x103⟩:SrcF) 3).bind fun r138=>
   (atI ([(⟨#[97,110,110]⟩:ByteArray),(⟨#[98,111,98]⟩:ByteArray),(⟨#[99,121]⟩:ByteArray)]:List ByteArray) r138.1).bind fun c139=>
   (Ze5 r138.2).bind fun r140=>
   (ZaZ (⟨x93,x94,x95,x96,x97,x98,x99,x100⟩:State) [(⟨7,c139,(⟨#[]⟩:ByteArray),r140.1,(⟨0,(⟨#[]⟩:ByteArray)⟩:Title),(⟨#[]⟩:ByteArray),0,[]⟩:Change)]).bind fun r141=>
   if (decide (r141.2=0)) then
    k8 r141.1.seq r141.1.clock r141.1.pages r141.1.gone r141.1.proposals r141.1.proposed r141.1.watches r141.1.lasts r140.2.l r140.2.pos r140.2.seed
   else
   k8 x93 x94 x95 x96 x97 x98 x99 x100 r140.2.l r140.2.pos r140.2.seed
  else
  (some (⟨x93,x94,x95,x96,x97,x98,x99,x100⟩:State):Option State)) (r3.1,r1.seq,r1.clock,r1.pages,r1.gone,r1.proposals,r1.proposed,r1.watches,r1.lasts,r3.2.l,r3.2.pos,r3.2.seed)
theorem ZlP (p0:List Int) (p1:List Int) (r:State) (hF:Zd2 p0 p1=some r):Zb Tryz.prog 13 [.sl (List.map csI p0),.sl (List.map csI p1)] (r.pv):=by
 refine cF (fun r=>r.pv) hF mix Tryz.func13 fun r hF=>?_
 unfold Zd2 at hF
 refine Za ?_
 refine rg ?_
 refine rg ?_
 obtain ⟨r1,h1,hF⟩:=bnd hF
 refine Zf (Zpo _ _ h1) rfl rfl (Za ?_)
 obtain ⟨r2,h2,hF⟩:=bnd hF
 refine Zev (Zme _ _ h2) rfl rfl (Za ?_)
 refine rg ?_
 obtain ⟨r3,h3,hF⟩:=bnd hF
 refine Zac (ZC _ _ _ h3) rfl rfl rfl rfl rfl (Za ?_)
 refine bl ?_
 refine Zn hF fun f7 mf7 hf7 hF=>?_
 refine Zl (α:=Nat×(Int×Int×Int×(List Stored)×(List Stored)×(List Proposal)×Int×(List Watch)×(List Last)×(List Int)×Int×Int)) (fun a _=>mkS [(4,.ptr 4 (1,4) 0),(5,.ptr 5 (1,5) 0),(6,.ptr 13 (1,13) 0),(7,.int .i64 a.2.1)] [(4,some ((1,4),.box [.int .i64 0,.int .i64 0,.nil,.nil,.nil,.int .i64 0,.nil,.nil])),(5,some ((1,5),.box [.int .i64 a.2.2.1,.int .i64 a.2.2.2.1,.sl (List.map Stored.cs a.2.2.2.2.1),.sl (List.map Stored.cs a.2.2.2.2.2.1),.sl (List.map Proposal.cs a.2.2.2.2.2.2.1),.int .i64 a.2.2.2.2.2.2.2.1,.sl (List.map Watch.cs a.2.2.2.2.2.2.2.2.1),.sl (List.map Last.cs a.2.2.2.2.2.2.2.2.2.1)])),(13,some ((1,13),.box [.sl (List.map csI a.2.2.2.2.2.2.2.2.2.2.1),.int .i64 a.2.2.2.2.2.2.2.2.2.2.2.1,.int .u64 a.2.2.2.2.2.2.2.2.2.2.2.2]))] 2) (fun a=>ZK a.1 f7 a.2=some r) (fun a=>a.1) (mf7,r3.1,r1.seq,r1.clock,r1.pages,r1.gone,r1.proposals,r1.proposed,r1.watches,r1.lasts,r3.2.l,r3.2.pos,r3.2.seed) 2 hF (sR [(4,1,0),(5,2,4),(13,2,3)]) (fun a _ hF=>?_)
 obtain ⟨mf7,x92,x93,x94,x95,x96,x97,x98,x99,x100,x101,x102,x103⟩:=a
 obtain ⟨mf7,rfl,hF⟩:=Zo hf7 hF
 dsimp only at hF ⊢
 refine Za ?_
 refine rg ?_
 refine cS hF rfl (fun hF=>?_) fun hF=>?_
 ·refine Zar hF fun k8 hk8 hF=>?_
  refine ZaF (α:=Int×Int×(List Stored)×(List Stored)×(List Proposal)×Int×(List Watch)×(List Last)×(List Int)×Int×Int) (fun a _=>mkS [(4,.ptr 4 (1,4) 0),(5,.ptr 5 (1,5) 0),(6,.ptr 13 (1,13) 0),(7,.int .i64 x92)] [(4,some ((1,4),.box [.int .i64 0,.int .i64 0,.nil,.nil,.nil,.int .i64 0,.nil,.nil])),(5,some ((1,5),.box [.int .i64 a.1,.int .i64 a.2.1,.sl (List.map Stored.cs a.2.2.1),.sl (List.map Stored.cs a.2.2.2.1),.sl (List.map Proposal.cs a.2.2.2.2.1),.int .i64 a.2.2.2.2.2.1,.sl (List.map Watch.cs a.2.2.2.2.2.2.1),.sl (List.map Last.cs a.2.2.2.2.2.2.2.1)])),(13,some ((1,13),.box [.sl (List.map csI a.2.2.2.2.2.2.2.2.1),.int .i64 a.2.2.2.2.2.2.2.2.2.1,.int .u64 a.2.2.2.2.2.2.2.2.2.2]))] 2) (fun a=>k8 a.1 a.2.1 a.2.2.1 a.2.2.2.1 a.2.2.2.2.1 a.2.2.2.2.2.1 a.2.2.2.2.2.2.1 a.2.2.2.2.2.2.2.1 a.2.2.2.2.2.2.2.2.1 a.2.2.2.2.2.2.2.2.2.1 a.2.2.2.2.2.2.2.2.2.2=some r) (Za ?_) (fun a _ hF=>?_)
  ·refine bl ?_
   refine rg ?_
   obtain ⟨r138,h48,hF⟩:=bnd hF
   refine Zac (ZC _ _ _ h48) rfl rfl rfl rfl rfl (Za ?_)
   obtain ⟨c139,h49,hF⟩:=bnd hF
   refine Zof (p:=PV.str) rfl h49 rfl rfl rfl rfl rfl (Za ?_)
   obtain ⟨r140,h50,hF⟩:=bnd hF
   refine Zac (ZhV _ _ h50) rfl rfl rfl rfl rfl (Za ?_)
   refine Zw (M:=([(⟨7,c139,(⟨#[]⟩:ByteArray),r140.1,(⟨0,(⟨#[]⟩:ByteArray)⟩:Title),(⟨#[]⟩:ByteArray),0,[]⟩:Change)]:List Change)) (f:=Change.cs) rfl rfl rfl rfl (Nat.le_of_ble_eq_true rfl) rfl (Za ?_)
   obtain ⟨r141,h51,hF⟩:=bnd hF
   refine Zf (Zc1 _ _ _ h51) rfl rfl (Za ?_)
   refine rg ?_
   refine cS hF rfl (fun hF=>?_) fun hF=>?_
   ·refine rg ?_
    exact jn (r141.1.seq,r141.1.clock,r141.1.pages,r141.1.gone,r141.1.proposals,r141.1.proposed,r141.1.watches,r141.1.lasts,r140.2.l,r140.2.pos,r140.2.seed) hF (sR [(4,1,4),(5,1,5),(13,1,13)])
   exact jn (x93,x94,x95,x96,x97,x98,x99,x100,r140.2.l,r140.2.pos,r140.2.seed) hF (sR [(4,1,4),(5,1,5),(13,1,13)])
  obtain ⟨x127,x128,x129,x130,x131,x132,x133,x134,x135,x136,x137⟩:=a
  subst hk8
  dsimp only at hF ⊢
  refine Za ?_
  refine rg ?_
  exact rn (mf7,(w64 (x92 - 1)),x127,x128,x129,x130,x131,x132,x133,x134,x135,x136,x137) hF (sR [(4,1,4),(5,1,5),(13,1,13)])
 refine rg ?_
 cases hF
 exact rQ
def Zdb (p0:List Int) (p1:List Int) (p2:Int) (p3:Int):Option Bool:=
 (Zd2 p0 p1).bind fun r1=>
 (Zle).bind fun r2=>
 (Ze3 p2 4).bind fun r3=>
 (atI r2 r3).bind fun e4=>
 (Zch r1 e4 1000).bind fun r5=>
 (Ze3 p3 12).bind fun r6=>
 (Zch r1 e4 (w64 (r6 - 1))).bind fun r7=>
 letk (fun (x11:Bool)=>
  (some x11:Option Bool)) fun k1=>
 (Zf4).bind fun r12=>
 if r12 then
  (Zin r5 0 (if (r5.length:Int)<(if 0 > (w64 (r6 - 1)) then 0 else (w64 (r6 - 1))) then (r5.length:Int) else (if 0 > (w64 (r6 - 1)) then 0 else (w64 (r6 - 1))))).bind fun l13=>
  (Zdl r7 l13).bind fun r14=>
  k1 r14
 else
 k1 false
theorem ZiN (p0:List Int) (p1:List Int) (p2:Int) (p3:Int) (r:Bool) (hF:Zdb p0 p1 p2 p3=some r):Zb Tryz.prog 9 [.sl (List.map csI p0),.sl (List.map csI p1),.int .i64 p2,.int .i64 p3] (.bool r):=by
 refine cF (fun r=>.bool r) hF mix Tryz.func9 fun r hF=>?_
 unfold Zdb at hF
 refine Za ?_
 refine rg ?_
 refine rg ?_
 obtain ⟨r1,h1,hF⟩:=bnd hF
 refine Zf (ZlP _ _ _ h1) rfl rfl (Za ?_)
 obtain ⟨r2,h2,hF⟩:=bnd hF
 refine Zf (Zo9 _ h2) rfl rfl (Za ?_)
 obtain ⟨r3,h3,hF⟩:=bnd hF
 refine Zf (ZhT _ _ _ h3) rfl rfl (Za ?_)
 obtain ⟨e4,h4,hF⟩:=bnd hF
 refine Zk (f:=csS) rfl h4 rfl rfl rfl (Za ?_)
 refine rg ?_
 obtain ⟨r5,h5,hF⟩:=bnd hF
 refine Zf (Zfu _ _ _ _ h5) rfl rfl (Za ?_)
 obtain ⟨r6,h6,hF⟩:=bnd hF
 refine Zf (ZhT _ _ _ h6) rfl rfl (Za ?_)
 refine rg ?_
 obtain ⟨r7,h7,hF⟩:=bnd hF
 refine Zf (Zfu _ _ _ _ h7) rfl rfl (Za ?_)
 refine jL hF (fun x11=>mkS [(8,.bool x11)] [] 2) (fun k1 hF=>?_) fun x11 hF=>?_
 ·refine rg ?_
  obtain ⟨r12,h11,hF⟩:=bnd hF
  refine Zf (ZnY _ h11) rfl rfl (Za ?_)
  refine kS 33 hF rfl (fun hF=>?_) fun hF=>?_
  ·refine Zss rfl rfl rfl (Za ?_)
   refine Zr rfl (M:=r5) (f:=Item.cs) rfl (Za ?_)
   refine Zqv rfl rfl rfl (Za ?_)
   obtain ⟨l13,h12,hF⟩:=bnd hF
   refine Zbp (f:=Item.cs) rfl h12 (fun _=>rfl) rfl rfl rfl rfl (Za ?_)
   obtain ⟨r14,h13,hF⟩:=bnd hF
   refine Zf (Zku _ _ _ h13) rfl rfl (Za ?_)
   exact jn r14 hF (sR [])
  iterate 9 refine Zh rfl (Za ?_)
  exact jn false hF (sR [])
 cases hF
 exact rQ
end Go.Proofs.YtjoneoobolnnbaaGreatDoor
namespace Go.Proofs.YtjoneoobolnnbaaGreatDoor
open VL
section
variable {α:Type}
theorem Zb8 (A B:List α) (x:α) {i:Int} (h:i=(A.length:Int)):atI (A++x::B) i=some x:=by
 subst h
 rw [Zl8]
 simp
theorem Zec (A B:List α) (x y:α) {i:Int} (h:i=(A.length:Int)):ZbI (A++x::B) i y=A++y::B:=by
 subst h
 unfold ZbI
 rw [Int.toNat_natCast,List.set_append_right _ _ (Nat.le_refl _),Nat.sub_self]
 rfl
theorem Zk4 (A M B:List α) (x y:α) {i:Int} (h:i=(A.length:Int)+1+(M.length:Int)):atI (A++x::(M++y::B)) i=some y:=by
 have:=Zb8 (A++x::M) B y (i:=i) (by simp;omega)
 simpa using this
theorem Zok (A M B:List α) (x y:α) {i j:Int} (hi:i=(A.length:Int)) (hj:j=(A.length:Int)+1+(M.length:Int)):ZbI (ZbI (A++x::(M++y::B)) i y) j x=A++y::(M++x::B):=by
 rw [Zec A _ x y hi]
 have:=Zec (A++y::M) B y x (i:=j) (by simp;omega)
 simpa using this
theorem Ztv (l:List α) (i:Int) (h0:0≤i) (h1:i<(l.length:Int)):∃ A x B,l=A++x::B∧(A.length:Int)=i:=by
 have hl:i.toNat<l.length:=by omega
 refine ⟨l.take i.toNat,l[i.toNat],l.drop (i.toNat+1),?_,?_⟩
 ·rw [List.getElem_cons_drop,List.take_append_drop]
 ·rw [List.length_take]
  omega
theorem Zi6 (l:List α) (n:Nat) (h:n≤l.length):∃ A B,l=A++B∧A.length=n:=⟨l.take n,l.drop n,(List.take_append_drop ..).symm,by rw [List.length_take];omega⟩
structure Ord (lt:α→α→Bool):Prop where
 asym:∀ a b,lt a b=true→lt b a=false
 tr:∀ a b c,lt b a=false→lt c b=false→lt c a=false
def Srt (lt:α→α→Bool) (l:List α):Prop:=l.Pairwise fun a b=>lt b a=false
variable {lt:α→α→Bool}
theorem Ord.irr (o:Ord lt) (a:α):lt a a=false:=by
 cases h:lt a a
 ·rfl
 ·rw [o.asym a a h] at h
  cases h
theorem Znc (o:Ord lt) {l:List α} {u:α} (h:Srt lt (l ++ [u])):∀ a ∈ l ++ [u],lt u a=false:=fun a ha=>by
 rcases List.mem_append.1 ha with h1 | h1
 ·exact (List.pairwise_append.1 h).2.2 a h1 u (List.mem_cons_self ..)
 ·rw [List.mem_singleton.1 h1]
  exact o.irr u
theorem Znd (o:Ord lt) {l:List α} {v:α} (h:Srt lt (v::l)):∀ b ∈ v::l,lt b v=false:=fun b hb=>by
 rcases List.mem_cons.1 hb with h1 | h1
 ·rw [h1]
  exact o.irr v
 ·exact (List.pairwise_cons.1 h).1 b h1
theorem ZrW (o:Ord lt) {X1 X2 Y1 Y2:List α} (hX:Srt lt (X1++X2)) (hY:Srt lt (Y1++Y2)) (h1:∀ P x y Q,X1=P ++ [x]→Y2=y::Q→lt y x=false) (h2:∀ P x y Q,Y1=P ++ [y]→X2=x::Q→lt y x=true) :
  ∀ a ∈ X1++Y1,∀ b ∈ X2++Y2,lt b a=false:=by
 obtain ⟨x1,x2,x3⟩:=List.pairwise_append.1 hX
 obtain ⟨y1,y2,y3⟩:=List.pairwise_append.1 hY
 intro a ha b hb
 rcases List.mem_append.1 ha with ha | ha
 ·rcases List.mem_append.1 hb with hb | hb
  ·exact x3 a ha b hb
  ·rcases List.eq_nil_or_concat X1 with e | ⟨P,u,e⟩
   ·rw [e] at ha
    cases ha
   ·cases Y2 with
    | nil=>cases hb
    | cons v Q=>
      rw [List.concat_eq_append] at e
      have hu:=Znc o (l:=P) (u:=u) (by rw [← e];exact x1) a (by rw [← e];exact ha)
      have hv:=Znd o y2 b hb
      exact o.tr a u b hu (o.tr u v b (h1 P u v Q e rfl) hv)
 ·rcases List.mem_append.1 hb with hb | hb
  ·rcases List.eq_nil_or_concat Y1 with e | ⟨P,u,e⟩
   ·rw [e] at ha
    cases ha
   ·cases X2 with
    | nil=>cases hb
    | cons v Q=>
      rw [List.concat_eq_append] at e
      have hu:=Znc o (l:=P) (u:=u) (by rw [← e];exact y1) a (by rw [← e];exact ha)
      have hv:=Znd o x2 b hb
      exact o.tr a u b hu (o.tr u v b (o.asym _ _ (h2 P v u Q e rfl)) hv)
  ·exact y3 a ha b hb
theorem ZrX {Z1 Z2 W1 W2:List α} (h1:Srt lt Z1) (h2:Srt lt Z2) (p1:Z1.Perm W1) (p2:Z2.Perm W2) (h:∀ a ∈ W1,∀ b ∈ W2,lt b a=false):Srt lt (Z1++Z2):=
 List.pairwise_append.2 ⟨h1,h2,fun a ha b hb=>h a (p1.mem_iff.1 ha) b (p2.mem_iff.1 hb)⟩
theorem Zne (o:Ord lt) {Y1 Y2:List α} {x:α} (h:Srt lt (Y1++Y2)) (h1:∀ P u,Y1=P ++ [u]→lt x u=false) (h2:∀ v Q,Y2=v::Q→lt v x=false):Srt lt (Y1++x::Y2):=by
 obtain ⟨a1,a2,a3⟩:=List.pairwise_append.1 h
 have k1:∀ a ∈ Y1,lt x a=false:=fun a ha=>by
  rcases List.eq_nil_or_concat Y1 with e | ⟨P,u,e⟩
  ·rw [e] at ha
   cases ha
  ·rw [List.concat_eq_append] at e
   exact o.tr a u x (Znc o (l:=P) (u:=u) (by rw [← e];exact a1) a (by rw [← e];exact ha)) (h1 P u e)
 have k2:∀ b ∈ Y2,lt b x=false:=fun b hb=>by
  cases Y2 with
  | nil=>cases hb
  | cons v Q=>exact o.tr x v b (h2 v Q rfl) (Znd o a2 b hb)
 refine List.pairwise_append.2 ⟨a1,List.pairwise_cons.2 ⟨k2,a2⟩,fun a ha b hb=>?_⟩
 rcases List.mem_cons.1 hb with e | e
 ·rw [e]
  exact k1 a ha
 ·exact a3 a ha b e
end
theorem Zvx {x:Int} (h0:0≤x) (h1:x≤9223372036854775807):w64 (Int.fdiv (IntKind.wrap .u64 x) (2 ^ (min (1:Int).toNat (IntKind.bits .u64))))=x / 2:=by
 have e1:IntKind.wrap .u64 x=x:=by
  unfold IntKind.wrap
  simp [IntKind.signed,IntKind.bits]
  omega
 rw [e1]
 have e2:(2:Int) ^ (min (1:Int).toNat (IntKind.bits .u64))=2:=rfl
 rw [e2,Int.fdiv_eq_ediv_of_nonneg _ (by omega)]
 exact Zs (by omega) (by omega)
end Go.Proofs.YtjoneoobolnnbaaGreatDoor
namespace Go.Proofs.YtjoneoobolnnbaaGreatDoor
open VL
section
variable {α:Type}
def Zq2 (p0:List α) (p1 p2 p3:Int):Option (List α):=
 ZK Zax (fun f ((i,d):Int×List α)=>
  if (decide (i<p3)) then
   (atI d (w64 (p2+i))).bind fun x=>
   (atI d (w64 (p1+i))).bind fun y=>
   (atI d (w64 (p1+i))).bind fun _=>
   (atI (ZbI d (w64 (p1+i)) x) (w64 (p2+i))).bind fun _=>
   f ((w64 (i+1)),(ZbI (ZbI d (w64 (p1+i)) x) (w64 (p2+i)) y))
  else
  (some d:Option (List α))) (0,p0)
theorem ZnM (A X M Y B:List α) {n:Nat} (hx:X.length=n) (hy:Y.length=n) (hs:(A++(X++(M++(Y++B)))).length≤1000000) {a b c:Int} (ha:a=(A.length:Int)) (hb:b=(A.length:Int)+n+M.length) (hc:c=(n:Int)) :
  Tot (Zq2 (A++(X++(M++(Y++B)))) a b c) fun r=>r=A++(Y++(M++(X++B))):=by
 simp only [List.length_append] at hs
 unfold Zq2
 refine ZH (fun q:Int×List α=>∃ X1 X2 Y1 Y2,X=X1++X2∧Y=Y1++Y2∧Y1.length=X1.length∧q.1=(X1.length:Int)∧q.2=A++(Y1++(X2++(M++(X1++(Y2++B)))))) (fun q=>(c - q.1).toNat) ⟨[],X,[],Y,rfl,rfl,rfl,rfl,rfl⟩ (by dsimp only;omega) ?_
 rintro ⟨i,d⟩ rec ⟨X1,X2,Y1,Y2,e1,e2,e3,e4,e5⟩ ih
 dsimp only at e4 e5 ⊢
 subst e4 e5
 have l1:X1.length+X2.length=n:=by rw [← hx,e1,List.length_append]
 have l2:Y1.length+Y2.length=n:=by rw [← hy,e2,List.length_append]
 refine Zg (fun h=>?_) fun h=>?_
 ·cases X2 with
  | nil=>simp at l1;omega
  | cons x X2=>
    cases Y2 with
    | nil=>simp at l2;omega
    | cons y Y2=>
      simp only [List.length_cons] at l1 l2
      have ea:w64 (a+(X1.length:Int))=((A++Y1).length:Int):=(Zs (by omega) (by omega)).trans (by rw [List.length_append];omega)
      have eb:w64 (b+(X1.length:Int))=((A++Y1).length:Int)+1+((X2++(M++X1)).length:Int):=(Zs (by omega) (by omega)).trans (by simp only [List.length_append];omega)
      have ed:A++(Y1++(x::X2++(M++(X1++(y::Y2++B)))))=(A++Y1)++x::((X2++(M++X1))++y::(Y2++B)):=by simp
      rw [ed]
      refine Zd (v:=y) (Zk4 (A++Y1) (X2++(M++X1)) (Y2++B) x y eb) ?_
      refine Zd (v:=x) (Zb8 _ _ _ ea) ?_
      refine Zd (v:=x) (Zb8 _ _ _ ea) ?_
      refine Zd (v:=y) (by rw [Zec _ _ _ _ ea];exact Zk4 _ _ _ _ _ eb) ?_
      rw [Zok _ _ _ _ _ ea eb]
      refine ih _ ⟨X1 ++ [x],X2,Y1 ++ [y],Y2,by simp [e1],by simp [e2],by simp [e3],?_,by simp⟩ ?_
      ·exact (Zs (by omega) (by omega)).trans (by simp)
      ·dsimp only
       rw [Zs (by omega) (by omega)]
       omega
 ·have h1:X2 = []:=List.length_eq_zero_iff.1 (by omega)
  have h2:Y2 = []:=List.length_eq_zero_iff.1 (by omega)
  subst h1 h2
  simp only [List.append_nil] at e1 e2
  subst e1 e2
  exact Zc rfl
def ZwP (p0:List α) (p1 p2 p3:Int):Option (List α):=
 ZK Zax (fun f ((i,j,d):Int×Int×List α)=>
  if (!decide (i=j)) then
   if (decide (j<i)) then
    (Zq2 d (w64 (p2 - i)) p2 j).bind fun r=>
    f ((w64 (i - j)),j,r)
   else
   (Zq2 d (w64 (p2 - i)) (w64 ((w64 (p2+j)) - i)) i).bind fun r=>
   f (i,(w64 (j - i)),r)
  else
  (Zq2 d (w64 (p2 - i)) p2 i).bind fun r=>
  (some r:Option (List α))) ((w64 (p2 - p1)),(w64 (p3 - p2)),p0)
theorem Zv0 (A U V B:List α) (hU:U≠[]) (hV:V≠[]) (hs:(A++(U++(V++B))).length≤1000000) {a m b:Int} (ha:a=(A.length:Int)) (hm:m=(A.length:Int)+U.length) (hb:b=(A.length:Int)+U.length+V.length) :
  Tot (ZwP (A++(U++(V++B))) a m b) fun r=>r=A++(V++(U++B)):=by
 simp only [List.length_append] at hs
 have u1:0<U.length:=List.length_pos_iff.2 hU
 have v1:0<V.length:=List.length_pos_iff.2 hV
 unfold ZwP
 rw [Zs (by omega) (by omega),Zs (by omega) (by omega)]
 refine ZH (fun q:Int×Int×List α=>∃ L U' V' R,q.1=(U'.length:Int)∧q.2.1=(V'.length:Int)∧0<U'.length∧0<V'.length∧q.2.2=A++(L++(U'++(V'++(R++B))))∧L++(V'++(U'++R))=V++U∧(L.length:Int)+U'.length=U.length) (fun q=>(q.1+q.2.1).toNat)
  ⟨[],U,V,[],by dsimp only;omega,by dsimp only;omega,u1,v1,rfl,by simp,by simp⟩ (by dsimp only;omega) ?_
 rintro ⟨i,j,d⟩ rec ⟨L,U',V',R,e1,e2,p1,p2,e3,e4,e5⟩ ih
 dsimp only at e1 e2 e3 ⊢
 subst e1 e2 e3
 have hl:L.length+V'.length+U'.length+R.length=V.length+U.length:=by
  have:=congrArg List.length e4
  simp only [List.length_append] at this
  omega
 refine Za0 (fun h=>?_) fun h=>?_
 ·refine Zg (fun hlt=>?_) fun hlt=>?_
  ·obtain ⟨U1,U2,c1,c2⟩:=Zi6 U' V'.length (by omega)
   have hu2:U1.length+U2.length=U'.length:=by rw [c1,List.length_append]
   refine Zi (Q:=fun r=>r=(A++L)++(V'++(U2++(U1++(R++B))))) ?_ fun r hr=>?_
   ·have:=ZnM (A++L) U1 U2 V' (R++B) (n:=V'.length) c2 rfl (by simp only [List.length_append];omega) (a:=w64 (m - (U'.length:Int))) (b:=m) (c:=(V'.length:Int)) ((Zs (by omega) (by omega)).trans (by rw [List.length_append];omega)) (by rw [List.length_append];omega) rfl
    rw [c1]
    rw [show A++(L++((U1++U2)++(V'++(R++B))))=(A++L)++(U1++(U2++(V'++(R++B)))) by simp]
    rw [← c1]
    exact this
   ·subst hr
    refine ih _ ⟨L++V',U2,U1,R,?_,?_,by omega,by omega,by simp,?_,?_⟩ ?_
    ·exact (Zs (by omega) (by omega)).trans (by omega)
    ·dsimp only
     omega
    ·rw [← e4,c1]
     simp
    ·rw [List.length_append]
     omega
    ·dsimp only
     rw [Zs (by omega) (by omega)]
     omega
  ·obtain ⟨V1,V2,c1,c2⟩:=Zi6 V' (V'.length - U'.length) (by omega)
   have hv2:V1.length+V2.length=V'.length:=by rw [c1,List.length_append]
   refine Zi (Q:=fun r=>r=(A++L)++(V2++(V1++(U'++(R++B))))) ?_ fun r hr=>?_
   ·have:=ZnM (A++L) U' V1 V2 (R++B) (n:=U'.length) rfl (by omega) (by simp only [List.length_append];omega) (a:=w64 (m - (U'.length:Int))) (b:=w64 (w64 (m+(V'.length:Int)) - (U'.length:Int))) (c:=(U'.length:Int)) ((Zs (by omega) (by omega)).trans (by rw [List.length_append];omega)) (by
     rw [Zs (n:=m+(V'.length:Int)) (by omega) (by omega),Zs (by omega) (by omega),List.length_append]
     omega) rfl
    rw [c1]
    rw [show A++(L++(U'++((V1++V2)++(R++B))))=(A++L)++(U'++(V1++(V2++(R++B)))) by simp]
    rw [← c1]
    exact this
   ·subst hr
    refine ih _ ⟨L,V2,V1,U'++R,?_,?_,by omega,by omega,by simp,?_,?_⟩ ?_
    ·dsimp only
     omega
    ·exact (Zs (by omega) (by omega)).trans (by omega)
    ·rw [← e4,c1]
     simp
    ·omega
    ·dsimp only
     rw [Zs (by omega) (by omega)]
     omega
 ·refine Zi (ZnM (A++L) U' [] V' (R++B) (n:=U'.length) rfl (by omega) (by simp only [List.length_append,List.length_nil];omega) (a:=w64 (m - (U'.length:Int))) (b:=m) (c:=(U'.length:Int)) ((Zs (by omega) (by omega)).trans (by rw [List.length_append];omega)) (by rw [List.length_append,List.length_nil];omega) rfl |> fun t=>by
   rw [show A++(L++(U'++(V'++(R++B))))=(A++L)++(U'++([]++(V'++(R++B)))) by simp]
   exact t) fun r hr=>?_
  refine Zc ?_
  rw [hr]
  have:A++((L++(V'++(U'++R)))++B)=A++((V++U)++B):=by rw [e4]
  simpa using this
end
end Go.Proofs.YtjoneoobolnnbaaGreatDoor
set_option linter.unusedSimpArgs false
namespace Go.Proofs.YtjoneoobolnnbaaGreatDoor
open VL
section
variable {α:Type}
def Zmz (cmp:α→α→Option Int) (lt:α→α→Bool):Prop:=∀ a b,Tot (cmp a b) fun r=>decide (r<0)=lt a b
def ZvN (cmp:α→α→Option Int) (p0:List α) (p1 p2:Int):Option (List α):=
 ZK Zax (fun f ((i,d):Int×List α)=>
  if (decide (i<p2)) then
   ZK Zax (fun g ((j,d):Int×List α)=>
    letk (fun (x:Bool)=>
     if x then
      (atI d (w64 (j - 1))).bind fun u=>
      (atI d j).bind fun v=>
      (atI d j).bind fun _=>
      (atI (ZbI d j u) (w64 (j - 1))).bind fun _=>
      g ((w64 (j - 1)),(ZbI (ZbI d j u) (w64 (j - 1)) v))
     else
     f ((w64 (i+1)),d)) fun k=>
    if (decide (p1<j)) then
     (atI d j).bind fun v=>
     (atI d (w64 (j - 1))).bind fun u=>
     (cmp v u).bind fun r=>
     k (decide (r<0))
    else
    k false) (i,d)
  else
  (some d:Option (List α))) ((w64 (p1+1)),p0)
theorem ZqS {cmp:α→α→Option Int} {lt:α→α→Bool} (o:Ord lt) (hc:Zmz cmp lt) (A X B:List α) (hs:(A++(X++B)).length≤1000000) {a b:Int} (ha:a=(A.length:Int)) (hb:b=(A.length:Int)+X.length) :
  Tot (ZvN cmp (A++(X++B)) a b) fun r=>∃ Z,r=A++(Z++B)∧Z.Perm X∧Srt lt Z:=by
 simp only [List.length_append] at hs
 unfold ZvN
 rw [Zs (by omega) (by omega)]
 cases X with
 | nil=>
   unfold Zax
   refine ⟨A++([]++B),?_,[],rfl,List.Perm.refl _,List.Pairwise.nil⟩
   show (if decide (a+1<b)=true then _ else some (A++([]++B)))=some (A++([]++B))
   rw [if_neg (by simp only [List.length_nil] at hb;simp;omega)]
 | cons x0 X=>
 simp only [List.length_cons] at hs hb
 refine ZH (fun q:Int×List α=>∃ Z W,0<Z.length∧q.1=(A.length:Int)+Z.length∧q.2=A++(Z++(W++B))∧Srt lt Z∧(Z++W).Perm (x0::X)) (fun q=>(b - q.1).toNat) ⟨[x0],X,by simp,by simp [ha],by simp,List.pairwise_singleton ..,List.Perm.refl _⟩ (by dsimp only;omega) ?_
 rintro ⟨i,d⟩ rec ⟨Z,W,z0,e1,e2,e3,e4⟩ ih
 dsimp only at e1 e2 ⊢
 subst e1 e2
 have hl:Z.length+W.length=X.length+1:=by
  have:=e4.length_eq
  simpa using this
 refine Zg (fun h=>?_) fun h=>?_
 ·cases W with
  | nil=>simp at hl;omega
  | cons v W=>
  simp only [List.length_cons] at hl
  have fin:∀ (P Q:List α),P++Q=Z→(∀ P' u,P=P' ++ [u]→lt v u=false)→(∀ w Q',Q=w::Q'→lt v w=true)→Tot (rec ((w64 ((A.length:Int)+Z.length+1)),A++(P++(v::(Q++(W++B)))))) fun r=>∃ Z,r=A++(Z++B)∧Z.Perm (x0::X)∧Srt lt Z:=fun P Q hPQ h1 h2=>by
   refine ih _ ⟨P++v::Q,W,by simp only [List.length_append,List.length_cons];omega,?_,by simp,Zne o (by rw [hPQ];exact e3) h1 (fun w Q' e=>o.asym _ _ (h2 w Q' e)),?_⟩ ?_
   ·rw [← hPQ]
    exact (Zs (by rw [← hPQ] at hl;simp only [List.length_append] at hl ⊢;omega) (by rw [← hPQ] at hl;simp only [List.length_append] at hl ⊢;omega)).trans (by simp;omega)
   ·refine List.Perm.trans ?_ e4
    rw [← hPQ]
    have:(P++v::Q).Perm (P++Q ++ [v]):=by
     have:=(List.perm_middle (a:=v) (l₁:=P) (l₂:=Q)).trans (List.perm_append_singleton v (P++Q)).symm
     exact this
    have h3:=this.append_right W
    simpa using h3
   ·dsimp only
    rw [Zs (by omega) (by omega)]
    omega
  refine ZH (fun q:Int×List α=>∃ P Q,q.1=(A.length:Int)+P.length∧q.2=A++(P++(v::(Q++(W++B))))∧P++Q=Z∧∀ w Q',Q=w::Q'→lt v w=true) (fun q=>q.1.toNat) ⟨Z,[],rfl,by simp,by simp,fun w Q' e=>by cases e⟩ (by dsimp only;omega) ?_
  rintro ⟨j,d⟩ rec2 ⟨P,Q,f1,f2,f3,f4⟩ ih2
  dsimp only at f1 f2 ⊢
  subst f1 f2
  have hpq:P.length+Q.length=Z.length:=by rw [← f3,List.length_append]
  refine Zam ?_
  refine Zg (fun h=>?_) fun h=>?_
  ·rcases List.eq_nil_or_concat P with e | ⟨P',u,e⟩
   ·rw [e] at h
    simp at h
    omega
   rw [List.concat_eq_append] at e
   subst e
   simp only [List.length_append,List.length_cons,List.length_nil] at h hpq ⊢
   have i1:((A.length:Int)+((P'.length+(0+1):Nat):Int))=((A++(P' ++ [u])).length:Int):=by simp<;>omega
   have i2:w64 ((A.length:Int)+((P'.length+(0+1):Nat):Int) - 1)=((A++P').length:Int):=(Zs (by omega) (by omega)).trans (by simp;omega)
   have d1:A++(P' ++ [u]++(v::(Q++(W++B))))=(A++(P' ++ [u]))++v::(Q++(W++B)):=by simp
   have d2:A++(P' ++ [u]++(v::(Q++(W++B))))=(A++P')++u::(v::(Q++(W++B))):=by simp
   have g1:atI (A++(P' ++ [u]++(v::(Q++(W++B))))) ((A.length:Int)+((P'.length+(0+1):Nat):Int))=some v:=by
    rw [d1]
    exact Zb8 _ _ _ i1
   have g2:atI (A++(P' ++ [u]++(v::(Q++(W++B))))) (w64 ((A.length:Int)+((P'.length+(0+1):Nat):Int) - 1))=some u:=by
    rw [d2]
    exact Zb8 _ _ _ i2
   have s1:ZbI (A++(P' ++ [u]++(v::(Q++(W++B))))) ((A.length:Int)+((P'.length+(0+1):Nat):Int)) u=(A++P')++u::(u::(Q++(W++B))):=by
    rw [d1,Zec _ _ _ _ i1]
    simp
   refine Zd (v:=v) g1 ?_
   refine Zd (v:=u) g2 ?_
   refine Zi (hc v u) fun r hr=>?_
   refine Zg (fun hlt=>?_) fun hlt=>?_
   ·refine Zd (v:=u) g2 ?_
    refine Zd (v:=v) g1 ?_
    refine Zd (v:=v) g1 ?_
    rw [s1]
    refine Zd (v:=u) (Zb8 _ _ _ i2) ?_
    rw [Zec _ _ _ _ i2]
    refine ih2 _ ⟨P',u::Q,?_,by simp,by rw [← f3];simp,fun w Q' e=>?_⟩ ?_
    ·dsimp only
     rw [i2]
     simp only [List.length_append,List.length_cons,List.length_nil]
     omega
    ·injection e with e _
     rw [← e,← hr]
     exact decide_eq_true hlt
    ·dsimp only
     rw [i2]
     simp only [List.length_append,List.length_cons,List.length_nil]
     omega
   ·refine fin (P' ++ [u]) Q f3 (fun P2 u2 e=>?_) f4
    have:=List.append_inj_right' e rfl
    injection this with this
    rw [← this,← hr]
    exact decide_eq_false hlt
  ·have:P = []:=List.length_eq_zero_iff.1 (by omega)
   subst this
   exact Zbg (b:=false) (fun h=>by cases h) fun _=>fin [] Q f3 (fun P2 u2 e=>by simp at e) f4
 ·have:W = []:=List.length_eq_zero_iff.1 (by omega)
  subst this
  exact Zc ⟨Z,by simp,by simpa using e4,e3⟩
end
end Go.Proofs.YtjoneoobolnnbaaGreatDoor
namespace Go.Proofs.YtjoneoobolnnbaaGreatDoor
open VL
section
variable {α:Type}
theorem ZiQ {β:Type} {x:Int} {f:Int→Option β} {R:β→Prop} (h0:0≤x) (h1:x≤1000000000) (k:∀ q,w64 q=x / 2→Tot (f q) R):Tot ((ZlG .u64 (IntKind.wrap .u64 (w64 x)) 1).bind f) R:=
 Zl4 (by decide) (k _ (by
  rw [Zs (n:=x) (by omega) (by omega)]
  exact Zvx h0 (by omega)))
def ZtQ (cmp:α→α→Option Int) (p0:List α) (p1 p2 p3:Int):Option (List α):=
 ZK Zax (fun f ((i,j):Int×Int)=>
  if (decide (i<j)) then
   (ZlG .u64 (IntKind.wrap .u64 (w64 (i+j))) 1).bind fun q=>
   (atI p0 (w64 q)).bind fun x=>
   (atI p0 p1).bind fun y=>
   (cmp x y).bind fun r=>
   if (decide (r<0)) then
    f ((w64 ((w64 q)+1)),j)
   else
   f (i,(w64 q))
  else
  ZK Zax (fun g ((k,d):Int×List α)=>
   if (decide (k<w64 (i - 1))) then
    (atI d (w64 (k+1))).bind fun x=>
    (atI d k).bind fun y=>
    (atI d k).bind fun _=>
    (atI (ZbI d k x) (w64 (k+1))).bind fun _=>
    g ((w64 (k+1)),(ZbI (ZbI d k x) (w64 (k+1)) y))
   else
   (some d:Option (List α))) (p1,p0)) (p2,p3)
theorem ZtR {cmp:α→α→Option Int} {lt:α→α→Bool} (o:Ord lt) (hc:Zmz cmp lt) (A Y B:List α) (x:α) (hY:Srt lt Y) (hs:(A++(x::(Y++B))).length≤1000000) {a m b:Int} (ha:a=(A.length:Int)) (hm:m=(A.length:Int)+1) (hb:b=(A.length:Int)+1+Y.length) :
  Tot (ZtQ cmp (A++(x::(Y++B))) a m b) fun r=>∃ Z,r=A++(Z++B)∧Z.Perm (x::Y)∧Srt lt Z:=by
 simp only [List.length_append,List.length_cons] at hs
 unfold ZtQ
 refine ZH (fun q:Int×Int=>∃ Y1 Y2 Y3,Y=Y1++(Y2++Y3)∧q.1=m+(Y1.length:Int)∧q.2=m+(Y1.length:Int)+Y2.length∧(∀ P u,Y1=P ++ [u]→lt u x=true)∧∀ v Q,Y3=v::Q→lt v x=false) (fun q=>(q.2 - q.1).toNat)
  ⟨[],Y,[],by simp,by simp,by simp;omega,fun P u e=>by simp at e,fun v Q e=>by cases e⟩ (by dsimp only;omega) ?_
 rintro ⟨i,j⟩ rec ⟨Y1,Y2,Y3,e0,e1,e2,e3,e4⟩ ih
 dsimp only at e1 e2 ⊢
 subst e1 e2
 have hl:Y1.length+(Y2.length+Y3.length)=Y.length:=by rw [e0];simp
 refine Zg (fun h=>?_) fun h=>?_
 ·refine ZiQ (by omega) (by omega) fun q hq=>?_
  rw [hq]
  obtain ⟨Q1,v,Q2,c1,c2⟩:=Ztv Y2 ((m+(Y1.length:Int)+(m+(Y1.length:Int)+Y2.length)) / 2 - (m+(Y1.length:Int))) (by omega) (by omega)
  have hl2:Y2.length=Q1.length+(1+Q2.length):=by rw [c1];simp;omega
  have g1:atI (A++(x::(Y++B))) ((m+(Y1.length:Int)+(m+(Y1.length:Int)+Y2.length)) / 2)=some v:=by
   have:=Zb8 (A++x::(Y1++Q1)) (Q2++(Y3++B)) v (i:=(m+(Y1.length:Int)+(m+(Y1.length:Int)+Y2.length)) / 2) (by simp only [List.length_append,List.length_cons];omega)
   rw [← this,e0,c1]
   simp
  refine Zd (v:=v) g1 ?_
  refine Zd (v:=x) (Zb8 A _ x ha) ?_
  refine Zi (hc v x) fun r hr=>?_
  refine Zg (fun hlt=>?_) fun hlt=>?_
  ·refine ih _ ⟨Y1++(Q1 ++ [v]),Q2,Y3,by rw [e0,c1];simp,?_,?_,fun P u e=>?_,e4⟩ ?_
   ·exact (Zs (by omega) (by omega)).trans (by simp;omega)
   ·simp only [List.length_append,List.length_cons,List.length_nil]
    omega
   ·have : [v] = [u]:=List.append_inj_right' (s₁:=Y1++Q1) (by simpa using e) rfl
    injection this with this
    rw [← this,← hr]
    exact decide_eq_true hlt
   ·dsimp only
    rw [Zs (by omega) (by omega)]
    omega
  ·refine ih _ ⟨Y1,Q1,v::(Q2++Y3),by rw [e0,c1];simp,rfl,by dsimp only;omega,e3,fun w Q e=>?_⟩ (by dsimp only;omega)
   injection e with e _
   rw [← e,← hr]
   exact decide_eq_false hlt
 ·have hY2:Y2 = []:=List.length_eq_zero_iff.1 (by omega)
  subst hY2
  rw [List.nil_append] at e0
  rw [Zs (by omega) (by omega)]
  refine ZH (fun q:Int×List α=>∃ W1 W2,Y1=W1++W2∧q.2=A++(W1++(x::(W2++(Y3++B))))∧q.1=(A.length:Int)+W1.length) (fun q=>(m+(Y1.length:Int) - q.1).toNat) ⟨[],Y1,rfl,by rw [e0];simp,by simp [ha]⟩ (by dsimp only;omega) ?_
  rintro ⟨k,d⟩ rec2 ⟨W1,W2,f0,f1,f2⟩ ih2
  dsimp only at f1 f2 ⊢
  subst f1 f2
  have hw:W1.length+W2.length=Y1.length:=by rw [f0];simp
  refine Zg (fun h=>?_) fun h=>?_
  ·cases W2 with
   | nil=>simp at hw;omega
   | cons w W2=>
   simp only [List.length_cons] at hw
   have i1:((A.length:Int)+W1.length)=((A++W1).length:Int):=by rw [List.length_append];omega
   have i2:w64 ((A.length:Int)+W1.length+1)=((A++W1).length:Int)+1+(([]:List α).length:Int):=(Zs (by omega) (by omega)).trans (by simp)
   have d1:A++(W1++(x::(w::W2++(Y3++B))))=(A++W1)++x::([]++w::(W2++(Y3++B))):=by simp
   rw [d1]
   refine Zd (v:=w) (Zk4 _ _ _ _ _ i2) ?_
   refine Zd (v:=x) (Zb8 _ _ _ i1) ?_
   refine Zd (v:=x) (Zb8 _ _ _ i1) ?_
   refine Zd (v:=w) (by rw [Zec _ _ _ _ i1];exact Zk4 _ _ _ _ _ i2) ?_
   rw [Zok _ _ _ _ _ i1 i2]
   refine ih2 _ ⟨W1 ++ [w],W2,by rw [f0];simp,by simp,?_⟩ ?_
   ·dsimp only
    rw [i2]
    simp only [List.length_append,List.length_cons,List.length_nil]
    omega
   ·dsimp only
    rw [i2]
    simp only [List.length_append,List.length_cons,List.length_nil]
    omega
  ·have hW2:W2 = []:=List.length_eq_zero_iff.1 (by omega)
   subst hW2
   rw [List.append_nil] at f0
   subst f0
   refine Zc ⟨Y1++x::Y3,by simp,?_,Zne o (by rw [← e0];exact hY) (fun P u e=>o.asym _ _ (e3 P u e)) e4⟩
   rw [e0]
   exact List.perm_middle
def ZtS (cmp:α→α→Option Int) (p0:List α) (p1 p2 p3:Int):Option (List α):=
 ZK Zax (fun f ((i,j):Int×Int)=>
  if (decide (i<j)) then
   (ZlG .u64 (IntKind.wrap .u64 (w64 (i+j))) 1).bind fun q=>
   (atI p0 p2).bind fun x=>
   (atI p0 (w64 q)).bind fun y=>
   (cmp x y).bind fun r=>
   if (!decide (r<0)) then
    f ((w64 ((w64 q)+1)),j)
   else
   f (i,(w64 q))
  else
  ZK Zax (fun g ((k,d):Int×List α)=>
   if (decide (i<k)) then
    (atI d (w64 (k - 1))).bind fun x=>
    (atI d k).bind fun y=>
    (atI d k).bind fun _=>
    (atI (ZbI d k x) (w64 (k - 1))).bind fun _=>
    g ((w64 (k - 1)),(ZbI (ZbI d k x) (w64 (k - 1)) y))
   else
   (some d:Option (List α))) (p2,p0)) (p1,p2)
theorem ZtT {cmp:α→α→Option Int} {lt:α→α→Bool} (o:Ord lt) (hc:Zmz cmp lt) (A X B:List α) (y:α) (hX:Srt lt X) (hs:(A++(X++(y::B))).length≤1000000) {a m b:Int} (ha:a=(A.length:Int)) (hm:m=(A.length:Int)+X.length) :
  Tot (ZtS cmp (A++(X++(y::B))) a m b) fun r=>∃ Z,r=A++(Z++B)∧Z.Perm (y::X)∧Srt lt Z:=by
 simp only [List.length_append,List.length_cons] at hs
 unfold ZtS
 refine ZH (fun q:Int×Int=>∃ X1 X2 X3,X=X1++(X2++X3)∧q.1=a+(X1.length:Int)∧q.2=a+(X1.length:Int)+X2.length∧(∀ P u,X1=P ++ [u]→lt y u=false)∧∀ v Q,X3=v::Q→lt y v=true) (fun q=>(q.2 - q.1).toNat)
  ⟨[],X,[],by simp,by simp,by simp;omega,fun P u e=>by simp at e,fun v Q e=>by cases e⟩ (by dsimp only;omega) ?_
 rintro ⟨i,j⟩ rec ⟨X1,X2,X3,e0,e1,e2,e3,e4⟩ ih
 dsimp only at e1 e2 ⊢
 subst e1 e2
 have hl:X1.length+(X2.length+X3.length)=X.length:=by rw [e0];simp
 have gy:atI (A++(X++(y::B))) m=some y:=by
  have:=Zb8 (A++X) B y (i:=m) (by rw [List.length_append];omega)
  rw [← this]
  simp
 refine Zg (fun h=>?_) fun h=>?_
 ·refine ZiQ (by omega) (by omega) fun q hq=>?_
  rw [hq]
  obtain ⟨Q1,v,Q2,c1,c2⟩:=Ztv X2 ((a+(X1.length:Int)+(a+(X1.length:Int)+X2.length)) / 2 - (a+(X1.length:Int))) (by omega) (by omega)
  have hl2:X2.length=Q1.length+(1+Q2.length):=by rw [c1];simp;omega
  have g1:atI (A++(X++(y::B))) ((a+(X1.length:Int)+(a+(X1.length:Int)+X2.length)) / 2)=some v:=by
   have:=Zb8 (A++(X1++Q1)) (Q2++(X3++(y::B))) v (i:=(a+(X1.length:Int)+(a+(X1.length:Int)+X2.length)) / 2) (by simp only [List.length_append,List.length_cons];omega)
   rw [← this,e0,c1]
   simp
  refine Zd (v:=y) gy ?_
  refine Zd (v:=v) g1 ?_
  refine Zi (hc y v) fun r hr=>?_
  refine Za0 (fun hlt=>?_) fun hlt=>?_
  ·refine ih _ ⟨X1++(Q1 ++ [v]),Q2,X3,by rw [e0,c1];simp,?_,?_,fun P u e=>?_,e4⟩ ?_
   ·exact (Zs (by omega) (by omega)).trans (by simp;omega)
   ·simp only [List.length_append,List.length_cons,List.length_nil]
    omega
   ·have : [v] = [u]:=List.append_inj_right' (s₁:=X1++Q1) (by simpa using e) rfl
    injection this with this
    rw [← this,← hr]
    exact decide_eq_false hlt
   ·dsimp only
    rw [Zs (by omega) (by omega)]
    omega
  ·refine ih _ ⟨X1,Q1,v::(Q2++X3),by rw [e0,c1];simp,rfl,by dsimp only;omega,e3,fun w Q e=>?_⟩ (by dsimp only;omega)
   injection e with e _
   rw [← e,← hr]
   exact decide_eq_true hlt
 ·have hX2:X2 = []:=List.length_eq_zero_iff.1 (by omega)
  subst hX2
  rw [List.nil_append] at e0
  refine ZH (fun q:Int×List α=>∃ W1 W2,X3=W1++W2∧q.2=A++(X1++(W1++(y::(W2++B))))∧q.1=(A.length:Int)+X1.length+W1.length) (fun q=>q.1.toNat) ⟨X3,[],by simp,by rw [e0];simp,by dsimp only;omega⟩ (by dsimp only;omega) ?_
  rintro ⟨k,d⟩ rec2 ⟨W1,W2,f0,f1,f2⟩ ih2
  dsimp only at f1 f2 ⊢
  subst f1 f2
  have hw:W1.length+W2.length=X3.length:=by rw [f0];simp
  refine Zg (fun h=>?_) fun h=>?_
  ·rcases List.eq_nil_or_concat W1 with e | ⟨W,w,e⟩
   ·rw [e] at h
    simp at h
    omega
   rw [List.concat_eq_append] at e
   subst e
   simp only [List.length_append,List.length_cons,List.length_nil] at h hw ⊢
   have i1:((A.length:Int)+X1.length+((W.length+(0+1):Nat):Int))=((A++(X1++(W ++ [w]))).length:Int):=by simp<;>omega
   have i2:w64 ((A.length:Int)+X1.length+((W.length+(0+1):Nat):Int) - 1)=((A++(X1++W)).length:Int):=(Zs (by omega) (by omega)).trans (by simp<;>omega)
   have d1:A++(X1++((W ++ [w])++(y::(W2++B))))=(A++(X1++(W ++ [w])))++y::(W2++B):=by simp
   have d2:A++(X1++((W ++ [w])++(y::(W2++B))))=(A++(X1++W))++w::(y::(W2++B)):=by simp
   have g1:atI (A++(X1++((W ++ [w])++(y::(W2++B))))) ((A.length:Int)+X1.length+((W.length+(0+1):Nat):Int))=some y:=by
    rw [d1]
    exact Zb8 _ _ _ i1
   have g2:atI (A++(X1++((W ++ [w])++(y::(W2++B))))) (w64 ((A.length:Int)+X1.length+((W.length+(0+1):Nat):Int) - 1))=some w:=by
    rw [d2]
    exact Zb8 _ _ _ i2
   have s1:ZbI (A++(X1++((W ++ [w])++(y::(W2++B))))) ((A.length:Int)+X1.length+((W.length+(0+1):Nat):Int)) w=(A++(X1++W))++w::(w::(W2++B)):=by
    rw [d1,Zec _ _ _ _ i1]
    simp
   refine Zd (v:=w) g2 ?_
   refine Zd (v:=y) g1 ?_
   refine Zd (v:=y) g1 ?_
   rw [s1]
   refine Zd (v:=w) (Zb8 _ _ _ i2) ?_
   rw [Zec _ _ _ _ i2]
   refine ih2 _ ⟨W,w::W2,by rw [f0];simp,by simp,?_⟩ ?_
   ·dsimp only
    rw [i2]
    simp only [List.length_append,List.length_cons,List.length_nil]
    omega
   ·dsimp only
    rw [i2]
    simp only [List.length_append,List.length_cons,List.length_nil]
    omega
  ·have hW1:W1 = []:=List.length_eq_zero_iff.1 (by omega)
   subst hW1
   rw [List.nil_append] at f0
   subst f0
   refine Zc ⟨X1++y::X3,by simp,?_,Zne o (by rw [← e0];exact hX) e3 fun v Q e=>o.asym _ _ (e4 v Q e)⟩
   rw [e0]
   exact List.perm_middle
end
end Go.Proofs.YtjoneoobolnnbaaGreatDoor
namespace Go.Proofs.YtjoneoobolnnbaaGreatDoor
open VL
section
variable {α:Type}
theorem Zsc {β:Type} {cmp:α→α→Option Int} {lt:α→α→Bool} (hc:Zmz cmp lt) (A X Y B:List α) {lo hi mid:Nat} (hlh:lo≤hi) (h1:A.length≤lo) (h2:hi≤A.length+X.length) (h3:hi≤mid) (h4:mid≤lo+Y.length) (hs:(A++(X++(Y++B))).length≤1000000) {p:Int} (hp:p=(mid:Int)+A.length+X.length - 1) {tail:Int→Option β} {R:β→Prop}
  (k:∀ s:Nat,lo≤s→s≤hi→(lo<s→∀ x y,X[s - 1 - A.length]? = some x→Y[mid - s]? = some y→lt y x=false)→(s<hi→∀ x y,X[s - A.length]? = some x→Y[mid - 1 - s]? = some y→lt y x=true)→Tot (tail (s:Int)) R) {a0 b0:Int} (ha0:a0=(lo:Int)) (hb0:b0=(hi:Int)) :
  Tot (ZK Zax (fun f ((st,r):Int×Int)=>
   if (decide (st<r)) then
    (ZlG .u64 (IntKind.wrap .u64 (w64 (st+r))) 1).bind fun q=>
    (atI (A++(X++(Y++B))) (w64 (p - (w64 q)))).bind fun x=>
    (atI (A++(X++(Y++B))) (w64 q)).bind fun y=>
    (cmp x y).bind fun t=>
    if (!decide (t<0)) then
     f ((w64 ((w64 q)+1)),r)
    else
    f (st,(w64 q))
   else
   tail st) (a0,b0)) R:=by
 simp only [List.length_append] at hs
 refine ZH (fun q:Int×Int=>∃ s r:Nat,q.1=s∧q.2=r∧lo≤s∧s≤r∧r≤hi∧(lo<s→∀ x y,X[s - 1 - A.length]? = some x→Y[mid - s]? = some y→lt y x=false)∧(r<hi→∀ x y,X[r - A.length]? = some x→Y[mid - 1 - r]? = some y→lt y x=true)) (fun q=>(q.2 - q.1).toNat)
  ⟨lo,hi,ha0,hb0,Nat.le_refl _,hlh,Nat.le_refl _,fun h=>absurd h (by omega),fun h=>absurd h (by omega)⟩ (by dsimp only;omega) ?_
 rintro ⟨st,r⟩ rec ⟨s,r',e1,e2,e3,e4,e5,e6,e7⟩ ih
 dsimp only at e1 e2 ⊢
 subst e1 e2
 refine Zg (fun h=>?_) fun h=>?_
 ·refine ZiQ (by omega) (by omega) fun q hq=>?_
  rw [hq]
  obtain ⟨c,hcc,c1,c2⟩:∃ c:Nat,((s:Int)+(r':Int)) / 2=(c:Int)∧s≤c∧c<r':=⟨(s+r') / 2,by omega,by omega,by omega⟩
  rw [hcc]
  have ix:c - A.length<X.length:=by omega
  have iy:mid - 1 - c<Y.length:=by omega
  have gx:X[c - A.length]? = some X[c - A.length]:=List.getElem?_eq_getElem ix
  have gy:Y[mid - 1 - c]? = some Y[mid - 1 - c]:=List.getElem?_eq_getElem iy
  have g1:atI (A++(X++(Y++B))) (w64 (p - (c:Int)))=some Y[mid - 1 - c]:=by
   rw [Zs (by omega) (by omega),show p - (c:Int)=((A.length+(X.length+(mid - 1 - c)):Nat):Int) by omega,Zl8,List.getElem?_append_right (by omega),List.getElem?_append_right (by omega),List.getElem?_append_left (by omega)]
   rw [← gy]
   congr 1
   omega
  have g2:atI (A++(X++(Y++B))) (c:Int)=some X[c - A.length]:=by
   rw [Zl8,List.getElem?_append_right (by omega),List.getElem?_append_left (by omega),gx]
  refine Zd (v:=Y[mid - 1 - c]) g1 ?_
  refine Zd (v:=X[c - A.length]) g2 ?_
  refine Zi (hc _ _) fun t ht=>?_
  refine Za0 (fun hlt=>?_) fun hlt=>?_
  ·refine ih _ ⟨c+1,r',?_,rfl,by omega,by omega,e5,fun _ x y hx hy=>?_,e7⟩ ?_
   ·exact (Zs (by omega) (by omega)).trans (by omega)
   ·have q1:c+1 - 1 - A.length=c - A.length:=by omega
    have q2:mid - (c+1)=mid - 1 - c:=by omega
    rw [q1,gx] at hx
    rw [q2,gy] at hy
    injection hx with hx
    injection hy with hy
    rw [← hx,← hy,← ht]
    exact decide_eq_false hlt
   ·dsimp only
    rw [Zs (by omega) (by omega)]
    omega
  ·refine ih _ ⟨s,c,rfl,rfl,e3,c1,by omega,e6,fun _ x y hx hy=>?_⟩ (by dsimp only;omega)
   rw [gx] at hx
   rw [gy] at hy
   injection hx with hx
   injection hy with hy
   rw [← hx,← hy,← ht]
   exact decide_eq_true hlt
 ·obtain rfl:s=r':=by omega
  exact k s e3 e5 e6 e7
def Zt5 (rec:List α→Int→Int→Int→Option (List α)) (mid e p3:Int) (d:List α):Option (List α):=
 letk (fun (b:Bool)=>
  if b then
   (rec d mid e p3).bind fun r=>
   (some r:Option (List α))
  else
  (some d:Option (List α))) fun k=>
 if (decide (mid<e)) then
  k (decide (e<p3))
 else
 k false
def Zt6 (rec:List α→Int→Int→Int→Option (List α)) (p1 st mid e p3:Int) (d:List α):Option (List α):=
 letk (fun (b:Bool)=>
  letk (fun (d:List α)=>Zt5 rec mid e p3 d) fun k=>
  if b then
   (rec d p1 st mid).bind fun r=>
   k r
  else
  k d) fun k=>
 if (decide (p1<st)) then
  k (decide (st<mid))
 else
 k false
def Zt7 (rec:List α→Int→Int→Int→Option (List α)) (p0:List α) (p1 p2 p3 st mid e:Int):Option (List α):=
 letk (fun (b:Bool)=>
  letk (fun (d:List α)=>Zt6 rec p1 st mid e p3 d) fun k=>
  if b then
   (ZwP p0 st p2 e).bind fun r=>
   k r
  else
  k p0) fun k=>
 if (decide (st<p2)) then
  k (decide (p2<e))
 else
 k false
def ZrS (cmp:α→α→Option Int):Nat→List α→Int→Int→Int→Option (List α)
 | 0,_,_,_,_=>none
 | mF+1,p0,p1,p2,p3=>
   if (decide ((w64 (p2 - p1))=1)) then
    ZtQ cmp p0 p1 p2 p3
   else
   if (decide ((w64 (p3 - p2))=1)) then
    ZtS cmp p0 p1 p2 p3
   else
   (ZlG .u64 (IntKind.wrap .u64 (w64 (p1+p3))) 1).bind fun q=>
   letk (fun (s0:Int) (r0:Int)=>
    ZK Zax (fun f ((st,r):Int×Int)=>
     if (decide (st<r)) then
      (ZlG .u64 (IntKind.wrap .u64 (w64 (st+r))) 1).bind fun q2=>
      (atI p0 (w64 ((w64 ((w64 ((w64 q)+p2)) - 1)) - (w64 q2)))).bind fun x=>
      (atI p0 (w64 q2)).bind fun y=>
      (cmp x y).bind fun t=>
      if (!decide (t<0)) then
       f ((w64 ((w64 q2)+1)),r)
      else
      f (st,(w64 q2))
     else
     Zt7 (ZrS cmp mF) p0 p1 p2 p3 st (w64 q) (w64 ((w64 ((w64 q)+p2)) - st))) (s0,r0)) fun k=>
   if (decide ((w64 q)<p2)) then
    k (w64 ((w64 ((w64 q)+p2)) - p3)) (w64 q)
   else
   k p1 p2
theorem Zld {β:Type} {p q:Prop} [Decidable p] [Decidable q] {k:Bool→Option β} {R:β→Prop} (h1:p→q→Tot (k true) R) (h2:¬ (p∧q)→Tot (k false) R):Tot (letk k fun k=>if decide p=true then k (decide q) else k false) R:=by
 show Tot (if decide p=true then k (decide q) else k false) R
 refine Zg (fun hp=>?_) fun hp=>h2 fun h=>hp h.1
 by_cases hq:q
 ·rw [decide_eq_true hq]
  exact h1 hp hq
 ·rw [decide_eq_false hq]
  exact h2 fun h=>hq h.2
theorem Ztx {cmp:α→α→Option Int} {lt:α→α→Bool} (o:Ord lt) (hc:Zmz cmp lt):∀ (f:Nat) (A X Y B:List α),0<X.length→0<Y.length→X.length+Y.length≤2 ^ f→(A++(X++(Y++B))).length≤1000000→Srt lt X→Srt lt Y→∀ {a m b:Int},a=(A.length:Int)→m=(A.length:Int)+X.length→b=(A.length:Int)+X.length+Y.length→
  Tot (ZrS cmp (f+1) (A++(X++(Y++B))) a m b) fun r=>∃ Z,r=A++(Z++B)∧Z.Perm (X++Y)∧Srt lt Z:=by
 intro f
 induction f with
 | zero=>intro A X Y B x0 y0 hf;simp at hf;omega
 | succ f ihf=>
 intro A X Y B x0 y0 hf hs hX hY a m b ha hm hb
 have hs':=hs
 simp only [List.length_append] at hs'
 unfold ZrS
 refine Zg (fun h=>?_) fun hn1=>?_
 ·rw [Zs (by omega) (by omega)] at h
  match X,x0 with
  | [x],_=>
    refine (ZtR o hc A Y B x hY (by simpa using hs) ha (by simpa using hm) (by simpa using hb)).mono fun r ⟨Z,h1,h2,h3⟩=>⟨Z,h1,h2,h3⟩
  | _::_::_,_=>simp only [List.length_cons] at hm;omega
 rw [Zs (by omega) (by omega)] at hn1
 refine Zg (fun h=>?_) fun hn2=>?_
 ·rw [Zs (by omega) (by omega)] at h
  match Y,y0 with
  | [y],_=>
    refine (ZtT o hc A X B y hX (by simpa using hs) ha hm).mono fun r ⟨Z,h1,h2,h3⟩=>⟨Z,h1,h2.trans (List.perm_append_singleton y X).symm,h3⟩
  | _::_::_,_=>simp only [List.length_cons] at hb;omega
 rw [Zs (by omega) (by omega)] at hn2
 refine ZiQ (by omega) (by omega) fun q hq=>?_
 obtain ⟨mid,hmid⟩:∃ mid:Nat,(a+b) / 2=(mid:Int):=⟨((a+b) / 2).toNat,by omega⟩
 rw [hq,hmid]
 have hn:w64 ((mid:Int)+m)=(mid:Int)+m:=Zs (by omega) (by omega)
 rw [hn,Zs (n:=(mid:Int)+m - 1) (by omega) (by omega)]
 have hp2:2 ^ (f+1)=2 ^ f+2 ^ f:=by rw [Nat.pow_succ];omega
 have main:∀ (lo hi:Nat),lo≤hi→A.length≤lo→hi≤A.length+X.length→hi≤mid→mid≤lo+Y.length→(lo=A.length∨mid=lo+Y.length)→(hi=A.length+X.length∨hi=mid)→∀ {a0 b0:Int},a0=lo→b0=hi→_:=fun lo hi l1 l2 l3 l4 l5 l6 l7 a0 b0 ea eb=>
  Zsc (lt:=lt) (R:=fun r=>∃ Z,r=A++(Z++B)∧Z.Perm (X++Y)∧Srt lt Z) hc A X Y B l1 l2 l3 l4 l5 hs (p:=(mid:Int)+m - 1) (by omega) (tail:=fun st=>Zt7 (ZrS cmp (f+1)) (A++(X++(Y++B))) a m b st (mid:Int) (w64 ((mid:Int)+m - st))) (fun s k1 k2 k3 k4=>by
   have he:w64 ((mid:Int)+m - (s:Int))=(mid:Int)+m - s:=Zs (by omega) (by omega)
   rw [he]
   obtain ⟨X1,X2,cx,lx⟩:=Zi6 X (s - A.length) (by omega)
   obtain ⟨Y1,Y2,cy,ly⟩:=Zi6 Y (mid - s) (by omega)
   have hx2:X1.length+X2.length=X.length:=by rw [cx,List.length_append]
   have hy2:Y1.length+Y2.length=Y.length:=by rw [cy,List.length_append]
   have sx:Srt lt (X1++X2):=by rw [← cx];exact hX
   have sy:Srt lt (Y1++Y2):=by rw [← cy];exact hY
   obtain ⟨sx1,sx2,_⟩:=List.pairwise_append.1 sx
   obtain ⟨sy1,sy2,_⟩:=List.pairwise_append.1 sy
   have hpart:=ZrW o sx sy (fun P x y Q e1 e2=>by
    have z1:0<X1.length:=by rw [e1];simp
    have z2:0<Y2.length:=by rw [e2];simp
    refine k3 (by omega) x y ?_ ?_
    ·rw [cx,List.getElem?_append_left (by omega),e1]
     have:s - 1 - A.length=P.length:=by
      have:X1.length=P.length+1:=by rw [e1];simp
      omega
     rw [this]
     simp
    ·rw [cy,List.getElem?_append_right (by omega),ly,Nat.sub_self,e2]
     rfl) (fun P x y Q e1 e2=>by
    have z1:0<Y1.length:=by rw [e1];simp
    have z2:0<X2.length:=by rw [e2];simp
    refine k4 (by omega) x y ?_ ?_
    ·rw [cx,List.getElem?_append_right (by omega),lx,Nat.sub_self,e2]
     rfl
    ·rw [cy,List.getElem?_append_left (by omega),e1]
     have:mid - 1 - s=P.length:=by
      have:Y1.length=P.length+1:=by rw [e1];simp
      omega
     rw [this]
     simp)
   have d0:A++(X++(Y++B))=(A++X1)++(X2++(Y1++(Y2++B))):=by rw [cx,cy];simp
   have hC:∀ Z1:List α,Z1.Perm (X1++Y1)→Srt lt Z1→Tot (Zt5 (ZrS cmp (f+1)) (mid:Int) ((mid:Int)+m - s) b (A++(Z1++(X2++(Y2++B))))) fun r=>∃ Z,r=A++(Z++B)∧Z.Perm (X++Y)∧Srt lt Z:=fun Z1 p1 q1=>by
    have hz1:Z1.length=mid - A.length:=by
     have:=p1.length_eq
     rw [List.length_append] at this
     omega
    have fin:∀ Z2:List α,Z2.Perm (X2++Y2)→Srt lt Z2→∃ Z,(A++Z1)++(Z2++B)=A++(Z++B)∧Z.Perm (X++Y)∧Srt lt Z:=fun Z2 p2 q2=>by
     refine ⟨Z1++Z2,by simp,?_,ZrX q1 q2 p1 p2 hpart⟩
     refine (p1.append p2).trans ?_
     rw [cx,cy]
     have h1:(X1++Y1++(X2++Y2)).Perm (X1++(X2++(Y1++Y2))):=by
      rw [List.append_assoc]
      refine List.Perm.append_left X1 ?_
      rw [← List.append_assoc,← List.append_assoc]
      exact List.Perm.append_right Y2 List.perm_append_comm
     refine h1.trans ?_
     simp
    unfold Zt5
    refine Zld (fun h1 h2=>?_) fun h=>?_
    ·refine Zbg (fun _=>?_) fun e=>by cases e
     have d1:A++(Z1++(X2++(Y2++B)))=(A++Z1)++(X2++(Y2++B)):=by simp
     rw [d1]
     refine Zi (ihf (A++Z1) X2 Y2 B (by omega) (by omega) (by omega) (by simp only [List.length_append];omega) sx2 sy2 (by rw [List.length_append];omega) (by rw [List.length_append];omega) (by rw [List.length_append];omega)) fun r ⟨Z2,h1,h2,h3⟩=>?_
     rw [h1]
     exact Zc (fin Z2 h2 h3)
    ·refine Zbg (fun e=>by cases e) fun _=>?_
     have hz:X2 = []∨Y2 = []:=by
      by_cases hx:X2.length=0
      ·exact .inl (List.length_eq_zero_iff.1 hx)
      ·exact .inr (List.length_eq_zero_iff.1 (by omega))
     have h2:Srt lt (X2++Y2):=by
      rcases hz with e | e
      ·rw [e];exact sy2
      ·rw [e,List.append_nil];exact sx2
     refine Zc ?_
     have:=fin (X2++Y2) (List.Perm.refl _) h2
     simpa using this
   have hD:Tot (Zt6 (ZrS cmp (f+1)) a (s:Int) (mid:Int) ((mid:Int)+m - s) b (A++(X1++(Y1++(X2++(Y2++B)))))) fun r=>∃ Z,r=A++(Z++B)∧Z.Perm (X++Y)∧Srt lt Z:=by
    unfold Zt6
    refine Zld (fun h1 h2=>?_) fun h=>?_
    ·refine Zam ?_
     refine Zbg (fun _=>?_) fun e=>by cases e
     refine Zi (Q:=fun r=>∃ Z,r=A++(Z++(X2++(Y2++B)))∧Z.Perm (X1++Y1)∧Srt lt Z) (ihf A X1 Y1 (X2++(Y2++B)) (by omega) (by omega) (by omega) (by simp only [List.length_append];omega) sx1 sy1 ha (by omega) (by omega)) fun r hr=>?_
     obtain ⟨Z1,rfl,h2,h3⟩:=hr
     exact hC Z1 h2 h3
    ·refine Zam ?_
     refine Zbg (fun e=>by cases e) fun _=>?_
     have hz:X1 = []∨Y1 = []:=by
      by_cases hx:X1.length=0
      ·exact .inl (List.length_eq_zero_iff.1 hx)
      ·exact .inr (List.length_eq_zero_iff.1 (by omega))
     have h2:Srt lt (X1++Y1):=by
      rcases hz with e | e
      ·rw [e];exact sy1
      ·rw [e,List.append_nil];exact sx1
     have:=hC (X1++Y1) (List.Perm.refl _) h2
     simpa using this
   unfold Zt7
   refine Zld (fun h1 h2=>?_) fun h=>?_
   ·refine Zam ?_
    refine Zbg (fun _=>?_) fun e=>by cases e
    rw [d0]
    refine Zi (Q:=fun r=>r=(A++X1)++(Y1++(X2++(Y2++B)))) (Zv0 (A++X1) X2 Y1 (Y2++B) (fun e=>by rw [e] at hx2;simp at hx2;omega) (fun e=>by rw [e] at ly;simp at ly;omega) (by simp only [List.length_append];omega) (by rw [List.length_append];omega) (by rw [List.length_append];omega) (by rw [List.length_append];omega)) fun r hr=>?_
    rw [hr]
    simpa using hD
   ·refine Zam ?_
    refine Zbg (fun e=>by cases e) fun _=>?_
    have hz:X2 = []∨Y1 = []:=by
     by_cases hx:X2.length=0
     ·exact .inl (List.length_eq_zero_iff.1 hx)
     ·exact .inr (List.length_eq_zero_iff.1 (by omega))
    rw [d0]
    rcases hz with e | e
    ·rw [e] at hD ⊢
     simpa using hD
    ·rw [e] at hD ⊢
     simpa using hD) ea eb
 refine Zam ?_
 refine Zg (fun h=>?_) fun h=>?_
 ·exact main (mid+A.length+X.length - (A.length+X.length+Y.length)) mid (by omega) (by omega) (by omega) (by omega) (by omega) (.inr (by omega)) (.inr rfl) (by rw [Zs (by omega) (by omega)];omega) rfl
 ·exact main A.length (A.length+X.length) (by omega) (by omega) (by omega) (by omega) (by omega) (.inl rfl) (.inl rfl) ha hm
end
end Go.Proofs.YtjoneoobolnnbaaGreatDoor
namespace Go.Proofs.YtjoneoobolnnbaaGreatDoor
open VL
section
variable {α:Type}
inductive Runs (lt:α→α→Bool) (bs:Nat):List α→Prop
 | last (X:List α) (h:Srt lt X) (hl:X.length≤bs):Runs lt bs X
 | cons (X L:List α) (h:Srt lt X) (hl:X.length=bs) (hr:Runs lt bs L):Runs lt bs (X++L)
variable {lt:α→α→Bool}
theorem Zim {bs:Nat} {L:List α} (h:Runs lt bs L) (hl:L.length≤bs):Srt lt L:=by
 cases h with
 | last X h1 h2=>exact h1
 | cons X L h1 h2 h3=>
   rw [List.length_append] at hl
   have:L = []:=List.length_eq_zero_iff.1 (by omega)
   subst this
   rw [List.append_nil]
   exact h1
theorem Zo0 {bs:Nat} {L:List α} (h:Runs lt bs L) (hl:bs<L.length):∃ X L',L=X++L'∧X.length=bs∧Srt lt X∧Runs lt bs L':=by
 cases h with
 | last X h1 h2=>omega
 | cons X L h1 h2 h3=>exact ⟨X,L,rfl,h2,h1,h3⟩
theorem ZrD {bs:Nat} (hb:0<bs) {L:List α} (h:Runs lt bs L) (hl:2 * bs≤L.length):∃ X Y L',L=X++(Y++L')∧X.length=bs∧Y.length=bs∧Srt lt X∧Srt lt Y∧Runs lt bs L':=by
 obtain ⟨X,L1,rfl,h1,h2,h3⟩:=Zo0 h (by omega)
 rw [List.length_append] at hl
 cases h3 with
 | last Y k1 k2=>exact ⟨X,L1,[],by simp,h1,by omega,h2,k1,.last [] List.Pairwise.nil (Nat.zero_le _)⟩
 | cons Y L k1 k2 k3=>exact ⟨X,Y,L,rfl,h1,k2,h2,k1,k3⟩
def Zu6 (cmp:α→α→Option Int) (p0:List α) (p1:Int):Option (List α):=
 ZK Zax (fun f ((a,b,d):Int×Int×List α)=>
  if (decide (b≤p1)) then
   (ZvN cmp d a b).bind fun d=>
   f (b,(w64 (b+20)),d)
  else
  (ZvN cmp d a p1).bind fun d=>
  ZK Zax (fun g ((bs,d):Int×List α)=>
   if (decide (bs<p1)) then
    ZK Zax (fun h ((a,b,d):Int×Int×List α)=>
     if (decide (b≤p1)) then
      (ZrS cmp 64 d a (w64 (a+bs)) b).bind fun d=>
      h (b,(w64 (b+(w64 (2 * bs)))),d)
     else
     letk (fun (d:List α)=>
      g ((w64 (bs * 2)),d)) fun k=>
     if (decide ((w64 (a+bs))<p1)) then
      (ZrS cmp 64 d a (w64 (a+bs)) p1).bind fun d=>
      k d
     else
     k d) (0,(w64 (2 * bs)),d)
   else
   (some d:Option (List α))) (20,d)) (0,20,p0)
theorem Zwl:(1000000:Nat)≤2 ^ 63:=by decide
theorem Zu7 {cmp:α→α→Option Int} (o:Ord lt) (hc:Zmz cmp lt) (l:List α) (hl:l.length≤100000) {n:Int} (hn:n=(l.length:Int)):Tot (Zu6 cmp l n) fun r=>r.Perm l∧Srt lt r:=by
 unfold Zu6
 refine ZH (fun q:Int×Int×List α=>∃ P W,q.2.2=P++W∧q.1=(P.length:Int)∧q.2.1=(P.length:Int)+20∧(P++W).Perm l∧∀ V,Runs lt 20 V→Runs lt 20 (P++V)) (fun q=>(n - q.1).toNat) ⟨[],l,rfl,rfl,rfl,List.Perm.refl _,fun V h=>h⟩ (by dsimp only;omega) ?_
 rintro ⟨a,b,d⟩ rec ⟨P,W,e1,e2,e3,e4,e5⟩ ih
 dsimp only at e1 e2 e3 ⊢
 subst e1 e2 e3
 have hlen:P.length+W.length=l.length:=by
  have:=e4.length_eq
  rwa [List.length_append] at this
 refine Zg (fun h=>?_) fun h=>?_
 ·obtain ⟨X,W',c1,c2⟩:=Zi6 W 20 (by omega)
  have hw:X.length+W'.length=W.length:=by rw [c1,List.length_append]
  refine Zi (Q:=fun r=>∃ Z,r=P++(Z++W')∧Z.Perm X∧Srt lt Z) (by rw [c1];exact ZqS o hc P X W' (by simp only [List.length_append];omega) rfl (by omega)) fun r hr=>?_
  obtain ⟨Z,rfl,h2,h3⟩:=hr
  have hz:=h2.length_eq
  refine ih _ ⟨P++Z,W',by simp,by dsimp only;rw [List.length_append];omega,?_,?_,fun V hV=>?_⟩ ?_
  ·dsimp only
   rw [Zs (by omega) (by omega),List.length_append]
   omega
  ·refine List.Perm.trans ?_ e4
   rw [c1,List.append_assoc]
   exact List.Perm.append_left P (h2.append_right W')
  ·rw [List.append_assoc]
   exact e5 _ (.cons Z V h3 (by omega) hV)
  ·dsimp only
   omega
 refine Zi (Q:=fun r=>∃ Z,r=P++(Z ++ [])∧Z.Perm W∧Srt lt Z) (by
  have:=ZqS o hc P W [] (by simp only [List.length_append,List.length_nil];omega) (a:=(P.length:Int)) (b:=n) rfl (by omega)
  simpa using this) fun r hr=>?_
 obtain ⟨Z,rfl,h2,h3⟩:=hr
 have hz:=h2.length_eq
 refine ZH (fun q:Int×List α=>∃ bs:Nat,q.1=(bs:Int)∧0<bs∧bs≤200000∧Runs lt bs q.2∧q.2.Perm l) (fun q=>(200001 - q.1).toNat) ⟨20,rfl,by omega,by omega,?_,?_⟩ (by dsimp only;omega) ?_
 ·dsimp only
  rw [List.append_nil]
  exact e5 _ (.last Z h3 (by omega))
 ·dsimp only
  rw [List.append_nil]
  exact (List.Perm.append_left P h2).trans e4
 rintro ⟨bsI,d⟩ rec2 ⟨bs,f1,f2,f3,f4,f5⟩ ih2
 dsimp only at f1 f4 f5 ⊢
 subst f1
 have hd:=f5.length_eq
 refine Zg (fun hlt=>?_) fun hlt=>?_
 ·rw [Zs (n:=2 * (bs:Int)) (by omega) (by omega)]
  refine ZH (fun q:Int×Int×List α=>∃ P W,q.2.2=P++W∧q.1=(P.length:Int)∧q.2.1=(P.length:Int)+2 * bs∧(P++W).Perm l∧(∀ V,Runs lt (2 * bs) V→Runs lt (2 * bs) (P++V))∧Runs lt bs W) (fun q=>(n - q.1).toNat) ⟨[],d,rfl,rfl,by simp,f5,fun V h=>h,f4⟩ (by dsimp only;omega) ?_
  rintro ⟨a2,b2,d2⟩ rec3 ⟨P2,W2,g1,g2,g3,g4,g5,g6⟩ ih3
  dsimp only at g1 g2 g3 ⊢
  subst g1 g2 g3
  have hl2:P2.length+W2.length=l.length:=by
   have:=g4.length_eq
   rwa [List.length_append] at this
  have e1:w64 ((P2.length:Int)+bs)=(P2.length:Int)+bs:=Zs (by omega) (by omega)
  rw [e1]
  refine Zg (fun hle=>?_) fun hle=>?_
  ·obtain ⟨X,Y,L,rfl,x1,y1,x2,y2,hL⟩:=ZrD f2 g6 (by omega)
   simp only [List.length_append] at hl2
   refine Zi (Ztx o hc 63 P2 X Y L (by omega) (by omega) (Nat.le_trans (by omega) Zwl) (by simp only [List.length_append];omega) x2 y2 rfl (by omega) (by omega)) fun r hr=>?_
   obtain ⟨Z2,rfl,k2,k3⟩:=hr
   have hz2:=k2.length_eq
   rw [List.length_append] at hz2
   refine ih3 _ ⟨P2++Z2,L,by simp,by dsimp only;rw [List.length_append];omega,?_,?_,fun V hV=>?_,hL⟩ ?_
   ·dsimp only
    rw [Zs (by omega) (by omega),List.length_append]
    omega
   ·refine List.Perm.trans ?_ g4
    rw [List.append_assoc]
    refine List.Perm.append_left P2 ?_
    have:=k2.append_right L
    simpa using this
   ·rw [List.append_assoc]
    exact g5 _ (.cons Z2 V k3 (by omega) hV)
   ·dsimp only
    omega
  refine ZO (fun k=>∀ Z2:List α,Z2.Perm W2→Srt lt Z2→Tot (k (P2++Z2)) fun r=>r.Perm l∧Srt lt r) (fun Z2 p1 q1=>?_) fun k hk=>?_
  ·have hz2:=p1.length_eq
   refine ih2 _ ⟨2 * bs,?_,by omega,by omega,g5 _ (.last Z2 q1 (by omega)),(List.Perm.append_left P2 p1).trans g4⟩ ?_
   ·dsimp only
    rw [Zs (by omega) (by omega)]
    omega
   ·dsimp only
    rw [Zs (by omega) (by omega)]
    omega
  ·refine Zg (fun hm=>?_) fun hm=>?_
   ·obtain ⟨X,Y,rfl,x1,x2,hY⟩:=Zo0 g6 (by omega)
    simp only [List.length_append] at hl2
    refine Zi (Q:=fun r=>∃ Z,r=P2++(Z ++ [])∧Z.Perm (X++Y)∧Srt lt Z) (by
     have:=Ztx o hc 63 P2 X Y [] (by omega) (by omega) (Nat.le_trans (by omega) Zwl) (by simp only [List.length_append,List.length_nil];omega) x2 (Zim hY (by omega)) (a:=(P2.length:Int)) (m:=(P2.length:Int)+bs) (b:=n) rfl (by omega) (by omega)
     simpa using this) fun r hr=>?_
    obtain ⟨Z2,rfl,k2,k3⟩:=hr
    rw [List.append_nil]
    exact hk Z2 k2 k3
   ·exact hk W2 (List.Perm.refl _) (Zim g6 (by omega))
 ·exact Zc ⟨f5,Zim f4 (by omega)⟩
end
end Go.Proofs.YtjoneoobolnnbaaGreatDoor
namespace Go.Proofs.YtjoneoobolnnbaaGreatDoor
open VL
theorem ZmV {a b:ByteArray} (h:a.toList=b.toList):a=b:=by
 rw [ByteArray.toList_eq,ByteArray.toList_eq] at h
 have:a.data=b.data:=Array.ext' h
 cases a;cases b
 simp at this
 rw [this]
def Zi2 (a b:ByteArray):Prop:=ltS a b=true
theorem Zi3 (a b:ByteArray):Zi2 a b↔a.toList<b.toList:=by unfold Zi2 ltS;rw [bytesLess_eq];simp
theorem Zj6 (a:ByteArray):¬ Zi2 a a:=by rw [Zi3];exact List.lt_irrefl _
theorem Zij {a b c:ByteArray} (h:Zi2 a b) (k:Zi2 b c):Zi2 a c:=by
 rw [Zi3] at *
 exact List.lt_trans h k
theorem Zik {a b:ByteArray} (h:a≠b):Zi2 a b∨Zi2 b a:=by
 rw [Zi3,Zi3]
 rcases Classical.em (a.toList<b.toList) with h1 | h1
 ·exact .inl h1
 ·rcases Classical.em (b.toList<a.toList) with h2 | h2
  ·exact .inr h2
  ·exact absurd (ZmV (List.le_antisymm (List.not_lt.1 h2) (List.not_lt.1 h1))) h
def tlt (a b:Title):Prop:=Title.cmp a b<0
theorem ZlY (a b:Title):tlt a b↔a.space<b.space∨(a.space=b.space∧Zi2 a.name b.name):=by
 unfold tlt Zi2 ltS
 rw [Zli]
 by_cases h1:a.space<b.space
 ·simp [h1]
 ·by_cases h2:b.space<a.space
  ·simp [h1,h2]
   omega
  ·have e:a.space=b.space:=by omega
   simp only [h1,h2,if_false,false_or]
   by_cases h:Op.bytesLess a.name.toList b.name.toList=true
   ·simp [h,e]
   ·simp only [h]
    by_cases h':a.name.toList=b.name.toList<;>simp [h',e]
theorem Zgc {a b c:Title} (h:tlt a b) (k:tlt b c):tlt a c:=by
 rw [ZlY] at *
 rcases h with h | ⟨h1,h2⟩<;>rcases k with k | ⟨k1,k2⟩
 ·exact .inl (by omega)
 ·exact .inl (by omega)
 ·exact .inl (by omega)
 ·exact .inr ⟨by omega,Zij h2 k2⟩
theorem ZmW {a b:Title} (h1:a.space=b.space) (h2:a.name=b.name):a=b:=by cases a;cases b;simp_all
theorem Zj7 {a b:Title} (h:a≠b):tlt a b∨tlt b a:=by
 rw [ZlY,ZlY]
 by_cases h1:a.space<b.space
 ·exact .inl (.inl h1)
 by_cases h2:b.space<a.space
 ·exact .inr (.inl h2)
 have e:a.space=b.space:=by omega
 rcases Zik (fun e2=>h (ZmW e e2)) with h3 | h3
 ·exact .inl (.inr ⟨e,h3⟩)
 ·exact .inr (.inr ⟨e.symm,h3⟩)
theorem Zbf (a:Title):¬ tlt a a:=by
 rw [ZlY]
 rintro (h | ⟨_,h⟩)
 ·omega
 ·exact Zj6 _ h
theorem Zil {α:Type} {lt:α→α→Prop} (tr:∀ a b c,lt a b→lt b c→lt a c) {l:List α} {x:α} {n:Nat} (hs:l.Pairwise lt) (h1:∀ y ∈ l.take n,lt y x) (h2:∀ y,l[n]? = some y→lt x y):(l.take n++x::l.drop n).Pairwise lt:=by
 have hd:∀ y ∈ l.drop n,lt x y:=fun y hy=>by
  cases hl:l.drop n with
  | nil=>rw [hl] at hy;cases hy
  | cons z zs=>
    have hz:l[n]? = some z:=by
     have:(l.drop n)[0]? = some z:=by rw [hl];rfl
     rw [List.getElem?_drop] at this
     simpa using this
    have hp:(z::zs).Pairwise lt:=hl ▸ hs.sublist (List.drop_sublist n l)
    rw [hl] at hy
    rcases List.mem_cons.1 hy with rfl | hy
    ·exact h2 _ hz
    ·exact tr _ _ _ (h2 _ hz) ((List.pairwise_cons.1 hp).1 y hy)
 refine List.pairwise_append.2 ⟨hs.sublist (List.take_sublist n l),List.pairwise_cons.2 ⟨hd,hs.sublist (List.drop_sublist n l)⟩,fun a ha b hb=>?_⟩
 rcases List.mem_cons.1 hb with rfl | hb
 ·exact h1 a ha
 ·exact tr _ _ _ (h1 a ha) (hd b hb)
theorem ZpT {α:Type} {lt:α→α→Prop} {l:List α} {x y:α} {n:Nat} (hs:l.Pairwise lt) (hy:l[n]? = some y) (h1:∀ z,lt z y→lt z x) (h2:∀ z,lt y z→lt x z):(l.take n++x::l.drop (n+1)).Pairwise lt:=by
 have hl:l=l.take n++y::l.drop (n+1):=by
  conv=>lhs;rw [← List.take_append_drop n l]
  rw [Zj5 hy]
 rw [hl] at hs
 obtain ⟨p1,p2,p3⟩:=List.pairwise_append.1 hs
 obtain ⟨p4,p5⟩:=List.pairwise_cons.1 p2
 refine List.pairwise_append.2 ⟨p1,List.pairwise_cons.2 ⟨fun z hz=>h2 _ (p4 z hz),p5⟩,fun a ha b hb=>?_⟩
 rcases List.mem_cons.1 hb with rfl | hb
 ·exact h1 _ (p3 a ha y (List.mem_cons_self ..))
 ·exact p3 a ha b (List.mem_cons_of_mem _ hb)
theorem Zfq {α:Type} (l:List α) (n:Nat):(l.take n++l.drop (n+1)).Sublist l:=by
 conv=>rhs;rw [← List.take_append_drop n l]
 refine List.Sublist.append (List.Sublist.refl _) ?_
 rw [← List.drop_drop]
 exact List.drop_sublist _ _
theorem Zhf {α:Type} {l:List α} {n:Nat} {x:α} (h:x ∈ l.take n++l.drop (n+1)):x ∈ l:=(Zfq l n).subset h
theorem ZlZ {α:Type} {l:List α} {n:Nat} (h:n<l.length):(l.take n++l.drop (n+1)).length+1=l.length:=by simp;omega
theorem Zj8 {α:Type} {l:List α} {n:Nat} {x y:α} (h:y ∈ l.take n++x::l.drop n):y=x∨y ∈ l:=by
 rcases List.mem_append.1 h with h | h
 ·exact .inr (List.mem_of_mem_take h)
 ·rcases List.mem_cons.1 h with h | h
  ·exact .inl h
  ·exact .inr (List.mem_of_mem_drop h)
theorem Zhg {α:Type} {l:List α} {n:Nat} {x:α} (h:n≤l.length):(l.take n++x::l.drop n).length=l.length+1:=by simp;omega
instance (a b:Title):Decidable (tlt a b):=inferInstanceAs (Decidable (Title.cmp a b<0))
def Zvi (a b:Title):Bool:=decide (tlt a b)
theorem Zi4 {a b:Title} (h:tlt a b):¬ tlt b a:=fun k=>Zbf a (Zgc h k)
theorem Zrx {a b:Title}:¬ tlt b a↔tlt a b∨a=b:=by
 constructor
 ·intro h
  by_cases e:a=b
  ·exact .inr e
  ·rcases Zj7 e with k | k
   ·exact .inl k
   ·exact absurd k h
 ·rintro (h | rfl)
  ·exact Zi4 h
  ·exact Zbf a
theorem Zm0 {a b c:Title} (h:¬ tlt b a) (k:¬ tlt c b):¬ tlt c a:=by
 rw [Zrx] at *
 rcases h with h | rfl
 ·rcases k with k | rfl
  ·exact .inl (Zgc h k)
  ·exact .inl h
 ·exact k
theorem Zti:Ord Zvi:=⟨fun a b h=>decide_eq_false (Zi4 (of_decide_eq_true h)),fun a b c h k=>decide_eq_false (Zm0 (of_decide_eq_false h) (of_decide_eq_false k))⟩
structure KeyF where
 seq:Int
 title:Title
 number:Int
def Ztj (a b:KeyF):Prop:=a.seq<b.seq∨(a.seq=b.seq∧(tlt a.title b.title∨(a.title=b.title∧a.number<b.number)))
instance (a b:KeyF):Decidable (Ztj a b):=by unfold Ztj;infer_instance
def kLt (a b:KeyF):Bool:=decide (Ztj a b)
theorem Zry {a b:KeyF} (h:Ztj a b):¬ Ztj b a:=by
 unfold Ztj at *
 rintro (k | ⟨k1,k2⟩)
 ·rcases h with h | ⟨h1,_⟩<;>omega
 ·rcases h with h | ⟨_,h2⟩
  ·omega
  ·rcases h2 with h2 | ⟨h3,h4⟩
   ·rcases k2 with k2 | ⟨k3,_⟩
    ·exact Zi4 h2 k2
    ·rw [k3] at h2
     exact Zbf _ h2
   ·rcases k2 with k2 | ⟨_,k4⟩
    ·rw [h3] at k2
     exact Zbf _ k2
    ·omega
theorem Zl1 {a b:KeyF}:¬ Ztj b a↔a.seq<b.seq∨(a.seq=b.seq∧(tlt a.title b.title∨(a.title=b.title∧a.number≤b.number))):=by
 constructor
 ·intro h
  unfold Ztj at h
  rw [not_or,Classical.not_and_iff_not_or_not,not_or,Classical.not_and_iff_not_or_not] at h
  obtain ⟨h1,h2⟩:=h
  by_cases e:a.seq=b.seq
  ·refine .inr ⟨e,?_⟩
   rcases h2 with h2 | ⟨h2,h3⟩
   ·exact absurd e.symm h2
   ·rcases Zrx.1 h2 with k | k
    ·exact .inl k
    ·refine .inr ⟨k,?_⟩
     rcases h3 with h3 | h3
     ·exact absurd k.symm h3
     ·omega
  ·exact .inl (by omega)
 ·rintro (h | ⟨h1,h2 | ⟨h3,h4⟩⟩) k
  ·rcases k with k | ⟨k1,_⟩<;>omega
  ·rcases k with k | ⟨_,k2 | ⟨k3,_⟩⟩
   ·omega
   ·exact Zi4 h2 k2
   ·rw [k3] at h2
    exact Zbf _ h2
  ·rcases k with k | ⟨_,k2 | ⟨_,k4⟩⟩
   ·omega
   ·rw [h3] at k2
    exact Zbf _ k2
   ·omega
theorem kLt_ord:Ord kLt:=⟨fun a b h=>decide_eq_false (Zry (of_decide_eq_true h)),fun a b c h k=>decide_eq_false (by
 have h1:=Zl1.1 (of_decide_eq_false h)
 have h2:=Zl1.1 (of_decide_eq_false k)
 refine Zl1.2 ?_
 rcases h1 with h1 | ⟨h1,h3⟩
 ·rcases h2 with h2 | ⟨h2,_⟩<;>exact .inl (by omega)
 ·rcases h2 with h2 | ⟨h2,h4⟩
  ·exact .inl (by omega)
  ·refine .inr ⟨by omega,?_⟩
   rcases h3 with h3 | ⟨h3,h5⟩
   ·rcases h4 with h4 | ⟨h4,_⟩
    ·exact .inl (Zgc h3 h4)
    ·rw [← h4]
     exact .inl h3
   ·rcases h4 with h4 | ⟨h4,h6⟩
    ·rw [h3]
     exact .inl h4
    ·exact .inr ⟨h3.trans h4,by omega⟩)⟩
theorem Ord.of {α β:Type} {lt:β→β→Bool} (o:Ord lt) (f:α→β):Ord fun a b=>lt (f a) (f b):=⟨fun a b=>o.asym _ _,fun a b c=>o.tr _ _ _⟩
end Go.Proofs.YtjoneoobolnnbaaGreatDoor
