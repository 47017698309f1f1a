/- Functions of the program as Lean functions. Written by fxgen.py. -/
import Derived.Test.YtjoneoobolnnbaaGreatDoorCF03
import Derived.Test.YtjoneoobolnnbaaGreatDoorCF04
set_option linter.unusedVariables false
set_option maxHeartbeats 4000000
set_option maxRecDepth 100000
namespace Go.Proofs.YtjoneoobolnnbaaGreatDoor
open VL
def ZcT:Option Title:=
 (some (⟨5,(⟨#[80,111,108,105,99,121]⟩:ByteArray)⟩:Title):Option Title)
theorem Zdf  (r:Title) (hF:ZcT=some r):Zb Tryz.prog 97 [] (r.pv):=by
 refine cF (fun r=>r.pv) hF mix Tryz.func97 fun r hF=>?_
 unfold ZcT at hF
 refine Za ?_
 refine rg ?_
 refine rg ?_
 cases hF
 exact rQ
def Zcv (p0:List Stored) (p1:Title):Option Int:=
 ZK Zax (fun f2 (x10:Int)=>
  if (decide (x10<(p0.length:Int))) then
   (atI p0 x10).bind fun e14=>
   if (decide (e14.title=p1)) then
    (some x10:Option Int)
   else
   f2 (w64 (x10+1))
  else
  (some (-1):Option Int)) 0
theorem ZcU (p0:List Stored) (p1:Title) (r:Int) (hF:Zcv p0 p1=some r):Zb Tryz.prog 47 [.sl (List.map Stored.cs p0),p1.pv] (.int .i64 r):=by
 refine cF (fun r=>.int .i64 r) hF mix Tryz.func47 fun r hF=>?_
 unfold Zcv at hF
 refine Za ?_
 refine rg ?_
 refine rg ?_
 refine bl ?_
 refine Zn hF fun f2 mf2 hf2 hF=>?_
 refine Zl (α:=Nat×Int) (fun a _=>mkS [(0,.sl (List.map Stored.cs p0)),(3,.ptr 3 (1,3) 0),(5,.int .i64 a.2)] [(3,some ((1,3),.box [.int .i64 p1.space,.str p1.name]))] 2) (fun a=>ZK a.1 f2 a.2=some r) (fun a=>a.1) (mf2,0) 2 hF (sR [(3,1,0)]) (fun a _ hF=>?_)
 obtain ⟨mf2,x10⟩:=a
 obtain ⟨mf2,rfl,hF⟩:=Zo hf2 hF
 dsimp only at hF ⊢
 refine Za ?_
 refine rg ?_
 refine Zr rfl (M:=p0) (f:=Stored.cs) rfl (Za ?_)
 refine cS hF rfl (fun hF=>?_) fun hF=>?_
 ·refine bl ?_
  refine rg ?_
  obtain ⟨e14,h12,hF⟩:=bnd hF
  refine Zk (f:=Stored.cs) rfl h12 rfl rfl rfl (Za ?_)
  refine Zeu (.inl rfl) rfl rfl rfl rfl rfl (fun W=>Zc9 e14.title p1 W) (Za ?_)
  refine cS hF rfl (fun hF=>?_) fun hF=>?_
  ·refine rg ?_
   cases hF
   exact rQ
  refine rg ?_
  exact rn (mf2,(w64 (x10+1))) hF (sR [(3,1,3)])
 refine rg ?_
 cases hF
 exact rQ
def Zei (p0:State) (p1:Title):Option (Stored×Bool):=
 (Zcv p0.pages p1).bind fun r1=>
 if (decide (r1<0)) then
  (some ((⟨(⟨0,(⟨#[]⟩:ByteArray)⟩:Title),[]⟩:Stored),false):Option (Stored×Bool))
 else
 (atI p0.pages r1).bind fun e2=>
 (some (e2,true):Option (Stored×Bool))
theorem Zpe (p0:State) (p1:Title) (r:Stored×Bool) (hF:Zei p0 p1=some r):Zb Tryz.prog 24 [p0.pv,p1.pv] (.tup [r.1.pv,.bool r.2]):=by
 refine cF (fun r=>.tup [r.1.pv,.bool r.2]) hF mix Tryz.func24 fun r hF=>?_
 unfold Zei at hF
 refine Za ?_
 refine rg ?_
 refine rg ?_
 obtain ⟨r1,h1,hF⟩:=bnd hF
 refine Zf (ZcU _ _ _ h1) rfl rfl (Za ?_)
 refine rg ?_
 refine cS hF rfl (fun hF=>?_) fun hF=>?_
 ·refine rg ?_
  cases hF
  exact rQ
 refine rg ?_
 obtain ⟨e2,h2,hF⟩:=bnd hF
 refine Zk (f:=Stored.cs) rfl h2 rfl rfl rfl (Za ?_)
 cases hF
 exact rQ
def Zb9 (p0:Stored):Option Revision:=
 if (decide ((p0.history.length:Int)=0)) then
  (some (⟨0,(⟨#[]⟩:ByteArray),(⟨#[]⟩:ByteArray),(⟨#[]⟩:ByteArray),0,0⟩:Revision):Option Revision)
 else
 (atI p0.history (w64 ((p0.history.length:Int) - 1))).bind fun e1=>
 (some e1:Option Revision)
theorem Zlm (p0:Stored) (r:Revision) (hF:Zb9 p0=some r):Zb Tryz.prog 140 [p0.pv] (r.pv):=by
 refine cF (fun r=>r.pv) hF mix Tryz.func140 fun r hF=>?_
 unfold Zb9 at hF
 refine Za ?_
 refine rg ?_
 refine rg ?_
 refine Zr rfl (M:=p0.history) (f:=Revision.cs) rfl (Za ?_)
 refine cS hF rfl (fun hF=>?_) fun hF=>?_
 ·refine rg ?_
  cases hF
  exact rQ
 refine rg ?_
 refine Zr rfl (M:=p0.history) (f:=Revision.cs) rfl (Za ?_)
 obtain ⟨e1,h1,hF⟩:=bnd hF
 refine Zk (f:=Revision.cs) rfl h1 rfl rfl rfl (Za ?_)
 cases hF
 exact rQ
def Zca (p0:List Stored) (p1:Int):Option (List Stored):=
 (Zin p0 0 p1).bind fun l1=>
 (ZbY 48 [] l1).bind fun l2=>
 (Zin p0 (w64 (p1+1)) (p0.length:Int)).bind fun l3=>
 (ZbY 48 l2 l3).bind fun l4=>
 (some l4:Option (List Stored))
theorem Ze8 (p0:List Stored) (p1:Int) (r:List Stored) (hF:Zca p0 p1=some r):Zb Tryz.prog 146 [.sl (List.map Stored.cs p0),.int .i64 p1] (.sl (List.map Stored.cs r)):=by
 refine cF (fun r=>.sl (List.map Stored.cs r)) hF mix Tryz.func146 fun r hF=>?_
 unfold Zca at hF
 refine Za ?_
 refine rg ?_
 refine rg ?_
 obtain ⟨l1,h1,hF⟩:=bnd hF
 refine Zbp (f:=Stored.cs) rfl h1 (fun _=>rfl) rfl rfl rfl rfl (Za ?_)
 obtain ⟨l2,h2,hF⟩:=bnd hF
 refine ZgS (f:=Stored.cs) rfl h2 (fun _=>rfl) rfl rfl rfl (Za ?_)
 obtain ⟨l3,h3,hF⟩:=bnd hF
 refine Zbp (f:=Stored.cs) rfl h3 (fun _=>rfl) rfl rfl rfl rfl (Za ?_)
 obtain ⟨l4,h4,hF⟩:=bnd hF
 refine Zaj (f:=Stored.cs) rfl h4 (fun _=>rfl) rfl rfl rfl rfl (Za ?_)
 cases hF
 exact rQ
def Zgm (p0:List Proposal) (p1:Title):Option (List Proposal):=
 ZK Zax (fun f7 ((x31,x32):Int×(List Proposal))=>
  if (decide (x31<(p0.length:Int))) then
   letk (fun (x43:List Proposal)=>
    f7 ((w64 (x31+1)),x43)) fun k8=>
   (atI p0 x31).bind fun e44=>
   if (!decide (e44.title=p1)) then
    (atI p0 x31).bind fun e45=>
    (ZbY 96 x32 [e45]).bind fun l46=>
    k8 l46
   else
   k8 x32
  else
  (some x32:Option (List Proposal))) (0,([]:List Proposal))
theorem ZkD (p0:List Proposal) (p1:Title) (r:List Proposal) (hF:Zgm p0 p1=some r):Zb Tryz.prog 147 [.sl (List.map Proposal.cs p0),p1.pv] (.sl (List.map Proposal.cs r)):=by
 refine cF (fun r=>.sl (List.map Proposal.cs r)) hF mix Tryz.func147 fun r hF=>?_
 unfold Zgm at hF
 refine Za ?_
 refine rg ?_
 refine rg ?_
 refine rg ?_
 refine bl ?_
 refine Zn hF fun f7 mf7 hf7 hF=>?_
 refine Zl (α:=Nat×(Int×(List Proposal))) (fun a _=>mkS [(0,.sl (List.map Proposal.cs p0)),(3,.ptr 3 (1,3) 0),(5,.row 5 (1,5)),(6,.int .i64 a.2.1)] [(3,some ((1,3),.box [.int .i64 p1.space,.str p1.name])),(5,some ((1,5),.row 183 8 false (List.map Proposal.cs a.2.2)))] 2) (fun a=>ZK a.1 f7 a.2=some r) (fun a=>a.1) (mf7,0,([]:List Proposal)) 2 hF (Za5 [((1,3),(1,0))] 5 183 8 rfl ⟨rfl,rfl,rfl,rfl,trivial⟩ ⟨⟨rfl,rfl⟩,⟨rfl,rfl⟩,trivial⟩ rfl) (fun a _ hF=>?_)
 obtain ⟨mf7,x31,x32⟩:=a
 obtain ⟨mf7,rfl,hF⟩:=Zo hf7 hF
 dsimp only at hF ⊢
 refine Za ?_
 refine rg ?_
 refine Zr rfl (M:=p0) (f:=Proposal.cs) rfl (Za ?_)
 refine cS hF rfl (fun hF=>?_) fun hF=>?_
 ·refine jL hF (fun x43=>mkS [(0,.sl (List.map Proposal.cs p0)),(3,.ptr 3 (1,3) 0),(5,.row 5 (1,5)),(6,.int .i64 x31)] [(3,some ((1,3),.box [.int .i64 p1.space,.str p1.name])),(5,some ((1,5),.row 183 8 false (List.map Proposal.cs x43)))] 2) (fun k8 hF=>?_) fun x43 hF=>?_
  ·refine bl ?_
   refine rg ?_
   obtain ⟨e44,h34,hF⟩:=bnd hF
   refine Zk (f:=Proposal.cs) rfl h34 rfl rfl rfl (Za ?_)
   refine Zeu (.inr rfl) rfl rfl rfl rfl rfl (fun W=>Zem e44.title p1 W) (Za ?_)
   refine cS hF rfl (fun hF=>?_) fun hF=>?_
   ·refine rg ?_
    obtain ⟨e45,h35,hF⟩:=bnd hF
    refine Zk (f:=Proposal.cs) rfl h35 rfl rfl rfl (Za ?_)
    refine Zw (M:=([e45]:List Proposal)) (f:=Proposal.cs) rfl rfl rfl rfl (Nat.le_of_ble_eq_true rfl) rfl (Za ?_)
    obtain ⟨l46,h36,hF⟩:=bnd hF
    refine Zaj (f:=Proposal.cs) rfl h36 (fun _=>rfl) rfl rfl rfl rfl (Za ?_)
    exact jn l46 hF (sR [(3,1,3),(5,4,6)])
   exact jn x32 hF (sR [(3,1,3),(5,1,5)])
  refine rg ?_
  exact rn (mf7,(w64 (x31+1)),x43) hF (sR [(3,1,3),(5,1,5)])
 refine rg ?_
 cases hF
 exact rQ
def Zdg (p0:State) (p1:Title):Option Int:=
 ZK Zax (fun f2 (x10:Int)=>
  if (decide (0≤x10)) then
   (atI p0.gone x10).bind fun e14=>
   if (decide (e14.title=p1)) then
    (some x10:Option Int)
   else
   f2 (w64 (x10 - 1))
  else
  (some (-1):Option Int)) (w64 ((p0.gone.length:Int) - 1))
theorem Zkq (p0:State) (p1:Title) (r:Int) (hF:Zdg p0 p1=some r):Zb Tryz.prog 148 [p0.pv,p1.pv] (.int .i64 r):=by
 refine cF (fun r=>.int .i64 r) hF mix Tryz.func148 fun r hF=>?_
 unfold Zdg at hF
 refine Za ?_
 refine rg ?_
 refine rg ?_
 refine Zr rfl (M:=p0.gone) (f:=Stored.cs) rfl (Za ?_)
 refine bl ?_
 refine Zn hF fun f2 mf2 hf2 hF=>?_
 refine Zl (α:=Nat×Int) (fun a _=>mkS [(2,.ptr 2 (1,2) 0),(3,.ptr 3 (1,3) 0),(5,.int .i64 a.2)] [(2,some ((1,2),.box [.int .i64 p0.seq,.int .i64 p0.clock,.sl (List.map Stored.cs p0.pages),.sl (List.map Stored.cs p0.gone),.sl (List.map Proposal.cs p0.proposals),.int .i64 p0.proposed,.sl (List.map Watch.cs p0.watches),.sl (List.map Last.cs p0.lasts)])),(3,some ((1,3),.box [.int .i64 p1.space,.str p1.name]))] 2) (fun a=>ZK a.1 f2 a.2=some r) (fun a=>a.1) (mf2,(w64 ((p0.gone.length:Int) - 1))) 2 hF (sR [(2,1,0),(3,1,1)]) (fun a _ hF=>?_)
 obtain ⟨mf2,x10⟩:=a
 obtain ⟨mf2,rfl,hF⟩:=Zo hf2 hF
 dsimp only at hF ⊢
 refine Za ?_
 refine rg ?_
 refine cS hF rfl (fun hF=>?_) fun hF=>?_
 ·refine bl ?_
  refine rg ?_
  obtain ⟨e14,h12,hF⟩:=bnd hF
  refine Zk (f:=Stored.cs) rfl h12 rfl rfl rfl (Za ?_)
  refine Zeu (.inl rfl) rfl rfl rfl rfl rfl (fun W=>Zc9 e14.title p1 W) (Za ?_)
  refine cS hF rfl (fun hF=>?_) fun hF=>?_
  ·refine rg ?_
   cases hF
   exact rQ
  refine rg ?_
  exact rn (mf2,(w64 (x10 - 1))) hF (sR [(2,1,2),(3,1,3)])
 refine rg ?_
 cases hF
 exact rQ
def Zcb (p0:State) (p1:Change):Option (State×Int):=
 letk (fun (x1:Bool)=>
  if x1 then
   (some (p0,8):Option (State×Int))
  else
  (ZbY 96 [] p0.proposals).bind fun l2=>
  (ZbY 96 l2 [(⟨(w64 (p0.proposed+1)),p1.user,p1.note,p1.title,p1.n,p1.text,p0.clock⟩:Proposal)]).bind fun l3=>
  (some ((⟨p0.seq,p0.clock,p0.pages,p0.gone,l3,(w64 (p0.proposed+1)),p0.watches,p0.lasts⟩:State),0):Option (State×Int))) fun k1=>
 if (decide (40≤(p0.proposals.length:Int))) then
  k1 true
 else
 k1 (decide (1073741824≤p0.proposed))
theorem Zln (p0:State) (p1:Change) (r:State×Int) (hF:Zcb p0 p1=some r):Zb Tryz.prog 95 [p0.pv,p1.pv] (.tup [r.1.pv,.int .i64 r.2]):=by
 refine cF (fun r=>.tup [r.1.pv,.int .i64 r.2]) hF mix Tryz.func95 fun r hF=>?_
 unfold Zcb at hF
 refine Za ?_
 refine rg ?_
 refine jL hF (fun x1=>mkS [(2,.ptr 2 (1,2) 0),(3,.ptr 3 (1,3) 0),(4,.ptr 4 (1,4) 0),(15,.bool x1)] [(2,some ((1,2),.box [.int .i64 p0.seq,.int .i64 p0.clock,.sl (List.map Stored.cs p0.pages),.sl (List.map Stored.cs p0.gone),.sl (List.map Proposal.cs p0.proposals),.int .i64 p0.proposed,.sl (List.map Watch.cs p0.watches),.sl (List.map Last.cs p0.lasts)])),(3,some ((1,3),.box [.int .i64 p1.kind,.str p1.user,.str p1.note,.int .i64 p1.title.space,.str p1.title.name,.int .i64 p1.to.space,.str p1.to.name,.str p1.text,.int .i64 p1.n,.sl (List.map Revision.cs p1.history)])),(4,some ((1,4),.box [.int .i64 0,.int .i64 0,.nil,.nil,.nil,.int .i64 0,.nil,.nil]))] 2) (fun k1 hF=>?_) fun x1 hF=>?_
 ·refine rg ?_
  refine Zr rfl (M:=p0.proposals) (f:=Proposal.cs) rfl (Za ?_)
  refine kS 11 hF rfl (fun hF=>?_) fun hF=>?_
  ·iterate 3 refine Zh rfl (Za ?_)
   exact jn true hF (sR [(2,1,0),(3,1,1),(4,1,2)])
  exact jn (decide (1073741824≤p0.proposed)) hF (sR [(2,1,0),(3,1,1),(4,1,2)])
 refine cS hF rfl (fun hF=>?_) fun hF=>?_
 ·refine rg ?_
  cases hF
  exact rQ
 refine rg ?_
 refine rg ?_
 refine rg ?_
 obtain ⟨l2,h1,hF⟩:=bnd hF
 refine ZgS (f:=Proposal.cs) rfl h1 (fun _=>rfl) rfl rfl rfl (Za ?_)
 refine Zw (M:=([(⟨(w64 (p0.proposed+1)),p1.user,p1.note,p1.title,p1.n,p1.text,p0.clock⟩:Proposal)]:List Proposal)) (f:=Proposal.cs) rfl rfl rfl rfl (Nat.le_of_ble_eq_true rfl) rfl (Za ?_)
 obtain ⟨l3,h2,hF⟩:=bnd hF
 refine Zaj (f:=Proposal.cs) rfl h2 (fun _=>rfl) rfl rfl rfl rfl (Za ?_)
 refine rg ?_
 cases hF
 exact rQ
def Zpf:Option Title:=
 (some (⟨5,(⟨#[80,111,108,105,99,121]⟩:ByteArray)⟩:Title):Option Title)
def ZoC (p0:State) (p1:Title):Option (ByteArray×Bool):=
 (Zei p0 p1).bind fun r1=>
 (Zb9 r1.1).bind fun r2=>
 (some (r2.text,r1.2):Option (ByteArray×Bool))
def Zgn (p0:State) (p1:Change):Option (State×Int):=
 ZK Zax (fun f7 ((x31,x32):Int×(List Proposal))=>
  if (decide (x31<(p0.proposals.length:Int))) then
   letk (fun (x43:List Proposal)=>
    f7 ((w64 (x31+1)),x43)) fun k8=>
   (atI p0.proposals x31).bind fun e44=>
   if (!decide (e44.id=p1.n)) then
    (atI p0.proposals x31).bind fun e45=>
    (ZbY 96 x32 [e45]).bind fun l46=>
    k8 l46
   else
   k8 x32
  else
  if (decide ((x32.length:Int)=(p0.proposals.length:Int))) then
   (some (p0,4):Option (State×Int))
  else
  (some ((⟨p0.seq,p0.clock,p0.pages,p0.gone,x32,p0.proposed,p0.watches,p0.lasts⟩:State),0):Option (State×Int))) (0,([]:List Proposal))
theorem Zpg (p0:State) (p1:Change) (r:State×Int) (hF:Zgn p0 p1=some r):Zb Tryz.prog 96 [p0.pv,p1.pv] (.tup [r.1.pv,.int .i64 r.2]):=by
 refine cF (fun r=>.tup [r.1.pv,.int .i64 r.2]) hF mix Tryz.func96 fun r hF=>?_
 unfold Zgn at hF
 refine Za ?_
 refine rg ?_
 refine rg ?_
 refine rg ?_
 refine bl ?_
 refine Zn hF fun f7 mf7 hf7 hF=>?_
 refine Zl (α:=Nat×(Int×(List Proposal))) (fun a _=>mkS [(2,.ptr 2 (1,2) 0),(3,.ptr 3 (1,3) 0),(4,.ptr 4 (1,4) 0),(6,.row 6 (1,6)),(7,.int .i64 a.2.1)] [(2,some ((1,2),.box [.int .i64 p0.seq,.int .i64 p0.clock,.sl (List.map Stored.cs p0.pages),.sl (List.map Stored.cs p0.gone),.sl (List.map Proposal.cs p0.proposals),.int .i64 p0.proposed,.sl (List.map Watch.cs p0.watches),.sl (List.map Last.cs p0.lasts)])),(3,some ((1,3),.box [.int .i64 p1.kind,.str p1.user,.str p1.note,.int .i64 p1.title.space,.str p1.title.name,.int .i64 p1.to.space,.str p1.to.name,.str p1.text,.int .i64 p1.n,.sl (List.map Revision.cs p1.history)])),(4,some ((1,4),.box [.int .i64 0,.int .i64 0,.nil,.nil,.nil,.int .i64 0,.nil,.nil])),(6,some ((1,6),.row 183 8 false (List.map Proposal.cs a.2.2)))] 2) (fun a=>ZK a.1 f7 a.2=some r) (fun a=>a.1) (mf7,0,([]:List Proposal)) 2 hF (Za5 [((1,2),(1,0)),((1,3),(1,1)),((1,4),(1,2))] 6 183 8 rfl ⟨rfl,rfl,rfl,rfl,rfl,trivial⟩ ⟨⟨rfl,rfl⟩,⟨rfl,rfl⟩,⟨rfl,rfl⟩,⟨rfl,rfl⟩,trivial⟩ rfl) (fun a _ hF=>?_)
 obtain ⟨mf7,x31,x32⟩:=a
 obtain ⟨mf7,rfl,hF⟩:=Zo hf7 hF
 dsimp only at hF ⊢
 refine Za ?_
 refine rg ?_
 refine Zr rfl (M:=p0.proposals) (f:=Proposal.cs) rfl (Za ?_)
 refine cS hF rfl (fun hF=>?_) fun hF=>?_
 ·refine jL hF (fun x43=>mkS [(2,.ptr 2 (1,2) 0),(3,.ptr 3 (1,3) 0),(4,.ptr 4 (1,4) 0),(6,.row 6 (1,6)),(7,.int .i64 x31)] [(2,some ((1,2),.box [.int .i64 p0.seq,.int .i64 p0.clock,.sl (List.map Stored.cs p0.pages),.sl (List.map Stored.cs p0.gone),.sl (List.map Proposal.cs p0.proposals),.int .i64 p0.proposed,.sl (List.map Watch.cs p0.watches),.sl (List.map Last.cs p0.lasts)])),(3,some ((1,3),.box [.int .i64 p1.kind,.str p1.user,.str p1.note,.int .i64 p1.title.space,.str p1.title.name,.int .i64 p1.to.space,.str p1.to.name,.str p1.text,.int .i64 p1.n,.sl (List.map Revision.cs p1.history)])),(4,some ((1,4),.box [.int .i64 0,.int .i64 0,.nil,.nil,.nil,.int .i64 0,.nil,.nil])),(6,some ((1,6),.row 183 8 false (List.map Proposal.cs x43)))] 2) (fun k8 hF=>?_) fun x43 hF=>?_
  ·refine bl ?_
   refine rg ?_
   obtain ⟨e44,h34,hF⟩:=bnd hF
   refine Zk (f:=Proposal.cs) rfl h34 rfl rfl rfl (Za ?_)
   refine cS hF rfl (fun hF=>?_) fun hF=>?_
   ·refine rg ?_
    obtain ⟨e45,h35,hF⟩:=bnd hF
    refine Zk (f:=Proposal.cs) rfl h35 rfl rfl rfl (Za ?_)
    refine Zw (M:=([e45]:List Proposal)) (f:=Proposal.cs) rfl rfl rfl rfl (Nat.le_of_ble_eq_true rfl) rfl (Za ?_)
    obtain ⟨l46,h36,hF⟩:=bnd hF
    refine Zaj (f:=Proposal.cs) rfl h36 (fun _=>rfl) rfl rfl rfl rfl (Za ?_)
    exact jn l46 hF (sR [(2,1,2),(3,1,3),(4,1,4),(6,4,7)])
   exact jn x32 hF (sR [(2,1,2),(3,1,3),(4,1,4),(6,1,6)])
  refine rg ?_
  exact rn (mf7,(w64 (x31+1)),x43) hF (sR [(2,1,2),(3,1,3),(4,1,4),(6,1,6)])
 refine rg ?_
 refine Zr rfl (M:=x32) (f:=Proposal.cs) rfl (Za ?_)
 refine Zr rfl (M:=p0.proposals) (f:=Proposal.cs) rfl (Za ?_)
 refine cS hF rfl (fun hF=>?_) fun hF=>?_
 ·refine rg ?_
  cases hF
  exact rQ
 refine rg ?_
 refine rg ?_
 cases hF
 exact rQ
end Go.Proofs.YtjoneoobolnnbaaGreatDoor
