/- Functions of the program as Lean functions. Written by fxgen.py. | Functions of the program as Lean functions. Written by fxgen.py. -/
import Derived.Test.YtjoneoobolnnbaaGreatDoorCF19
import Derived.Test.YtjoneoobolnnbaaGreatDoorCF04
import Derived.Test.YtjoneoobolnnbaaGreatDoorCF26
import Derived.Test.YtjoneoobolnnbaaGreatDoorCF28
import Derived.Test.YtjoneoobolnnbaaGreatDoorCF30
import Derived.Test.YtjoneoobolnnbaaGreatDoorCF25
set_option linter.unusedVariables false
set_option maxHeartbeats 4000000
set_option maxRecDepth 100000
namespace Go.Proofs.YtjoneoobolnnbaaGreatDoor
open VL
def ZdS (p0:State) (p1:ByteArray) (p2:Int):Option (State×Int):=
 if (decide (p1=(⟨#[]⟩:ByteArray))) then
  (some (p0,0):Option (State×Int))
 else
 ZK Zax (fun f7 ((x23,x24):Int×(List Last))=>
  letk (fun (x31:Bool)=>
   if x31 then
    (atI p0.lasts x23).bind fun e32=>
    (ZbY 24 x24 [e32]).bind fun l33=>
    f7 ((w64 (x23+1)),l33)
   else
   letk (fun (x35:Bool)=>
    letk (fun (x36:Bool)=>
     if x36 then
      (some (p0,8):Option (State×Int))
     else
     (ZbY 24 x24 [(⟨p1,p2⟩:Last)]).bind fun l37=>
     letk (fun (x38:Int)=>
      (Zin p0.lasts x38 (p0.lasts.length:Int)).bind fun l39=>
      (ZbY 24 l37 l39).bind fun l40=>
      (some ((⟨p0.seq,p0.clock,p0.pages,p0.gone,p0.proposals,p0.proposed,p0.watches,l40⟩:State),0):Option (State×Int))) fun k11=>
     if x35 then
      k11 (w64 (x23+1))
     else
     k11 x23) fun k10=>
    if (!x35) then
     k10 (decide (60≤(p0.lasts.length:Int)))
    else
    k10 false) fun k9=>
   if (decide (x23<(p0.lasts.length:Int))) then
    (atI p0.lasts x23).bind fun e41=>
    k9 (decide (e41.user=p1))
   else
   k9 false) fun k8=>
  if (decide (x23<(p0.lasts.length:Int))) then
   (atI p0.lasts x23).bind fun e42=>
   k8 (ltS e42.user p1)
  else
  k8 false) (0,([]:List Last))
theorem Znk (p0:State) (p1:ByteArray) (p2:Int) (r:State×Int) (hF:ZdS p0 p1 p2=some r):Zb Tryz.prog 53 [p0.pv,.str p1,.int .i64 p2] (.tup [r.1.pv,.int .i64 r.2]):=by
 refine cF (fun r=>.tup [r.1.pv,.int .i64 r.2]) hF mix Tryz.func53 fun r hF=>?_
 unfold ZdS at hF
 refine Za ?_
 refine rg ?_
 refine rg ?_
 refine cS hF rfl (fun hF=>?_) fun hF=>?_
 ·refine rg ?_
  cases hF
  exact rQ
 refine rg ?_
 refine rg ?_
 refine bl ?_
 refine Zn hF fun f7 mf7 hf7 hF=>?_
 refine Zl (α:=Nat×(Int×(List Last))) (fun a _=>mkS [(1,.str p1),(2,.int .i64 p2),(3,.ptr 3 (1,3) 0),(6,.ptr 6 (1,6) 0),(8,.row 8 (1,8)),(9,.int .i64 a.2.1)] [(3,some ((1,3),.box [.int .i64 p0.seq,.int .i64 p0.clock,.sl (List.map Stored.cs p0.pages),.sl (List.map Stored.cs p0.gone),.sl (List.map Proposal.cs p0.proposals),.int .i64 p0.proposed,.sl (List.map Watch.cs p0.watches),.sl (List.map Last.cs p0.lasts)])),(6,some ((1,6),.box [.int .i64 0,.int .i64 0,.nil,.nil,.nil,.int .i64 0,.nil,.nil])),(8,some ((1,8),.row 134 2 false (List.map Last.cs a.2.2)))] 2) (fun a=>ZK a.1 f7 a.2=some r) (fun a=>a.1) (mf7,0,([]:List Last)) 2 hF (Za5 [((1,3),(1,0)),((1,6),(1,1))] 8 134 2 rfl ⟨rfl,rfl,rfl,rfl,rfl,rfl,trivial⟩ ⟨⟨rfl,rfl⟩,⟨rfl,rfl⟩,⟨rfl,rfl⟩,trivial⟩ rfl) (fun a _ hF=>?_)
 obtain ⟨mf7,x23,x24⟩:=a
 obtain ⟨mf7,rfl,hF⟩:=Zo hf7 hF
 dsimp only at hF ⊢
 refine Za ?_
 refine jL hF (fun x31=>mkS [(1,.str p1),(2,.int .i64 p2),(3,.ptr 3 (1,3) 0),(6,.ptr 6 (1,6) 0),(8,.row 8 (1,8)),(9,.int .i64 x23),(28,.bool x31)] [(3,some ((1,3),.box [.int .i64 p0.seq,.int .i64 p0.clock,.sl (List.map Stored.cs p0.pages),.sl (List.map Stored.cs p0.gone),.sl (List.map Proposal.cs p0.proposals),.int .i64 p0.proposed,.sl (List.map Watch.cs p0.watches),.sl (List.map Last.cs p0.lasts)])),(6,some ((1,6),.box [.int .i64 0,.int .i64 0,.nil,.nil,.nil,.int .i64 0,.nil,.nil])),(8,some ((1,8),.row 134 2 false (List.map Last.cs x24)))] 2) (fun k8 hF=>?_) fun x31 hF=>?_
 ·refine rg ?_
  refine Zr rfl (M:=p0.lasts) (f:=Last.cs) rfl (Za ?_)
  refine kS 19 hF rfl (fun hF=>?_) fun hF=>?_
  ·obtain ⟨e42,h29,hF⟩:=bnd hF
   refine Zk (f:=Last.cs) rfl h29 rfl rfl rfl (Za ?_)
   exact jn (ltS e42.user p1) hF (sR [(3,1,3),(6,1,6),(8,1,8)])
  iterate 8 refine Zh rfl (Za ?_)
  exact jn false hF (sR [(3,1,3),(6,1,6),(8,1,8)])
 refine cS hF rfl (fun hF=>?_) fun hF=>?_
 ·refine bl ?_
  refine rg ?_
  obtain ⟨e32,h22,hF⟩:=bnd hF
  refine Zk (f:=Last.cs) rfl h22 rfl rfl rfl (Za ?_)
  refine Zw (M:=([e32]:List Last)) (f:=Last.cs) rfl rfl rfl rfl (Nat.le_of_ble_eq_true rfl) rfl (Za ?_)
  obtain ⟨l33,h23,hF⟩:=bnd hF
  refine Zaj (f:=Last.cs) rfl h23 (fun _=>rfl) rfl rfl rfl rfl (Za ?_)
  refine rg ?_
  exact rn (mf7,(w64 (x23+1)),l33) hF (sR [(3,1,3),(6,1,6),(8,2,7)])
 refine jL hF (fun x35=>mkS [(1,.str p1),(2,.int .i64 p2),(3,.ptr 3 (1,3) 0),(6,.ptr 6 (1,6) 0),(8,.row 8 (1,8)),(9,.int .i64 x23),(10,.bool x35)] [(3,some ((1,3),.box [.int .i64 p0.seq,.int .i64 p0.clock,.sl (List.map Stored.cs p0.pages),.sl (List.map Stored.cs p0.gone),.sl (List.map Proposal.cs p0.proposals),.int .i64 p0.proposed,.sl (List.map Watch.cs p0.watches),.sl (List.map Last.cs p0.lasts)])),(6,some ((1,6),.box [.int .i64 0,.int .i64 0,.nil,.nil,.nil,.int .i64 0,.nil,.nil])),(8,some ((1,8),.row 134 2 false (List.map Last.cs x24)))] 2) (fun k9 hF=>?_) fun x35 hF=>?_
 ·refine rg ?_
  refine Zr rfl (M:=p0.lasts) (f:=Last.cs) rfl (Za ?_)
  refine kS 44 hF rfl (fun hF=>?_) fun hF=>?_
  ·obtain ⟨e41,h28,hF⟩:=bnd hF
   refine Zk (f:=Last.cs) rfl h28 rfl rfl rfl (Za ?_)
   exact jn (decide (e41.user=p1)) hF (sR [(3,1,3),(6,1,6),(8,1,8)])
  iterate 8 refine Zh rfl (Za ?_)
  exact jn false hF (sR [(3,1,3),(6,1,6),(8,1,8)])
 refine jL hF (fun x36=>mkS [(1,.str p1),(2,.int .i64 p2),(3,.ptr 3 (1,3) 0),(6,.ptr 6 (1,6) 0),(8,.row 8 (1,8)),(9,.int .i64 x23),(10,.bool x35),(61,.bool x36)] [(3,some ((1,3),.box [.int .i64 p0.seq,.int .i64 p0.clock,.sl (List.map Stored.cs p0.pages),.sl (List.map Stored.cs p0.gone),.sl (List.map Proposal.cs p0.proposals),.int .i64 p0.proposed,.sl (List.map Watch.cs p0.watches),.sl (List.map Last.cs p0.lasts)])),(6,some ((1,6),.box [.int .i64 0,.int .i64 0,.nil,.nil,.nil,.int .i64 0,.nil,.nil])),(8,some ((1,8),.row 134 2 false (List.map Last.cs x24)))] 2) (fun k10 hF=>?_) fun x36 hF=>?_
 ·refine rg ?_
  refine kS 56 hF rfl (fun hF=>?_) fun hF=>?_
  ·refine Zr rfl (M:=p0.lasts) (f:=Last.cs) rfl (Za ?_)
   exact jn (decide (60≤(p0.lasts.length:Int))) hF (sR [(3,1,3),(6,1,6),(8,1,8)])
  iterate 4 refine Zh rfl (Za ?_)
  exact jn false hF (sR [(3,1,3),(6,1,6),(8,1,8)])
 refine cS hF rfl (fun hF=>?_) fun hF=>?_
 ·refine rg ?_
  cases hF
  exact rQ
 refine rg ?_
 refine Zw (M:=([(⟨p1,p2⟩:Last)]:List Last)) (f:=Last.cs) rfl rfl rfl rfl (Nat.le_of_ble_eq_true rfl) rfl (Za ?_)
 obtain ⟨l37,h25,hF⟩:=bnd hF
 refine Zaj (f:=Last.cs) rfl h25 (fun _=>rfl) rfl rfl rfl rfl (Za ?_)
 refine rg ?_
 refine jL hF (fun x38=>mkS [(3,.ptr 3 (1,3) 0),(6,.ptr 6 (1,6) 0),(8,.row 8 (1,8)),(9,.int .i64 x38)] [(3,some ((1,3),.box [.int .i64 p0.seq,.int .i64 p0.clock,.sl (List.map Stored.cs p0.pages),.sl (List.map Stored.cs p0.gone),.sl (List.map Proposal.cs p0.proposals),.int .i64 p0.proposed,.sl (List.map Watch.cs p0.watches),.sl (List.map Last.cs p0.lasts)])),(6,some ((1,6),.box [.int .i64 0,.int .i64 0,.nil,.nil,.nil,.int .i64 0,.nil,.nil])),(8,some ((1,8),.row 134 2 false (List.map Last.cs l37)))] 2) (fun k11 hF=>?_) fun x38 hF=>?_
 ·refine cS hF rfl (fun hF=>?_) fun hF=>?_
  ·refine rg ?_
   exact jn (w64 (x23+1)) hF (sR [(3,1,3),(6,1,6),(8,2,5)])
  exact jn x23 hF (sR [(3,1,3),(6,1,6),(8,2,5)])
 refine rg ?_
 obtain ⟨l39,h26,hF⟩:=bnd hF
 refine Zbp (f:=Last.cs) rfl h26 (fun _=>rfl) rfl rfl rfl rfl (Za ?_)
 obtain ⟨l40,h27,hF⟩:=bnd hF
 refine Zaj (f:=Last.cs) rfl h27 (fun _=>rfl) rfl rfl rfl rfl (Za ?_)
 refine rg ?_
 cases hF
 exact rQ
def ZdG (p0:State) (p1:Change) (p2:Int):Option (State×Int):=
 if (decide (p1.kind=1)) then
  (Zg3 p0 p1 p2).bind fun r9=>
  (some (r9.1,r9.2):Option (State×Int))
 else
 if (decide (p1.kind=2)) then
  (ZcY p0 p1).bind fun r10=>
  (some (r10.1,r10.2):Option (State×Int))
 else
 if (decide (p1.kind=3)) then
  (Zcc p0 p1).bind fun r11=>
  (some (r11.1,r11.2):Option (State×Int))
 else
 if (decide (p1.kind=4)) then
  (Zfh p0 p1 p2).bind fun r12=>
  (some (r12.1,r12.2):Option (State×Int))
 else
 if (decide (p1.kind=5)) then
  (Zfe p0 p1 p2).bind fun r13=>
  (some (r13.1,r13.2):Option (State×Int))
 else
 if (decide (p1.kind=6)) then
  if (decide ((w64 (52595999 - p0.clock))<p1.n)) then
   (some (p0,2):Option (State×Int))
  else
  (some ((⟨p0.seq,(w64 (p0.clock+p1.n)),p0.pages,p0.gone,p0.proposals,p0.proposed,p0.watches,p0.lasts⟩:State),0):Option (State×Int))
 else
 letk (fun (x14:Bool)=>
  if x14 then
   (ZdY p0 p1).bind fun r15=>
   (some (r15.1,r15.2):Option (State×Int))
  else
  if (decide (p1.kind=9)) then
   (Zcb p0 p1).bind fun r16=>
   (some (r16.1,r16.2):Option (State×Int))
  else
  (Zgn p0 p1).bind fun r17=>
  (some (r17.1,r17.2):Option (State×Int))) fun k2=>
 if (decide (p1.kind=7)) then
  k2 (decide (p1.kind=7))
 else
 k2 (decide (p1.kind=8))
theorem ZpP (p0:State) (p1:Change) (p2:Int) (r:State×Int) (hF:ZdG p0 p1 p2=some r):Zb Tryz.prog 51 [p0.pv,p1.pv,.int .i64 p2] (.tup [r.1.pv,.int .i64 r.2]):=by
 refine cF (fun r=>.tup [r.1.pv,.int .i64 r.2]) hF mix Tryz.func51 fun r hF=>?_
 unfold ZdG at hF
 refine Za ?_
 refine rg ?_
 refine rg ?_
 refine bl ?_
 refine rg ?_
 refine cS hF rfl (fun hF=>?_) fun hF=>?_
 ·refine rg ?_
  obtain ⟨r9,h8,hF⟩:=bnd hF
  refine Zf (ZqT _ _ _ _ h8) rfl rfl (Za ?_)
  cases hF
  exact rQ
 refine rg ?_
 refine cS hF rfl (fun hF=>?_) fun hF=>?_
 ·refine rg ?_
  obtain ⟨r10,h9,hF⟩:=bnd hF
  refine Zf (ZmA _ _ _ h9) rfl rfl (Za ?_)
  cases hF
  exact rQ
 refine rg ?_
 refine cS hF rfl (fun hF=>?_) fun hF=>?_
 ·refine rg ?_
  obtain ⟨r11,h10,hF⟩:=bnd hF
  refine Zf (ZlF _ _ _ h10) rfl rfl (Za ?_)
  cases hF
  exact rQ
 refine rg ?_
 refine cS hF rfl (fun hF=>?_) fun hF=>?_
 ·refine rg ?_
  obtain ⟨r12,h11,hF⟩:=bnd hF
  refine Zf (ZpG _ _ _ _ h11) rfl rfl (Za ?_)
  cases hF
  exact rQ
 refine rg ?_
 refine cS hF rfl (fun hF=>?_) fun hF=>?_
 ·refine rg ?_
  obtain ⟨r13,h12,hF⟩:=bnd hF
  refine Zf (Zpu _ _ _ _ h12) rfl rfl (Za ?_)
  cases hF
  exact rQ
 refine rg ?_
 refine cS hF rfl (fun hF=>?_) fun hF=>?_
 ·refine rg ?_
  refine cS hF rfl (fun hF=>?_) fun hF=>?_
  ·refine rg ?_
   cases hF
   exact rQ
  refine rg ?_
  refine rg ?_
  cases hF
  exact rQ
 refine rg ?_
 refine jL hF (fun x14=>mkS [(3,.ptr 3 (1,3) 0),(4,.ptr 4 (1,4) 0),(6,.ptr 6 (1,6) 0),(9,.int .i64 p1.kind),(64,.bool x14)] [(3,some ((1,3),.box [.int .i64 p0.seq,.int .i64 p0.clock,.sl (List.map Stored.cs p0.pages),.sl (List.map Stored.cs p0.gone),.sl (List.map Proposal.cs p0.proposals),.int .i64 p0.proposed,.sl (List.map Watch.cs p0.watches),.sl (List.map Last.cs p0.lasts)])),(4,some ((1,4),.box [.int .i64 p1.kind,.str p1.user,.str p1.note,.int .i64 p1.title.space,.str p1.title.name,.int .i64 p1.to.space,.str p1.to.name,.str p1.text,.int .i64 p1.n,.sl (List.map Revision.cs p1.history)])),(6,some ((1,6),.box [.int .i64 0,.int .i64 0,.nil,.nil,.nil,.int .i64 0,.nil,.nil]))] 2) (fun k2 hF=>?_) fun x14 hF=>?_
 ·refine cS hF rfl (fun hF=>?_) fun hF=>?_
  ·exact jn (decide (p1.kind=7)) hF (sR [(3,1,0),(4,1,1),(6,1,2)])
  refine rg ?_
  exact jn (decide (p1.kind=8)) hF (sR [(3,1,0),(4,1,1),(6,1,2)])
 refine cS hF rfl (fun hF=>?_) fun hF=>?_
 ·refine rg ?_
  obtain ⟨r15,h13,hF⟩:=bnd hF
  refine Zf (ZnS _ _ _ h13) rfl rfl (Za ?_)
  cases hF
  exact rQ
 refine rg ?_
 refine cS hF rfl (fun hF=>?_) fun hF=>?_
 ·refine rg ?_
  obtain ⟨r16,h14,hF⟩:=bnd hF
  refine Zf (Zln _ _ _ h14) rfl rfl (Za ?_)
  cases hF
  exact rQ
 refine rg ?_
 obtain ⟨r17,h15,hF⟩:=bnd hF
 refine Zf (Zpg _ _ _ h15) rfl rfl (Za ?_)
 cases hF
 exact rQ
def ZbO (p0:Change):Option Bool:=
 if (decide (p0.kind=1)) then
  (ZcT).bind fun r10=>
  if (!decide (p0.title=r10)) then
   (some false:Option Bool)
  else
  (Zaf p0.text).bind fun r11=>
  (some (!decide (r11.2.2=0)):Option Bool)
 else
 letk (fun (x12:Bool)=>
  if x12 then
   (ZcT).bind fun r13=>
   (some (decide (p0.title=r13)):Option Bool)
  else
  if (decide (p0.kind=4)) then
   letk (fun (x16:Bool)=>
    (some x16:Option Bool)) fun k4=>
   (ZcT).bind fun r17=>
   if (decide (p0.title=r17)) then
    k4 true
   else
   (ZcT).bind fun r18=>
   k4 (decide (p0.to=r18))
  else
  (some false:Option Bool)) fun k3=>
 if (decide (p0.kind=2)) then
  k3 (decide (p0.kind=2))
 else
 if (decide (p0.kind=3)) then
  k3 (decide (p0.kind=3))
 else
 k3 (decide (p0.kind=5))
theorem Zj4 (p0:Change) (r:Bool) (hF:ZbO p0=some r):Zb Tryz.prog 52 [p0.pv] (.bool r):=by
 refine cF (fun r=>.bool r) hF mix Tryz.func52 fun r hF=>?_
 unfold ZbO at hF
 refine Za ?_
 refine rg ?_
 refine rg ?_
 refine bl ?_
 refine rg ?_
 refine cS hF rfl (fun hF=>?_) fun hF=>?_
 ·refine rg ?_
  obtain ⟨r10,h8,hF⟩:=bnd hF
  refine Zf (Zdf _ h8) rfl rfl (Za ?_)
  refine Zeu (.inr rfl) rfl rfl rfl rfl rfl (fun W=>Zem p0.title r10 W) (Za ?_)
  refine cS hF rfl (fun hF=>?_) fun hF=>?_
  ·refine rg ?_
   cases hF
   exact rQ
  refine rg ?_
  obtain ⟨r11,h9,hF⟩:=bnd hF
  refine Zf (Zj0 _ _ h9) rfl rfl (Za ?_)
  refine rg ?_
  cases hF
  exact rQ
 refine rg ?_
 refine jL hF (fun x12=>mkS [(1,.ptr 1 (1,1) 0),(7,.int .i64 p0.kind),(23,.bool x12)] [(1,some ((1,1),.box [.int .i64 p0.kind,.str p0.user,.str p0.note,.int .i64 p0.title.space,.str p0.title.name,.int .i64 p0.to.space,.str p0.to.name,.str p0.text,.int .i64 p0.n,.sl (List.map Revision.cs p0.history)]))] 2) (fun k3 hF=>?_) fun x12 hF=>?_
 ·refine cS hF rfl (fun hF=>?_) fun hF=>?_
  ·exact jn (decide (p0.kind=2)) hF (sR [(1,1,0)])
  refine rg ?_
  refine cS hF rfl (fun hF=>?_) fun hF=>?_
  ·exact jn (decide (p0.kind=3)) hF (sR [(1,1,0)])
  refine rg ?_
  exact jn (decide (p0.kind=5)) hF (sR [(1,1,0)])
 refine cS hF rfl (fun hF=>?_) fun hF=>?_
 ·refine rg ?_
  obtain ⟨r13,h10,hF⟩:=bnd hF
  refine Zf (Zdf _ h10) rfl rfl (Za ?_)
  refine Zeu (.inl rfl) rfl rfl rfl rfl rfl (fun W=>Zc9 p0.title r13 W) (Za ?_)
  cases hF
  exact rQ
 refine rg ?_
 refine cS hF rfl (fun hF=>?_) fun hF=>?_
 ·refine jL hF (fun x16=>mkS [(2,.bool x16)] [] 2) (fun k4 hF=>?_) fun x16 hF=>?_
  ·refine rg ?_
   obtain ⟨r17,h13,hF⟩:=bnd hF
   refine Zf (Zdf _ h13) rfl rfl (Za ?_)
   refine Zeu (.inl rfl) rfl rfl rfl rfl rfl (fun W=>Zc9 p0.title r17 W) (Za ?_)
   refine kS 37 hF rfl (fun hF=>?_) fun hF=>?_
   ·iterate 4 refine Zh rfl (Za ?_)
    exact jn true hF (sR [])
   obtain ⟨r18,h14,hF⟩:=bnd hF
   refine Zf (Zdf _ h14) rfl rfl (Za ?_)
   refine Zeu (.inl rfl) rfl rfl rfl rfl rfl (fun W=>Zc9 p0.to r18 W) (Za ?_)
   exact jn (decide (p0.to=r18)) hF (sR [])
  cases hF
  exact rQ
 refine rg ?_
 cases hF
 exact rQ
def ZaZ (p0:State) (p1:List Change):Option (State×Int):=
 (ZeG p0).bind fun r1=>
 if (!r1) then
  (some ((⟨0,0,[],[],[],0,[],[]⟩:State),11):Option (State×Int))
 else
 letk (fun (x2:Bool)=>
  if x2 then
   (some ((⟨0,0,[],[],[],0,[],[]⟩:State),2):Option (State×Int))
  else
  ZK Zax (fun f3 ((x76,x77,x78,x79,x80,x81,x82,x83,x84):Int×Int×Int×(List Stored)×(List Stored)×(List Proposal)×Int×(List Watch)×(List Last))=>
   if (decide (x76<(p1.length:Int))) then
    (atI p1 x76).bind fun e109=>
    (Zd0 e109).bind fun r110=>
    if (!decide (r110=0)) then
     (some ((⟨0,0,[],[],[],0,[],[]⟩:State),r110):Option (State×Int))
    else
    (atI p1 x76).bind fun e111=>
    (ZdG (⟨x77,x78,x79,x80,x81,x82,x83,x84⟩:State) e111 (w64 (p0.seq+1))).bind fun r112=>
    if (!decide (r112.2=0)) then
     (some ((⟨0,0,[],[],[],0,[],[]⟩:State),r112.2):Option (State×Int))
    else
    (atI p1 x76).bind fun e113=>
    (ZbO e113).bind fun r114=>
    if r114 then
     (some ((⟨0,0,[],[],[],0,[],[]⟩:State),7):Option (State×Int))
    else
    (atI p1 x76).bind fun e115=>
    (ZdS r112.1 e115.user (w64 (p0.seq+1))).bind fun r116=>
    if (!decide (r116.2=0)) then
     (some ((⟨0,0,[],[],[],0,[],[]⟩:State),r116.2):Option (State×Int))
    else
    f3 ((w64 (x76+1)),r116.1.seq,r116.1.clock,r116.1.pages,r116.1.gone,r116.1.proposals,r116.1.proposed,r116.1.watches,r116.1.lasts)
   else
   if (decide (1073741824<(w64 (p0.seq+1)))) then
    (some ((⟨0,0,[],[],[],0,[],[]⟩:State),8):Option (State×Int))
   else
   (some ((⟨(w64 (p0.seq+1)),x78,x79,x80,x81,x82,x83,x84⟩:State),0):Option (State×Int))) (0,p0.seq,p0.clock,p0.pages,p0.gone,p0.proposals,p0.proposed,p0.watches,p0.lasts)) fun k1=>
 if (decide ((p1.length:Int)<1)) then
  k1 true
 else
 k1 (decide (16<(p1.length:Int)))
theorem Zc1 (p0:State) (p1:List Change) (r:State×Int) (hF:ZaZ p0 p1=some r):Zb Tryz.prog 27 [p0.pv,.sl (List.map Change.cs p1)] (.tup [r.1.pv,.int .i64 r.2]):=by
 refine cF (fun r=>.tup [r.1.pv,.int .i64 r.2]) hF mix Tryz.func27 fun r hF=>?_
 unfold ZaZ at hF
 refine Za ?_
 refine rg ?_
 refine rg ?_
 obtain ⟨r1,h1,hF⟩:=bnd hF
 refine Zf (Znp _ _ h1) rfl rfl (Za ?_)
 refine cS hF rfl (fun hF=>?_) fun hF=>?_
 ·refine rg ?_
  cases hF
  exact rQ
 refine jL hF (fun x2=>mkS [(1,.sl (List.map Change.cs p1)),(2,.ptr 2 (1,2) 0),(4,.ptr 4 (1,4) 0),(22,.bool x2)] [(2,some ((1,2),.box [.int .i64 p0.seq,.int .i64 p0.clock,.sl (List.map Stored.cs p0.pages),.sl (List.map Stored.cs p0.gone),.sl (List.map Proposal.cs p0.proposals),.int .i64 p0.proposed,.sl (List.map Watch.cs p0.watches),.sl (List.map Last.cs p0.lasts)])),(4,some ((1,4),.box [.int .i64 0,.int .i64 0,.nil,.nil,.nil,.int .i64 0,.nil,.nil]))] 2) (fun k1 hF=>?_) fun x2 hF=>?_
 ·refine rg ?_
  refine Zr rfl (M:=p1) (f:=Change.cs) rfl (Za ?_)
  refine kS 18 hF rfl (fun hF=>?_) fun hF=>?_
  ·iterate 3 refine Zh rfl (Za ?_)
   exact jn true hF (sR [(2,1,0),(4,1,1)])
  refine Zr rfl (M:=p1) (f:=Change.cs) rfl (Za ?_)
  exact jn (decide (16<(p1.length:Int))) hF (sR [(2,1,0),(4,1,1)])
 refine cS hF rfl (fun hF=>?_) fun hF=>?_
 ·refine rg ?_
  cases hF
  exact rQ
 refine rg ?_
 refine rg ?_
 refine bl ?_
 refine Zn hF fun f3 mf3 hf3 hF=>?_
 refine Zl (α:=Nat×(Int×Int×Int×(List Stored)×(List Stored)×(List Proposal)×Int×(List Watch)×(List Last))) (fun a _=>mkS [(1,.sl (List.map Change.cs p1)),(2,.ptr 2 (1,2) 0),(4,.ptr 4 (1,4) 0),(6,.int .i64 (w64 (p0.seq+1))),(7,.int .i64 a.2.1)] [(2,some ((1,2),.box [.int .i64 a.2.2.1,.int .i64 a.2.2.2.1,.sl (List.map Stored.cs a.2.2.2.2.1),.sl (List.map Stored.cs a.2.2.2.2.2.1),.sl (List.map Proposal.cs a.2.2.2.2.2.2.1),.int .i64 a.2.2.2.2.2.2.2.1,.sl (List.map Watch.cs a.2.2.2.2.2.2.2.2.1),.sl (List.map Last.cs a.2.2.2.2.2.2.2.2.2)])),(4,some ((1,4),.box [.int .i64 0,.int .i64 0,.nil,.nil,.nil,.int .i64 0,.nil,.nil]))] 2) (fun a=>ZK a.1 f3 a.2=some r) (fun a=>a.1) (mf3,0,p0.seq,p0.clock,p0.pages,p0.gone,p0.proposals,p0.proposed,p0.watches,p0.lasts) 2 hF (sR [(2,1,2),(4,1,4)]) (fun a _ hF=>?_)
 obtain ⟨mf3,x76,x77,x78,x79,x80,x81,x82,x83,x84⟩:=a
 obtain ⟨mf3,rfl,hF⟩:=Zo hf3 hF
 dsimp only at hF ⊢
 refine Za ?_
 refine rg ?_
 refine Zr rfl (M:=p1) (f:=Change.cs) rfl (Za ?_)
 refine cS hF rfl (fun hF=>?_) fun hF=>?_
 ·refine bl ?_
  refine rg ?_
  obtain ⟨e109,h90,hF⟩:=bnd hF
  refine Zk (f:=Change.cs) rfl h90 rfl rfl rfl (Za ?_)
  obtain ⟨r110,h91,hF⟩:=bnd hF
  refine Zf (ZnT _ _ h91) rfl rfl (Za ?_)
  refine rg ?_
  refine cS hF rfl (fun hF=>?_) fun hF=>?_
  ·refine rg ?_
   cases hF
   exact rQ
  refine rg ?_
  obtain ⟨e111,h92,hF⟩:=bnd hF
  refine Zk (f:=Change.cs) rfl h92 rfl rfl rfl (Za ?_)
  obtain ⟨r112,h93,hF⟩:=bnd hF
  refine Zf (ZpP _ _ _ _ h93) rfl rfl (Za ?_)
  refine rg ?_
  refine cS hF rfl (fun hF=>?_) fun hF=>?_
  ·refine rg ?_
   cases hF
   exact rQ
  refine rg ?_
  obtain ⟨e113,h94,hF⟩:=bnd hF
  refine Zk (f:=Change.cs) rfl h94 rfl rfl rfl (Za ?_)
  obtain ⟨r114,h95,hF⟩:=bnd hF
  refine Zf (Zj4 _ _ h95) rfl rfl (Za ?_)
  refine cS hF rfl (fun hF=>?_) fun hF=>?_
  ·refine rg ?_
   cases hF
   exact rQ
  refine rg ?_
  obtain ⟨e115,h96,hF⟩:=bnd hF
  refine Zk (f:=Change.cs) rfl h96 rfl rfl rfl (Za ?_)
  obtain ⟨r116,h97,hF⟩:=bnd hF
  refine Zf (Znk _ _ _ _ h97) rfl rfl (Za ?_)
  refine rg ?_
  refine cS hF rfl (fun hF=>?_) fun hF=>?_
  ·refine rg ?_
   cases hF
   exact rQ
  refine rg ?_
  exact rn (mf3,(w64 (x76+1)),r116.1.seq,r116.1.clock,r116.1.pages,r116.1.gone,r116.1.proposals,r116.1.proposed,r116.1.watches,r116.1.lasts) hF (sR [(2,1,2),(4,1,4)])
 refine rg ?_
 refine cS hF rfl (fun hF=>?_) fun hF=>?_
 ·refine rg ?_
  cases hF
  exact rQ
 refine rg ?_
 refine rg ?_
 cases hF
 exact rQ
end Go.Proofs.YtjoneoobolnnbaaGreatDoor
