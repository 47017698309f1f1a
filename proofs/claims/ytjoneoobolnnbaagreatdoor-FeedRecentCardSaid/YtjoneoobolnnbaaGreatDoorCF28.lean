/- Functions of the program as Lean functions. Written by fxgen.py. -/
import Derived.Test.YtjoneoobolnnbaaGreatDoorCF27
import Derived.Test.YtjoneoobolnnbaaGreatDoorCF22
import Derived.Test.YtjoneoobolnnbaaGreatDoorCF20
import Derived.Test.YtjoneoobolnnbaaGreatDoorCF04
set_option linter.unusedVariables false
set_option maxHeartbeats 4000000
set_option maxRecDepth 100000
namespace Go.Proofs.YtjoneoobolnnbaaGreatDoor
open VL
def ZfZ (p0:Title):Option ByteArray:=
 (Zbc p0).bind fun r1=>
 if (!r1) then
  (some (⟨#[]⟩:ByteArray):Option ByteArray)
 else
 if (decide (p0.space=0)) then
  (some p0.name:Option ByteArray)
 else
 (ZbG p0.space).bind fun r2=>
 (Zl7 r2 (⟨#[58]⟩:ByteArray)).bind fun s3=>
 (Zl7 s3 p0.name).bind fun s4=>
 (some s4:Option ByteArray)
theorem ZnR (p0:Title) (r:ByteArray) (hF:ZfZ p0=some r):Zb Tryz.prog 185 [p0.pv] (.str r):=by
 refine cF (fun r=>.str r) hF mix Tryz.func185 fun r hF=>?_
 unfold ZfZ at hF
 refine Za ?_
 refine rg ?_
 refine rg ?_
 obtain ⟨r1,h1,hF⟩:=bnd hF
 refine Zf (Zbv _ _ h1) rfl rfl (Za ?_)
 refine cS hF rfl (fun hF=>?_) fun hF=>?_
 ·refine rg ?_
  cases hF
  exact rQ
 refine rg ?_
 refine cS hF rfl (fun hF=>?_) fun hF=>?_
 ·refine rg ?_
  cases hF
  exact rQ
 refine rg ?_
 obtain ⟨r2,h2,hF⟩:=bnd hF
 refine Zf (ZeA _ _ h2) rfl rfl (Za ?_)
 obtain ⟨s3,h3,hF⟩:=bnd hF
 refine Zes rfl h3 rfl rfl (Za ?_)
 obtain ⟨s4,h4,hF⟩:=bnd hF
 refine Zes rfl h4 rfl rfl (Za ?_)
 cases hF
 exact rQ
def Zdi (p0:Title):Option ByteArray:=
 (ZfZ p0).bind fun r1=>
 (Zl7 (⟨#[35,82,69,68,73,82,69,67,84,32,91,91]⟩:ByteArray) r1).bind fun s2=>
 (Zl7 s2 (⟨#[93,93]⟩:ByteArray)).bind fun s3=>
 (some s3:Option ByteArray)
theorem Zkt (p0:Title) (r:ByteArray) (hF:Zdi p0=some r):Zb Tryz.prog 149 [p0.pv] (.str r):=by
 refine cF (fun r=>.str r) hF mix Tryz.func149 fun r hF=>?_
 unfold Zdi at hF
 refine Za ?_
 refine rg ?_
 refine rg ?_
 obtain ⟨r1,h1,hF⟩:=bnd hF
 refine Zf (ZnR _ _ h1) rfl rfl (Za ?_)
 obtain ⟨s2,h2,hF⟩:=bnd hF
 refine Zes rfl h2 rfl rfl (Za ?_)
 obtain ⟨s3,h3,hF⟩:=bnd hF
 refine Zes rfl h3 rfl rfl (Za ?_)
 cases hF
 exact rQ
def Zfh (p0:State) (p1:Change) (p2:Int):Option (State×Int):=
 (Zcv p0.pages p1.title).bind fun r1=>
 if (decide (r1<0)) then
  (some (p0,4):Option (State×Int))
 else
 (Zcv p0.pages p1.to).bind fun r2=>
 if (decide (0≤r2)) then
  (some (p0,5):Option (State×Int))
 else
 letk (fun (x3:Bool)=>
  if x3 then
   (some (p0,8):Option (State×Int))
  else
  (atI p0.pages r1).bind fun e4=>
  (Zca p0.pages r1).bind fun r5=>
  (ZbK r5 (⟨p1.to,e4.history⟩:Stored)).bind fun r6=>
  letk (fun (x9:List Stored)=>
   (Zgm p0.proposals p1.title).bind fun r10=>
   (some ((⟨p0.seq,p0.clock,x9,p0.gone,r10,p0.proposed,p0.watches,p0.lasts⟩:State),0):Option (State×Int))) fun k2=>
  if (decide (p1.n=1)) then
   (Zdi p1.to).bind fun r11=>
   (ZbK r6 (⟨p1.title,[(⟨1,p1.user,(⟨#[]⟩:ByteArray),r11,p0.clock,p2⟩:Revision)]⟩:Stored)).bind fun r12=>
   k2 r12
  else
  k2 r6) fun k1=>
 if (decide (p1.n=1)) then
  k1 (decide (200≤(p0.pages.length:Int)))
 else
 k1 false
theorem ZpG (p0:State) (p1:Change) (p2:Int) (r:State×Int) (hF:Zfh p0 p1 p2=some r):Zb Tryz.prog 92 [p0.pv,p1.pv,.int .i64 p2] (.tup [r.1.pv,.int .i64 r.2]):=by
 refine cF (fun r=>.tup [r.1.pv,.int .i64 r.2]) hF mix Tryz.func92 fun r hF=>?_
 unfold Zfh at hF
 refine Za ?_
 refine rg ?_
 refine rg ?_
 obtain ⟨r1,h1,hF⟩:=bnd hF
 refine Zf (ZcU _ _ _ h1) rfl rfl (Za ?_)
 refine rg ?_
 refine cS hF rfl (fun hF=>?_) fun hF=>?_
 ·refine rg ?_
  cases hF
  exact rQ
 refine rg ?_
 obtain ⟨r2,h2,hF⟩:=bnd hF
 refine Zf (ZcU _ _ _ h2) rfl rfl (Za ?_)
 refine cS hF rfl (fun hF=>?_) fun hF=>?_
 ·refine rg ?_
  cases hF
  exact rQ
 refine jL hF (fun x3=>mkS [(2,.int .i64 p2),(3,.ptr 3 (1,3) 0),(4,.ptr 4 (1,4) 0),(6,.ptr 6 (1,6) 0),(8,.int .i64 r1),(34,.bool x3)] [(3,some ((1,3),.box [.int .i64 p0.seq,.int .i64 p0.clock,.sl (List.map Stored.cs p0.pages),.sl (List.map Stored.cs p0.gone),.sl (List.map Proposal.cs p0.proposals),.int .i64 p0.proposed,.sl (List.map Watch.cs p0.watches),.sl (List.map Last.cs p0.lasts)])),(4,some ((1,4),.box [.int .i64 p1.kind,.str p1.user,.str p1.note,.int .i64 p1.title.space,.str p1.title.name,.int .i64 p1.to.space,.str p1.to.name,.str p1.text,.int .i64 p1.n,.sl (List.map Revision.cs p1.history)])),(6,some ((1,6),.box [.int .i64 0,.int .i64 0,.nil,.nil,.nil,.int .i64 0,.nil,.nil]))] 2) (fun k1 hF=>?_) fun x3 hF=>?_
 ·refine rg ?_
  refine kS 29 hF rfl (fun hF=>?_) fun hF=>?_
  ·refine Zr rfl (M:=p0.pages) (f:=Stored.cs) rfl (Za ?_)
   exact jn (decide (200≤(p0.pages.length:Int))) hF (sR [(3,1,0),(4,1,1),(6,1,2)])
  iterate 4 refine Zh rfl (Za ?_)
  exact jn false hF (sR [(3,1,0),(4,1,1),(6,1,2)])
 refine cS hF rfl (fun hF=>?_) fun hF=>?_
 ·refine rg ?_
  cases hF
  exact rQ
 refine rg ?_
 obtain ⟨e4,h3,hF⟩:=bnd hF
 refine Zk (f:=Stored.cs) rfl h3 rfl rfl rfl (Za ?_)
 refine rg ?_
 refine rg ?_
 obtain ⟨r5,h4,hF⟩:=bnd hF
 refine Zf (Ze8 _ _ _ h4) rfl rfl (Za ?_)
 obtain ⟨r6,h5,hF⟩:=bnd hF
 refine Zf (Zdh _ _ _ h5) rfl rfl (Za ?_)
 refine rg ?_
 refine jL hF (fun x9=>mkS [(3,.ptr 3 (1,3) 0),(4,.ptr 4 (1,4) 0),(6,.ptr 6 (1,6) 0)] [(3,some ((1,3),.box [.int .i64 p0.seq,.int .i64 p0.clock,.sl (List.map Stored.cs x9),.sl (List.map Stored.cs p0.gone),.sl (List.map Proposal.cs p0.proposals),.int .i64 p0.proposed,.sl (List.map Watch.cs p0.watches),.sl (List.map Last.cs p0.lasts)])),(4,some ((1,4),.box [.int .i64 p1.kind,.str p1.user,.str p1.note,.int .i64 p1.title.space,.str p1.title.name,.int .i64 p1.to.space,.str p1.to.name,.str p1.text,.int .i64 p1.n,.sl (List.map Revision.cs p1.history)])),(6,some ((1,6),.box [.int .i64 0,.int .i64 0,.nil,.nil,.nil,.int .i64 0,.nil,.nil]))] 2) (fun k2 hF=>?_) fun x9 hF=>?_
 ·refine cS hF rfl (fun hF=>?_) fun hF=>?_
  ·refine rg ?_
   obtain ⟨r11,h9,hF⟩:=bnd hF
   refine Zf (Zkt _ _ h9) rfl rfl (Za ?_)
   refine rg ?_
   refine Zw (M:=([(⟨1,p1.user,(⟨#[]⟩:ByteArray),r11,p0.clock,p2⟩:Revision)]:List Revision)) (f:=Revision.cs) rfl rfl rfl rfl (Nat.le_of_ble_eq_true rfl) rfl (Za ?_)
   obtain ⟨r12,h10,hF⟩:=bnd hF
   refine Zf (Zdh _ _ _ h10) rfl rfl (Za ?_)
   exact jn r12 hF (sR [(3,1,3),(4,1,4),(6,1,6)])
  exact jn r6 hF (sR [(3,1,3),(4,1,4),(6,1,6)])
 refine rg ?_
 obtain ⟨r10,h8,hF⟩:=bnd hF
 refine Zf (ZkD _ _ _ h8) rfl rfl (Za ?_)
 refine rg ?_
 cases hF
 exact rQ
def ZdY (p0:State) (p1:Change):Option (State×Int):=
 ZK Zax (fun f7 ((x31,x32):Int×(List Watch))=>
  letk (fun (x42:Bool)=>
   if x42 then
    (atI p0.watches x31).bind fun e43=>
    (ZbY 40 x32 [e43]).bind fun l44=>
    f7 ((w64 (x31+1)),l44)
   else
   letk (fun (x46:Bool)=>
    if (decide (p1.kind=8)) then
     if (!x46) then
      (some (p0,4):Option (State×Int))
     else
     (Zin p0.watches (w64 (x31+1)) (p0.watches.length:Int)).bind fun l49=>
     (ZbY 40 x32 l49).bind fun l50=>
     (some ((⟨p0.seq,p0.clock,p0.pages,p0.gone,p0.proposals,p0.proposed,l50,p0.lasts⟩:State),0):Option (State×Int))
    else
    if x46 then
     (some (p0,5):Option (State×Int))
    else
    if (decide (100≤(p0.watches.length:Int))) then
     (some (p0,8):Option (State×Int))
    else
    (ZbY 40 x32 [(⟨p1.user,p1.title⟩:Watch)]).bind fun l51=>
    (Zin p0.watches x31 (p0.watches.length:Int)).bind fun l52=>
    (ZbY 40 l51 l52).bind fun l53=>
    (some ((⟨p0.seq,p0.clock,p0.pages,p0.gone,p0.proposals,p0.proposed,l53,p0.lasts⟩:State),0):Option (State×Int))) fun k9=>
   if (decide (x31<(p0.watches.length:Int))) then
    (atI p0.watches x31).bind fun e54=>
    k9 (decide (e54=(⟨p1.user,p1.title⟩:Watch)))
   else
   k9 false) fun k8=>
  if (decide (x31<(p0.watches.length:Int))) then
   (atI p0.watches x31).bind fun e55=>
   (ZdM e55 (⟨p1.user,p1.title⟩:Watch)).bind fun r56=>
   k8 r56
  else
  k8 false) (0,([]:List Watch))
theorem ZnS (p0:State) (p1:Change) (r:State×Int) (hF:ZdY p0 p1=some r):Zb Tryz.prog 94 [p0.pv,p1.pv] (.tup [r.1.pv,.int .i64 r.2]):=by
 refine cF (fun r=>.tup [r.1.pv,.int .i64 r.2]) hF mix Tryz.func94 fun r hF=>?_
 unfold ZdY at hF
 refine Za ?_
 refine rg ?_
 refine rg ?_
 refine rg ?_
 refine rg ?_
 refine bl ?_
 refine Zn hF fun f7 mf7 hf7 hF=>?_
 refine Zl (α:=Nat×(Int×(List Watch))) (fun a _=>mkS [(2,.ptr 2 (1,2) 0),(3,.ptr 3 (1,3) 0),(4,.ptr 4 (1,4) 0),(6,.ptr 6 (1,6) 0),(7,.row 7 (1,7)),(8,.int .i64 a.2.1)] [(2,some ((1,2),.box [.int .i64 p0.seq,.int .i64 p0.clock,.sl (List.map Stored.cs p0.pages),.sl (List.map Stored.cs p0.gone),.sl (List.map Proposal.cs p0.proposals),.int .i64 p0.proposed,.sl (List.map Watch.cs p0.watches),.sl (List.map Last.cs p0.lasts)])),(3,some ((1,3),.box [.int .i64 p1.kind,.str p1.user,.str p1.note,.int .i64 p1.title.space,.str p1.title.name,.int .i64 p1.to.space,.str p1.to.name,.str p1.text,.int .i64 p1.n,.sl (List.map Revision.cs p1.history)])),(4,some ((1,4),.box [.int .i64 0,.int .i64 0,.nil,.nil,.nil,.int .i64 0,.nil,.nil])),(6,some ((1,6),.box [.str p1.user,.int .i64 p1.title.space,.str p1.title.name])),(7,some ((1,7),.row 34 3 false (List.map Watch.cs a.2.2)))] 2) (fun a=>ZK a.1 f7 a.2=some r) (fun a=>a.1) (mf7,0,([]:List Watch)) 2 hF (Za5 [((1,2),(1,0)),((1,3),(1,1)),((1,4),(1,2)),((1,6),(2,5))] 7 34 3 rfl ⟨rfl,rfl,rfl,rfl,rfl,rfl,trivial⟩ ⟨⟨rfl,rfl⟩,⟨rfl,rfl⟩,⟨rfl,rfl⟩,⟨rfl,rfl⟩,⟨rfl,rfl⟩,trivial⟩ rfl) (fun a _ hF=>?_)
 obtain ⟨mf7,x31,x32⟩:=a
 obtain ⟨mf7,rfl,hF⟩:=Zo hf7 hF
 dsimp only at hF ⊢
 refine Za ?_
 refine jL hF (fun x42=>mkS [(2,.ptr 2 (1,2) 0),(3,.ptr 3 (1,3) 0),(4,.ptr 4 (1,4) 0),(6,.ptr 6 (1,6) 0),(7,.row 7 (1,7)),(8,.int .i64 x31),(28,.bool x42)] [(2,some ((1,2),.box [.int .i64 p0.seq,.int .i64 p0.clock,.sl (List.map Stored.cs p0.pages),.sl (List.map Stored.cs p0.gone),.sl (List.map Proposal.cs p0.proposals),.int .i64 p0.proposed,.sl (List.map Watch.cs p0.watches),.sl (List.map Last.cs p0.lasts)])),(3,some ((1,3),.box [.int .i64 p1.kind,.str p1.user,.str p1.note,.int .i64 p1.title.space,.str p1.title.name,.int .i64 p1.to.space,.str p1.to.name,.str p1.text,.int .i64 p1.n,.sl (List.map Revision.cs p1.history)])),(4,some ((1,4),.box [.int .i64 0,.int .i64 0,.nil,.nil,.nil,.int .i64 0,.nil,.nil])),(6,some ((1,6),.box [.str p1.user,.int .i64 p1.title.space,.str p1.title.name])),(7,some ((1,7),.row 34 3 false (List.map Watch.cs x32)))] 2) (fun k8 hF=>?_) fun x42 hF=>?_
 ·refine rg ?_
  refine Zr rfl (M:=p0.watches) (f:=Watch.cs) rfl (Za ?_)
  refine kS 20 hF rfl (fun hF=>?_) fun hF=>?_
  ·obtain ⟨e55,h44,hF⟩:=bnd hF
   refine Zk (f:=Watch.cs) rfl h44 rfl rfl rfl (Za ?_)
   obtain ⟨r56,h45,hF⟩:=bnd hF
   refine Zf (Ziy _ _ _ h45) rfl rfl (Za ?_)
   exact jn r56 hF (sR [(2,1,2),(3,1,3),(4,1,4),(6,1,6),(7,1,7)])
  iterate 7 refine Zh rfl (Za ?_)
  exact jn false hF (sR [(2,1,2),(3,1,3),(4,1,4),(6,1,6),(7,1,7)])
 refine cS hF rfl (fun hF=>?_) fun hF=>?_
 ·refine bl ?_
  refine rg ?_
  obtain ⟨e43,h33,hF⟩:=bnd hF
  refine Zk (f:=Watch.cs) rfl h33 rfl rfl rfl (Za ?_)
  refine Zw (M:=([e43]:List Watch)) (f:=Watch.cs) rfl rfl rfl rfl (Nat.le_of_ble_eq_true rfl) rfl (Za ?_)
  obtain ⟨l44,h34,hF⟩:=bnd hF
  refine Zaj (f:=Watch.cs) rfl h34 (fun _=>rfl) rfl rfl rfl rfl (Za ?_)
  refine rg ?_
  exact rn (mf7,(w64 (x31+1)),l44) hF (sR [(2,1,2),(3,1,3),(4,1,4),(6,1,6),(7,2,7)])
 refine jL hF (fun x46=>mkS [(2,.ptr 2 (1,2) 0),(3,.ptr 3 (1,3) 0),(4,.ptr 4 (1,4) 0),(6,.ptr 6 (1,6) 0),(7,.row 7 (1,7)),(8,.int .i64 x31),(9,.bool x46)] [(2,some ((1,2),.box [.int .i64 p0.seq,.int .i64 p0.clock,.sl (List.map Stored.cs p0.pages),.sl (List.map Stored.cs p0.gone),.sl (List.map Proposal.cs p0.proposals),.int .i64 p0.proposed,.sl (List.map Watch.cs p0.watches),.sl (List.map Last.cs p0.lasts)])),(3,some ((1,3),.box [.int .i64 p1.kind,.str p1.user,.str p1.note,.int .i64 p1.title.space,.str p1.title.name,.int .i64 p1.to.space,.str p1.to.name,.str p1.text,.int .i64 p1.n,.sl (List.map Revision.cs p1.history)])),(4,some ((1,4),.box [.int .i64 0,.int .i64 0,.nil,.nil,.nil,.int .i64 0,.nil,.nil])),(6,some ((1,6),.box [.str p1.user,.int .i64 p1.title.space,.str p1.title.name])),(7,some ((1,7),.row 34 3 false (List.map Watch.cs x32)))] 2) (fun k9 hF=>?_) fun x46 hF=>?_
 ·refine rg ?_
  refine Zr rfl (M:=p0.watches) (f:=Watch.cs) rfl (Za ?_)
  refine kS 44 hF rfl (fun hF=>?_) fun hF=>?_
  ·obtain ⟨e54,h43,hF⟩:=bnd hF
   refine Zk (f:=Watch.cs) rfl h43 rfl rfl rfl (Za ?_)
   refine Zeu (.inl rfl) rfl rfl rfl rfl rfl (fun W=>ZsU e54 (⟨p1.user,p1.title⟩:Watch) W) (Za ?_)
   exact jn (decide (e54=(⟨p1.user,p1.title⟩:Watch))) hF (sR [(2,1,2),(3,1,3),(4,1,4),(6,1,6),(7,1,7)])
  iterate 7 refine Zh rfl (Za ?_)
  exact jn false hF (sR [(2,1,2),(3,1,3),(4,1,4),(6,1,6),(7,1,7)])
 refine rg ?_
 refine cS hF rfl (fun hF=>?_) fun hF=>?_
 ·refine rg ?_
  refine cS hF rfl (fun hF=>?_) fun hF=>?_
  ·refine rg ?_
   cases hF
   exact rQ
  refine rg ?_
  obtain ⟨l49,h38,hF⟩:=bnd hF
  refine Zbp (f:=Watch.cs) rfl h38 (fun _=>rfl) rfl rfl rfl rfl (Za ?_)
  obtain ⟨l50,h39,hF⟩:=bnd hF
  refine Zaj (f:=Watch.cs) rfl h39 (fun _=>rfl) rfl rfl rfl rfl (Za ?_)
  refine rg ?_
  cases hF
  exact rQ
 refine rg ?_
 refine cS hF rfl (fun hF=>?_) fun hF=>?_
 ·refine rg ?_
  cases hF
  exact rQ
 refine rg ?_
 refine Zr rfl (M:=p0.watches) (f:=Watch.cs) rfl (Za ?_)
 refine cS hF rfl (fun hF=>?_) fun hF=>?_
 ·refine rg ?_
  cases hF
  exact rQ
 refine rg ?_
 refine Zw (M:=([(⟨p1.user,p1.title⟩:Watch)]:List Watch)) (f:=Watch.cs) rfl rfl rfl rfl (Nat.le_of_ble_eq_true rfl) rfl (Za ?_)
 obtain ⟨l51,h40,hF⟩:=bnd hF
 refine Zaj (f:=Watch.cs) rfl h40 (fun _=>rfl) rfl rfl rfl rfl (Za ?_)
 obtain ⟨l52,h41,hF⟩:=bnd hF
 refine Zbp (f:=Watch.cs) rfl h41 (fun _=>rfl) rfl rfl rfl rfl (Za ?_)
 obtain ⟨l53,h42,hF⟩:=bnd hF
 refine Zaj (f:=Watch.cs) rfl h42 (fun _=>rfl) rfl rfl rfl rfl (Za ?_)
 refine rg ?_
 cases hF
 exact rQ
end Go.Proofs.YtjoneoobolnnbaaGreatDoor
