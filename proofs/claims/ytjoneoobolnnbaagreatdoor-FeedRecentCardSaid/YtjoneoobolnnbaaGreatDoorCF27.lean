/- Functions of the program as Lean functions. Written by fxgen.py. -/
import Derived.Test.YtjoneoobolnnbaaGreatDoorCF10
import Derived.Test.YtjoneoobolnnbaaGreatDoorCF19
import Derived.Test.YtjoneoobolnnbaaGreatDoorCF04
set_option linter.unusedVariables false
set_option maxHeartbeats 4000000
set_option maxRecDepth 100000
namespace Go.Proofs.YtjoneoobolnnbaaGreatDoor
open VL
def ZbK (p0:List Stored) (p1:Stored):Option (List Stored):=
 ZK Zax (fun f7 ((x31,x32):Int×(List Stored))=>
  letk (fun (x42:Bool)=>
   if x42 then
    (atI p0 x31).bind fun e43=>
    (ZbY 48 x32 [e43]).bind fun l44=>
    f7 ((w64 (x31+1)),l44)
   else
   (ZbY 48 x32 [p1]).bind fun l45=>
   (Zin p0 x31 (p0.length:Int)).bind fun l46=>
   (ZbY 48 l45 l46).bind fun l47=>
   (some l47:Option (List Stored))) fun k8=>
  if (decide (x31<(p0.length:Int))) then
   (atI p0 x31).bind fun e48=>
   (Zgz e48.title p1.title).bind fun r49=>
   k8 (decide (r49<0))
  else
  k8 false) (0,([]:List Stored))
theorem Zdh (p0:List Stored) (p1:Stored) (r:List Stored) (hF:ZbK p0 p1=some r):Zb Tryz.prog 145 [.sl (List.map Stored.cs p0),p1.pv] (.sl (List.map Stored.cs r)):=by
 refine cF (fun r=>.sl (List.map Stored.cs r)) hF mix Tryz.func145 fun r hF=>?_
 unfold ZbK at hF
 refine Za ?_
 refine rg ?_
 refine rg ?_
 refine rg ?_
 refine bl ?_
 refine Zn hF fun f7 mf7 hf7 hF=>?_
 refine Zl (α:=Nat×(Int×(List Stored))) (fun a _=>mkS [(0,.sl (List.map Stored.cs p0)),(3,.ptr 3 (1,3) 0),(5,.row 5 (1,5)),(6,.int .i64 a.2.1)] [(3,some ((1,3),.box [.int .i64 p1.title.space,.str p1.title.name,.sl (List.map Revision.cs p1.history)])),(5,some ((1,5),.row 48 3 false (List.map Stored.cs a.2.2)))] 2) (fun a=>ZK a.1 f7 a.2=some r) (fun a=>a.1) (mf7,0,([]:List Stored)) 2 hF (Za5 [((1,3),(1,0))] 5 48 3 rfl ⟨rfl,rfl,rfl,rfl,trivial⟩ ⟨⟨rfl,rfl⟩,⟨rfl,rfl⟩,trivial⟩ rfl) (fun a _ hF=>?_)
 obtain ⟨mf7,x31,x32⟩:=a
 obtain ⟨mf7,rfl,hF⟩:=Zo hf7 hF
 dsimp only at hF ⊢
 refine Za ?_
 refine jL hF (fun x42=>mkS [(0,.sl (List.map Stored.cs p0)),(3,.ptr 3 (1,3) 0),(5,.row 5 (1,5)),(6,.int .i64 x31),(21,.bool x42)] [(3,some ((1,3),.box [.int .i64 p1.title.space,.str p1.title.name,.sl (List.map Revision.cs p1.history)])),(5,some ((1,5),.row 48 3 false (List.map Stored.cs x32)))] 2) (fun k8 hF=>?_) fun x42 hF=>?_
 ·refine rg ?_
  refine Zr rfl (M:=p0) (f:=Stored.cs) rfl (Za ?_)
  refine kS 11 hF rfl (fun hF=>?_) fun hF=>?_
  ·obtain ⟨e48,h38,hF⟩:=bnd hF
   refine Zk (f:=Stored.cs) rfl h38 rfl rfl rfl (Za ?_)
   obtain ⟨r49,h39,hF⟩:=bnd hF
   refine Zf (Zf9 _ _ _ h39) rfl rfl (Za ?_)
   exact jn (decide (r49<0)) hF (sR [(3,1,3),(5,1,5)])
  iterate 9 refine Zh rfl (Za ?_)
  exact jn false hF (sR [(3,1,3),(5,1,5)])
 refine cS hF rfl (fun hF=>?_) fun hF=>?_
 ·refine bl ?_
  refine rg ?_
  obtain ⟨e43,h33,hF⟩:=bnd hF
  refine Zk (f:=Stored.cs) rfl h33 rfl rfl rfl (Za ?_)
  refine Zw (M:=([e43]:List Stored)) (f:=Stored.cs) rfl rfl rfl rfl (Nat.le_of_ble_eq_true rfl) rfl (Za ?_)
  obtain ⟨l44,h34,hF⟩:=bnd hF
  refine Zaj (f:=Stored.cs) rfl h34 (fun _=>rfl) rfl rfl rfl rfl (Za ?_)
  refine rg ?_
  exact rn (mf7,(w64 (x31+1)),l44) hF (sR [(3,1,3),(5,2,6)])
 refine rg ?_
 refine Zw (M:=([p1]:List Stored)) (f:=Stored.cs) rfl rfl rfl rfl (Nat.le_of_ble_eq_true rfl) rfl (Za ?_)
 obtain ⟨l45,h35,hF⟩:=bnd hF
 refine Zaj (f:=Stored.cs) rfl h35 (fun _=>rfl) rfl rfl rfl rfl (Za ?_)
 refine rg ?_
 obtain ⟨l46,h36,hF⟩:=bnd hF
 refine Zbp (f:=Stored.cs) rfl h36 (fun _=>rfl) rfl rfl rfl rfl (Za ?_)
 obtain ⟨l47,h37,hF⟩:=bnd hF
 refine Zaj (f:=Stored.cs) rfl h37 (fun _=>rfl) rfl rfl rfl rfl (Za ?_)
 cases hF
 exact rQ
def Zg3 (p0:State) (p1:Change) (p2:Int):Option (State×Int):=
 (Zcv p0.pages p1.title).bind fun r1=>
 if (decide (r1<0)) then
  if (decide (200≤(p0.pages.length:Int))) then
   (some (p0,8):Option (State×Int))
  else
  (ZbK p0.pages (⟨p1.title,[(⟨1,p1.user,p1.note,p1.text,p0.clock,p2⟩:Revision)]⟩:Stored)).bind fun r3=>
  (some ((⟨p0.seq,p0.clock,r3,p0.gone,p0.proposals,p0.proposed,p0.watches,p0.lasts⟩:State),0):Option (State×Int))
 else
 (atI p0.pages r1).bind fun e4=>
 if (decide (40≤(e4.history.length:Int))) then
  (some (p0,8):Option (State×Int))
 else
 (ZbY 48 [] p0.pages).bind fun l5=>
 (ZbY 72 [] e4.history).bind fun l6=>
 (ZbY 72 l6 [(⟨(w64 ((e4.history.length:Int)+1)),p1.user,p1.note,p1.text,p0.clock,p2⟩:Revision)]).bind fun l7=>
 (atI l5 r1).bind fun e8=>
 (some ((⟨p0.seq,p0.clock,(ZbI l5 r1 (⟨e8.title,l7⟩:Stored)),p0.gone,p0.proposals,p0.proposed,p0.watches,p0.lasts⟩:State),0):Option (State×Int))
theorem ZqT (p0:State) (p1:Change) (p2:Int) (r:State×Int) (hF:Zg3 p0 p1 p2=some r):Zb Tryz.prog 89 [p0.pv,p1.pv,.int .i64 p2] (.tup [r.1.pv,.int .i64 r.2]):=by
 refine cF (fun r=>.tup [r.1.pv,.int .i64 r.2]) hF mix Tryz.func89 fun r hF=>?_
 unfold Zg3 at hF
 refine Za ?_
 refine rg ?_
 refine rg ?_
 refine rg ?_
 obtain ⟨r1,h1,hF⟩:=bnd hF
 refine Zf (ZcU _ _ _ h1) rfl rfl (Za ?_)
 refine rg ?_
 refine cS hF rfl (fun hF=>?_) fun hF=>?_
 ·refine rg ?_
  refine Zr rfl (M:=p0.pages) (f:=Stored.cs) rfl (Za ?_)
  refine cS hF rfl (fun hF=>?_) fun hF=>?_
  ·refine rg ?_
   cases hF
   exact rQ
  refine rg ?_
  refine Zw (M:=([(⟨1,p1.user,p1.note,p1.text,p0.clock,p2⟩:Revision)]:List Revision)) (f:=Revision.cs) rfl rfl rfl rfl (Nat.le_of_ble_eq_true rfl) rfl (Za ?_)
  obtain ⟨r3,h3,hF⟩:=bnd hF
  refine Zf (Zdh _ _ _ h3) rfl rfl (Za ?_)
  refine rg ?_
  cases hF
  exact rQ
 refine rg ?_
 obtain ⟨e4,h4,hF⟩:=bnd hF
 refine Zk (f:=Stored.cs) rfl h4 rfl rfl rfl (Za ?_)
 refine rg ?_
 refine Zr rfl (M:=e4.history) (f:=Revision.cs) rfl (Za ?_)
 refine cS hF rfl (fun hF=>?_) fun hF=>?_
 ·refine rg ?_
  cases hF
  exact rQ
 refine rg ?_
 refine Zr rfl (M:=e4.history) (f:=Revision.cs) rfl (Za ?_)
 refine rg ?_
 obtain ⟨l5,h5,hF⟩:=bnd hF
 refine ZgS (f:=Stored.cs) rfl h5 (fun _=>rfl) rfl rfl rfl (Za ?_)
 refine rg ?_
 obtain ⟨l6,h6,hF⟩:=bnd hF
 refine ZgS (f:=Revision.cs) rfl h6 (fun _=>rfl) rfl rfl rfl (Za ?_)
 refine Zw (M:=([(⟨(w64 ((e4.history.length:Int)+1)),p1.user,p1.note,p1.text,p0.clock,p2⟩:Revision)]:List Revision)) (f:=Revision.cs) rfl rfl rfl rfl (Nat.le_of_ble_eq_true rfl) rfl (Za ?_)
 obtain ⟨l7,h7,hF⟩:=bnd hF
 refine Zaj (f:=Revision.cs) rfl h7 (fun _=>rfl) rfl rfl rfl rfl (Za ?_)
 obtain ⟨e8,h8,hF⟩:=bnd hF
 refine ZB rfl h8 rfl rfl rfl (Za ?_)
 refine ZaJ (e':=(⟨e8.title,l7⟩:Stored)) rfl h8 rfl rfl rfl rfl rfl rfl (Nat.le_of_ble_eq_true rfl) rfl rfl (Za ?_)
 refine rg ?_
 cases hF
 exact rQ
def ZcY (p0:State) (p1:Change):Option (State×Int):=
 (Zcv p0.pages p1.title).bind fun r1=>
 if (decide (r1<0)) then
  (some (p0,4):Option (State×Int))
 else
 if (decide (100≤(p0.gone.length:Int))) then
  (some (p0,8):Option (State×Int))
 else
 (ZbY 48 [] p0.gone).bind fun l2=>
 (atI p0.pages r1).bind fun e3=>
 (ZbY 48 l2 [e3]).bind fun l4=>
 (Zca p0.pages r1).bind fun r5=>
 (Zgm p0.proposals p1.title).bind fun r6=>
 (some ((⟨p0.seq,p0.clock,r5,l4,r6,p0.proposed,p0.watches,p0.lasts⟩:State),0):Option (State×Int))
theorem ZmA (p0:State) (p1:Change) (r:State×Int) (hF:ZcY p0 p1=some r):Zb Tryz.prog 90 [p0.pv,p1.pv] (.tup [r.1.pv,.int .i64 r.2]):=by
 refine cF (fun r=>.tup [r.1.pv,.int .i64 r.2]) hF mix Tryz.func90 fun r hF=>?_
 unfold ZcY at hF
 refine Za ?_
 refine rg ?_
 refine rg ?_
 obtain ⟨r1,h1,hF⟩:=bnd hF
 refine Zf (ZcU _ _ _ h1) rfl rfl (Za ?_)
 refine rg ?_
 refine cS hF rfl (fun hF=>?_) fun hF=>?_
 ·refine rg ?_
  cases hF
  exact rQ
 refine rg ?_
 refine Zr rfl (M:=p0.gone) (f:=Stored.cs) rfl (Za ?_)
 refine cS hF rfl (fun hF=>?_) fun hF=>?_
 ·refine rg ?_
  cases hF
  exact rQ
 refine rg ?_
 obtain ⟨l2,h2,hF⟩:=bnd hF
 refine ZgS (f:=Stored.cs) rfl h2 (fun _=>rfl) rfl rfl rfl (Za ?_)
 obtain ⟨e3,h3,hF⟩:=bnd hF
 refine Zk (f:=Stored.cs) rfl h3 rfl rfl rfl (Za ?_)
 refine Zw (M:=([e3]:List Stored)) (f:=Stored.cs) rfl rfl rfl rfl (Nat.le_of_ble_eq_true rfl) rfl (Za ?_)
 obtain ⟨l4,h4,hF⟩:=bnd hF
 refine Zaj (f:=Stored.cs) rfl h4 (fun _=>rfl) rfl rfl rfl rfl (Za ?_)
 refine rg ?_
 obtain ⟨r5,h5,hF⟩:=bnd hF
 refine Zf (Ze8 _ _ _ h5) rfl rfl (Za ?_)
 refine rg ?_
 obtain ⟨r6,h6,hF⟩:=bnd hF
 refine Zf (ZkD _ _ _ h6) rfl rfl (Za ?_)
 refine rg ?_
 cases hF
 exact rQ
def Zcc (p0:State) (p1:Change):Option (State×Int):=
 (Zdg p0 p1.title).bind fun r1=>
 (Zcv p0.pages p1.title).bind fun r2=>
 if (decide (0≤r2)) then
  (some (p0,5):Option (State×Int))
 else
 if (decide (r1<0)) then
  (some (p0,4):Option (State×Int))
 else
 if (decide (200≤(p0.pages.length:Int))) then
  (some (p0,8):Option (State×Int))
 else
 (atI p0.gone r1).bind fun e3=>
 (ZbK p0.pages e3).bind fun r4=>
 (Zca p0.gone r1).bind fun r5=>
 (some ((⟨p0.seq,p0.clock,r4,r5,p0.proposals,p0.proposed,p0.watches,p0.lasts⟩:State),0):Option (State×Int))
theorem ZlF (p0:State) (p1:Change) (r:State×Int) (hF:Zcc p0 p1=some r):Zb Tryz.prog 91 [p0.pv,p1.pv] (.tup [r.1.pv,.int .i64 r.2]):=by
 refine cF (fun r=>.tup [r.1.pv,.int .i64 r.2]) hF mix Tryz.func91 fun r hF=>?_
 unfold Zcc at hF
 refine Za ?_
 refine rg ?_
 refine rg ?_
 obtain ⟨r1,h1,hF⟩:=bnd hF
 refine Zf (Zkq _ _ _ h1) rfl rfl (Za ?_)
 refine rg ?_
 obtain ⟨r2,h2,hF⟩:=bnd hF
 refine Zf (ZcU _ _ _ h2) rfl rfl (Za ?_)
 refine cS hF rfl (fun hF=>?_) fun hF=>?_
 ·refine rg ?_
  cases hF
  exact rQ
 refine rg ?_
 refine cS hF rfl (fun hF=>?_) fun hF=>?_
 ·refine rg ?_
  cases hF
  exact rQ
 refine rg ?_
 refine Zr rfl (M:=p0.pages) (f:=Stored.cs) rfl (Za ?_)
 refine cS hF rfl (fun hF=>?_) fun hF=>?_
 ·refine rg ?_
  cases hF
  exact rQ
 refine rg ?_
 obtain ⟨e3,h3,hF⟩:=bnd hF
 refine Zk (f:=Stored.cs) rfl h3 rfl rfl rfl (Za ?_)
 obtain ⟨r4,h4,hF⟩:=bnd hF
 refine Zf (Zdh _ _ _ h4) rfl rfl (Za ?_)
 refine rg ?_
 obtain ⟨r5,h5,hF⟩:=bnd hF
 refine Zf (Ze8 _ _ _ h5) rfl rfl (Za ?_)
 refine rg ?_
 cases hF
 exact rQ
def Zfe (p0:State) (p1:Change) (p2:Int):Option (State×Int):=
 (Zcv p0.pages p1.title).bind fun r1=>
 if (decide (0≤r1)) then
  (some (p0,5):Option (State×Int))
 else
 (atI p1.history (w64 ((p1.history.length:Int) - 1))).bind fun e2=>
 if (decide (p0.clock<e2.minute)) then
  (some (p0,2):Option (State×Int))
 else
 if (decide (200≤(p0.pages.length:Int))) then
  (some (p0,8):Option (State×Int))
 else
 (ZbY 72 [] p1.history).bind fun l3=>
 ZK Zax (fun f2 ((x14,x15):Int×(List Revision))=>
  if (decide (x14<(x15.length:Int))) then
   (atI x15 x14).bind fun e19=>
   f2 ((w64 (x14+1)),(ZbI x15 x14 (⟨e19.number,e19.user,e19.note,e19.text,e19.minute,p2⟩:Revision)))
  else
  (ZbK p0.pages (⟨p1.title,x15⟩:Stored)).bind fun r20=>
  (some ((⟨p0.seq,p0.clock,r20,p0.gone,p0.proposals,p0.proposed,p0.watches,p0.lasts⟩:State),0):Option (State×Int))) (0,l3)
theorem Zpu (p0:State) (p1:Change) (p2:Int) (r:State×Int) (hF:Zfe p0 p1 p2=some r):Zb Tryz.prog 93 [p0.pv,p1.pv,.int .i64 p2] (.tup [r.1.pv,.int .i64 r.2]):=by
 refine cF (fun r=>.tup [r.1.pv,.int .i64 r.2]) hF mix Tryz.func93 fun r hF=>?_
 unfold Zfe at hF
 refine Za ?_
 refine rg ?_
 refine rg ?_
 obtain ⟨r1,h1,hF⟩:=bnd hF
 refine Zf (ZcU _ _ _ h1) rfl rfl (Za ?_)
 refine cS hF rfl (fun hF=>?_) fun hF=>?_
 ·refine rg ?_
  cases hF
  exact rQ
 refine rg ?_
 refine Zr rfl (M:=p1.history) (f:=Revision.cs) rfl (Za ?_)
 obtain ⟨e2,h2,hF⟩:=bnd hF
 refine Zk (f:=Revision.cs) rfl h2 rfl rfl rfl (Za ?_)
 refine cS hF rfl (fun hF=>?_) fun hF=>?_
 ·refine rg ?_
  cases hF
  exact rQ
 refine rg ?_
 refine Zr rfl (M:=p0.pages) (f:=Stored.cs) rfl (Za ?_)
 refine cS hF rfl (fun hF=>?_) fun hF=>?_
 ·refine rg ?_
  cases hF
  exact rQ
 refine rg ?_
 obtain ⟨l3,h3,hF⟩:=bnd hF
 refine ZgS (f:=Revision.cs) rfl h3 (fun _=>rfl) rfl rfl rfl (Za ?_)
 refine rg ?_
 refine bl ?_
 refine Zn hF fun f2 mf2 hf2 hF=>?_
 refine Zl (α:=Nat×(Int×(List Revision))) (fun a _=>mkS [(2,.int .i64 p2),(3,.ptr 3 (1,3) 0),(4,.ptr 4 (1,4) 0),(6,.ptr 6 (1,6) 0),(8,.row 37 (1,37)),(9,.int .i64 a.2.1)] [(3,some ((1,3),.box [.int .i64 p0.seq,.int .i64 p0.clock,.sl (List.map Stored.cs p0.pages),.sl (List.map Stored.cs p0.gone),.sl (List.map Proposal.cs p0.proposals),.int .i64 p0.proposed,.sl (List.map Watch.cs p0.watches),.sl (List.map Last.cs p0.lasts)])),(4,some ((1,4),.box [.int .i64 p1.kind,.str p1.user,.str p1.note,.int .i64 p1.title.space,.str p1.title.name,.int .i64 p1.to.space,.str p1.to.name,.str p1.text,.int .i64 p1.n,.sl (List.map Revision.cs p1.history)])),(6,some ((1,6),.box [.int .i64 0,.int .i64 0,.nil,.nil,.nil,.int .i64 0,.nil,.nil])),(37,some ((1,37),.row 55 6 false (List.map Revision.cs a.2.2)))] 2) (fun a=>ZK a.1 f2 a.2=some r) (fun a=>a.1) (mf2,0,l3) 2 hF (sR [(3,1,0),(4,1,1),(6,1,2),(37,5,2)]) (fun a _ hF=>?_)
 obtain ⟨mf2,x14,x15⟩:=a
 obtain ⟨mf2,rfl,hF⟩:=Zo hf2 hF
 dsimp only at hF ⊢
 refine Za ?_
 refine rg ?_
 refine Zr rfl (M:=x15) (f:=Revision.cs) rfl (Za ?_)
 refine cS hF rfl (fun hF=>?_) fun hF=>?_
 ·refine bl ?_
  refine rg ?_
  obtain ⟨e19,h15,hF⟩:=bnd hF
  refine ZB rfl h15 rfl rfl rfl (Za ?_)
  refine ZaJ (e':=(⟨e19.number,e19.user,e19.note,e19.text,e19.minute,p2⟩:Revision)) rfl h15 rfl rfl rfl rfl rfl rfl (Nat.le_of_ble_eq_true rfl) rfl rfl (Za ?_)
  refine rg ?_
  exact rn (mf2,(w64 (x14+1)),(ZbI x15 x14 (⟨e19.number,e19.user,e19.note,e19.text,e19.minute,p2⟩:Revision))) hF (sR [(3,1,3),(4,1,4),(6,1,6),(37,1,37)])
 refine rg ?_
 obtain ⟨r20,h16,hF⟩:=bnd hF
 refine Zf (Zdh _ _ _ h16) rfl rfl (Za ?_)
 refine rg ?_
 cases hF
 exact rQ
end Go.Proofs.YtjoneoobolnnbaaGreatDoor
