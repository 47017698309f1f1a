/- Functions of the program as Lean functions. Written by fxgen.py. | Functions of the program as Lean functions. Written by fxgen.py. | Functions of the program as Lean functions. Written by fxgen.py. -/
import Derived.Test.YtphibahplgmgfaaGreatDoorPB18
import Derived.Test.YtphibahplgmgfaaGreatDoorPB20
import Derived.Test.YtphibahplgmgfaaGreatDoorPB22
import Derived.Test.YtphibahplgmgfaaGreatDoorPB08
import Derived.Test.YtphibahplgmgfaaGreatDoorPB03
set_option linter.unusedVariables false
set_option maxHeartbeats 4000000
set_option maxRecDepth 100000
namespace Go.Proofs.YtphibahplgmgfaaGreatDoor
open VL
def r27_kind (p0:State) (p1:Change) (p2:Int):Option (State×Int):=
 if (decide (p1.kind=1)) then
  (r27_put p0 p1 p2).bind fun r9=>
  (some (r9.1,r9.2):Option (State×Int))
 else
 if (decide (p1.kind=2)) then
  (r27_remove p0 p1).bind fun r10=>
  (some (r10.1,r10.2):Option (State×Int))
 else
 if (decide (p1.kind=3)) then
  (r27_restore p0 p1).bind fun r11=>
  (some (r11.1,r11.2):Option (State×Int))
 else
 if (decide (p1.kind=4)) then
  (r27_move p0 p1 p2).bind fun r12=>
  (some (r12.1,r12.2):Option (State×Int))
 else
 if (decide (p1.kind=5)) then
  (r27_take p0 p1 p2).bind fun r13=>
  (some (r13.1,r13.2):Option (State×Int))
 else
 if (decide (p1.kind=6)) then
  if (decide ((w64 (52595999 - p0.clock))<p1.n)) then
   (some (p0,2):Option (State×Int))
  else
  (some ((⟨p0.seq,(w64 (p0.clock+p1.n)),p0.pages,p0.gone,p0.proposals,p0.proposed,p0.watches,p0.lasts⟩:State),0):Option (State×Int))
 else
 letk (fun (x14:Bool)=>
  if x14 then
   (r27_watch p0 p1).bind fun r15=>
   (some (r15.1,r15.2):Option (State×Int))
  else
  if (decide (p1.kind=9)) then
   (r27_propose p0 p1).bind fun r16=>
   (some (r16.1,r16.2):Option (State×Int))
  else
  (r27_shut p0 p1).bind fun r17=>
  (some (r17.1,r17.2):Option (State×Int))) fun k2=>
 if (decide (p1.kind=7)) then
  k2 (decide (p1.kind=7))
 else
 k2 (decide (p1.kind=8))
theorem r27_kind_c (p0:State) (p1:Change) (p2:Int) (r:State×Int) (hF:r27_kind p0 p1 p2=some r):Contract0 Tryz.prog 74 [p0.pv,p1.pv,.int .i64 p2] (.tup [r.1.pv,.int .i64 r.2]):=by
 refine cF (fun r=>.tup [r.1.pv,.int .i64 r.2]) hF mix Tryz.func74 fun r hF=>?_
 unfold r27_kind at hF
 refine runX ?_
 refine rg ?_
 refine rg ?_
 refine bl ?_
 refine rg ?_
 refine cS hF rfl (fun hF=>?_) fun hF=>?_
 ·refine rg ?_
  obtain ⟨r9,h8,hF⟩:=bnd hF
  refine g_call (r27_put_c _ _ _ _ h8) rfl rfl (runX ?_)
  cases hF
  exact rQ
 refine rg ?_
 refine cS hF rfl (fun hF=>?_) fun hF=>?_
 ·refine rg ?_
  obtain ⟨r10,h9,hF⟩:=bnd hF
  refine g_call (r27_remove_c _ _ _ h9) rfl rfl (runX ?_)
  cases hF
  exact rQ
 refine rg ?_
 refine cS hF rfl (fun hF=>?_) fun hF=>?_
 ·refine rg ?_
  obtain ⟨r11,h10,hF⟩:=bnd hF
  refine g_call (r27_restore_c _ _ _ h10) rfl rfl (runX ?_)
  cases hF
  exact rQ
 refine rg ?_
 refine cS hF rfl (fun hF=>?_) fun hF=>?_
 ·refine rg ?_
  obtain ⟨r12,h11,hF⟩:=bnd hF
  refine g_call (r27_move_c _ _ _ _ h11) rfl rfl (runX ?_)
  cases hF
  exact rQ
 refine rg ?_
 refine cS hF rfl (fun hF=>?_) fun hF=>?_
 ·refine rg ?_
  obtain ⟨r13,h12,hF⟩:=bnd hF
  refine g_call (r27_take_c _ _ _ _ h12) rfl rfl (runX ?_)
  cases hF
  exact rQ
 refine rg ?_
 refine cS hF rfl (fun hF=>?_) fun hF=>?_
 ·refine rg ?_
  refine cS hF rfl (fun hF=>?_) fun hF=>?_
  ·refine rg ?_
   cases hF
   exact rQ
  refine rg ?_
  refine rg ?_
  cases hF
  exact rQ
 refine rg ?_
 refine jL hF (fun x14=>mkS [(3,.ptr 3 (1,3) 0),(4,.ptr 4 (1,4) 0),(6,.ptr 6 (1,6) 0),(9,.int .i64 p1.kind),(64,.bool x14)] [(3,some ((1,3),.box [.int .i64 p0.seq,.int .i64 p0.clock,.sl (List.map Stored.cs p0.pages),.sl (List.map Stored.cs p0.gone),.sl (List.map Proposal.cs p0.proposals),.int .i64 p0.proposed,.sl (List.map Watch.cs p0.watches),.sl (List.map Last.cs p0.lasts)])),(4,some ((1,4),.box [.int .i64 p1.kind,.str p1.user,.str p1.note,.int .i64 p1.title.space,.str p1.title.name,.int .i64 p1.to.space,.str p1.to.name,.str p1.text,.int .i64 p1.n,.sl (List.map Revision.cs p1.history)])),(6,some ((1,6),.box [.int .i64 0,.int .i64 0,.nil,.nil,.nil,.int .i64 0,.nil,.nil]))] 2) (fun k2 hF=>?_) fun x14 hF=>?_
 ·refine cS hF rfl (fun hF=>?_) fun hF=>?_
  ·exact jn (decide (p1.kind=7)) hF (sR [(3,1,0),(4,1,1),(6,1,2)])
  refine rg ?_
  exact jn (decide (p1.kind=8)) hF (sR [(3,1,0),(4,1,1),(6,1,2)])
 refine cS hF rfl (fun hF=>?_) fun hF=>?_
 ·refine rg ?_
  obtain ⟨r15,h13,hF⟩:=bnd hF
  refine g_call (r27_watch_c _ _ _ h13) rfl rfl (runX ?_)
  cases hF
  exact rQ
 refine rg ?_
 refine cS hF rfl (fun hF=>?_) fun hF=>?_
 ·refine rg ?_
  obtain ⟨r16,h14,hF⟩:=bnd hF
  refine g_call (r27_propose_c _ _ _ h14) rfl rfl (runX ?_)
  cases hF
  exact rQ
 refine rg ?_
 obtain ⟨r17,h15,hF⟩:=bnd hF
 refine g_call (r27_shut_c _ _ _ h15) rfl rfl (runX ?_)
 cases hF
 exact rQ
def r27_forbidden (p0:Change):Option Bool:=
 if (decide (p0.kind=1)) then
  (r27_policy).bind fun r10=>
  if (!decide (p0.title=r10)) then
   (some false:Option Bool)
  else
  (r12_Parse p0.text).bind fun r11=>
  (some (!decide (r11.2.2=0)):Option Bool)
 else
 letk (fun (x12:Bool)=>
  if x12 then
   (r27_policy).bind fun r13=>
   (some (decide (p0.title=r13)):Option Bool)
  else
  if (decide (p0.kind=4)) then
   letk (fun (x16:Bool)=>
    (some x16:Option Bool)) fun k4=>
   (r27_policy).bind fun r17=>
   if (decide (p0.title=r17)) then
    k4 true
   else
   (r27_policy).bind fun r18=>
   k4 (decide (p0.to=r18))
  else
  (some false:Option Bool)) fun k3=>
 if (decide (p0.kind=2)) then
  k3 (decide (p0.kind=2))
 else
 if (decide (p0.kind=3)) then
  k3 (decide (p0.kind=3))
 else
 k3 (decide (p0.kind=5))
theorem r27_forbidden_c (p0:Change) (r:Bool) (hF:r27_forbidden p0=some r):Contract0 Tryz.prog 75 [p0.pv] (.bool r):=by
 refine cF (fun r=>.bool r) hF mix Tryz.func75 fun r hF=>?_
 unfold r27_forbidden at hF
 refine runX ?_
 refine rg ?_
 refine rg ?_
 refine bl ?_
 refine rg ?_
 refine cS hF rfl (fun hF=>?_) fun hF=>?_
 ·refine rg ?_
  obtain ⟨r10,h8,hF⟩:=bnd hF
  refine g_call (r27_policy_c _ h8) rfl rfl (runX ?_)
  refine g_eqT (.inr rfl) rfl rfl rfl rfl rfl (fun W=>titleNeq p0.title r10 W) (runX ?_)
  refine cS hF rfl (fun hF=>?_) fun hF=>?_
  ·refine rg ?_
   cases hF
   exact rQ
  refine rg ?_
  obtain ⟨r11,h9,hF⟩:=bnd hF
  refine g_call (r12_Parse_c _ _ h9) rfl rfl (runX ?_)
  refine rg ?_
  cases hF
  exact rQ
 refine rg ?_
 refine jL hF (fun x12=>mkS [(1,.ptr 1 (1,1) 0),(7,.int .i64 p0.kind),(23,.bool x12)] [(1,some ((1,1),.box [.int .i64 p0.kind,.str p0.user,.str p0.note,.int .i64 p0.title.space,.str p0.title.name,.int .i64 p0.to.space,.str p0.to.name,.str p0.text,.int .i64 p0.n,.sl (List.map Revision.cs p0.history)]))] 2) (fun k3 hF=>?_) fun x12 hF=>?_
 ·refine cS hF rfl (fun hF=>?_) fun hF=>?_
  ·exact jn (decide (p0.kind=2)) hF (sR [(1,1,0)])
  refine rg ?_
  refine cS hF rfl (fun hF=>?_) fun hF=>?_
  ·exact jn (decide (p0.kind=3)) hF (sR [(1,1,0)])
  refine rg ?_
  exact jn (decide (p0.kind=5)) hF (sR [(1,1,0)])
 refine cS hF rfl (fun hF=>?_) fun hF=>?_
 ·refine rg ?_
  obtain ⟨r13,h10,hF⟩:=bnd hF
  refine g_call (r27_policy_c _ h10) rfl rfl (runX ?_)
  refine g_eqT (.inl rfl) rfl rfl rfl rfl rfl (fun W=>titleEql p0.title r13 W) (runX ?_)
  cases hF
  exact rQ
 refine rg ?_
 refine cS hF rfl (fun hF=>?_) fun hF=>?_
 ·refine jL hF (fun x16=>mkS [(2,.bool x16)] [] 2) (fun k4 hF=>?_) fun x16 hF=>?_
  ·refine rg ?_
   obtain ⟨r17,h13,hF⟩:=bnd hF
   refine g_call (r27_policy_c _ h13) rfl rfl (runX ?_)
   refine g_eqT (.inl rfl) rfl rfl rfl rfl rfl (fun W=>titleEql p0.title r17 W) (runX ?_)
   refine kS 37 hF rfl (fun hF=>?_) fun hF=>?_
   ·iterate 4 refine g_skip rfl (runX ?_)
    exact jn true hF (sR [])
   obtain ⟨r18,h14,hF⟩:=bnd hF
   refine g_call (r27_policy_c _ h14) rfl rfl (runX ?_)
   refine g_eqT (.inl rfl) rfl rfl rfl rfl rfl (fun W=>titleEql p0.to r18 W) (runX ?_)
   exact jn (decide (p0.to=r18)) hF (sR [])
  cases hF
  exact rQ
 refine rg ?_
 cases hF
 exact rQ
def r27_Apply (p0:State) (p1:List Change):Option (State×Int):=
 (r27_Valid p0).bind fun r1=>
 if (!r1) then
  (some ((⟨0,0,[],[],[],0,[],[]⟩:State),11):Option (State×Int))
 else
 letk (fun (x2:Bool)=>
  if x2 then
   (some ((⟨0,0,[],[],[],0,[],[]⟩:State),2):Option (State×Int))
  else
  fixN bigN (fun f3 ((x76,x77,x78,x79,x80,x81,x82,x83,x84):Int×Int×Int×(List Stored)×(List Stored)×(List Proposal)×Int×(List Watch)×(List Last))=>
   if (decide (x76<(p1.length:Int))) then
    (atI p1 x76).bind fun e109=>
    (r26_Valid e109).bind fun r110=>
    if (!decide (r110=0)) then
     (some ((⟨0,0,[],[],[],0,[],[]⟩:State),r110):Option (State×Int))
    else
    (atI p1 x76).bind fun e111=>
    (r27_kind (⟨x77,x78,x79,x80,x81,x82,x83,x84⟩:State) e111 (w64 (p0.seq+1))).bind fun r112=>
    if (!decide (r112.2=0)) then
     (some ((⟨0,0,[],[],[],0,[],[]⟩:State),r112.2):Option (State×Int))
    else
    (atI p1 x76).bind fun e113=>
    (r27_forbidden e113).bind fun r114=>
    if r114 then
     (some ((⟨0,0,[],[],[],0,[],[]⟩:State),7):Option (State×Int))
    else
    (atI p1 x76).bind fun e115=>
    (r27_noted r112.1 e115.user (w64 (p0.seq+1))).bind fun r116=>
    if (!decide (r116.2=0)) then
     (some ((⟨0,0,[],[],[],0,[],[]⟩:State),r116.2):Option (State×Int))
    else
    f3 ((w64 (x76+1)),r116.1.seq,r116.1.clock,r116.1.pages,r116.1.gone,r116.1.proposals,r116.1.proposed,r116.1.watches,r116.1.lasts)
   else
   if (decide (1073741824<(w64 (p0.seq+1)))) then
    (some ((⟨0,0,[],[],[],0,[],[]⟩:State),8):Option (State×Int))
   else
   (some ((⟨(w64 (p0.seq+1)),x78,x79,x80,x81,x82,x83,x84⟩:State),0):Option (State×Int))) (0,p0.seq,p0.clock,p0.pages,p0.gone,p0.proposals,p0.proposed,p0.watches,p0.lasts)) fun k1=>
 if (decide ((p1.length:Int)<1)) then
  k1 true
 else
 k1 (decide (16<(p1.length:Int)))
theorem r27_Apply_c (p0:State) (p1:List Change) (r:State×Int) (hF:r27_Apply p0 p1=some r):Contract0 Tryz.prog 34 [p0.pv,.sl (List.map Change.cs p1)] (.tup [r.1.pv,.int .i64 r.2]):=by
 refine cF (fun r=>.tup [r.1.pv,.int .i64 r.2]) hF mix Tryz.func34 fun r hF=>?_
 unfold r27_Apply at hF
 refine runX ?_
 refine rg ?_
 refine rg ?_
 obtain ⟨r1,h1,hF⟩:=bnd hF
 refine g_call (r27_Valid_c _ _ h1) rfl rfl (runX ?_)
 refine cS hF rfl (fun hF=>?_) fun hF=>?_
 ·refine rg ?_
  cases hF
  exact rQ
 refine jL hF (fun x2=>mkS [(1,.sl (List.map Change.cs p1)),(2,.ptr 2 (1,2) 0),(4,.ptr 4 (1,4) 0),(22,.bool x2)] [(2,some ((1,2),.box [.int .i64 p0.seq,.int .i64 p0.clock,.sl (List.map Stored.cs p0.pages),.sl (List.map Stored.cs p0.gone),.sl (List.map Proposal.cs p0.proposals),.int .i64 p0.proposed,.sl (List.map Watch.cs p0.watches),.sl (List.map Last.cs p0.lasts)])),(4,some ((1,4),.box [.int .i64 0,.int .i64 0,.nil,.nil,.nil,.int .i64 0,.nil,.nil]))] 2) (fun k1 hF=>?_) fun x2 hF=>?_
 ·refine rg ?_
  refine g_lenM rfl (M:=p1) (f:=Change.cs) rfl (runX ?_)
  refine kS 18 hF rfl (fun hF=>?_) fun hF=>?_
  ·iterate 3 refine g_skip rfl (runX ?_)
   exact jn true hF (sR [(2,1,0),(4,1,1)])
  refine g_lenM rfl (M:=p1) (f:=Change.cs) rfl (runX ?_)
  exact jn (decide (16<(p1.length:Int))) hF (sR [(2,1,0),(4,1,1)])
 refine cS hF rfl (fun hF=>?_) fun hF=>?_
 ·refine rg ?_
  cases hF
  exact rQ
 refine rg ?_
 refine rg ?_
 refine bl ?_
 refine fix_elim hF fun f3 mf3 hf3 hF=>?_
 refine pws_loop (α:=Nat×(Int×Int×Int×(List Stored)×(List Stored)×(List Proposal)×Int×(List Watch)×(List Last))) (fun a _=>mkS [(1,.sl (List.map Change.cs p1)),(2,.ptr 2 (1,2) 0),(4,.ptr 4 (1,4) 0),(6,.int .i64 (w64 (p0.seq+1))),(7,.int .i64 a.2.1)] [(2,some ((1,2),.box [.int .i64 a.2.2.1,.int .i64 a.2.2.2.1,.sl (List.map Stored.cs a.2.2.2.2.1),.sl (List.map Stored.cs a.2.2.2.2.2.1),.sl (List.map Proposal.cs a.2.2.2.2.2.2.1),.int .i64 a.2.2.2.2.2.2.2.1,.sl (List.map Watch.cs a.2.2.2.2.2.2.2.2.1),.sl (List.map Last.cs a.2.2.2.2.2.2.2.2.2)])),(4,some ((1,4),.box [.int .i64 0,.int .i64 0,.nil,.nil,.nil,.int .i64 0,.nil,.nil]))] 2) (fun a=>fixN a.1 f3 a.2=some r) (fun a=>a.1) (mf3,0,p0.seq,p0.clock,p0.pages,p0.gone,p0.proposals,p0.proposed,p0.watches,p0.lasts) 2 hF (sR [(2,1,2),(4,1,4)]) (fun a _ hF=>?_)
 obtain ⟨mf3,x76,x77,x78,x79,x80,x81,x82,x83,x84⟩:=a
 obtain ⟨mf3,rfl,hF⟩:=fix_step hf3 hF
 dsimp only at hF ⊢
 refine runX ?_
 refine rg ?_
 refine g_lenM rfl (M:=p1) (f:=Change.cs) rfl (runX ?_)
 refine cS hF rfl (fun hF=>?_) fun hF=>?_
 ·refine bl ?_
  refine rg ?_
  obtain ⟨e109,h90,hF⟩:=bnd hF
  refine g_indexI (f:=Change.cs) rfl h90 rfl rfl rfl (runX ?_)
  obtain ⟨r110,h91,hF⟩:=bnd hF
  refine g_call (r26_Valid_c _ _ h91) rfl rfl (runX ?_)
  refine rg ?_
  refine cS hF rfl (fun hF=>?_) fun hF=>?_
  ·refine rg ?_
   cases hF
   exact rQ
  refine rg ?_
  obtain ⟨e111,h92,hF⟩:=bnd hF
  refine g_indexI (f:=Change.cs) rfl h92 rfl rfl rfl (runX ?_)
  obtain ⟨r112,h93,hF⟩:=bnd hF
  refine g_call (r27_kind_c _ _ _ _ h93) rfl rfl (runX ?_)
  refine rg ?_
  refine cS hF rfl (fun hF=>?_) fun hF=>?_
  ·refine rg ?_
   cases hF
   exact rQ
  refine rg ?_
  obtain ⟨e113,h94,hF⟩:=bnd hF
  refine g_indexI (f:=Change.cs) rfl h94 rfl rfl rfl (runX ?_)
  obtain ⟨r114,h95,hF⟩:=bnd hF
  refine g_call (r27_forbidden_c _ _ h95) rfl rfl (runX ?_)
  refine cS hF rfl (fun hF=>?_) fun hF=>?_
  ·refine rg ?_
   cases hF
   exact rQ
  refine rg ?_
  obtain ⟨e115,h96,hF⟩:=bnd hF
  refine g_indexI (f:=Change.cs) rfl h96 rfl rfl rfl (runX ?_)
  obtain ⟨r116,h97,hF⟩:=bnd hF
  refine g_call (r27_noted_c _ _ _ _ h97) rfl rfl (runX ?_)
  refine rg ?_
  refine cS hF rfl (fun hF=>?_) fun hF=>?_
  ·refine rg ?_
   cases hF
   exact rQ
  refine rg ?_
  exact rn (mf3,(w64 (x76+1)),r116.1.seq,r116.1.clock,r116.1.pages,r116.1.gone,r116.1.proposals,r116.1.proposed,r116.1.watches,r116.1.lasts) hF (sR [(2,1,2),(4,1,4)])
 refine rg ?_
 refine cS hF rfl (fun hF=>?_) fun hF=>?_
 ·refine rg ?_
  cases hF
  exact rQ
 refine rg ?_
 refine rg ?_
 cases hF
 exact rQ
end Go.Proofs.YtphibahplgmgfaaGreatDoor
set_option linter.unusedVariables false
set_option maxHeartbeats 4000000
set_option maxRecDepth 100000
namespace Go.Proofs.YtphibahplgmgfaaGreatDoor
open VL
def g2_Round (p0:Int) (p1:Int):Option Int:=
 (remI .i64 p0 p1).bind fun q1=>
 letk (fun (x2:Int)=>
  (some x2:Option Int)) fun k1=>
 if (decide (q1<0)) then
  k1 (w64 (q1+p1))
 else
 k1 q1
theorem g2_Round_c (p0:Int) (p1:Int) (r:Int) (hF:g2_Round p0 p1=some r):Contract0 Tryz.prog 14 [.int .i64 p0,.int .i64 p1] (.int .i64 r):=by
 refine cF (fun r=>.int .i64 r) hF mix Tryz.func14 fun r hF=>?_
 unfold g2_Round at hF
 refine runX ?_
 refine rg ?_
 refine rg ?_
 obtain ⟨q1,h1,hF⟩:=bnd hF
 refine g_remI rfl h1 rfl rfl (runX ?_)
 refine rg ?_
 refine jL hF (fun x2=>mkS [(5,.int .i64 x2)] [] 2) (fun k1 hF=>?_) fun x2 hF=>?_
 ·refine cS hF rfl (fun hF=>?_) fun hF=>?_
  ·refine rg ?_
   exact jn (w64 (q1+p1)) hF (sR [])
  exact jn q1 hF (sR [])
 refine rg ?_
 cases hF
 exact rQ
def g2_From (p0:List Int):Option SrcF:=
 fixN bigN (fun f7 ((x23,x24):Int×Int)=>
  letk (fun (x30:Bool)=>
   if x30 then
    (atI p0 x23).bind fun e33=>
    (shrI .u64 (IntKind.wrap .u64 ((bitsI .xor .u64 x24 (IntKind.wrap .u64 e33)) * 18397679294719823053)) 33).bind fun q34=>
    f7 ((w64 (x23+1)),(bitsI .xor .u64 (IntKind.wrap .u64 ((bitsI .xor .u64 x24 (IntKind.wrap .u64 e33)) * 18397679294719823053)) q34))
   else
   (some (⟨p0,0,x24⟩:SrcF):Option SrcF)) fun k8=>
  if (decide (x23<(p0.length:Int))) then
   k8 (decide (x23<64))
  else
  k8 false) (0,11400714819323198485)
theorem g2_From_c (p0:List Int) (r:SrcF) (hF:g2_From p0=some r):ContractN Tryz.prog 33 [.sl (List.map csI p0)] (.box r.cs):=by
 refine contract_FN (O:=fun r=>.box r.cs) hF mix Tryz.func33 (by kernel_rfl) rfl (by kernel_rfl) fun r hF=>?_
 unfold g2_From at hF
 refine runX ?_
 refine rg ?_
 refine rg ?_
 refine rg ?_
 refine bl ?_
 refine fix_elim hF fun f7 mf7 hf7 hF=>?_
 refine pws_loop (α:=Nat×(Int×Int)) (fun a _=>mkS [(0,.sl (List.map csI p0)),(3,.ptr 7 (1,7) 0),(4,.int .i64 a.2.1)] [(7,some ((1,7),.box [.sl (List.map csI p0),.int .i64 0,.int .u64 a.2.2]))] 2) (fun a=>fixN a.1 f7 a.2=some r) (fun a=>a.1) (mf7,0,11400714819323198485) 2 hF (sR [(7,2,2)]) (fun a _ hF=>?_)
 obtain ⟨mf7,x23,x24⟩:=a
 obtain ⟨mf7,rfl,hF⟩:=fix_step hf7 hF
 dsimp only at hF ⊢
 refine runX ?_
 refine jL hF (fun x30=>mkS [(0,.sl (List.map csI p0)),(3,.ptr 7 (1,7) 0),(4,.int .i64 x23),(15,.bool x30)] [(7,some ((1,7),.box [.sl (List.map csI p0),.int .i64 0,.int .u64 x24]))] 2) (fun k8 hF=>?_) fun x30 hF=>?_
 ·refine rg ?_
  refine g_lenM rfl (M:=p0) (f:=csI) rfl (runX ?_)
  refine kS 12 hF rfl (fun hF=>?_) fun hF=>?_
  ·exact jn (decide (x23<64)) hF (sR [(7,1,7)])
  iterate 2 refine g_skip rfl (runX ?_)
  exact jn false hF (sR [(7,1,7)])
 refine cS hF rfl (fun hF=>?_) fun hF=>?_
 ·refine bl ?_
  refine rg ?_
  obtain ⟨e33,h23,hF⟩:=bnd hF
  refine g_indexI (f:=csI) rfl h23 rfl rfl rfl (runX ?_)
  refine rg ?_
  obtain ⟨q34,h24,hF⟩:=bnd hF
  refine g_shrI rfl h24 rfl rfl (runX ?_)
  refine rg ?_
  exact rn (mf7,(w64 (x23+1)),(bitsI .xor .u64 (IntKind.wrap .u64 ((bitsI .xor .u64 x24 (IntKind.wrap .u64 e33)) * 18397679294719823053)) q34)) hF (sR [(7,1,7)])
 refine rg ?_
 cases hF
 exact rn_ret (t:=7) (g:=(1,7)) (o2:=.box [.sl (List.map csI p0),.int .i64 0,.int .u64 x24]) rfl rfl rfl
def g2_Source_Next (p0:SrcF) (p1:Int):Option (Int×SrcF):=
 if (decide (p0.pos<(p0.l.length:Int))) then
  (atI p0.l (w64 ((w64 (p0.pos+1)) - 1))).bind fun e3=>
  (g2_Round e3 p1).bind fun r4=>
  (some (r4,(⟨p0.l,(w64 (p0.pos+1)),p0.seed⟩:SrcF)):Option (Int×SrcF))
 else
 (shrI .u64 (IntKind.wrap .u64 ((IntKind.wrap .u64 (p0.seed * 6364136223846793005))+1442695040888963407)) 33).bind fun q5=>
 (remI .u64 q5 (IntKind.wrap .u64 p1)).bind fun q6=>
 (some ((IntKind.wrap .i64 q6),(⟨p0.l,p0.pos,(IntKind.wrap .u64 ((IntKind.wrap .u64 (p0.seed * 6364136223846793005))+1442695040888963407))⟩:SrcF)):Option (Int×SrcF))
theorem g2_Source_Next_c (p0:SrcF) (p1:Int) (r:Int×SrcF) (hF:g2_Source_Next p0 p1=some r):Contract Tryz.prog 40 [.ptr 0 (0,0) 0,.int .i64 p1] (some (0,p0.cs)) (.int .i64 r.1) (r.2).cs:=by
 refine contract_FO (R:=fun r=>.int .i64 r.1) (O:=fun r=>(r.2).cs) hF mix Tryz.func40 (by kernel_rfl) rfl (by kernel_rfl) fun r hF=>?_
 unfold g2_Source_Next at hF
 refine runX ?_
 refine rg ?_
 refine rg ?_
 refine g_lenM rfl (M:=p0.l) (f:=csI) rfl (runX ?_)
 refine cS hF rfl (fun hF=>?_) fun hF=>?_
 ·refine rg ?_
  refine rg ?_
  obtain ⟨e3,h3,hF⟩:=bnd hF
  refine g_indexI (f:=csI) rfl h3 rfl rfl rfl (runX ?_)
  obtain ⟨r4,h4,hF⟩:=bnd hF
  refine g_call (g2_Round_c _ _ _ h4) rfl rfl (runX ?_)
  cases hF
  exact ro_ret rfl rfl rfl rfl rfl
 refine rg ?_
 refine rg ?_
 obtain ⟨q5,h5,hF⟩:=bnd hF
 refine g_shrI rfl h5 rfl rfl (runX ?_)
 obtain ⟨q6,h6,hF⟩:=bnd hF
 refine g_remI rfl h6 rfl rfl (runX ?_)
 cases hF
 exact ro_ret rfl rfl rfl rfl rfl
def g2_Titles:Option (List Title):=
 (some [(⟨0,(⟨#[65]⟩:ByteArray)⟩:Title),(⟨0,(⟨#[66]⟩:ByteArray)⟩:Title),(⟨0,(⟨#[65,47,67]⟩:ByteArray)⟩:Title),(⟨3,(⟨#[84]⟩:ByteArray)⟩:Title),(⟨4,(⟨#[88]⟩:ByteArray)⟩:Title),(⟨4,(⟨#[89]⟩:ByteArray)⟩:Title),(⟨2,(⟨#[65,110,110]⟩:ByteArray)⟩:Title),(⟨0,(⟨#[68]⟩:ByteArray)⟩:Title)]:Option (List Title))
theorem g2_Titles_c  (r:List Title) (hF:g2_Titles=some r):Contract0 Tryz.prog 15 [] (.sl (List.map Title.cs r)):=by
 refine cF (fun r=>.sl (List.map Title.cs r)) hF mix Tryz.func15 fun r hF=>?_
 unfold g2_Titles at hF
 refine runX ?_
 refine rg ?_
 refine rg ?_
 refine g_buildM (M:=([(⟨0,(⟨#[65]⟩:ByteArray)⟩:Title),(⟨0,(⟨#[66]⟩:ByteArray)⟩:Title),(⟨0,(⟨#[65,47,67]⟩:ByteArray)⟩:Title),(⟨3,(⟨#[84]⟩:ByteArray)⟩:Title),(⟨4,(⟨#[88]⟩:ByteArray)⟩:Title),(⟨4,(⟨#[89]⟩:ByteArray)⟩:Title),(⟨2,(⟨#[65,110,110]⟩:ByteArray)⟩:Title),(⟨0,(⟨#[68]⟩:ByteArray)⟩:Title)]:List Title)) (f:=Title.cs) rfl rfl rfl rfl (Nat.le_of_ble_eq_true rfl) rfl (runX ?_)
 cases hF
 exact rQ
def g2_PolicyPage:Option Title:=
 (some (⟨5,(⟨#[80,111,108,105,99,121]⟩:ByteArray)⟩:Title):Option Title)
theorem g2_PolicyPage_c  (r:Title) (hF:g2_PolicyPage=some r):Contract0 Tryz.prog 38 [] (r.pv):=by
 refine cF (fun r=>r.pv) hF mix Tryz.func38 fun r hF=>?_
 unfold g2_PolicyPage at hF
 refine runX ?_
 refine rg ?_
 refine rg ?_
 cases hF
 exact rQ
def g2_Title (p0:SrcF):Option (Title×SrcF):=
 (g2_Titles).bind fun r1=>
 (g2_Source_Next p0 8).bind fun r2=>
 (atI r1 r2.1).bind fun e3=>
 (some (e3,r2.2):Option (Title×SrcF))
theorem g2_Title_c (p0:SrcF) (r:Title×SrcF) (hF:g2_Title p0=some r):Contract Tryz.prog 104 [.ptr 0 (0,0) 0] (some (0,p0.cs)) (r.1.pv) (r.2).cs:=by
 refine contract_FO (R:=fun r=>r.1.pv) (O:=fun r=>(r.2).cs) hF mix Tryz.func104 (by kernel_rfl) rfl (by kernel_rfl) fun r hF=>?_
 unfold g2_Title at hF
 refine runX ?_
 refine rg ?_
 refine rg ?_
 obtain ⟨r1,h1,hF⟩:=bnd hF
 refine g_call (g2_Titles_c _ h1) rfl rfl (runX ?_)
 obtain ⟨r2,h2,hF⟩:=bnd hF
 refine g_call1 (g2_Source_Next_c _ _ _ h2) rfl rfl rfl rfl rfl (runX ?_)
 obtain ⟨e3,h3,hF⟩:=bnd hF
 refine g_indexI (f:=Title.cs) rfl h3 rfl rfl rfl (runX ?_)
 cases hF
 exact ro_ret rfl rfl rfl rfl rfl
def g2_User (p0:SrcF):Option (ByteArray×SrcF):=
 (g2_Source_Next p0 5).bind fun r1=>
 (atI ([(⟨#[97,110,110]⟩:ByteArray),(⟨#[98,111,98]⟩:ByteArray),(⟨#[]⟩:ByteArray),(⟨#[99,121]⟩:ByteArray),(⟨#[97,110,110]⟩:ByteArray)]:List ByteArray) r1.1).bind fun c2=>
 (some (c2,r1.2):Option (ByteArray×SrcF))
theorem g2_User_c (p0:SrcF) (r:ByteArray×SrcF) (hF:g2_User p0=some r):Contract Tryz.prog 41 [.ptr 0 (0,0) 0] (some (0,p0.cs)) (.str r.1) (r.2).cs:=by
 refine contract_FO (R:=fun r=>.str r.1) (O:=fun r=>(r.2).cs) hF mix Tryz.func41 (by kernel_rfl) rfl (by kernel_rfl) fun r hF=>?_
 unfold g2_User at hF
 refine runX ?_
 refine rg ?_
 refine rg ?_
 obtain ⟨r1,h1,hF⟩:=bnd hF
 refine g_call1 (g2_Source_Next_c _ _ _ h1) rfl rfl rfl rfl rfl (runX ?_)
 obtain ⟨c2,h2,hF⟩:=bnd hF
 refine g_ixI (p:=PV.str) rfl h2 rfl rfl rfl rfl rfl (runX ?_)
 cases hF
 exact ro_ret rfl rfl rfl rfl rfl
def g2_Users:Option (List ByteArray):=
 (some [(⟨#[]⟩:ByteArray),(⟨#[97,110,110]⟩:ByteArray),(⟨#[98,111,98]⟩:ByteArray),(⟨#[99,121]⟩:ByteArray)]:Option (List ByteArray))
theorem g2_Users_c  (r:List ByteArray) (hF:g2_Users=some r):Contract0 Tryz.prog 13 [] (.sl (List.map csS r)):=by
 refine cF (fun r=>.sl (List.map csS r)) hF mix Tryz.func13 fun r hF=>?_
 unfold g2_Users at hF
 refine runX ?_
 refine rg ?_
 refine rg ?_
 refine g_buildM (M:=([(⟨#[]⟩:ByteArray),(⟨#[97,110,110]⟩:ByteArray),(⟨#[98,111,98]⟩:ByteArray),(⟨#[99,121]⟩:ByteArray)]:List ByteArray)) (f:=csS) rfl rfl rfl rfl (Nat.le_of_ble_eq_true rfl) rfl (runX ?_)
 cases hF
 exact rQ
def g2_Note (p0:SrcF):Option (ByteArray×SrcF):=
 (g2_Source_Next p0 3).bind fun r1=>
 (atI ([(⟨#[]⟩:ByteArray),(⟨#[110,111,116,101]⟩:ByteArray),(⟨#[97,95,98,32,126]⟩:ByteArray)]:List ByteArray) r1.1).bind fun c2=>
 (some (c2,r1.2):Option (ByteArray×SrcF))
theorem g2_Note_c (p0:SrcF) (r:ByteArray×SrcF) (hF:g2_Note p0=some r):Contract Tryz.prog 105 [.ptr 0 (0,0) 0] (some (0,p0.cs)) (.str r.1) (r.2).cs:=by
 refine contract_FO (R:=fun r=>.str r.1) (O:=fun r=>(r.2).cs) hF mix Tryz.func105 (by kernel_rfl) rfl (by kernel_rfl) fun r hF=>?_
 unfold g2_Note at hF
 refine runX ?_
 refine rg ?_
 refine rg ?_
 obtain ⟨r1,h1,hF⟩:=bnd hF
 refine g_call1 (g2_Source_Next_c _ _ _ h1) rfl rfl rfl rfl rfl (runX ?_)
 obtain ⟨c2,h2,hF⟩:=bnd hF
 refine g_ixI (p:=PV.str) rfl h2 rfl rfl rfl rfl rfl (runX ?_)
 cases hF
 exact ro_ret rfl rfl rfl rfl rfl
end Go.Proofs.YtphibahplgmgfaaGreatDoor
set_option linter.unusedVariables false
set_option maxHeartbeats 4000000
set_option maxRecDepth 100000
namespace Go.Proofs.YtphibahplgmgfaaGreatDoor
open VL
def g2_Policy (p0:SrcF):Option (ByteArray×SrcF):=
 (g2_Source_Next p0 8).bind fun r1=>
 (atI ([(⟨#[97,108,108,111,119,32,114,101,97,100,32,97,108,108,32,60,97,108,108,62,10,97,108,108,111,119,32,101,100,105,116,32,97,108,108,32,60,97,108,108,62,10,97,108,108,111,119,32,109,111,118,101,32,97,108,108,32,60,97,108,108,62,10,97,108,108,111,119,32,100,101,108,101,116,101,32,97,108,108,32,60,97,108,108,62,10,97,108,108,111,119,32,114,101,118,105,101,119,32,97,108,108,32,60,97,108,108,62,10]⟩:ByteArray),(⟨#[97,108,108,111,119,32,114,101,97,100,32,97,108,108,32,60,97,108,108,62,10,97,108,108,111,119,32,101,100,105,116,32,97,108,108,32,60,97,108,108,62,10,97,108,108,111,119,32,109,111,118,101,32,97,108,108,32,60,97,108,108,62,10,97,108,108,111,119,32,100,101,108,101,116,101,32,97,108,108,32,60,97,108,108,62,10,97,108,108,111,119,32,114,101,118,105,101,119,32,97,108,108,32,60,97,108,108,62,10,103,114,111,117,112,32,115,116,97,102,102,32,97,110,110,10,100,101,110,121,32,114,101,97,100,32,97,108,108,32,65,10,97,108,108,111,119,32,114,101,97,100,32,115,116,97,102,102,32,65,47,67,10]⟩:ByteArray),(⟨#[97,108,108,111,119,32,114,101,97,100,32,97,108,108,32,60,97,108,108,62,10,97,108,108,111,119,32,101,100,105,116,32,97,108,108,32,60,97,108,108,62,10,97,108,108,111,119,32,109,111,118,101,32,97,108,108,32,60,97,108,108,62,10,97,108,108,111,119,32,100,101,108,101,116,101,32,97,108,108,32,60,97,108,108,62,10,97,108,108,111,119,32,114,101,118,105,101,119,32,97,108,108,32,60,97,108,108,62,10,103,114,111,117,112,32,115,116,97,102,102,32,97,110,110,10,103,117,97,114,100,32,115,116,97,102,102,32,65,32,124,32,83,10,115,116,114,105,99,116,32,115,116,97,102,102,32,84,101,109,112,108,97,116,101,58,84,10,103,117,97,114,100,32,115,116,97,102,102,32,66,10]⟩:ByteArray),(⟨#[103,114,111,117,112,32,115,116,97,102,102,32,97,110,110,32,64,109,111,114,101,10,103,114,111,117,112,32,109,111,114,101,32,98,111,98,10,97,108,108,111,119,32,114,101,97,100,32,97,108,108,32,60,77,97,105,110,62,10,97,108,108,111,119,32,114,101,97,100,32,97,108,108,32,60,84,101,109,112,108,97,116,101,62,10,97,108,108,111,119,32,114,101,97,100,32,97,108,108,32,60,67,97,116,101,103,111,114,121,62,10,97,108,108,111,119,32,101,100,105,116,32,117,115,101,114,115,32,60,77,97,105,110,62,10,97,108,108,111,119,32,101,100,105,116,32,115,116,97,102,102,32,60,67,97,116,101,103,111,114,121,62,10,97,108,108,111,119,32,114,101,118,105,101,119,32,115,116,97,102,102,32,60,97,108,108,62,10,97,108,108,111,119,32,109,111,118,101,32,115,116,97,102,102,32,60,97,108,108,62,10,97,108,108,111,119,32,100,101,108,101,116,101,32,115,116,97,102,102,32,60,97,108,108,62,10,97,108,108,111,119,32,114,101,97,100,32,115,116,97,102,102,32,60,97,108,108,62,10,97,108,108,111,119,32,101,100,105,116,32,115,116,97,102,102,32,60,97,108,108,62,10]⟩:ByteArray),(⟨#[97,108,108,111,119,32,114,101,97,100,32,97,108,108,32,60,97,108,108,62,10,97,108,108,111,119,32,101,100,105,116,32,97,108,108,32,60,97,108,108,62,10,97,108,108,111,119,32,109,111,118,101,32,97,108,108,32,60,97,108,108,62,10,97,108,108,111,119,32,100,101,108,101,116,101,32,97,108,108,32,60,97,108,108,62,10,97,108,108,111,119,32,114,101,118,105,101,119,32,97,108,108,32,60,97,108,108,62,10,100,101,110,121,32,114,101,97,100,32,97,108,108,32,66,10,100,101,110,121,32,114,101,97,100,32,97,108,108,32,67,97,116,101,103,111,114,121,58,89,10]⟩:ByteArray),(⟨#[97,108,108,111,119,32,114,101,97,100,32,97,108,108,32,60,97,108,108,62,10,97,108,108,111,119,32,101,100,105,116,32,97,108,108,32,60,97,108,108,62,10,97,108,108,111,119,32,109,111,118,101,32,97,108,108,32,60,97,108,108,62,10,97,108,108,111,119,32,100,101,108,101,116,101,32,97,108,108,32,60,97,108,108,62,10,97,108,108,111,119,32,114,101,118,105,101,119,32,97,108,108,32,60,97,108,108,62,10,100,101,110,121,32,101,100,105,116,32,97,108,108,32,66,10,100,101,110,121,32,114,101,97,100,32,117,115,101,114,115,32,68,10]⟩:ByteArray),(⟨#[97,108,108,111,119,32,114,101,97,100,32,97,108,108,32,60,97,108,108,62,10,97,108,108,111,119,32,101,100,105,116,32,97,108,108,32,60,97,108,108,62,10,97,108,108,111,119,32,109,111,118,101,32,97,108,108,32,60,97,108,108,62,10,97,108,108,111,119,32,100,101,108,101,116,101,32,97,108,108,32,60,97,108,108,62,10,97,108,108,111,119,32,114,101,118,105,101,119,32,97,108,108,32,60,97,108,108,62,10]⟩:ByteArray),(⟨#[97,108,108,111,119,32,114,101,97,100,32,97,108,108,32,60,97,108,108,62,10,97,108,108,111,119,32,101,100,105,116,32,97,108,108,32,60,97,108,108,62,10,97,108,108,111,119,32,109,111,118,101,32,97,108,108,32,60,97,108,108,62,10,97,108,108,111,119,32,100,101,108,101,116,101,32,97,108,108,32,60,97,108,108,62,10,97,108,108,111,119,32,114,101,118,105,101,119,32,97,108,108,32,60,97,108,108,62,10,103,114,111,117,112,32,115,116,97,102,102,32,97,110,110,10,100,101,110,121,32,114,101,118,105,101,119,32,97,108,108,32,60,97,108,108,62,10,97,108,108,111,119,32,114,101,118,105,101,119,32,115,116,97,102,102,32,60,77,97,105,110,62,10,103,117,97,114,100,32,115,116,97,102,102,32,65,10,103,117,97,114,100,32,115,116,97,102,102,32,68,10]⟩:ByteArray)]:List ByteArray) r1.1).bind fun c2=>
 (some (c2,r1.2):Option (ByteArray×SrcF))
theorem g2_Policy_c (p0:SrcF) (r:ByteArray×SrcF) (hF:g2_Policy p0=some r):Contract Tryz.prog 39 [.ptr 0 (0,0) 0] (some (0,p0.cs)) (.str r.1) (r.2).cs:=by
 refine contract_FO (R:=fun r=>.str r.1) (O:=fun r=>(r.2).cs) hF mix Tryz.func39 (by kernel_rfl) rfl (by kernel_rfl) fun r hF=>?_
 unfold g2_Policy at hF
 refine runX ?_
 refine rg ?_
 refine rg ?_
 obtain ⟨r1,h1,hF⟩:=bnd hF
 refine g_call1 (g2_Source_Next_c _ _ _ h1) rfl rfl rfl rfl rfl (runX ?_)
 obtain ⟨c2,h2,hF⟩:=bnd hF
 refine g_ixI (p:=PV.str) rfl h2 rfl rfl rfl rfl rfl (runX ?_)
 cases hF
 exact ro_ret rfl rfl rfl rfl rfl
def g2_piece (p0:SrcF):Option (ByteArray×SrcF):=
 (g2_Source_Next p0 28).bind fun r1=>
 (atI ([(⟨#[112,108,97,105,110,32,119,111,114,100,115,32]⟩:ByteArray),(⟨#[91,91,65,93,93,32]⟩:ByteArray),(⟨#[91,91,66,124,98,101,101,93,93,32]⟩:ByteArray),(⟨#[91,91,67,97,116,101,103,111,114,121,58,88,93,93]⟩:ByteArray),(⟨#[91,91,67,97,116,101,103,111,114,121,58,88,124,107,93,93]⟩:ByteArray),(⟨#[91,91,67,97,116,101,103,111,114,121,58,89,93,93]⟩:ByteArray),(⟨#[123,123,116,124,49,125,125]⟩:ByteArray),(⟨#[123,123,58,66,125,125,32]⟩:ByteArray),(⟨#[123,123,58,65,47,67,125,125]⟩:ByteArray),(⟨#[123,123,35,105,102,101,120,105,115,116,58,66,124,121,101,115,124,110,111,125,125,32]⟩:ByteArray),(⟨#[123,123,35,105,102,101,120,105,115,116,58,68,124,121,101,115,124,110,111,125,125]⟩:ByteArray),(⟨#[123,123,35,109,101,109,98,101,114,115,58,88,125,125,32]⟩:ByteArray),(⟨#[123,123,35,100,97,116,101,58,89,45,109,45,100,125,125,32]⟩:ByteArray),(⟨#[123,123,35,100,97,116,101,58,72,58,105,125,125,32]⟩:ByteArray),(⟨#[123,123,35,114,105,103,104,116,58,101,100,105,116,124,65,124,101,124,110,125,125,32]⟩:ByteArray),(⟨#[123,123,35,114,101,118,105,115,105,111,110,58,65,125,125,32]⟩:ByteArray),(⟨#[10,61,61,32,83,32,61,61,10,98,111,100,121,10]⟩:ByteArray),(⟨#[10,61,61,32,82,32,61,61,10,114,101,115,116,10]⟩:ByteArray),(⟨#[60,110,111,105,110,99,108,117,100,101,62,123,123,116,125,125,60,47,110,111,105,110,99,108,117,100,101,62]⟩:ByteArray),(⟨#[60,105,110,99,108,117,100,101,111,110,108,121,62,91,91,68,93,93,60,47,105,110,99,108,117,100,101,111,110,108,121,62]⟩:ByteArray),(⟨#[123,123,123,49,124,100,125,125,125,32]⟩:ByteArray),(⟨#[10,42,32,105,116,101,109,10]⟩:ByteArray),(⟨#[115,101,99,114,101,116,32]⟩:ByteArray),(⟨#[91,91,84,101,109,112,108,97,116,101,58,84,93,93]⟩:ByteArray),(⟨#[123,123,58,67,97,116,101,103,111,114,121,58,89,125,125]⟩:ByteArray),(⟨#[119,111,114,100,115,32,91,91,68,93,93,32,119,111,114,100,115]⟩:ByteArray),(⟨#[39,39,120,39,39,32]⟩:ByteArray),(⟨#[123,123,35,109,101,109,98,101,114,115,58,89,125,125]⟩:ByteArray)]:List ByteArray) r1.1).bind fun c2=>
 (some (c2,r1.2):Option (ByteArray×SrcF))
theorem g2_piece_c (p0:SrcF) (r:ByteArray×SrcF) (hF:g2_piece p0=some r):Contract Tryz.prog 77 [.ptr 0 (0,0) 0] (some (0,p0.cs)) (.str r.1) (r.2).cs:=by
 refine contract_FO (R:=fun r=>.str r.1) (O:=fun r=>(r.2).cs) hF mix Tryz.func77 (by kernel_rfl) rfl (by kernel_rfl) fun r hF=>?_
 unfold g2_piece at hF
 refine runX ?_
 refine rg ?_
 refine rg ?_
 obtain ⟨r1,h1,hF⟩:=bnd hF
 refine g_call1 (g2_Source_Next_c _ _ _ h1) rfl rfl rfl rfl rfl (runX ?_)
 obtain ⟨c2,h2,hF⟩:=bnd hF
 refine g_ixI (p:=PV.str) rfl h2 rfl rfl rfl rfl rfl (runX ?_)
 cases hF
 exact ro_ret rfl rfl rfl rfl rfl
def g2_Text (p0:SrcF):Option (ByteArray×SrcF):=
 (g2_Source_Next p0 12).bind fun r1=>
 letk (fun (x6:ByteArray) (x7:List Int) (x8:Int) (x9:Int)=>
  (g2_Source_Next (⟨x7,x8,x9⟩:SrcF) 5).bind fun r10=>
  fixN bigN (fun f3 ((x32,x33,x34,x35,x36):ByteArray×Int×(List Int)×Int×Int)=>
   if (decide (0<x33)) then
    (g2_piece (⟨x34,x35,x36⟩:SrcF)).bind fun r43=>
    (catS x32 r43.1).bind fun s44=>
    f3 (s44,(w64 (x33 - 1)),r43.2.l,r43.2.pos,r43.2.seed)
   else
   (some (x32,(⟨x34,x35,x36⟩:SrcF)):Option (ByteArray×SrcF))) (x6,r10.1,r10.2.l,r10.2.pos,r10.2.seed)) fun k1=>
 if (decide (r1.1=0)) then
  (g2_Source_Next r1.2 3).bind fun r45=>
  (atI ([(⟨#[66]⟩:ByteArray),(⟨#[65]⟩:ByteArray),(⟨#[84,101,109,112,108,97,116,101,58,84]⟩:ByteArray)]:List ByteArray) r45.1).bind fun c46=>
  (catS (⟨#[35,82,69,68,73,82,69,67,84,32,91,91]⟩:ByteArray) c46).bind fun s47=>
  (catS s47 (⟨#[93,93,32]⟩:ByteArray)).bind fun s48=>
  k1 s48 r45.2.l r45.2.pos r45.2.seed
 else
 k1 (⟨#[]⟩:ByteArray) r1.2.l r1.2.pos r1.2.seed
theorem g2_Text_c (p0:SrcF) (r:ByteArray×SrcF) (hF:g2_Text p0=some r):Contract Tryz.prog 42 [.ptr 0 (0,0) 0] (some (0,p0.cs)) (.str r.1) (r.2).cs:=by
 refine contract_FO (R:=fun r=>.str r.1) (O:=fun r=>(r.2).cs) hF mix Tryz.func42 (by kernel_rfl) rfl (by kernel_rfl) fun r hF=>?_
 unfold g2_Text at hF
 refine runX ?_
 refine rg ?_
 refine rg ?_
 refine rg ?_
 obtain ⟨r1,h1,hF⟩:=bnd hF
 refine g_call1 (g2_Source_Next_c _ _ _ h1) rfl rfl rfl rfl rfl (runX ?_)
 refine letk_elim hF fun k1 hk1 hF=>?_
 refine pws_join (α:=ByteArray×(List Int)×Int×Int) (fun a _=>mkS [(0,.ptr 0 (0,0) 0),(3,.str a.1)] [(0,some ((0,0),.box [.sl (List.map csI a.2.1),.int .i64 a.2.2.1,.int .u64 a.2.2.2]))] 2) (fun a=>k1 a.1 a.2.1 a.2.2.1 a.2.2.2=some r) (runX ?_) (fun a _ hF=>?_)
 ·refine cS hF rfl (fun hF=>?_) fun hF=>?_
  ·refine rg ?_
   obtain ⟨r45,h31,hF⟩:=bnd hF
   refine g_call1 (g2_Source_Next_c _ _ _ h31) rfl rfl rfl rfl rfl (runX ?_)
   obtain ⟨c46,h32,hF⟩:=bnd hF
   refine g_ixI (p:=PV.str) rfl h32 rfl rfl rfl rfl rfl (runX ?_)
   obtain ⟨s47,h33,hF⟩:=bnd hF
   refine g_catI rfl h33 rfl rfl (runX ?_)
   obtain ⟨s48,h34,hF⟩:=bnd hF
   refine g_catI rfl h34 rfl rfl (runX ?_)
   exact jn (s48,r45.2.l,r45.2.pos,r45.2.seed) hF (sR [])
  exact jn ((⟨#[]⟩:ByteArray),r1.2.l,r1.2.pos,r1.2.seed) hF (sR [])
 obtain ⟨x6,x7,x8,x9⟩:=a
 subst hk1
 dsimp only at hF ⊢
 refine runX ?_
 refine rg ?_
 obtain ⟨r10,h6,hF⟩:=bnd hF
 refine g_call1 (g2_Source_Next_c _ _ _ h6) rfl rfl rfl rfl rfl (runX ?_)
 refine bl ?_
 refine fix_elim hF fun f3 mf3 hf3 hF=>?_
 refine pws_loop (α:=Nat×(ByteArray×Int×(List Int)×Int×Int)) (fun a _=>mkS [(0,.ptr 0 (0,0) 0),(3,.str a.2.1),(4,.int .i64 a.2.2.1)] [(0,some ((0,0),.box [.sl (List.map csI a.2.2.2.1),.int .i64 a.2.2.2.2.1,.int .u64 a.2.2.2.2.2]))] 2) (fun a=>fixN a.1 f3 a.2=some r) (fun a=>a.1) (mf3,x6,r10.1,r10.2.l,r10.2.pos,r10.2.seed) 2 hF (sR []) (fun a _ hF=>?_)
 obtain ⟨mf3,x32,x33,x34,x35,x36⟩:=a
 obtain ⟨mf3,rfl,hF⟩:=fix_step hf3 hF
 dsimp only at hF ⊢
 refine runX ?_
 refine rg ?_
 refine cS hF rfl (fun hF=>?_) fun hF=>?_
 ·refine bl ?_
  refine rg ?_
  obtain ⟨r43,h29,hF⟩:=bnd hF
  refine g_call1 (g2_piece_c _ _ h29) rfl rfl rfl rfl rfl (runX ?_)
  obtain ⟨s44,h30,hF⟩:=bnd hF
  refine g_catI rfl h30 rfl rfl (runX ?_)
  refine rg ?_
  exact rn (mf3,s44,(w64 (x33 - 1)),r43.2.l,r43.2.pos,r43.2.seed) hF (sR [])
 refine rg ?_
 cases hF
 exact ro_ret rfl rfl rfl rfl rfl
end Go.Proofs.YtphibahplgmgfaaGreatDoor
