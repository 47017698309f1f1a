/- Functions of the program as Lean functions. Written by fxgen.py. -/
import Derived.Test.YtphibahplgmgfaaGreatDoorPB03
import Derived.Test.YtphibahplgmgfaaGreatDoorPB08
set_option linter.unusedVariables false
set_option maxHeartbeats 4000000
set_option maxRecDepth 100000
namespace Go.Proofs.YtphibahplgmgfaaGreatDoor
open VL
def r27_policy:Option Title:=
 (some (⟨5,(⟨#[80,111,108,105,99,121]⟩:ByteArray)⟩:Title):Option Title)
theorem r27_policy_c  (r:Title) (hF:r27_policy=some r):Contract0 Tryz.prog 120 [] (r.pv):=by
 refine cF (fun r=>r.pv) hF mix Tryz.func120 fun r hF=>?_
 unfold r27_policy at hF
 refine runX ?_
 refine rg ?_
 refine rg ?_
 cases hF
 exact rQ
def r27_find (p0:List Stored) (p1:Title):Option Int:=
 fixN bigN (fun f2 (x10:Int)=>
  if (decide (x10<(p0.length:Int))) then
   (atI p0 x10).bind fun e14=>
   if (decide (e14.title=p1)) then
    (some x10:Option Int)
   else
   f2 (w64 (x10+1))
  else
  (some (-1):Option Int)) 0
theorem r27_find_c (p0:List Stored) (p1:Title) (r:Int) (hF:r27_find p0 p1=some r):Contract0 Tryz.prog 70 [.sl (List.map Stored.cs p0),p1.pv] (.int .i64 r):=by
 refine cF (fun r=>.int .i64 r) hF mix Tryz.func70 fun r hF=>?_
 unfold r27_find at hF
 refine runX ?_
 refine rg ?_
 refine rg ?_
 refine bl ?_
 refine fix_elim hF fun f2 mf2 hf2 hF=>?_
 refine pws_loop (α:=Nat×Int) (fun a _=>mkS [(0,.sl (List.map Stored.cs p0)),(3,.ptr 3 (1,3) 0),(5,.int .i64 a.2)] [(3,some ((1,3),.box [.int .i64 p1.space,.str p1.name]))] 2) (fun a=>fixN a.1 f2 a.2=some r) (fun a=>a.1) (mf2,0) 2 hF (sR [(3,1,0)]) (fun a _ hF=>?_)
 obtain ⟨mf2,x10⟩:=a
 obtain ⟨mf2,rfl,hF⟩:=fix_step hf2 hF
 dsimp only at hF ⊢
 refine runX ?_
 refine rg ?_
 refine g_lenM rfl (M:=p0) (f:=Stored.cs) rfl (runX ?_)
 refine cS hF rfl (fun hF=>?_) fun hF=>?_
 ·refine bl ?_
  refine rg ?_
  obtain ⟨e14,h12,hF⟩:=bnd hF
  refine g_indexI (f:=Stored.cs) rfl h12 rfl rfl rfl (runX ?_)
  refine g_eqT (.inl rfl) rfl rfl rfl rfl rfl (fun W=>titleEql e14.title p1 W) (runX ?_)
  refine cS hF rfl (fun hF=>?_) fun hF=>?_
  ·refine rg ?_
   cases hF
   exact rQ
  refine rg ?_
  exact rn (mf2,(w64 (x10+1))) hF (sR [(3,1,3)])
 refine rg ?_
 cases hF
 exact rQ
def r27_Page (p0:State) (p1:Title):Option (Stored×Bool):=
 (r27_find p0.pages p1).bind fun r1=>
 if (decide (r1<0)) then
  (some ((⟨(⟨0,(⟨#[]⟩:ByteArray)⟩:Title),[]⟩:Stored),false):Option (Stored×Bool))
 else
 (atI p0.pages r1).bind fun e2=>
 (some (e2,true):Option (Stored×Bool))
theorem r27_Page_c (p0:State) (p1:Title) (r:Stored×Bool) (hF:r27_Page p0 p1=some r):Contract0 Tryz.prog 29 [p0.pv,p1.pv] (.tup [r.1.pv,.bool r.2]):=by
 refine cF (fun r=>.tup [r.1.pv,.bool r.2]) hF mix Tryz.func29 fun r hF=>?_
 unfold r27_Page at hF
 refine runX ?_
 refine rg ?_
 refine rg ?_
 obtain ⟨r1,h1,hF⟩:=bnd hF
 refine g_call (r27_find_c _ _ _ h1) rfl rfl (runX ?_)
 refine rg ?_
 refine cS hF rfl (fun hF=>?_) fun hF=>?_
 ·refine rg ?_
  cases hF
  exact rQ
 refine rg ?_
 obtain ⟨e2,h2,hF⟩:=bnd hF
 refine g_indexI (f:=Stored.cs) rfl h2 rfl rfl rfl (runX ?_)
 cases hF
 exact rQ
def r27_Current (p0:Stored):Option Revision:=
 if (decide ((p0.history.length:Int)=0)) then
  (some (⟨0,(⟨#[]⟩:ByteArray),(⟨#[]⟩:ByteArray),(⟨#[]⟩:ByteArray),0,0⟩:Revision):Option Revision)
 else
 (atI p0.history (w64 ((p0.history.length:Int) - 1))).bind fun e1=>
 (some e1:Option Revision)
theorem r27_Current_c (p0:Stored) (r:Revision) (hF:r27_Current p0=some r):Contract0 Tryz.prog 31 [p0.pv] (r.pv):=by
 refine cF (fun r=>r.pv) hF mix Tryz.func31 fun r hF=>?_
 unfold r27_Current at hF
 refine runX ?_
 refine rg ?_
 refine rg ?_
 refine g_lenM rfl (M:=p0.history) (f:=Revision.cs) rfl (runX ?_)
 refine cS hF rfl (fun hF=>?_) fun hF=>?_
 ·refine rg ?_
  cases hF
  exact rQ
 refine rg ?_
 refine g_lenM rfl (M:=p0.history) (f:=Revision.cs) rfl (runX ?_)
 obtain ⟨e1,h1,hF⟩:=bnd hF
 refine g_indexI (f:=Revision.cs) rfl h1 rfl rfl rfl (runX ?_)
 cases hF
 exact rQ
def r27_without (p0:List Stored) (p1:Int):Option (List Stored):=
 (subL p0 0 p1).bind fun l1=>
 (appL 48 [] l1).bind fun l2=>
 (subL p0 (w64 (p1+1)) (p0.length:Int)).bind fun l3=>
 (appL 48 l2 l3).bind fun l4=>
 (some l4:Option (List Stored))
theorem r27_without_c (p0:List Stored) (p1:Int) (r:List Stored) (hF:r27_without p0 p1=some r):Contract0 Tryz.prog 148 [.sl (List.map Stored.cs p0),.int .i64 p1] (.sl (List.map Stored.cs r)):=by
 refine cF (fun r=>.sl (List.map Stored.cs r)) hF mix Tryz.func148 fun r hF=>?_
 unfold r27_without at hF
 refine runX ?_
 refine rg ?_
 refine rg ?_
 obtain ⟨l1,h1,hF⟩:=bnd hF
 refine g_sliceM (f:=Stored.cs) rfl h1 (fun _=>rfl) rfl rfl rfl rfl (runX ?_)
 obtain ⟨l2,h2,hF⟩:=bnd hF
 refine g_appN (f:=Stored.cs) rfl h2 (fun _=>rfl) rfl rfl rfl (runX ?_)
 obtain ⟨l3,h3,hF⟩:=bnd hF
 refine g_sliceM (f:=Stored.cs) rfl h3 (fun _=>rfl) rfl rfl rfl rfl (runX ?_)
 obtain ⟨l4,h4,hF⟩:=bnd hF
 refine g_appR (f:=Stored.cs) rfl h4 (fun _=>rfl) rfl rfl rfl rfl (runX ?_)
 cases hF
 exact rQ
def r27_drop (p0:List Proposal) (p1:Title):Option (List Proposal):=
 fixN bigN (fun f7 ((x31,x32):Int×(List Proposal))=>
  if (decide (x31<(p0.length:Int))) then
   letk (fun (x43:List Proposal)=>
    f7 ((w64 (x31+1)),x43)) fun k8=>
   (atI p0 x31).bind fun e44=>
   if (!decide (e44.title=p1)) then
    (atI p0 x31).bind fun e45=>
    (appL 96 x32 [e45]).bind fun l46=>
    k8 l46
   else
   k8 x32
  else
  (some x32:Option (List Proposal))) (0,([]:List Proposal))
theorem r27_drop_c (p0:List Proposal) (p1:Title) (r:List Proposal) (hF:r27_drop p0 p1=some r):Contract0 Tryz.prog 149 [.sl (List.map Proposal.cs p0),p1.pv] (.sl (List.map Proposal.cs r)):=by
 refine cF (fun r=>.sl (List.map Proposal.cs r)) hF mix Tryz.func149 fun r hF=>?_
 unfold r27_drop at hF
 refine runX ?_
 refine rg ?_
 refine rg ?_
 refine rg ?_
 refine bl ?_
 refine fix_elim hF fun f7 mf7 hf7 hF=>?_
 refine pws_loop (α:=Nat×(Int×(List Proposal))) (fun a _=>mkS [(0,.sl (List.map Proposal.cs p0)),(3,.ptr 3 (1,3) 0),(5,.row 5 (1,5)),(6,.int .i64 a.2.1)] [(3,some ((1,3),.box [.int .i64 p1.space,.str p1.name])),(5,some ((1,5),.row 184 8 false (List.map Proposal.cs a.2.2)))] 2) (fun a=>fixN a.1 f7 a.2=some r) (fun a=>a.1) (mf7,0,([]:List Proposal)) 2 hF (shift_nilR [((1,3),(1,0))] 5 184 8 rfl ⟨rfl,rfl,rfl,rfl,trivial⟩ ⟨⟨rfl,rfl⟩,⟨rfl,rfl⟩,trivial⟩ rfl) (fun a _ hF=>?_)
 obtain ⟨mf7,x31,x32⟩:=a
 obtain ⟨mf7,rfl,hF⟩:=fix_step hf7 hF
 dsimp only at hF ⊢
 refine runX ?_
 refine rg ?_
 refine g_lenM rfl (M:=p0) (f:=Proposal.cs) rfl (runX ?_)
 refine cS hF rfl (fun hF=>?_) fun hF=>?_
 ·refine jL hF (fun x43=>mkS [(0,.sl (List.map Proposal.cs p0)),(3,.ptr 3 (1,3) 0),(5,.row 5 (1,5)),(6,.int .i64 x31)] [(3,some ((1,3),.box [.int .i64 p1.space,.str p1.name])),(5,some ((1,5),.row 184 8 false (List.map Proposal.cs x43)))] 2) (fun k8 hF=>?_) fun x43 hF=>?_
  ·refine bl ?_
   refine rg ?_
   obtain ⟨e44,h34,hF⟩:=bnd hF
   refine g_indexI (f:=Proposal.cs) rfl h34 rfl rfl rfl (runX ?_)
   refine g_eqT (.inr rfl) rfl rfl rfl rfl rfl (fun W=>titleNeq e44.title p1 W) (runX ?_)
   refine cS hF rfl (fun hF=>?_) fun hF=>?_
   ·refine rg ?_
    obtain ⟨e45,h35,hF⟩:=bnd hF
    refine g_indexI (f:=Proposal.cs) rfl h35 rfl rfl rfl (runX ?_)
    refine g_buildM (M:=([e45]:List Proposal)) (f:=Proposal.cs) rfl rfl rfl rfl (Nat.le_of_ble_eq_true rfl) rfl (runX ?_)
    obtain ⟨l46,h36,hF⟩:=bnd hF
    refine g_appR (f:=Proposal.cs) rfl h36 (fun _=>rfl) rfl rfl rfl rfl (runX ?_)
    exact jn l46 hF (sR [(3,1,3),(5,4,6)])
   exact jn x32 hF (sR [(3,1,3),(5,1,5)])
  refine rg ?_
  exact rn (mf7,(w64 (x31+1)),x43) hF (sR [(3,1,3),(5,1,5)])
 refine rg ?_
 cases hF
 exact rQ
def r27_LastGone (p0:State) (p1:Title):Option Int:=
 fixN bigN (fun f2 (x10:Int)=>
  if (decide (0≤x10)) then
   (atI p0.gone x10).bind fun e14=>
   if (decide (e14.title=p1)) then
    (some x10:Option Int)
   else
   f2 (w64 (x10 - 1))
  else
  (some (-1):Option Int)) (w64 ((p0.gone.length:Int) - 1))
theorem r27_LastGone_c (p0:State) (p1:Title) (r:Int) (hF:r27_LastGone p0 p1=some r):Contract0 Tryz.prog 150 [p0.pv,p1.pv] (.int .i64 r):=by
 refine cF (fun r=>.int .i64 r) hF mix Tryz.func150 fun r hF=>?_
 unfold r27_LastGone at hF
 refine runX ?_
 refine rg ?_
 refine rg ?_
 refine g_lenM rfl (M:=p0.gone) (f:=Stored.cs) rfl (runX ?_)
 refine bl ?_
 refine fix_elim hF fun f2 mf2 hf2 hF=>?_
 refine pws_loop (α:=Nat×Int) (fun a _=>mkS [(2,.ptr 2 (1,2) 0),(3,.ptr 3 (1,3) 0),(5,.int .i64 a.2)] [(2,some ((1,2),.box [.int .i64 p0.seq,.int .i64 p0.clock,.sl (List.map Stored.cs p0.pages),.sl (List.map Stored.cs p0.gone),.sl (List.map Proposal.cs p0.proposals),.int .i64 p0.proposed,.sl (List.map Watch.cs p0.watches),.sl (List.map Last.cs p0.lasts)])),(3,some ((1,3),.box [.int .i64 p1.space,.str p1.name]))] 2) (fun a=>fixN a.1 f2 a.2=some r) (fun a=>a.1) (mf2,(w64 ((p0.gone.length:Int) - 1))) 2 hF (sR [(2,1,0),(3,1,1)]) (fun a _ hF=>?_)
 obtain ⟨mf2,x10⟩:=a
 obtain ⟨mf2,rfl,hF⟩:=fix_step hf2 hF
 dsimp only at hF ⊢
 refine runX ?_
 refine rg ?_
 refine cS hF rfl (fun hF=>?_) fun hF=>?_
 ·refine bl ?_
  refine rg ?_
  obtain ⟨e14,h12,hF⟩:=bnd hF
  refine g_indexI (f:=Stored.cs) rfl h12 rfl rfl rfl (runX ?_)
  refine g_eqT (.inl rfl) rfl rfl rfl rfl rfl (fun W=>titleEql e14.title p1 W) (runX ?_)
  refine cS hF rfl (fun hF=>?_) fun hF=>?_
  ·refine rg ?_
   cases hF
   exact rQ
  refine rg ?_
  exact rn (mf2,(w64 (x10 - 1))) hF (sR [(2,1,2),(3,1,3)])
 refine rg ?_
 cases hF
 exact rQ
def r27_propose (p0:State) (p1:Change):Option (State×Int):=
 letk (fun (x1:Bool)=>
  if x1 then
   (some (p0,8):Option (State×Int))
  else
  (appL 96 [] p0.proposals).bind fun l2=>
  (appL 96 l2 [(⟨(w64 (p0.proposed+1)),p1.user,p1.note,p1.title,p1.n,p1.text,p0.clock⟩:Proposal)]).bind fun l3=>
  (some ((⟨p0.seq,p0.clock,p0.pages,p0.gone,l3,(w64 (p0.proposed+1)),p0.watches,p0.lasts⟩:State),0):Option (State×Int))) fun k1=>
 if (decide (40≤(p0.proposals.length:Int))) then
  k1 true
 else
 k1 (decide (1073741824≤p0.proposed))
theorem r27_propose_c (p0:State) (p1:Change) (r:State×Int) (hF:r27_propose p0 p1=some r):Contract0 Tryz.prog 118 [p0.pv,p1.pv] (.tup [r.1.pv,.int .i64 r.2]):=by
 refine cF (fun r=>.tup [r.1.pv,.int .i64 r.2]) hF mix Tryz.func118 fun r hF=>?_
 unfold r27_propose at hF
 refine runX ?_
 refine rg ?_
 refine jL hF (fun x1=>mkS [(2,.ptr 2 (1,2) 0),(3,.ptr 3 (1,3) 0),(4,.ptr 4 (1,4) 0),(15,.bool x1)] [(2,some ((1,2),.box [.int .i64 p0.seq,.int .i64 p0.clock,.sl (List.map Stored.cs p0.pages),.sl (List.map Stored.cs p0.gone),.sl (List.map Proposal.cs p0.proposals),.int .i64 p0.proposed,.sl (List.map Watch.cs p0.watches),.sl (List.map Last.cs p0.lasts)])),(3,some ((1,3),.box [.int .i64 p1.kind,.str p1.user,.str p1.note,.int .i64 p1.title.space,.str p1.title.name,.int .i64 p1.to.space,.str p1.to.name,.str p1.text,.int .i64 p1.n,.sl (List.map Revision.cs p1.history)])),(4,some ((1,4),.box [.int .i64 0,.int .i64 0,.nil,.nil,.nil,.int .i64 0,.nil,.nil]))] 2) (fun k1 hF=>?_) fun x1 hF=>?_
 ·refine rg ?_
  refine g_lenM rfl (M:=p0.proposals) (f:=Proposal.cs) rfl (runX ?_)
  refine kS 11 hF rfl (fun hF=>?_) fun hF=>?_
  ·iterate 3 refine g_skip rfl (runX ?_)
   exact jn true hF (sR [(2,1,0),(3,1,1),(4,1,2)])
  exact jn (decide (1073741824≤p0.proposed)) hF (sR [(2,1,0),(3,1,1),(4,1,2)])
 refine cS hF rfl (fun hF=>?_) fun hF=>?_
 ·refine rg ?_
  cases hF
  exact rQ
 refine rg ?_
 refine rg ?_
 refine rg ?_
 obtain ⟨l2,h1,hF⟩:=bnd hF
 refine g_appN (f:=Proposal.cs) rfl h1 (fun _=>rfl) rfl rfl rfl (runX ?_)
 refine g_buildM (M:=([(⟨(w64 (p0.proposed+1)),p1.user,p1.note,p1.title,p1.n,p1.text,p0.clock⟩:Proposal)]:List Proposal)) (f:=Proposal.cs) rfl rfl rfl rfl (Nat.le_of_ble_eq_true rfl) rfl (runX ?_)
 obtain ⟨l3,h2,hF⟩:=bnd hF
 refine g_appR (f:=Proposal.cs) rfl h2 (fun _=>rfl) rfl rfl rfl rfl (runX ?_)
 refine rg ?_
 cases hF
 exact rQ
def r29_Policy:Option Title:=
 (some (⟨5,(⟨#[80,111,108,105,99,121]⟩:ByteArray)⟩:Title):Option Title)
theorem r29_Policy_c  (r:Title) (hF:r29_Policy=some r):Contract0 Tryz.prog 68 [] (r.pv):=by
 refine cF (fun r=>r.pv) hF mix Tryz.func68 fun r hF=>?_
 unfold r29_Policy at hF
 refine runX ?_
 refine rg ?_
 refine rg ?_
 cases hF
 exact rQ
def r27_Text (p0:State) (p1:Title):Option (ByteArray×Bool):=
 (r27_Page p0 p1).bind fun r1=>
 (r27_Current r1.1).bind fun r2=>
 (some (r2.text,r1.2):Option (ByteArray×Bool))
theorem r27_Text_c (p0:State) (p1:Title) (r:ByteArray×Bool) (hF:r27_Text p0 p1=some r):Contract0 Tryz.prog 67 [p0.pv,p1.pv] (.tup [.str r.1,.bool r.2]):=by
 refine cF (fun r=>.tup [.str r.1,.bool r.2]) hF mix Tryz.func67 fun r hF=>?_
 unfold r27_Text at hF
 refine runX ?_
 refine rg ?_
 refine rg ?_
 obtain ⟨r1,h1,hF⟩:=bnd hF
 refine g_call (r27_Page_c _ _ _ h1) rfl rfl (runX ?_)
 refine rg ?_
 obtain ⟨r2,h2,hF⟩:=bnd hF
 refine g_call (r27_Current_c _ _ h2) rfl rfl (runX ?_)
 cases hF
 exact rQ
def r27_shut (p0:State) (p1:Change):Option (State×Int):=
 fixN bigN (fun f7 ((x31,x32):Int×(List Proposal))=>
  if (decide (x31<(p0.proposals.length:Int))) then
   letk (fun (x43:List Proposal)=>
    f7 ((w64 (x31+1)),x43)) fun k8=>
   (atI p0.proposals x31).bind fun e44=>
   if (!decide (e44.id=p1.n)) then
    (atI p0.proposals x31).bind fun e45=>
    (appL 96 x32 [e45]).bind fun l46=>
    k8 l46
   else
   k8 x32
  else
  if (decide ((x32.length:Int)=(p0.proposals.length:Int))) then
   (some (p0,4):Option (State×Int))
  else
  (some ((⟨p0.seq,p0.clock,p0.pages,p0.gone,x32,p0.proposed,p0.watches,p0.lasts⟩:State),0):Option (State×Int))) (0,([]:List Proposal))
theorem r27_shut_c (p0:State) (p1:Change) (r:State×Int) (hF:r27_shut p0 p1=some r):Contract0 Tryz.prog 119 [p0.pv,p1.pv] (.tup [r.1.pv,.int .i64 r.2]):=by
 refine cF (fun r=>.tup [r.1.pv,.int .i64 r.2]) hF mix Tryz.func119 fun r hF=>?_
 unfold r27_shut at hF
 refine runX ?_
 refine rg ?_
 refine rg ?_
 refine rg ?_
 refine bl ?_
 refine fix_elim hF fun f7 mf7 hf7 hF=>?_
 refine pws_loop (α:=Nat×(Int×(List Proposal))) (fun a _=>mkS [(2,.ptr 2 (1,2) 0),(3,.ptr 3 (1,3) 0),(4,.ptr 4 (1,4) 0),(6,.row 6 (1,6)),(7,.int .i64 a.2.1)] [(2,some ((1,2),.box [.int .i64 p0.seq,.int .i64 p0.clock,.sl (List.map Stored.cs p0.pages),.sl (List.map Stored.cs p0.gone),.sl (List.map Proposal.cs p0.proposals),.int .i64 p0.proposed,.sl (List.map Watch.cs p0.watches),.sl (List.map Last.cs p0.lasts)])),(3,some ((1,3),.box [.int .i64 p1.kind,.str p1.user,.str p1.note,.int .i64 p1.title.space,.str p1.title.name,.int .i64 p1.to.space,.str p1.to.name,.str p1.text,.int .i64 p1.n,.sl (List.map Revision.cs p1.history)])),(4,some ((1,4),.box [.int .i64 0,.int .i64 0,.nil,.nil,.nil,.int .i64 0,.nil,.nil])),(6,some ((1,6),.row 184 8 false (List.map Proposal.cs a.2.2)))] 2) (fun a=>fixN a.1 f7 a.2=some r) (fun a=>a.1) (mf7,0,([]:List Proposal)) 2 hF (shift_nilR [((1,2),(1,0)),((1,3),(1,1)),((1,4),(1,2))] 6 184 8 rfl ⟨rfl,rfl,rfl,rfl,rfl,trivial⟩ ⟨⟨rfl,rfl⟩,⟨rfl,rfl⟩,⟨rfl,rfl⟩,⟨rfl,rfl⟩,trivial⟩ rfl) (fun a _ hF=>?_)
 obtain ⟨mf7,x31,x32⟩:=a
 obtain ⟨mf7,rfl,hF⟩:=fix_step hf7 hF
 dsimp only at hF ⊢
 refine runX ?_
 refine rg ?_
 refine g_lenM rfl (M:=p0.proposals) (f:=Proposal.cs) rfl (runX ?_)
 refine cS hF rfl (fun hF=>?_) fun hF=>?_
 ·refine jL hF (fun x43=>mkS [(2,.ptr 2 (1,2) 0),(3,.ptr 3 (1,3) 0),(4,.ptr 4 (1,4) 0),(6,.row 6 (1,6)),(7,.int .i64 x31)] [(2,some ((1,2),.box [.int .i64 p0.seq,.int .i64 p0.clock,.sl (List.map Stored.cs p0.pages),.sl (List.map Stored.cs p0.gone),.sl (List.map Proposal.cs p0.proposals),.int .i64 p0.proposed,.sl (List.map Watch.cs p0.watches),.sl (List.map Last.cs p0.lasts)])),(3,some ((1,3),.box [.int .i64 p1.kind,.str p1.user,.str p1.note,.int .i64 p1.title.space,.str p1.title.name,.int .i64 p1.to.space,.str p1.to.name,.str p1.text,.int .i64 p1.n,.sl (List.map Revision.cs p1.history)])),(4,some ((1,4),.box [.int .i64 0,.int .i64 0,.nil,.nil,.nil,.int .i64 0,.nil,.nil])),(6,some ((1,6),.row 184 8 false (List.map Proposal.cs x43)))] 2) (fun k8 hF=>?_) fun x43 hF=>?_
  ·refine bl ?_
   refine rg ?_
   obtain ⟨e44,h34,hF⟩:=bnd hF
   refine g_indexI (f:=Proposal.cs) rfl h34 rfl rfl rfl (runX ?_)
   refine cS hF rfl (fun hF=>?_) fun hF=>?_
   ·refine rg ?_
    obtain ⟨e45,h35,hF⟩:=bnd hF
    refine g_indexI (f:=Proposal.cs) rfl h35 rfl rfl rfl (runX ?_)
    refine g_buildM (M:=([e45]:List Proposal)) (f:=Proposal.cs) rfl rfl rfl rfl (Nat.le_of_ble_eq_true rfl) rfl (runX ?_)
    obtain ⟨l46,h36,hF⟩:=bnd hF
    refine g_appR (f:=Proposal.cs) rfl h36 (fun _=>rfl) rfl rfl rfl rfl (runX ?_)
    exact jn l46 hF (sR [(2,1,2),(3,1,3),(4,1,4),(6,4,7)])
   exact jn x32 hF (sR [(2,1,2),(3,1,3),(4,1,4),(6,1,6)])
  refine rg ?_
  exact rn (mf7,(w64 (x31+1)),x43) hF (sR [(2,1,2),(3,1,3),(4,1,4),(6,1,6)])
 refine rg ?_
 refine g_lenM rfl (M:=x32) (f:=Proposal.cs) rfl (runX ?_)
 refine g_lenM rfl (M:=p0.proposals) (f:=Proposal.cs) rfl (runX ?_)
 refine cS hF rfl (fun hF=>?_) fun hF=>?_
 ·refine rg ?_
  cases hF
  exact rQ
 refine rg ?_
 refine rg ?_
 cases hF
 exact rQ
end Go.Proofs.YtphibahplgmgfaaGreatDoor
