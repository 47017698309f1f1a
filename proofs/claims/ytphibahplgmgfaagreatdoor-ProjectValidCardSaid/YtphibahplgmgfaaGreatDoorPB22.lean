/- Functions of the program as Lean functions. Written by fxgen.py. | Functions of the program as Lean functions. Written by fxgen.py. -/
import Derived.Test.YtphibahplgmgfaaGreatDoorPB06
import Derived.Test.YtphibahplgmgfaaGreatDoorPB21
import Derived.Test.YtphibahplgmgfaaGreatDoorPB08
import Derived.Test.YtphibahplgmgfaaGreatDoorPB12
set_option linter.unusedVariables false
set_option maxHeartbeats 4000000
set_option maxRecDepth 100000
namespace Go.Proofs.YtphibahplgmgfaaGreatDoor
open VL
def r26_isUser (p0:ByteArray):Option Bool:=
 letk (fun (x2:Bool)=>
  (some x2:Option Bool)) fun k1=>
 if (decide (p0=(⟨#[]⟩:ByteArray))) then
  k1 true
 else
 (r12_IsName p0).bind fun r3=>
 k1 r3
theorem r26_isUser_c (p0:ByteArray) (r:Bool) (hF:r26_isUser p0=some r):Contract0 Tryz.prog 145 [.str p0] (.bool r):=by
 refine cF (fun r=>.bool r) hF mix Tryz.func145 fun r hF=>?_
 unfold r26_isUser at hF
 refine runX ?_
 refine rg ?_
 refine jL hF (fun x2=>mkS [(2,.bool x2)] [] 2) (fun k1 hF=>?_) fun x2 hF=>?_
 ·refine rg ?_
  refine kS 5 hF rfl (fun hF=>?_) fun hF=>?_
  ·iterate 2 refine g_skip rfl (runX ?_)
   exact jn true hF (sR [])
  obtain ⟨r3,h2,hF⟩:=bnd hF
  refine g_call (r12_IsName_c _ _ h2) rfl rfl (runX ?_)
  exact jn r3 hF (sR [])
 cases hF
 exact rQ
def r26_history (p0:List Revision):Option Bool:=
 letk (fun (x1:Bool)=>
  if x1 then
   (some false:Option Bool)
  else
  fixN bigN (fun f13 (x43:Int)=>
   if (decide (x43<(p0.length:Int))) then
    (atI p0 x43).bind fun e62=>
    letk (fun (x65:Bool)=>
     if x65 then
      (some false:Option Bool)
     else
     f13 (w64 (x43+1))) fun k15=>
    if (!decide (e62.number=(w64 (x43+1)))) then
     k15 true
    else
    if (!decide (e62.seq=0)) then
     k15 true
    else
    (r26_isUser e62.user).bind fun r66=>
    if (!r66) then
     k15 true
    else
    if (decide (e62.minute<0)) then
     k15 true
    else
    if (decide (52595999<e62.minute)) then
     k15 true
    else
    if (decide (0<x43)) then
     (atI p0 (w64 (x43 - 1))).bind fun e67=>
     k15 (decide (e62.minute<e67.minute))
    else
    k15 false
   else
   (some true:Option Bool)) 0) fun k1=>
 if (decide ((p0.length:Int)<1)) then
  k1 true
 else
 k1 (decide (40<(p0.length:Int)))
theorem r26_history_c (p0:List Revision) (r:Bool) (hF:r26_history p0=some r):Contract0 Tryz.prog 146 [.sl (List.map Revision.cs p0)] (.bool r):=by
 refine cF (fun r=>.bool r) hF mix Tryz.func146 fun r hF=>?_
 unfold r26_history at hF
 refine runX ?_
 refine rg ?_
 refine jL hF (fun x1=>mkS [(0,.sl (List.map Revision.cs p0)),(12,.bool x1)] [] 2) (fun k1 hF=>?_) fun x1 hF=>?_
 ·refine rg ?_
  refine g_lenM rfl (M:=p0) (f:=Revision.cs) rfl (runX ?_)
  refine kS 8 hF rfl (fun hF=>?_) fun hF=>?_
  ·iterate 3 refine g_skip rfl (runX ?_)
   exact jn true hF (sR [])
  refine g_lenM rfl (M:=p0) (f:=Revision.cs) rfl (runX ?_)
  exact jn (decide (40<(p0.length:Int))) hF (sR [])
 refine cS hF rfl (fun hF=>?_) fun hF=>?_
 ·refine rg ?_
  cases hF
  exact rQ
 refine rg ?_
 refine bl ?_
 refine fix_elim hF fun f13 mf13 hf13 hF=>?_
 refine pws_loop (α:=Nat×Int) (fun a _=>mkS [(0,.sl (List.map Revision.cs p0)),(3,.int .i64 a.2)] [] 2) (fun a=>fixN a.1 f13 a.2=some r) (fun a=>a.1) (mf13,0) 2 hF (sR []) (fun a _ hF=>?_)
 obtain ⟨mf13,x43⟩:=a
 obtain ⟨mf13,rfl,hF⟩:=fix_step hf13 hF
 dsimp only at hF ⊢
 refine runX ?_
 refine rg ?_
 refine g_lenM rfl (M:=p0) (f:=Revision.cs) rfl (runX ?_)
 refine cS hF rfl (fun hF=>?_) fun hF=>?_
 ·refine bl ?_
  refine rg ?_
  obtain ⟨e62,h48,hF⟩:=bnd hF
  refine g_indexI (f:=Revision.cs) rfl h48 rfl rfl rfl (runX ?_)
  refine jL hF (fun x65=>mkS [(0,.sl (List.map Revision.cs p0)),(3,.int .i64 x43),(63,.bool x65)] [] 2) (fun k15 hF=>?_) fun x65 hF=>?_
  ·refine rg ?_
   refine kS 28 hF rfl (fun hF=>?_) fun hF=>?_
   ·iterate 26 refine g_skip rfl (runX ?_)
    exact jn true hF (sR [])
   refine kS 33 hF rfl (fun hF=>?_) fun hF=>?_
   ·iterate 23 refine g_skip rfl (runX ?_)
    exact jn true hF (sR [])
   obtain ⟨r66,h51,hF⟩:=bnd hF
   refine g_call (r26_isUser_c _ _ h51) rfl rfl (runX ?_)
   refine kS 39 hF rfl (fun hF=>?_) fun hF=>?_
   ·iterate 19 refine g_skip rfl (runX ?_)
    exact jn true hF (sR [])
   refine kS 44 hF rfl (fun hF=>?_) fun hF=>?_
   ·iterate 16 refine g_skip rfl (runX ?_)
    exact jn true hF (sR [])
   refine kS 49 hF rfl (fun hF=>?_) fun hF=>?_
   ·iterate 13 refine g_skip rfl (runX ?_)
    exact jn true hF (sR [])
   refine kS 52 hF rfl (fun hF=>?_) fun hF=>?_
   ·obtain ⟨e67,h52,hF⟩:=bnd hF
    refine g_indexI (f:=Revision.cs) rfl h52 rfl rfl rfl (runX ?_)
    exact jn (decide (e62.minute<e67.minute)) hF (sR [])
   iterate 9 refine g_skip rfl (runX ?_)
   exact jn false hF (sR [])
  refine cS hF rfl (fun hF=>?_) fun hF=>?_
  ·refine rg ?_
   cases hF
   exact rQ
  refine rg ?_
  exact rn (mf13,(w64 (x43+1))) hF (sR [])
 refine rg ?_
 cases hF
 exact rQ
def r26_within (p0:Change):Option Bool:=
 letk (fun (x5:Bool)=>
  if x5 then
   (some false:Option Bool)
  else
  letk (fun (x14:Bool)=>
   if x14 then
    (some (!decide (p0.user=(⟨#[]⟩:ByteArray))):Option Bool)
   else
   if (decide (p0.kind=4)) then
    letk (fun (x16:Bool)=>
     (some x16:Option Bool)) fun k8=>
    (r1_Valid p0.to).bind fun r17=>
    if r17 then
     if (decide (p0.n=0)) then
      k8 true
     else
     k8 (decide (p0.n=1))
    else
    k8 false
   else
   if (decide (p0.kind=6)) then
    letk (fun (x18:Bool)=>
     (some x18:Option Bool)) fun k9=>
    if (decide (1≤p0.n)) then
     k9 (decide (p0.n≤52596000))
    else
    k9 false
   else
   if (decide (p0.kind=9)) then
    letk (fun (x19:Bool)=>
     (some x19:Option Bool)) fun k10=>
    if (decide (0≤p0.n)) then
     k10 (decide (p0.n≤40))
    else
    k10 false
   else
   if (decide (p0.kind=10)) then
    letk (fun (x20:Bool)=>
     (some x20:Option Bool)) fun k11=>
    if (decide (1≤p0.n)) then
     k11 (decide (p0.n≤1073741824))
    else
    k11 false
   else
   if (decide (p0.kind=5)) then
    (r26_history p0.history).bind fun r21=>
    (some r21:Option Bool)
   else
   (some true:Option Bool)) fun k7=>
  if (decide (p0.kind=7)) then
   k7 (decide (p0.kind=7))
  else
  k7 (decide (p0.kind=8))) fun k1=>
 if (!decide (p0.kind=6)) then
  if (!decide (p0.kind=10)) then
   (r1_Valid p0.title).bind fun r22=>
   if (!r22) then
    k1 true
   else
   (r26_isUser p0.user).bind fun r23=>
   k1 (!r23)
  else
  (r26_isUser p0.user).bind fun r24=>
  k1 (!r24)
 else
 (r26_isUser p0.user).bind fun r25=>
 k1 (!r25)
theorem r26_within_c (p0:Change) (r:Bool) (hF:r26_within p0=some r):Contract0 Tryz.prog 111 [p0.pv] (.bool r):=by
 refine cF (fun r=>.bool r) hF mix Tryz.func111 fun r hF=>?_
 unfold r26_within at hF
 refine runX ?_
 refine rg ?_
 refine jL hF (fun x5=>mkS [(1,.ptr 1 (1,1) 0),(22,.bool x5)] [(1,some ((1,1),.box [.int .i64 p0.kind,.str p0.user,.str p0.note,.int .i64 p0.title.space,.str p0.title.name,.int .i64 p0.to.space,.str p0.to.name,.str p0.text,.int .i64 p0.n,.sl (List.map Revision.cs p0.history)]))] 2) (fun k1 hF=>?_) fun x5 hF=>?_
 ·refine rg ?_
  refine kS 6 hF rfl (fun hF=>?_) fun hF=>?_
  ·refine kS 11 hF rfl (fun hF=>?_) fun hF=>?_
   ·obtain ⟨r22,h11,hF⟩:=bnd hF
    refine g_call (r1_Valid_c _ _ h11) rfl rfl (runX ?_)
    refine kS 17 hF rfl (fun hF=>?_) fun hF=>?_
    ·iterate 4 refine g_skip rfl (runX ?_)
     exact jn true hF (sR [(1,1,0)])
    obtain ⟨r23,h12,hF⟩:=bnd hF
    refine g_call (r26_isUser_c _ _ h12) rfl rfl (runX ?_)
    exact jn (!r23) hF (sR [(1,1,0)])
   iterate 4 refine g_skip rfl (runX ?_)
   obtain ⟨r24,h13,hF⟩:=bnd hF
   refine g_call (r26_isUser_c _ _ h13) rfl rfl (runX ?_)
   exact jn (!r24) hF (sR [(1,1,0)])
  iterate 7 refine g_skip rfl (runX ?_)
  obtain ⟨r25,h14,hF⟩:=bnd hF
  refine g_call (r26_isUser_c _ _ h14) rfl rfl (runX ?_)
  exact jn (!r25) hF (sR [(1,1,0)])
 refine cS hF rfl (fun hF=>?_) fun hF=>?_
 ·refine rg ?_
  cases hF
  exact rQ
 refine rg ?_
 refine bl ?_
 refine rg ?_
 refine jL hF (fun x14=>mkS [(1,.ptr 1 (1,1) 0),(24,.int .i64 p0.kind),(25,.bool x14)] [(1,some ((1,1),.box [.int .i64 p0.kind,.str p0.user,.str p0.note,.int .i64 p0.title.space,.str p0.title.name,.int .i64 p0.to.space,.str p0.to.name,.str p0.text,.int .i64 p0.n,.sl (List.map Revision.cs p0.history)]))] 2) (fun k7 hF=>?_) fun x14 hF=>?_
 ·refine cS hF rfl (fun hF=>?_) fun hF=>?_
  ·exact jn (decide (p0.kind=7)) hF (sR [(1,1,1)])
  refine rg ?_
  exact jn (decide (p0.kind=8)) hF (sR [(1,1,1)])
 refine cS hF rfl (fun hF=>?_) fun hF=>?_
 ·refine rg ?_
  cases hF
  exact rQ
 refine rg ?_
 refine cS hF rfl (fun hF=>?_) fun hF=>?_
 ·refine jL hF (fun x16=>mkS [(2,.bool x16)] [] 2) (fun k8 hF=>?_) fun x16 hF=>?_
  ·refine rg ?_
   obtain ⟨r17,h9,hF⟩:=bnd hF
   refine g_call (r1_Valid_c _ _ h9) rfl rfl (runX ?_)
   refine kS 36 hF rfl (fun hF=>?_) fun hF=>?_
   ·refine kS 40 hF rfl (fun hF=>?_) fun hF=>?_
    ·iterate 3 refine g_skip rfl (runX ?_)
     exact jn true hF (sR [])
    exact jn (decide (p0.n=1)) hF (sR [])
   iterate 8 refine g_skip rfl (runX ?_)
   exact jn false hF (sR [])
  cases hF
  exact rQ
 refine rg ?_
 refine cS hF rfl (fun hF=>?_) fun hF=>?_
 ·refine jL hF (fun x18=>mkS [(2,.bool x18)] [] 2) (fun k9 hF=>?_) fun x18 hF=>?_
  ·refine rg ?_
   refine kS 51 hF rfl (fun hF=>?_) fun hF=>?_
   ·exact jn (decide (p0.n≤52596000)) hF (sR [])
   iterate 3 refine g_skip rfl (runX ?_)
   exact jn false hF (sR [])
  cases hF
  exact rQ
 refine rg ?_
 refine cS hF rfl (fun hF=>?_) fun hF=>?_
 ·refine jL hF (fun x19=>mkS [(2,.bool x19)] [] 2) (fun k10 hF=>?_) fun x19 hF=>?_
  ·refine rg ?_
   refine kS 61 hF rfl (fun hF=>?_) fun hF=>?_
   ·exact jn (decide (p0.n≤40)) hF (sR [])
   iterate 3 refine g_skip rfl (runX ?_)
   exact jn false hF (sR [])
  cases hF
  exact rQ
 refine rg ?_
 refine cS hF rfl (fun hF=>?_) fun hF=>?_
 ·refine jL hF (fun x20=>mkS [(2,.bool x20)] [] 2) (fun k11 hF=>?_) fun x20 hF=>?_
  ·refine rg ?_
   refine kS 71 hF rfl (fun hF=>?_) fun hF=>?_
   ·exact jn (decide (p0.n≤1073741824)) hF (sR [])
   iterate 3 refine g_skip rfl (runX ?_)
   exact jn false hF (sR [])
  cases hF
  exact rQ
 refine rg ?_
 refine cS hF rfl (fun hF=>?_) fun hF=>?_
 ·refine rg ?_
  obtain ⟨r21,h10,hF⟩:=bnd hF
  refine g_call (r26_history_c _ _ h10) rfl rfl (runX ?_)
  cases hF
  exact rQ
 refine rg ?_
 cases hF
 exact rQ
def r26_Valid (p0:Change):Option Int:=
 (r26_form p0).bind fun r1=>
 if (!r1) then
  (some 7:Option Int)
 else
 (r26_within p0).bind fun r2=>
 if (!r2) then
  (some 2:Option Int)
 else
 letk (fun (x3:Bool)=>
  if x3 then
   (some 3:Option Int)
  else
  fixN bigN (fun f13 (x45:Int)=>
   if (decide (x45<(p0.history.length:Int))) then
    letk (fun (x63:Bool)=>
     if x63 then
      (some 3:Option Int)
     else
     f13 (w64 (x45+1))) fun k15=>
    (atI p0.history x45).bind fun e64=>
    if (decide (8192<(e64.text.size:Int))) then
     k15 true
    else
    (atI p0.history x45).bind fun e65=>
    k15 (decide (200<(e65.note.size:Int)))
   else
   (some 0:Option Int)) 0) fun k1=>
 if (decide (8192<(p0.text.size:Int))) then
  k1 true
 else
 k1 (decide (200<(p0.note.size:Int)))
theorem r26_Valid_c (p0:Change) (r:Int) (hF:r26_Valid p0=some r):Contract0 Tryz.prog 73 [p0.pv] (.int .i64 r):=by
 refine cF (fun r=>.int .i64 r) hF mix Tryz.func73 fun r hF=>?_
 unfold r26_Valid at hF
 refine runX ?_
 refine rg ?_
 refine rg ?_
 obtain ⟨r1,h1,hF⟩:=bnd hF
 refine g_call (r26_form_c _ _ h1) rfl rfl (runX ?_)
 refine cS hF rfl (fun hF=>?_) fun hF=>?_
 ·refine rg ?_
  cases hF
  exact rQ
 refine rg ?_
 obtain ⟨r2,h2,hF⟩:=bnd hF
 refine g_call (r26_within_c _ _ h2) rfl rfl (runX ?_)
 refine cS hF rfl (fun hF=>?_) fun hF=>?_
 ·refine rg ?_
  cases hF
  exact rQ
 refine jL hF (fun x3=>mkS [(1,.ptr 1 (1,1) 0),(19,.bool x3)] [(1,some ((1,1),.box [.int .i64 p0.kind,.str p0.user,.str p0.note,.int .i64 p0.title.space,.str p0.title.name,.int .i64 p0.to.space,.str p0.to.name,.str p0.text,.int .i64 p0.n,.sl (List.map Revision.cs p0.history)]))] 2) (fun k1 hF=>?_) fun x3 hF=>?_
 ·refine rg ?_
  refine kS 14 hF rfl (fun hF=>?_) fun hF=>?_
  ·iterate 4 refine g_skip rfl (runX ?_)
   exact jn true hF (sR [(1,1,0)])
  exact jn (decide (200<(p0.note.size:Int))) hF (sR [(1,1,0)])
 refine cS hF rfl (fun hF=>?_) fun hF=>?_
 ·refine rg ?_
  cases hF
  exact rQ
 refine rg ?_
 refine bl ?_
 refine fix_elim hF fun f13 mf13 hf13 hF=>?_
 refine pws_loop (α:=Nat×Int) (fun a _=>mkS [(1,.ptr 1 (1,1) 0),(3,.int .i64 a.2)] [(1,some ((1,1),.box [.int .i64 p0.kind,.str p0.user,.str p0.note,.int .i64 p0.title.space,.str p0.title.name,.int .i64 p0.to.space,.str p0.to.name,.str p0.text,.int .i64 p0.n,.sl (List.map Revision.cs p0.history)]))] 2) (fun a=>fixN a.1 f13 a.2=some r) (fun a=>a.1) (mf13,0) 2 hF (sR [(1,1,1)]) (fun a _ hF=>?_)
 obtain ⟨mf13,x45⟩:=a
 obtain ⟨mf13,rfl,hF⟩:=fix_step hf13 hF
 dsimp only at hF ⊢
 refine runX ?_
 refine rg ?_
 refine g_lenM rfl (M:=p0.history) (f:=Revision.cs) rfl (runX ?_)
 refine cS hF rfl (fun hF=>?_) fun hF=>?_
 ·refine bl ?_
  refine jL hF (fun x63=>mkS [(1,.ptr 1 (1,1) 0),(3,.int .i64 x45),(44,.bool x63)] [(1,some ((1,1),.box [.int .i64 p0.kind,.str p0.user,.str p0.note,.int .i64 p0.title.space,.str p0.title.name,.int .i64 p0.to.space,.str p0.to.name,.str p0.text,.int .i64 p0.n,.sl (List.map Revision.cs p0.history)]))] 2) (fun k15 hF=>?_) fun x63 hF=>?_
  ·refine rg ?_
   obtain ⟨e64,h49,hF⟩:=bnd hF
   refine g_indexI (f:=Revision.cs) rfl h49 rfl rfl rfl (runX ?_)
   refine kS 35 hF rfl (fun hF=>?_) fun hF=>?_
   ·iterate 8 refine g_skip rfl (runX ?_)
    exact jn true hF (sR [(1,1,1)])
   obtain ⟨e65,h50,hF⟩:=bnd hF
   refine g_indexI (f:=Revision.cs) rfl h50 rfl rfl rfl (runX ?_)
   exact jn (decide (200<(e65.note.size:Int))) hF (sR [(1,1,1)])
  refine cS hF rfl (fun hF=>?_) fun hF=>?_
  ·refine rg ?_
   cases hF
   exact rQ
  refine rg ?_
  exact rn (mf13,(w64 (x45+1))) hF (sR [(1,1,1)])
 refine rg ?_
 cases hF
 exact rQ
end Go.Proofs.YtphibahplgmgfaaGreatDoor
set_option linter.unusedVariables false
set_option maxHeartbeats 4000000
set_option maxRecDepth 100000
namespace Go.Proofs.YtphibahplgmgfaaGreatDoor
open VL
def r27_noted (p0:State) (p1:ByteArray) (p2:Int):Option (State×Int):=
 if (decide (p1=(⟨#[]⟩:ByteArray))) then
  (some (p0,0):Option (State×Int))
 else
 fixN bigN (fun f7 ((x23,x24):Int×(List Last))=>
  letk (fun (x31:Bool)=>
   if x31 then
    (atI p0.lasts x23).bind fun e32=>
    (appL 24 x24 [e32]).bind fun l33=>
    f7 ((w64 (x23+1)),l33)
   else
   letk (fun (x35:Bool)=>
    letk (fun (x36:Bool)=>
     if x36 then
      (some (p0,8):Option (State×Int))
     else
     (appL 24 x24 [(⟨p1,p2⟩:Last)]).bind fun l37=>
     letk (fun (x38:Int)=>
      (subL p0.lasts x38 (p0.lasts.length:Int)).bind fun l39=>
      (appL 24 l37 l39).bind fun l40=>
      (some ((⟨p0.seq,p0.clock,p0.pages,p0.gone,p0.proposals,p0.proposed,p0.watches,l40⟩:State),0):Option (State×Int))) fun k11=>
     if x35 then
      k11 (w64 (x23+1))
     else
     k11 x23) fun k10=>
    if (!x35) then
     k10 (decide (60≤(p0.lasts.length:Int)))
    else
    k10 false) fun k9=>
   if (decide (x23<(p0.lasts.length:Int))) then
    (atI p0.lasts x23).bind fun e41=>
    k9 (decide (e41.user=p1))
   else
   k9 false) fun k8=>
  if (decide (x23<(p0.lasts.length:Int))) then
   (atI p0.lasts x23).bind fun e42=>
   k8 (ltS e42.user p1)
  else
  k8 false) (0,([]:List Last))
theorem r27_noted_c (p0:State) (p1:ByteArray) (p2:Int) (r:State×Int) (hF:r27_noted p0 p1 p2=some r):Contract0 Tryz.prog 76 [p0.pv,.str p1,.int .i64 p2] (.tup [r.1.pv,.int .i64 r.2]):=by
 refine cF (fun r=>.tup [r.1.pv,.int .i64 r.2]) hF mix Tryz.func76 fun r hF=>?_
 unfold r27_noted at hF
 refine runX ?_
 refine rg ?_
 refine rg ?_
 refine cS hF rfl (fun hF=>?_) fun hF=>?_
 ·refine rg ?_
  cases hF
  exact rQ
 refine rg ?_
 refine rg ?_
 refine bl ?_
 refine fix_elim hF fun f7 mf7 hf7 hF=>?_
 refine pws_loop (α:=Nat×(Int×(List Last))) (fun a _=>mkS [(1,.str p1),(2,.int .i64 p2),(3,.ptr 3 (1,3) 0),(6,.ptr 6 (1,6) 0),(8,.row 8 (1,8)),(9,.int .i64 a.2.1)] [(3,some ((1,3),.box [.int .i64 p0.seq,.int .i64 p0.clock,.sl (List.map Stored.cs p0.pages),.sl (List.map Stored.cs p0.gone),.sl (List.map Proposal.cs p0.proposals),.int .i64 p0.proposed,.sl (List.map Watch.cs p0.watches),.sl (List.map Last.cs p0.lasts)])),(6,some ((1,6),.box [.int .i64 0,.int .i64 0,.nil,.nil,.nil,.int .i64 0,.nil,.nil])),(8,some ((1,8),.row 160 2 false (List.map Last.cs a.2.2)))] 2) (fun a=>fixN a.1 f7 a.2=some r) (fun a=>a.1) (mf7,0,([]:List Last)) 2 hF (shift_nilR [((1,3),(1,0)),((1,6),(1,1))] 8 160 2 rfl ⟨rfl,rfl,rfl,rfl,rfl,rfl,trivial⟩ ⟨⟨rfl,rfl⟩,⟨rfl,rfl⟩,⟨rfl,rfl⟩,trivial⟩ rfl) (fun a _ hF=>?_)
 obtain ⟨mf7,x23,x24⟩:=a
 obtain ⟨mf7,rfl,hF⟩:=fix_step hf7 hF
 dsimp only at hF ⊢
 refine runX ?_
 refine jL hF (fun x31=>mkS [(1,.str p1),(2,.int .i64 p2),(3,.ptr 3 (1,3) 0),(6,.ptr 6 (1,6) 0),(8,.row 8 (1,8)),(9,.int .i64 x23),(28,.bool x31)] [(3,some ((1,3),.box [.int .i64 p0.seq,.int .i64 p0.clock,.sl (List.map Stored.cs p0.pages),.sl (List.map Stored.cs p0.gone),.sl (List.map Proposal.cs p0.proposals),.int .i64 p0.proposed,.sl (List.map Watch.cs p0.watches),.sl (List.map Last.cs p0.lasts)])),(6,some ((1,6),.box [.int .i64 0,.int .i64 0,.nil,.nil,.nil,.int .i64 0,.nil,.nil])),(8,some ((1,8),.row 160 2 false (List.map Last.cs x24)))] 2) (fun k8 hF=>?_) fun x31 hF=>?_
 ·refine rg ?_
  refine g_lenM rfl (M:=p0.lasts) (f:=Last.cs) rfl (runX ?_)
  refine kS 19 hF rfl (fun hF=>?_) fun hF=>?_
  ·obtain ⟨e42,h29,hF⟩:=bnd hF
   refine g_indexI (f:=Last.cs) rfl h29 rfl rfl rfl (runX ?_)
   exact jn (ltS e42.user p1) hF (sR [(3,1,3),(6,1,6),(8,1,8)])
  iterate 8 refine g_skip rfl (runX ?_)
  exact jn false hF (sR [(3,1,3),(6,1,6),(8,1,8)])
 refine cS hF rfl (fun hF=>?_) fun hF=>?_
 ·refine bl ?_
  refine rg ?_
  obtain ⟨e32,h22,hF⟩:=bnd hF
  refine g_indexI (f:=Last.cs) rfl h22 rfl rfl rfl (runX ?_)
  refine g_buildM (M:=([e32]:List Last)) (f:=Last.cs) rfl rfl rfl rfl (Nat.le_of_ble_eq_true rfl) rfl (runX ?_)
  obtain ⟨l33,h23,hF⟩:=bnd hF
  refine g_appR (f:=Last.cs) rfl h23 (fun _=>rfl) rfl rfl rfl rfl (runX ?_)
  refine rg ?_
  exact rn (mf7,(w64 (x23+1)),l33) hF (sR [(3,1,3),(6,1,6),(8,2,7)])
 refine jL hF (fun x35=>mkS [(1,.str p1),(2,.int .i64 p2),(3,.ptr 3 (1,3) 0),(6,.ptr 6 (1,6) 0),(8,.row 8 (1,8)),(9,.int .i64 x23),(10,.bool x35)] [(3,some ((1,3),.box [.int .i64 p0.seq,.int .i64 p0.clock,.sl (List.map Stored.cs p0.pages),.sl (List.map Stored.cs p0.gone),.sl (List.map Proposal.cs p0.proposals),.int .i64 p0.proposed,.sl (List.map Watch.cs p0.watches),.sl (List.map Last.cs p0.lasts)])),(6,some ((1,6),.box [.int .i64 0,.int .i64 0,.nil,.nil,.nil,.int .i64 0,.nil,.nil])),(8,some ((1,8),.row 160 2 false (List.map Last.cs x24)))] 2) (fun k9 hF=>?_) fun x35 hF=>?_
 ·refine rg ?_
  refine g_lenM rfl (M:=p0.lasts) (f:=Last.cs) rfl (runX ?_)
  refine kS 44 hF rfl (fun hF=>?_) fun hF=>?_
  ·obtain ⟨e41,h28,hF⟩:=bnd hF
   refine g_indexI (f:=Last.cs) rfl h28 rfl rfl rfl (runX ?_)
   exact jn (decide (e41.user=p1)) hF (sR [(3,1,3),(6,1,6),(8,1,8)])
  iterate 8 refine g_skip rfl (runX ?_)
  exact jn false hF (sR [(3,1,3),(6,1,6),(8,1,8)])
 refine jL hF (fun x36=>mkS [(1,.str p1),(2,.int .i64 p2),(3,.ptr 3 (1,3) 0),(6,.ptr 6 (1,6) 0),(8,.row 8 (1,8)),(9,.int .i64 x23),(10,.bool x35),(61,.bool x36)] [(3,some ((1,3),.box [.int .i64 p0.seq,.int .i64 p0.clock,.sl (List.map Stored.cs p0.pages),.sl (List.map Stored.cs p0.gone),.sl (List.map Proposal.cs p0.proposals),.int .i64 p0.proposed,.sl (List.map Watch.cs p0.watches),.sl (List.map Last.cs p0.lasts)])),(6,some ((1,6),.box [.int .i64 0,.int .i64 0,.nil,.nil,.nil,.int .i64 0,.nil,.nil])),(8,some ((1,8),.row 160 2 false (List.map Last.cs x24)))] 2) (fun k10 hF=>?_) fun x36 hF=>?_
 ·refine rg ?_
  refine kS 56 hF rfl (fun hF=>?_) fun hF=>?_
  ·refine g_lenM rfl (M:=p0.lasts) (f:=Last.cs) rfl (runX ?_)
   exact jn (decide (60≤(p0.lasts.length:Int))) hF (sR [(3,1,3),(6,1,6),(8,1,8)])
  iterate 4 refine g_skip rfl (runX ?_)
  exact jn false hF (sR [(3,1,3),(6,1,6),(8,1,8)])
 refine cS hF rfl (fun hF=>?_) fun hF=>?_
 ·refine rg ?_
  cases hF
  exact rQ
 refine rg ?_
 refine g_buildM (M:=([(⟨p1,p2⟩:Last)]:List Last)) (f:=Last.cs) rfl rfl rfl rfl (Nat.le_of_ble_eq_true rfl) rfl (runX ?_)
 obtain ⟨l37,h25,hF⟩:=bnd hF
 refine g_appR (f:=Last.cs) rfl h25 (fun _=>rfl) rfl rfl rfl rfl (runX ?_)
 refine rg ?_
 refine jL hF (fun x38=>mkS [(3,.ptr 3 (1,3) 0),(6,.ptr 6 (1,6) 0),(8,.row 8 (1,8)),(9,.int .i64 x38)] [(3,some ((1,3),.box [.int .i64 p0.seq,.int .i64 p0.clock,.sl (List.map Stored.cs p0.pages),.sl (List.map Stored.cs p0.gone),.sl (List.map Proposal.cs p0.proposals),.int .i64 p0.proposed,.sl (List.map Watch.cs p0.watches),.sl (List.map Last.cs p0.lasts)])),(6,some ((1,6),.box [.int .i64 0,.int .i64 0,.nil,.nil,.nil,.int .i64 0,.nil,.nil])),(8,some ((1,8),.row 160 2 false (List.map Last.cs l37)))] 2) (fun k11 hF=>?_) fun x38 hF=>?_
 ·refine cS hF rfl (fun hF=>?_) fun hF=>?_
  ·refine rg ?_
   exact jn (w64 (x23+1)) hF (sR [(3,1,3),(6,1,6),(8,2,5)])
  exact jn x23 hF (sR [(3,1,3),(6,1,6),(8,2,5)])
 refine rg ?_
 obtain ⟨l39,h26,hF⟩:=bnd hF
 refine g_sliceM (f:=Last.cs) rfl h26 (fun _=>rfl) rfl rfl rfl rfl (runX ?_)
 obtain ⟨l40,h27,hF⟩:=bnd hF
 refine g_appR (f:=Last.cs) rfl h27 (fun _=>rfl) rfl rfl rfl rfl (runX ?_)
 refine rg ?_
 cases hF
 exact rQ
end Go.Proofs.YtphibahplgmgfaaGreatDoor
