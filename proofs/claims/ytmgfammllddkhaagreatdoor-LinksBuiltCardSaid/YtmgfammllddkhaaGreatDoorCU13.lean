/- Functions of -/
import Derived.Test.YtmgfammllddkhaaGreatDoorCU12
set_option linter.unusedSimpArgs false
set_option linter.unusedVariables false
set_option maxHeartbeats 4000000
set_option maxRecDepth 100000
namespace Go.Proofs.YtmgfammllddkhaaGreatDoor
section
open VL
def RB (p0:Q3 Link) (p1:Q3 Link):Q2 Bool:=if (!decide ((p0.length:Int)=(p1.length:Int))) then some false else A4 A9 (fun f2 (x18:Int)=>if decide (x18<(p0.length:Int)) then (atI p0 x18).bind fun e25=>(atI p1 x18).bind fun e26=>if (!decide (e25=e26)) then some false else f2 (w64 (x18+1)) else some true) 0
theorem s4 (p0:Q3 Link) (p1:Q3 Link) (r:Bool) (h:RB p0 p1=some r):Zg Q7 15 [.sl (List.map Link.cs p0),.sl (List.map Link.cs p1)] (.bool r):=by{
refine cF (fun r=>.bool r) h mix Tryz.func15 fun r h=>?_
unfold RB at h
refine Zi ?_
refine rg ?_
refine rg ?_
refine lM Link.cs p0 ?_
refine lM Link.cs p1 ?_
refine cS h rfl (fun h=>?_) fun h=>?_
refine rg ?_
cases h
exact rQ
refine rg ?_
refine bl ?_
refine Zy h fun f2 mf2 hf2 h=>?_
refine Zu (α:=Nat×Int) (fun a _=>mkS [(0,.sl (Q8 Link.cs p0)),(1,.sl (Q8 Link.cs p1)),(5,Q5 a.2)] [] 2) (fun a=>A4 a.1 f2 a.2=some r) (fun a=>a.1) (mf2,0) 2 h (sR []) (fun a _ h=>?_)
obtain ⟨mf2,x18⟩:=a
obtain ⟨mf2,rfl,h⟩:=Zz hf2 h
dsimp only at h ⊢
refine Zi ?_
refine rg ?_
refine lM Link.cs p0 ?_
refine cS h rfl (fun h=>?_) fun h=>?_
refine bl ?_
refine rg ?_
refine aI Link.cs h fun e25 h=>?_
refine aI Link.cs h fun e26 h=>?_
refine LF (.inr rfl) rfl rfl rfl rfl rfl (fun W=>p7 e25 e26 W) (Zi ?_)
refine cS h rfl (fun h=>?_) fun h=>?_
refine rg ?_
cases h
exact rQ
refine rg ?_
exact rn (mf2,(w64 (x18+1))) h (sR [])
refine rg ?_
cases h
exact rQ}
def RC (p0:Q3 Memb) (p1:Q3 Memb):Q2 Bool:=if (!decide ((p0.length:Int)=(p1.length:Int))) then some false else A4 A9 (fun f2 (x18:Int)=>if decide (x18<(p0.length:Int)) then (atI p0 x18).bind fun e25=>(atI p1 x18).bind fun e26=>if (!decide (e25=e26)) then some false else f2 (w64 (x18+1)) else some true) 0
theorem s6 (p0:Q3 Memb) (p1:Q3 Memb) (r:Bool) (h:RC p0 p1=some r):Zg Q7 16 [.sl (List.map Memb.cs p0),.sl (List.map Memb.cs p1)] (.bool r):=by{
refine cF (fun r=>.bool r) h mix Tryz.func16 fun r h=>?_
unfold RC at h
refine Zi ?_
refine rg ?_
refine rg ?_
refine lM Memb.cs p0 ?_
refine lM Memb.cs p1 ?_
refine cS h rfl (fun h=>?_) fun h=>?_
refine rg ?_
cases h
exact rQ
refine rg ?_
refine bl ?_
refine Zy h fun f2 mf2 hf2 h=>?_
refine Zu (α:=Nat×Int) (fun a _=>mkS [(0,.sl (Q8 Memb.cs p0)),(1,.sl (Q8 Memb.cs p1)),(5,Q5 a.2)] [] 2) (fun a=>A4 a.1 f2 a.2=some r) (fun a=>a.1) (mf2,0) 2 h (sR []) (fun a _ h=>?_)
obtain ⟨mf2,x18⟩:=a
obtain ⟨mf2,rfl,h⟩:=Zz hf2 h
dsimp only at h ⊢
refine Zi ?_
refine rg ?_
refine lM Memb.cs p0 ?_
refine cS h rfl (fun h=>?_) fun h=>?_
refine bl ?_
refine rg ?_
refine aI Memb.cs h fun e25 h=>?_
refine aI Memb.cs h fun e26 h=>?_
refine LF (.inr rfl) rfl rfl rfl rfl rfl (fun W=>Zyx e25 e26 W) (Zi ?_)
refine cS h rfl (fun h=>?_) fun h=>?_
refine rg ?_
cases h
exact rQ
refine rg ?_
exact rn (mf2,(w64 (x18+1))) h (sR [])
refine rg ?_
cases h
exact rQ}
def UI:Q2 Bool:=(RA ⟨#[91,91,65,124,98,93,93,32,123,123,116,124,91,91,67,93,93,125,125,32,91,91,67,97,116,101,103,111,114,121,58,88,124,121,93,93,32,60,105,110,99,108,117,100,101,111,110,108,121,62,91,91,68,93,93,60,47,105,110,99,108,117,100,101,111,110,108,121,62]⟩).bind fun r1=>letk (fun (x4:Bool)=>some x4) fun k1=>if decide (r1.2.2=0) then (RB r1.1 [(⟨1,(⟨0,(⟨#[65]⟩:Q1)⟩:Title)⟩:Link),(⟨2,(⟨3,(⟨#[84]⟩:Q1)⟩:Title)⟩:Link)]).bind fun r5=>if r5 then (RC r1.2.1 [(⟨(⟨4,(⟨#[88]⟩:Q1)⟩:Title),(⟨#[121]⟩:Q1)⟩:Memb)]).bind fun r6=>k1 r6 else k1 false else k1 false
theorem s8  (r:Bool) (h:UI=some r):Zg Q7 10 [] (.bool r):=by{
refine cF (fun r=>.bool r) h mix Tryz.func10 fun r h=>?_
unfold UI at h
refine Zi ?_
refine rg ?_
refine rg ?_
refine aC h (rZ _) fun r1 h=>?_
refine jL h (fun x4=>mkS [(0,.bool x4)] [] 2) (fun k1 h=>?_) fun x4 h=>?_
refine rg ?_
refine kS 11 h rfl (fun h=>?_) fun h=>?_
refine CR (M:=([(⟨1,(⟨0,(⟨#[65]⟩:Q1)⟩:Title)⟩:Link),(⟨2,(⟨3,(⟨#[84]⟩:Q1)⟩:Title)⟩:Link)]:Q3 Link)) (f:=Link.cs) rfl rfl rfl rfl (Yk rfl) rfl (Zi ?_)
refine aL h (s4 _ _) fun r5 h=>?_
refine kS 20 h rfl (fun h=>?_) fun h=>?_
refine CR (M:=([(⟨(⟨4,(⟨#[88]⟩:Q1)⟩:Title),(⟨#[121]⟩:Q1)⟩:Memb)]:Q3 Memb)) (f:=Memb.cs) rfl rfl rfl rfl (Yk rfl) rfl (Zi ?_)
refine aL h (s6 _ _) fun r6 h=>?_
exact jn r6 h (sR [])
iterate 5 refine Zw rfl (Zi ?_)
exact jn false h (sR [])
iterate 12 refine Zw rfl (Zi ?_)
exact jn false h (sR [])
cases h
exact rQ}
def UJ (p0:Q1):Q2 ((Q3 Link)×(Q3 Memb)×Int):=(QZ p0).bind fun r1=>if (!decide (r1.2=0)) then some ([],[],r1.2) else (ZS 300001 r1.1 []).bind fun r2=>(IM 300001 r1.1).bind fun r3=>A4 A9 (fun f7 ((x39,x40,x41):(Q3 Link)×(Q3 Memb)×Int)=>if decide (x41<(r3.length:Int)) then letk (fun (x53:Q3 Link) (x54:Q3 Memb)=>f7 (x53,x54,(w64 (x41+1)))) fun k8=>(atI r3 x41).bind fun e55=>if decide (e55.kind=1) then (atI r3 x41).bind fun e56=>(QM e56.text x39 x40).bind fun r57=>k8 r57.1 r57.2 else k8 x39 x40 else (F7 p0).bind fun r58=>letk (fun (x60:Q3 Link)=>(some (x60,x40,0):Q2 ((Q3 Link)×(Q3 Memb)×Int))) fun k9=>if r58.2 then (GT x39 (⟨4,r58.1⟩:Link)).bind fun r61=>k9 r61 else k9 x39) (r2,[],0)
theorem ZuS (p0:Q1) (r:(Q3 Link)×(Q3 Memb)×Int) (h:UJ p0=some r):Zg Q7 12 [.str p0] (.tup [.sl (List.map Link.cs r.1),.sl (List.map Memb.cs r.2.1),.int .i64 r.2.2]):=by{
refine cF (fun r=>.tup [.sl (Q8 Link.cs r.1),.sl (Q8 Memb.cs r.2.1),.int .i64 r.2.2]) h mix Tryz.func12 fun r h=>?_
unfold UJ at h
refine Zi ?_
refine rg ?_
refine rg ?_
refine aC h (ZsK _) fun r1 h=>?_
refine rg ?_
refine cS h rfl (fun h=>?_) fun h=>?_
refine rg ?_
cases h
exact rQ
refine rg ?_
let ⟨r2,h2,h⟩:=bnd h
refine DU (ZlH 300001 _ _ _ h2) rfl rfl (Zi ?_)
refine rg ?_
refine rg ?_
let ⟨r3,h3,h⟩:=bnd h
refine DU (Zuv 300001 _ _ h3) rfl rfl (Zi ?_)
refine rg ?_
refine bl ?_
refine Zy h fun f7 mf7 hf7 h=>?_
refine Zu (α:=Nat×((Q3 Link)×(Q3 Memb)×Int)) (fun a _=>mkS [(0,.str p0),(7,.sl (Q8 Link.cs a.2.1)),(8,.sl (Q8 Memb.cs a.2.2.1)),(9,.sl (Q8 Node.cs r3)),(10,Q5 a.2.2.2)] [] 2) (fun a=>A4 a.1 f7 a.2=some r) (fun a=>a.1) (mf7,r2,[],0) 2 h (Shift.trans (xE 8 rfl rfl) (sR [])) (fun a _ h=>?_)
obtain ⟨mf7,x39,x40,x41⟩:=a
obtain ⟨mf7,rfl,h⟩:=Zz hf7 h
dsimp only at h ⊢
refine Zi ?_
refine rg ?_
refine lM Node.cs r3 ?_
refine cS h rfl (fun h=>?_) fun h=>?_
refine ER h fun k8 hk8 h=>?_
refine DA (α:=(Q3 Link)×(Q3 Memb)) (fun a _=>mkS [(0,.str p0),(7,.sl (Q8 Link.cs a.1)),(8,.sl (Q8 Memb.cs a.2)),(9,.sl (Q8 Node.cs r3)),(10,Q5 x41)] [] 2) (fun a=>k8 a.1 a.2=some r) (Zi ?_) (fun a _ h=>?_)
refine bl ?_
refine rg ?_
refine aI Node.cs h fun e55 h=>?_
refine cS h rfl (fun h=>?_) fun h=>?_
refine rg ?_
refine aI Node.cs h fun e56 h=>?_
refine aC h (ZnY _ _ _) fun r57 h=>?_
exact jn (r57.1,r57.2) h (sR [])
exact jn (x39,x40) h (sR [])
obtain ⟨x53,x54⟩:=a
subst hk8
dsimp only at h ⊢
refine Zi ?_
refine rg ?_
exact rn (mf7,x53,x54,(w64 (x41+1))) h (sR [])
refine rg ?_
refine aC h (pC _) fun r58 h=>?_
refine rg ?_
refine jL h (fun x60=>mkS [(7,.sl (Q8 Link.cs x60)),(8,.sl (Q8 Memb.cs x40))] [] 2) (fun k9 h=>?_) fun x60 h=>?_
refine cS h rfl (fun h=>?_) fun h=>?_
refine rg ?_
refine aC h (eU _ _) fun r61 h=>?_
exact jn r61 h (sR [])
exact jn x39 h (sR [])
refine rg ?_
cases h
exact rQ}
abbrev s9:Q3 Q1:=[⟨#[97]⟩,⟨#[120,32,121]⟩,⟨#[49,50]⟩,⟨#[]⟩,⟨#[98]⟩,⟨#[48]⟩,⟨#[45,51]⟩,⟨#[65,98]⟩,⟨#[32]⟩,⟨#[122]⟩]
abbrev sA:Q3 Q1:=[⟨#[84]⟩,⟨#[85,47,120]⟩,⟨#[58,65]⟩,⟨#[58,66]⟩,⟨#[58,67]⟩,⟨#[47,120]⟩,⟨#[65]⟩,⟨#[66]⟩,⟨#[58,84,97,108,107,58,65]⟩,⟨#[88]⟩]
abbrev sB:Q3 Q1:=[⟨#[107]⟩,⟨#[49]⟩,⟨#[110]⟩]
abbrev sC:Q3 Q1:=[⟨#[84]⟩,⟨#[65]⟩,⟨#[66]⟩,⟨#[58,65]⟩,⟨#[58,65,47,66]⟩]
abbrev sD:Q3 Q1:=[⟨#[49]⟩,⟨#[107]⟩,⟨#[110]⟩,⟨#[105]⟩,⟨#[120]⟩]
abbrev sE:Q3 Q1:=[⟨#[]⟩,⟨#[124]⟩,⟨#[124,100]⟩]
abbrev sF:Q3 Q1:=[⟨#[122,61,50]⟩,⟨#[108,97,115,116]⟩]
abbrev sG:Q3 Q1:=[⟨#[65]⟩,⟨#[66]⟩,⟨#[84,101,109,112,108,97,116,101,58,84]⟩,⟨#[67]⟩,⟨#[91]⟩,⟨#[84,97,108,107,58,65]⟩]
abbrev sH:Q3 Q1:=[⟨#[49,44,50,44,51]⟩,⟨#[97,44,98]⟩,⟨#[]⟩,⟨#[120]⟩]
abbrev sI:Q3 Q1:=[⟨#[89]⟩,⟨#[70,32,89]⟩,⟨#[106,46,110,46]⟩,⟨#[72]⟩,⟨#[72,58,105]⟩,⟨#[78]⟩,⟨#[92,89]⟩]
abbrev sJ:Q3 Q1:=[⟨#[88]⟩,⟨#[65]⟩,⟨#[66]⟩]
abbrev sK:Q3 Q1:=[⟨#[88]⟩,⟨#[65]⟩,⟨#[]⟩]
abbrev sL:Q3 Q1:=[⟨#[114,101,97,100]⟩,⟨#[101,100,105,116]⟩,⟨#[120]⟩]
abbrev sN:Q3 Q1:=[⟨#[65]⟩,⟨#[66]⟩,⟨#[84,97,108,107,58,65]⟩]
abbrev sO:Q3 Q1:=[⟨#[65]⟩,⟨#[66]⟩,⟨#[67]⟩]
abbrev sP:Q3 Q1:=[⟨#[65]⟩,⟨#[66]⟩,⟨#[84,97,108,107,58,65]⟩,⟨#[67,124,99]⟩,⟨#[67,97,116,101,103,111,114,121,58,88]⟩,⟨#[67,97,116,101,103,111,114,121,58,88,124,115]⟩,⟨#[58,67,97,116,101,103,111,114,121,58,88]⟩,⟨#[65,35,115]⟩,⟨#[35,115]⟩,⟨#[91]⟩,⟨#[67,97,116,101,103,111,114,121,58,65]⟩]
abbrev sQ:Q3 Q1:=[⟨#[]⟩,⟨#[32,110,97,109,101,61,110]⟩,⟨#[32,110,97,109,101,61,109]⟩]
abbrev sU:Q3 Q1:=[⟨#[123,123,84,125,125]⟩,⟨#[39,39]⟩,⟨#[91,91,65,93,93]⟩,⟨#[97]⟩]
abbrev sV:Q3 Q1:=[⟨#[60,110,111,105,110,99,108,117,100,101,62]⟩,⟨#[60,105,110,99,108,117,100,101,111,110,108,121,62]⟩,⟨#[60,111,110,108,121,105,110,99,108,117,100,101,62]⟩]
abbrev sW:Q3 Q1:=[⟨#[60,47,110,111,105,110,99,108,117,100,101,62]⟩,⟨#[60,47,105,110,99,108,117,100,101,111,110,108,121,62]⟩,⟨#[60,47,111,110,108,121,105,110,99,108,117,100,101,62]⟩]
abbrev sX:Q3 Q1:=[⟨#[60,33,45,45,99,45,45,62]⟩,⟨#[60,114,101,102,32,110,97,109,101,61,110,47,62]⟩,⟨#[60,98,114,62]⟩,⟨#[38,108,116,59]⟩,⟨#[38,35,57,49,59]⟩,⟨#[123,123]⟩,⟨#[125,125]⟩,⟨#[91,91]⟩,⟨#[93,93]⟩,⟨#[124]⟩,⟨#[61]⟩]
abbrev sY:Q3 Q1:=[⟨#[]⟩,⟨#[]⟩,⟨#[]⟩,⟨#[42,32]⟩,⟨#[42,42,32]⟩,⟨#[35,32]⟩,⟨#[42,35,32]⟩,⟨#[32]⟩,⟨#[123,124]⟩,⟨#[124]⟩,⟨#[124,45]⟩,⟨#[33]⟩,⟨#[124,125]⟩,⟨#[45,45,45,45]⟩]
abbrev sZ:Q3 Q1:=[⟨#[]⟩,⟨#[]⟩,⟨#[]⟩,⟨#[]⟩,⟨#[35,82,69,68,73,82,69,67,84,32,91,91,66,93,93,10]⟩,⟨#[35,82,69,68,73,82,69,67,84,32,91,91,58,84,101,109,112,108,97,116,101,58,84,93,93,32,120]⟩]
abbrev t7:Q3 Q1:=[⟨#[61]⟩,⟨#[61,61]⟩,⟨#[61,61]⟩,⟨#[61,61,61]⟩]
abbrev t8:Q3 Q1:=[⟨#[32,115,32]⟩,⟨#[32,116,32]⟩,⟨#[97,32,98]⟩,⟨#[32,115,32]⟩]
def g6 (p0:Q3 Int):Q2 TapeF:=some ⟨p0,0⟩
theorem ZvT (p0:Q3 Int) (r:TapeF) (h:g6 p0=some r):ContractN Q7 17 [.sl (List.map csI p0)] (.box r.cs):=by{
refine yA (O:=fun r=>.box r.cs) h mix Tryz.func17 (by kernel_rfl) rfl (by kernel_rfl) fun r h=>?_
unfold g6 at h
refine Zi ?_
refine rg ?_
refine rg ?_
cases h
exact wP (t:=5) (g:=(2,2)) (o2:=.box [.sl (Q8 csI p0),.int .i64 0]) rfl rfl rfl}
def KS (p0:TapeF) (p1:Int):Q2 (Int×TapeF):=if decide ((p0.l.length:Int)<=p0.pos) then some (0,p0) else (atI p0.l p0.pos).bind fun e1=>(ST .i64 (jX .and .i64 e1 16777215) p1).bind fun q2=>some (q2,(⟨p0.l,(w64 (p0.pos+1))⟩:TapeF))
theorem UK (p0:TapeF) (p1:Int) (r:Int×TapeF) (h:KS p0 p1=some r):Contract Q7 55 [.ptr 0 (0,0) 0,.int .i64 p1] (some (0,p0.cs)) (.int .i64 r.1) (r.2).cs:=by{
refine DB (R:=fun r=>.int .i64 r.1) (O:=fun r=>(r.2).cs) h mix Tryz.func55 fun r h=>?_
unfold KS at h
refine Zi ?_
refine rg ?_
refine rg ?_
refine lM csI p0.l ?_
refine cS h rfl (fun h=>?_) fun h=>?_
refine rg ?_
cases h
exact AX rfl rfl rfl rfl rfl
refine rg ?_
refine aI csI h fun e1 h=>?_
refine rg ?_
refine rg ?_
let ⟨q2,h2,h⟩:=bnd h
refine xU rfl h2 rfl rfl (Zi ?_)
cases h
exact AX rfl rfl rfl rfl rfl}
def ZQ (p0:TapeF) (p1:Q3 Q1):Q2 (Q1×TapeF):=(KS p0 (p1.length:Int)).bind fun r1=>(atI p1 r1.1).bind fun e2=>some (e2,r1.2)
theorem ZO (p0:TapeF) (p1:Q3 Q1) (r:Q1×TapeF) (h:ZQ p0 p1=some r):Contract Q7 22 [.ptr 0 (0,0) 0,.sl (List.map csS p1)] (some (0,p0.cs)) (.str r.1) (r.2).cs:=by{
refine DB (R:=fun r=>.str r.1) (O:=fun r=>(r.2).cs) h mix Tryz.func22 fun r h=>?_
unfold ZQ at h
refine Zi ?_
refine rg ?_
refine rg ?_
refine lM csS p1 ?_
refine aO h (UK _ _) fun r1 h=>?_
refine aI csS h fun e2 h=>?_
cases h
exact AX rfl rfl rfl rfl rfl}
def MD (p0:TapeF):Q2 (Q1×TapeF):=(ZQ p0 s9).bind fun r1=>some (r1.1,r1.2)
theorem Y5 (p0:TapeF) (r:Q1×TapeF) (h:MD p0=some r):Contract Q7 160 [.ptr 0 (0,0) 0] (some (0,p0.cs)) (.str r.1) (r.2).cs:=by{
refine DB (R:=fun r=>.str r.1) (O:=fun r=>(r.2).cs) h mix Tryz.func160 fun r h=>?_
unfold MD at h
refine Zi ?_
refine rg ?_
refine rg ?_
refine OZ s9 rfl rfl rfl rfl (by decide) (Zi ?_)
refine aO h (ZO _ _) fun r1 h=>?_
cases h
exact AX rfl rfl rfl rfl rfl}
def ZR:Nat->TapeF->Int->Q2 (Q1×TapeF) | 0,_,_=>none | mF+1,p0,p1=>if decide (p1<=0) then (MD p0).bind fun r2=>some (r2.1,r2.2) else (KS p0 24).bind fun r3=>if decide (r3.1=0) then (ZQ r3.2 sA).bind fun r110=>(A7 ⟨#[123,123]⟩ r110.1).bind fun s111=>(A7 s111 ⟨#[124]⟩).bind fun s112=>(ZR mF r110.2 (w64 (p1-1))).bind fun r113=>(A7 s112 r113.1).bind fun s114=>(A7 s114 ⟨#[124]⟩).bind fun s115=>(ZQ r113.2 sB).bind fun r116=>(A7 s115 r116.1).bind fun s117=>(A7 s117 ⟨#[61]⟩).bind fun s118=>(ZR mF r116.2 (w64 (p1-1))).bind fun r119=>(A7 s118 r119.1).bind fun s120=>(A7 s120 ⟨#[125,125]⟩).bind fun s121=>some (s121,r119.2) else if decide (r3.1=1) then (ZQ r3.2 sC).bind fun r122=>(A7 ⟨#[123,123]⟩ r122.1).bind fun s123=>(A7 s123 ⟨#[125,125]⟩).bind fun s124=>some (s124,r122.2) else if decide (r3.1=2) then (ZQ r3.2 sD).bind fun r125=>(A7 ⟨#[123,123,123]⟩ r125.1).bind fun s126=>(ZQ r125.2 sE).bind fun r127=>(A7 s126 r127.1).bind fun s128=>(A7 s128 ⟨#[125,125,125]⟩).bind fun s129=>some (s129,r127.2) else if decide (r3.1=3) then (ZR mF r3.2 (w64 (p1-1))).bind fun r130=>(A7 ⟨#[123,123,35,105,102,58]⟩ r130.1).bind fun s131=>(A7 s131 ⟨#[124]⟩).bind fun s132=>(ZR mF r130.2 (w64 (p1-1))).bind fun r133=>(A7 s132 r133.1).bind fun s134=>(A7 s134 ⟨#[124]⟩).bind fun s135=>(ZR mF r133.2 (w64 (p1-1))).bind fun r136=>(A7 s135 r136.1).bind fun s137=>(A7 s137 ⟨#[125,125]⟩).bind fun s138=>some (s138,r136.2) else if decide (r3.1=4) then (ZR mF r3.2 (w64 (p1-1))).bind fun r139=>(A7 ⟨#[123,123,35,105,102,101,113,58]⟩ r139.1).bind fun s140=>(A7 s140 ⟨#[124]⟩).bind fun s141=>(ZR mF r139.2 (w64 (p1-1))).bind fun r142=>(A7 s141 r142.1).bind fun s143=>(A7 s143 ⟨#[124,121,101,115,124]⟩).bind fun s144=>(ZR mF r142.2 (w64 (p1-1))).bind fun r145=>(A7 s144 r145.1).bind fun s146=>(A7 s146 ⟨#[125,125]⟩).bind fun s147=>some (s147,r145.2) else if decide (r3.1=5) then (MD r3.2).bind fun r148=>(A7 ⟨#[123,123,35,115,119,105,116,99,104,58]⟩ r148.1).bind fun s149=>(A7 s149 ⟨#[124,97,61,49,124,98,124,49,50,61]⟩).bind fun s150=>(ZR mF r148.2 (w64 (p1-1))).bind fun r151=>(A7 s150 r151.1).bind fun s152=>(A7 s152 ⟨#[124,35,100,101,102,97,117,108,116,61,100,124]⟩).bind fun s153=>(ZQ r151.2 sF).bind fun r154=>(A7 s153 r154.1).bind fun s155=>(A7 s155 ⟨#[125,125]⟩).bind fun s156=>some (s156,r154.2) else if decide (r3.1=6) then (ZQ r3.2 sG).bind fun r157=>(A7 ⟨#[123,123,35,105,102,101,120,105,115,116,58]⟩ r157.1).bind fun s158=>(A7 s158 ⟨#[124]⟩).bind fun s159=>(ZR mF r157.2 (w64 (p1-1))).bind fun r160=>(A7 s159 r160.1).bind fun s161=>(A7 s161 ⟨#[124,110,111,125,125]⟩).bind fun s162=>some (s162,r160.2) else if decide (r3.1=7) then (ZQ r3.2 sH).bind fun r163=>(A7 ⟨#[123,123,35,102,111,114,58]⟩ r163.1).bind fun s164=>(A7 s164 ⟨#[124,124,105,124]⟩).bind fun s165=>(ZR mF r163.2 (w64 (p1-1))).bind fun r166=>(A7 s165 r166.1).bind fun s167=>(A7 s167 ⟨#[123,123,123,105,125,125,125,124,44,32,125,125]⟩).bind fun s168=>some (s168,r166.2) else if decide (r3.1=8) then (ZQ r3.2 sI).bind fun r169=>(A7 ⟨#[123,123,35,100,97,116,101,58]⟩ r169.1).bind fun s170=>(A7 s170 ⟨#[125,125]⟩).bind fun s171=>some (s171,r169.2) else if decide (r3.1=9) then (ZQ r3.2 sJ).bind fun r172=>(A7 ⟨#[123,123,35,99,111,117,110,116,58]⟩ r172.1).bind fun s173=>(A7 s173 ⟨#[125,125]⟩).bind fun s174=>some (s174,r172.2) else if decide (r3.1=10) then (ZQ r3.2 sK).bind fun r175=>(A7 ⟨#[123,123,35,109,101,109,98,101,114,115,58]⟩ r175.1).bind fun s176=>(A7 s176 ⟨#[125,125]⟩).bind fun s177=>some (s177,r175.2) else if decide (r3.1=11) then (ZQ r3.2 sL).bind fun r178=>(A7 ⟨#[123,123,35,114,105,103,104,116,58]⟩ r178.1).bind fun s179=>(A7 s179 ⟨#[124]⟩).bind fun s180=>(ZQ r178.2 sN).bind fun r181=>(A7 s180 r181.1).bind fun s182=>(A7 s182 ⟨#[124,109,97,121,124,109,97,121,32,110,111,116,125,125]⟩).bind fun s183=>some (s183,r181.2) else if decide (r3.1=12) then (ZQ r3.2 sO).bind fun r184=>(A7 ⟨#[123,123,35,114,101,118,105,115,105,111,110,58]⟩ r184.1).bind fun s185=>(A7 s185 ⟨#[125,125]⟩).bind fun s186=>some (s186,r184.2) else if decide (r3.1=13) then (MD r3.2).bind fun r187=>(A7 ⟨#[117,99,58]⟩ r187.1).bind fun s188=>(ZQ r187.2 [⟨#[102,111,114,109,117,108,97,58,49,43,50,42,51]⟩,⟨#[102,111,114,109,117,108,97,58,49,47,48]⟩,⟨#[108,101,110,58,97,98,99]⟩,s188,⟨#[115,117,98,58,97,98,99,100,101,102,124,49,124,50]⟩,⟨#[110,111,110,101,58,120]⟩,⟨#[112,97,103,101]⟩,⟨#[110,97,109,101]⟩,⟨#[115,112,97,99,101]⟩,⟨#[105,102,102,111,114,109,117,108,97,58,49,62,50,124,97,124,98]⟩]).bind fun r189=>(A7 ⟨#[123,123,35]⟩ r189.1).bind fun s190=>(A7 s190 ⟨#[125,125]⟩).bind fun s191=>some (s191,r189.2) else if decide (r3.1=14) then (ZQ r3.2 sP).bind fun r192=>(A7 ⟨#[91,91]⟩ r192.1).bind fun s193=>(A7 s193 ⟨#[93,93]⟩).bind fun s194=>some (s194,r192.2) else if decide (r3.1=15) then (ZR mF r3.2 (w64 (p1-1))).bind fun r195=>(A7 ⟨#[39,39,39]⟩ r195.1).bind fun s196=>(A7 s196 ⟨#[39,39,39]⟩).bind fun s197=>some (s197,r195.2) else if decide (r3.1=16) then (ZR mF r3.2 (w64 (p1-1))).bind fun r198=>(A7 ⟨#[39,39]⟩ r198.1).bind fun s199=>(A7 s199 ⟨#[39,39]⟩).bind fun s200=>some (s200,r198.2) else if decide (r3.1=17) then (ZQ r3.2 sQ).bind fun r201=>(A7 ⟨#[60,114,101,102]⟩ r201.1).bind fun s202=>(A7 s202 ⟨#[62]⟩).bind fun s203=>(ZR mF r201.2 (w64 (p1-1))).bind fun r204=>(A7 s203 r204.1).bind fun s205=>(A7 s205 ⟨#[60,47,114,101,102,62]⟩).bind fun s206=>some (s206,r204.2) else if decide (r3.1=18) then (ZQ r3.2 sU).bind fun r207=>(A7 ⟨#[60,110,111,119,105,107,105,62]⟩ r207.1).bind fun s208=>(A7 s208 ⟨#[60,47,110,111,119,105,107,105,62]⟩).bind fun s209=>some (s209,r207.2) else if decide (r3.1=19) then (ZQ r3.2 sV).bind fun r210=>(ZR mF r210.2 (w64 (p1-1))).bind fun r211=>(A7 r210.1 r211.1).bind fun s212=>(ZQ r211.2 sW).bind fun r213=>(A7 s212 r213.1).bind fun s214=>some (s214,r213.2) else if decide (r3.1=20) then (ZQ r3.2 sX).bind fun r215=>some (r215.1,r215.2) else (MD r3.2).bind fun r216=>some (r216.1,r216.2)
theorem Zk1 (mF:Nat):∀ (p0:TapeF) (p1:Int) (r:Q1×TapeF),ZR mF p0 p1=some r->Contract Q7 94 [.ptr 0 (0,0) 0,.int .i64 p1] (some (0,p0.cs)) (.str r.1) (r.2).cs:=by{
induction mF with
| zero=>intro p0 p1 r h;cases h
| succ mF ihF=>
intro p0 p1 r h
refine DB (R:=fun r=>.str r.1) (O:=fun r=>(r.2).cs) h mix Tryz.func94 fun r h=>?_
simp only [ZR] at h
refine Zi ?_
refine rg ?_
refine rg ?_
refine cS h rfl (fun h=>?_) fun h=>?_
refine rg ?_
refine aO h (Y5 _) fun r2 h=>?_
cases h
exact AX rfl rfl rfl rfl rfl
refine rg ?_
refine rg ?_
refine aO h (UK _ _) fun r3 h=>?_
refine bl ?_
refine rg ?_
refine cS h rfl (fun h=>?_) fun h=>?_
refine rg ?_
refine OZ sA rfl rfl rfl rfl (by decide) (Zi ?_)
refine aO h (ZO _ _) fun r110 h=>?_
refine sT h fun s111 h=>?_
refine sT h fun s112 h=>?_
let ⟨r113,h113,h⟩:=bnd h
refine E7 (ihF _ _ _ h113) rfl rfl rfl rfl rfl (Zi ?_)
refine sT h fun s114 h=>?_
refine sT h fun s115 h=>?_
refine bM csS sB ?_
refine aO h (ZO _ _) fun r116 h=>?_
refine sT h fun s117 h=>?_
refine sT h fun s118 h=>?_
let ⟨r119,h119,h⟩:=bnd h
refine E7 (ihF _ _ _ h119) rfl rfl rfl rfl rfl (Zi ?_)
refine sT h fun s120 h=>?_
refine sT h fun s121 h=>?_
cases h
exact AX rfl rfl rfl rfl rfl
refine rg ?_
refine cS h rfl (fun h=>?_) fun h=>?_
refine rg ?_
refine bM csS sC ?_
refine aO h (ZO _ _) fun r122 h=>?_
refine sT h fun s123 h=>?_
refine sT h fun s124 h=>?_
cases h
exact AX rfl rfl rfl rfl rfl
refine rg ?_
refine cS h rfl (fun h=>?_) fun h=>?_
refine rg ?_
refine bM csS sD ?_
refine aO h (ZO _ _) fun r125 h=>?_
refine sT h fun s126 h=>?_
refine bM csS sE ?_
refine aO h (ZO _ _) fun r127 h=>?_
refine sT h fun s128 h=>?_
refine sT h fun s129 h=>?_
cases h
exact AX rfl rfl rfl rfl rfl
refine rg ?_
refine cS h rfl (fun h=>?_) fun h=>?_
refine rg ?_
let ⟨r130,h130,h⟩:=bnd h
refine E7 (ihF _ _ _ h130) rfl rfl rfl rfl rfl (Zi ?_)
refine sT h fun s131 h=>?_
refine sT h fun s132 h=>?_
let ⟨r133,h133,h⟩:=bnd h
refine E7 (ihF _ _ _ h133) rfl rfl rfl rfl rfl (Zi ?_)
refine sT h fun s134 h=>?_
refine sT h fun s135 h=>?_
let ⟨r136,h136,h⟩:=bnd h
refine E7 (ihF _ _ _ h136) rfl rfl rfl rfl rfl (Zi ?_)
refine sT h fun s137 h=>?_
refine sT h fun s138 h=>?_
cases h
exact AX rfl rfl rfl rfl rfl
refine rg ?_
refine cS h rfl (fun h=>?_) fun h=>?_
refine rg ?_
let ⟨r139,h139,h⟩:=bnd h
refine E7 (ihF _ _ _ h139) rfl rfl rfl rfl rfl (Zi ?_)
refine sT h fun s140 h=>?_
refine sT h fun s141 h=>?_
let ⟨r142,h142,h⟩:=bnd h
refine E7 (ihF _ _ _ h142) rfl rfl rfl rfl rfl (Zi ?_)
refine sT h fun s143 h=>?_
refine sT h fun s144 h=>?_
let ⟨r145,h145,h⟩:=bnd h
refine E7 (ihF _ _ _ h145) rfl rfl rfl rfl rfl (Zi ?_)
refine sT h fun s146 h=>?_
refine sT h fun s147 h=>?_
cases h
exact AX rfl rfl rfl rfl rfl
refine rg ?_
refine cS h rfl (fun h=>?_) fun h=>?_
refine rg ?_
refine aO h (Y5 _) fun r148 h=>?_
refine sT h fun s149 h=>?_
refine sT h fun s150 h=>?_
let ⟨r151,h151,h⟩:=bnd h
refine E7 (ihF _ _ _ h151) rfl rfl rfl rfl rfl (Zi ?_)
refine sT h fun s152 h=>?_
refine sT h fun s153 h=>?_
refine bM csS sF ?_
refine aO h (ZO _ _) fun r154 h=>?_
refine sT h fun s155 h=>?_
refine sT h fun s156 h=>?_
cases h
exact AX rfl rfl rfl rfl rfl
refine rg ?_
refine cS h rfl (fun h=>?_) fun h=>?_
refine rg ?_
refine bM csS sG ?_
refine aO h (ZO _ _) fun r157 h=>?_
refine sT h fun s158 h=>?_
refine sT h fun s159 h=>?_
let ⟨r160,h160,h⟩:=bnd h
refine E7 (ihF _ _ _ h160) rfl rfl rfl rfl rfl (Zi ?_)
refine sT h fun s161 h=>?_
refine sT h fun s162 h=>?_
cases h
exact AX rfl rfl rfl rfl rfl
refine rg ?_
refine cS h rfl (fun h=>?_) fun h=>?_
refine rg ?_
refine bM csS sH ?_
refine aO h (ZO _ _) fun r163 h=>?_
refine sT h fun s164 h=>?_
refine sT h fun s165 h=>?_
let ⟨r166,h166,h⟩:=bnd h
refine E7 (ihF _ _ _ h166) rfl rfl rfl rfl rfl (Zi ?_)
refine sT h fun s167 h=>?_
refine sT h fun s168 h=>?_
cases h
exact AX rfl rfl rfl rfl rfl
refine rg ?_
refine cS h rfl (fun h=>?_) fun h=>?_
refine rg ?_
refine bM csS sI ?_
refine aO h (ZO _ _) fun r169 h=>?_
refine sT h fun s170 h=>?_
refine sT h fun s171 h=>?_
cases h
exact AX rfl rfl rfl rfl rfl
refine rg ?_
refine cS h rfl (fun h=>?_) fun h=>?_
refine rg ?_
refine bM csS sJ ?_
refine aO h (ZO _ _) fun r172 h=>?_
refine sT h fun s173 h=>?_
refine sT h fun s174 h=>?_
cases h
exact AX rfl rfl rfl rfl rfl
refine rg ?_
refine cS h rfl (fun h=>?_) fun h=>?_
refine rg ?_
refine bM csS sK ?_
refine aO h (ZO _ _) fun r175 h=>?_
refine sT h fun s176 h=>?_
refine sT h fun s177 h=>?_
cases h
exact AX rfl rfl rfl rfl rfl
refine rg ?_
refine cS h rfl (fun h=>?_) fun h=>?_
refine rg ?_
refine bM csS sL ?_
refine aO h (ZO _ _) fun r178 h=>?_
refine sT h fun s179 h=>?_
refine sT h fun s180 h=>?_
refine bM csS sN ?_
refine aO h (ZO _ _) fun r181 h=>?_
refine sT h fun s182 h=>?_
refine sT h fun s183 h=>?_
cases h
exact AX rfl rfl rfl rfl rfl
refine rg ?_
refine cS h rfl (fun h=>?_) fun h=>?_
refine rg ?_
refine bM csS sO ?_
refine aO h (ZO _ _) fun r184 h=>?_
refine sT h fun s185 h=>?_
refine sT h fun s186 h=>?_
cases h
exact AX rfl rfl rfl rfl rfl
refine rg ?_
refine cS h rfl (fun h=>?_) fun h=>?_
refine rg ?_
refine aO h (Y5 _) fun r187 h=>?_
refine sT h fun s188 h=>?_
refine OZ ([⟨#[102,111,114,109,117,108,97,58,49,43,50,42,51]⟩,⟨#[102,111,114,109,117,108,97,58,49,47,48]⟩,⟨#[108,101,110,58,97,98,99]⟩,s188,⟨#[115,117,98,58,97,98,99,100,101,102,124,49,124,50]⟩,⟨#[110,111,110,101,58,120]⟩,⟨#[112,97,103,101]⟩,⟨#[110,97,109,101]⟩,⟨#[115,112,97,99,101]⟩,⟨#[105,102,102,111,114,109,117,108,97,58,49,62,50,124,97,124,98]⟩]:Q3 Q1) rfl rfl rfl rfl (by decide) (Zi ?_)
refine aO h (ZO _ _) fun r189 h=>?_
refine sT h fun s190 h=>?_
refine sT h fun s191 h=>?_
cases h
exact AX rfl rfl rfl rfl rfl
refine rg ?_
refine cS h rfl (fun h=>?_) fun h=>?_
refine rg ?_
refine OZ sP rfl rfl rfl rfl (by decide) (Zi ?_)
refine aO h (ZO _ _) fun r192 h=>?_
refine sT h fun s193 h=>?_
refine sT h fun s194 h=>?_
cases h
exact AX rfl rfl rfl rfl rfl
refine rg ?_
refine cS h rfl (fun h=>?_) fun h=>?_
refine rg ?_
let ⟨r195,h195,h⟩:=bnd h
refine E7 (ihF _ _ _ h195) rfl rfl rfl rfl rfl (Zi ?_)
refine sT h fun s196 h=>?_
refine sT h fun s197 h=>?_
cases h
exact AX rfl rfl rfl rfl rfl
refine rg ?_
refine cS h rfl (fun h=>?_) fun h=>?_
refine rg ?_
let ⟨r198,h198,h⟩:=bnd h
refine E7 (ihF _ _ _ h198) rfl rfl rfl rfl rfl (Zi ?_)
refine sT h fun s199 h=>?_
refine sT h fun s200 h=>?_
cases h
exact AX rfl rfl rfl rfl rfl
refine rg ?_
refine cS h rfl (fun h=>?_) fun h=>?_
refine rg ?_
refine bM csS sQ ?_
refine aO h (ZO _ _) fun r201 h=>?_
refine sT h fun s202 h=>?_
refine sT h fun s203 h=>?_
let ⟨r204,h204,h⟩:=bnd h
refine E7 (ihF _ _ _ h204) rfl rfl rfl rfl rfl (Zi ?_)
refine sT h fun s205 h=>?_
refine sT h fun s206 h=>?_
cases h
exact AX rfl rfl rfl rfl rfl
refine rg ?_
refine cS h rfl (fun h=>?_) fun h=>?_
refine rg ?_
refine bM csS sU ?_
refine aO h (ZO _ _) fun r207 h=>?_
refine sT h fun s208 h=>?_
refine sT h fun s209 h=>?_
cases h
exact AX rfl rfl rfl rfl rfl
refine rg ?_
refine cS h rfl (fun h=>?_) fun h=>?_
refine rg ?_
refine bM csS sV ?_
refine aO h (ZO _ _) fun r210 h=>?_
let ⟨r211,h211,h⟩:=bnd h
refine E7 (ihF _ _ _ h211) rfl rfl rfl rfl rfl (Zi ?_)
refine sT h fun s212 h=>?_
refine bM csS sW ?_
refine aO h (ZO _ _) fun r213 h=>?_
refine sT h fun s214 h=>?_
cases h
exact AX rfl rfl rfl rfl rfl
refine rg ?_
refine cS h rfl (fun h=>?_) fun h=>?_
refine rg ?_
refine OZ sX rfl rfl rfl rfl (by decide) (Zi ?_)
refine aO h (ZO _ _) fun r215 h=>?_
cases h
exact AX rfl rfl rfl rfl rfl
refine rg ?_
refine aO h (Y5 _) fun r216 h=>?_
cases h
exact AX rfl rfl rfl rfl rfl}
def UL (p0:TapeF) (p1:Int):Q2 (Q1×TapeF):=(ZQ p0 sY).bind fun r1=>A4 A9 (fun f2 ((x26,x27,x28,x29):Q1×Int×(Q3 Int)×Int)=>(KS (⟨x28,x29⟩:TapeF) 3).bind fun r35=>if decide (x27<=r35.1) then (ZR 8 r35.2 p1).bind fun r38=>(A7 x26 r38.1).bind fun s39=>f2 (s39,(w64 (x27+1)),r38.2.l,r38.2.pos) else some (x26,r35.2)) (r1.1,0,r1.2.l,r1.2.pos)
theorem Zmb (p0:TapeF) (p1:Int) (r:Q1×TapeF) (h:UL p0 p1=some r):Contract Q7 56 [.ptr 0 (0,0) 0,.int .i64 p1] (some (0,p0.cs)) (.str r.1) (r.2).cs:=by{
refine DB (R:=fun r=>.str r.1) (O:=fun r=>(r.2).cs) h mix Tryz.func56 fun r h=>?_
unfold UL at h
refine Zi ?_
refine rg ?_
refine rg ?_
refine OZ sY rfl rfl rfl rfl (by decide) (Zi ?_)
refine aO h (ZO _ _) fun r1 h=>?_
refine rg ?_
refine bl ?_
refine Zy h fun f2 mf2 hf2 h=>?_
refine Zu (α:=Nat×(Q1×Int×(Q3 Int)×Int)) (fun a _=>mkS [(0,Q6),(1,Q5 p1),(5,.str a.2.1),(6,Q5 a.2.2.1)] [(0,some ((0,0),.box [.sl (Q8 csI a.2.2.2.1),Q5 a.2.2.2.2]))] 2) (fun a=>A4 a.1 f2 a.2=some r) (fun a=>a.1) (mf2,r1.1,0,r1.2.l,r1.2.pos) 2 h (sR []) (fun a _ h=>?_)
obtain ⟨mf2,x26,x27,x28,x29⟩:=a
obtain ⟨mf2,rfl,h⟩:=Zz hf2 h
dsimp only at h ⊢
refine Zi ?_
refine rg ?_
refine aO h (UK _ _) fun r35 h=>?_
refine cS h rfl (fun h=>?_) fun h=>?_
refine bl ?_
refine rg ?_
let ⟨r38,h30,h⟩:=bnd h
refine E7 (Zk1 8 _ _ _ h30) rfl rfl rfl rfl rfl (Zi ?_)
refine sT h fun s39 h=>?_
refine rg ?_
exact rn (mf2,s39,(w64 (x27+1)),r38.2.l,r38.2.pos) h (sR [])
refine rg ?_
cases h
exact AX rfl rfl rfl rfl rfl}
def UM (p0:TapeF) (p1:Int):Q2 (Q1×TapeF):=(ZQ p0 sZ).bind fun r1=>(KS r1.2 5).bind fun r2=>A4 A9 (fun f18 ((x163,x164,x165,x166):Q1×Int×(Q3 Int)×Int)=>if decide (x164<=r2.1) then letk (fun (x231:Q1)=>(KS (⟨x165,x166⟩:TapeF) 4).bind fun r232=>letk (fun (x239:Q1) (x240:Q3 Int) (x241:Int)=>(UL (⟨x240,x241⟩:TapeF) p1).bind fun r242=>(A7 x239 r242.1).bind fun s243=>f18 (s243,(w64 (x164+1)),r242.2.l,r242.2.pos)) fun k22=>if decide (r232.1=0) then (ZQ r232.2 t7).bind fun r244=>(A7 x231 r244.1).bind fun s245=>(ZQ r244.2 t8).bind fun r246=>(A7 s245 r246.1).bind fun s247=>(A7 s247 r244.1).bind fun s248=>(A7 s248 ⟨#[10]⟩).bind fun s249=>k22 s249 r246.2.l r246.2.pos else k22 x231 r232.2.l r232.2.pos) fun k21=>if decide (0<x164) then (A7 x163 ⟨#[10]⟩).bind fun s250=>k21 s250 else k21 x163 else some (x163,⟨x165,x166⟩)) (r1.1,0,r2.2.l,r2.2.pos)
theorem Zmc (p0:TapeF) (p1:Int) (r:Q1×TapeF) (h:UM p0 p1=some r):Contract Q7 18 [.ptr 0 (0,0) 0,.int .i64 p1] (some (0,p0.cs)) (.str r.1) (r.2).cs:=by{
refine DB (R:=fun r=>.str r.1) (O:=fun r=>(r.2).cs) h mix Tryz.func18 fun r h=>?_
unfold UM at h
refine Zi ?_
refine rg ?_
refine rg ?_
refine bM csS sZ ?_
refine aO h (ZO _ _) fun r1 h=>?_
refine rg ?_
refine aO h (UK _ _) fun r2 h=>?_
refine rg ?_
refine bl ?_
refine Zy h fun f18 mf18 hf18 h=>?_
refine Zu (α:=Nat×(Q1×Int×(Q3 Int)×Int)) (fun a _=>mkS [(0,Q6),(1,Q5 p1),(5,.str a.2.1),(6,Q5 r2.1),(7,Q5 a.2.2.1)] [(0,some ((0,0),.box [.sl (Q8 csI a.2.2.2.1),Q5 a.2.2.2.2]))] 2) (fun a=>A4 a.1 f18 a.2=some r) (fun a=>a.1) (mf18,r1.1,0,r2.2.l,r2.2.pos) 2 h (sR []) (fun a _ h=>?_)
obtain ⟨mf18,x163,x164,x165,x166⟩:=a
obtain ⟨mf18,rfl,h⟩:=Zz hf18 h
dsimp only at h ⊢
refine Zi ?_
refine rg ?_
refine cS h rfl (fun h=>?_) fun h=>?_
refine bl ?_
refine rg ?_
refine jL h (fun x231=>mkS [(0,Q6),(1,Q5 p1),(5,.str x231),(6,Q5 r2.1),(7,Q5 x164)] [(0,some ((0,0),.box [.sl (Q8 csI x165),Q5 x166]))] 2) (fun k21 h=>?_) fun x231 h=>?_
refine cS h rfl (fun h=>?_) fun h=>?_
refine rg ?_
refine sT h fun s250 h=>?_
exact jn s250 h (sR [])
exact jn x163 h (sR [])
refine rg ?_
refine aO h (UK _ _) fun r232 h=>?_
refine ER h fun k22 hk22 h=>?_
refine DA (α:=Q1×(Q3 Int)×Int) (fun a _=>mkS [(0,Q6),(1,Q5 p1),(5,.str a.1),(6,Q5 r2.1),(7,Q5 x164)] [(0,some ((0,0),.box [.sl (Q8 csI a.2.1),Q5 a.2.2]))] 2) (fun a=>k22 a.1 a.2.1 a.2.2=some r) (Zi ?_) (fun a _ h=>?_)
refine cS h rfl (fun h=>?_) fun h=>?_
refine rg ?_
refine bM csS t7 ?_
refine aO h (ZO _ _) fun r244 h=>?_
refine rg ?_
refine sT h fun s245 h=>?_
refine bM csS t8 ?_
refine aO h (ZO _ _) fun r246 h=>?_
refine sT h fun s247 h=>?_
refine sT h fun s248 h=>?_
refine sT h fun s249 h=>?_
exact jn (s249,r246.2.l,r246.2.pos) h (sR [])
exact jn (x231,r232.2.l,r232.2.pos) h (sR [])
obtain ⟨x239,x240,x241⟩:=a
subst hk22
dsimp only at h ⊢
refine Zi ?_
refine rg ?_
refine aO h (Zmb _ _) fun r242 h=>?_
refine sT h fun s243 h=>?_
refine rg ?_
exact rn (mf18,s243,(w64 (x164+1)),r242.2.l,r242.2.pos) h (sR [])
refine rg ?_
cases h
exact AX rfl rfl rfl rfl rfl}
end
end Go.Proofs.YtmgfammllddkhaaGreatDoor
