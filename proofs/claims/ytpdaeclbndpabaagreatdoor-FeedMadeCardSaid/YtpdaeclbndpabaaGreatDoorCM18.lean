/- Functions of the program as Lean functions. Written by -/
import Derived.Test.YtpdaeclbndpabaaGreatDoorCM17
set_option linter.unusedVariables false
set_option maxHeartbeats 4000000
set_option maxRecDepth 100000
namespace Go.Proofs.YtpdaeclbndpabaaGreatDoor
section
open VL
def Zb2 (p0:ByteArray):Option Bool:=letk (fun (x2:Bool)=>(some x2:Option Bool)) fun k1=>if (decide (p0=(⟨#[]⟩:ByteArray))) then k1 true else (Zaz p0).bind fun r3=>k1 r3
theorem Ze4 (p0:ByteArray) (r:Bool) (h:Zb2 p0=some r):Zb Tryz.prog 121 [.str p0] (.bool r):=by{
refine cF (fun r=>.bool r) h mix Tryz.func121 fun r h=>?_
unfold Zb2 at h
refine Zf ?_
refine rg ?_
refine jL h (fun x2=>mkS [(2,.bool x2)] [] 2) (fun k1 h=>?_) fun x2 h=>?_
refine rg ?_
refine kS 5 h rfl (fun h=>?_) fun h=>?_
iterate 2 refine Zg rfl (Zf ?_)
exact jn true h (sR [])
refine aC h (ZaZ _) fun r3 h=>?_
exact jn r3 h (sR [])
cases h
exact rQ}
def ZeI (p0:List Revision):Option Bool:=letk (fun (x1:Bool)=>if x1 then (some false:Option Bool) else ZE Zaq (fun f13 (x43:Int)=>if (decide (x43<(p0.length:Int))) then (atI p0 x43).bind fun e62=>letk (fun (x65:Bool)=>if x65 then (some false:Option Bool) else f13 (w64 (x43+1))) fun k15=>if (!decide (e62.number=(w64 (x43+1)))) then k15 true else if (!decide (e62.seq=0)) then k15 true else (Zb2 e62.user).bind fun r66=>if (!r66) then k15 true else if (decide (e62.minute<0)) then k15 true else if (decide (52595999<e62.minute)) then k15 true else if (decide (0<x43)) then (atI p0 (w64 (x43-1))).bind fun e67=>k15 (decide (e62.minute<e67.minute)) else k15 false else (some true:Option Bool)) 0) fun k1=>if (decide ((p0.length:Int)<1)) then k1 true else k1 (decide (40<(p0.length:Int)))
theorem Znt (p0:List Revision) (r:Bool) (h:ZeI p0=some r):Zb Tryz.prog 122 [.sl (List.map Revision.cs p0)] (.bool r):=by{
refine cF (fun r=>.bool r) h mix Tryz.func122 fun r h=>?_
unfold ZeI at h
refine Zf ?_
refine rg ?_
refine jL h (fun x1=>mkS [(0,.sl (List.map Revision.cs p0)),(12,.bool x1)] [] 2) (fun k1 h=>?_) fun x1 h=>?_
refine rg ?_
refine lM Revision.cs p0 ?_
refine kS 8 h rfl (fun h=>?_) fun h=>?_
iterate 3 refine Zg rfl (Zf ?_)
exact jn true h (sR [])
refine lM Revision.cs p0 ?_
exact jn (decide (40<(p0.length:Int))) h (sR [])
refine cS h rfl (fun h=>?_) fun h=>?_
refine rg ?_
cases h
exact rQ
refine rg ?_
refine bl ?_
refine Zk h fun f13 mf13 hf13 h=>?_
refine Zi (α:=Nat×Int) (fun a _=>mkS [(0,.sl (List.map Revision.cs p0)),(3,.int .i64 a.2)] [] 2) (fun a=>ZE a.1 f13 a.2=some r) (fun a=>a.1) (mf13,0) 2 h (sR []) (fun a _ h=>?_)
obtain ⟨mf13,x43⟩:=a
obtain ⟨mf13,rfl,h⟩:=Zl hf13 h
dsimp only at h ⊢
refine Zf ?_
refine rg ?_
refine lM Revision.cs p0 ?_
refine cS h rfl (fun h=>?_) fun h=>?_
refine bl ?_
refine rg ?_
refine aI Revision.cs h fun e62 h=>?_
refine jL h (fun x65=>mkS [(0,.sl (List.map Revision.cs p0)),(3,.int .i64 x43),(63,.bool x65)] [] 2) (fun k15 h=>?_) fun x65 h=>?_
refine rg ?_
refine kS 28 h rfl (fun h=>?_) fun h=>?_
iterate 26 refine Zg rfl (Zf ?_)
exact jn true h (sR [])
refine kS 33 h rfl (fun h=>?_) fun h=>?_
iterate 23 refine Zg rfl (Zf ?_)
exact jn true h (sR [])
refine aC h (Ze4 _) fun r66 h=>?_
refine kS 39 h rfl (fun h=>?_) fun h=>?_
iterate 19 refine Zg rfl (Zf ?_)
exact jn true h (sR [])
refine kS 44 h rfl (fun h=>?_) fun h=>?_
iterate 16 refine Zg rfl (Zf ?_)
exact jn true h (sR [])
refine kS 49 h rfl (fun h=>?_) fun h=>?_
iterate 13 refine Zg rfl (Zf ?_)
exact jn true h (sR [])
refine kS 52 h rfl (fun h=>?_) fun h=>?_
refine aI Revision.cs h fun e67 h=>?_
exact jn (decide (e62.minute<e67.minute)) h (sR [])
iterate 9 refine Zg rfl (Zf ?_)
exact jn false h (sR [])
refine cS h rfl (fun h=>?_) fun h=>?_
refine rg ?_
cases h
exact rQ
refine rg ?_
exact rn (mf13,(w64 (x43+1))) h (sR [])
refine rg ?_
cases h
exact rQ}
def Zes (p0:Change):Option Bool:=letk (fun (x5:Bool)=>if x5 then (some false:Option Bool) else letk (fun (x14:Bool)=>if x14 then (some (!decide (p0.user=(⟨#[]⟩:ByteArray))):Option Bool) else if (decide (p0.kind=4)) then letk (fun (x16:Bool)=>(some x16:Option Bool)) fun k8=>(Za9 p0.to).bind fun r17=>if r17 then if (decide (p0.n=0)) then k8 true else k8 (decide (p0.n=1)) else k8 false else if (decide (p0.kind=6)) then letk (fun (x18:Bool)=>(some x18:Option Bool)) fun k9=>if (decide (1<=p0.n)) then k9 (decide (p0.n<=52596000)) else k9 false else if (decide (p0.kind=9)) then letk (fun (x19:Bool)=>(some x19:Option Bool)) fun k10=>if (decide (0<=p0.n)) then k10 (decide (p0.n<=40)) else k10 false else if (decide (p0.kind=10)) then letk (fun (x20:Bool)=>(some x20:Option Bool)) fun k11=>if (decide (1<=p0.n)) then k11 (decide (p0.n<=1073741824)) else k11 false else if (decide (p0.kind=5)) then (ZeI p0.history).bind fun r21=>(some r21:Option Bool) else (some true:Option Bool)) fun k7=>if (decide (p0.kind=7)) then k7 (decide (p0.kind=7)) else k7 (decide (p0.kind=8))) fun k1=>if (!decide (p0.kind=6)) then if (!decide (p0.kind=10)) then (Za9 p0.title).bind fun r22=>if (!r22) then k1 true else (Zb2 p0.user).bind fun r23=>k1 (!r23) else (Zb2 p0.user).bind fun r24=>k1 (!r24) else (Zb2 p0.user).bind fun r25=>k1 (!r25)
theorem ZoV (p0:Change) (r:Bool) (h:Zes p0=some r):Zb Tryz.prog 63 [p0.pv] (.bool r):=by{
refine cF (fun r=>.bool r) h mix Tryz.func63 fun r h=>?_
unfold Zes at h
refine Zf ?_
refine rg ?_
refine jL h (fun x5=>mkS [(1,.ptr 1 (1,1) 0),(22,.bool x5)] [(1,some ((1,1),.box (Change.cs p0)))] 2) (fun k1 h=>?_) fun x5 h=>?_
refine rg ?_
refine kS 6 h rfl (fun h=>?_) fun h=>?_
refine kS 11 h rfl (fun h=>?_) fun h=>?_
refine aC h (Zbq _) fun r22 h=>?_
refine kS 17 h rfl (fun h=>?_) fun h=>?_
iterate 4 refine Zg rfl (Zf ?_)
exact jn true h (sR [(1,1,0)])
refine aC h (Ze4 _) fun r23 h=>?_
exact jn (!r23) h (sR [(1,1,0)])
iterate 4 refine Zg rfl (Zf ?_)
refine aC h (Ze4 _) fun r24 h=>?_
exact jn (!r24) h (sR [(1,1,0)])
iterate 7 refine Zg rfl (Zf ?_)
refine aC h (Ze4 _) fun r25 h=>?_
exact jn (!r25) h (sR [(1,1,0)])
refine cS h rfl (fun h=>?_) fun h=>?_
refine rg ?_
cases h
exact rQ
refine rg ?_
refine bl ?_
refine rg ?_
refine jL h (fun x14=>mkS [(1,.ptr 1 (1,1) 0),(24,.int .i64 p0.kind),(25,.bool x14)] [(1,some ((1,1),.box (Change.cs p0)))] 2) (fun k7 h=>?_) fun x14 h=>?_
refine cS h rfl (fun h=>?_) fun h=>?_
exact jn (decide (p0.kind=7)) h (sR [(1,1,1)])
refine rg ?_
exact jn (decide (p0.kind=8)) h (sR [(1,1,1)])
refine cS h rfl (fun h=>?_) fun h=>?_
refine rg ?_
cases h
exact rQ
refine rg ?_
refine cS h rfl (fun h=>?_) fun h=>?_
refine jL h (fun x16=>mkS [(2,.bool x16)] [] 2) (fun k8 h=>?_) fun x16 h=>?_
refine rg ?_
refine aC h (Zbq _) fun r17 h=>?_
refine kS 36 h rfl (fun h=>?_) fun h=>?_
refine kS 40 h rfl (fun h=>?_) fun h=>?_
iterate 3 refine Zg rfl (Zf ?_)
exact jn true h (sR [])
exact jn (decide (p0.n=1)) h (sR [])
iterate 8 refine Zg rfl (Zf ?_)
exact jn false h (sR [])
cases h
exact rQ
refine rg ?_
refine cS h rfl (fun h=>?_) fun h=>?_
refine jL h (fun x18=>mkS [(2,.bool x18)] [] 2) (fun k9 h=>?_) fun x18 h=>?_
refine rg ?_
refine kS 51 h rfl (fun h=>?_) fun h=>?_
exact jn (decide (p0.n<=52596000)) h (sR [])
iterate 3 refine Zg rfl (Zf ?_)
exact jn false h (sR [])
cases h
exact rQ
refine rg ?_
refine cS h rfl (fun h=>?_) fun h=>?_
refine jL h (fun x19=>mkS [(2,.bool x19)] [] 2) (fun k10 h=>?_) fun x19 h=>?_
refine rg ?_
refine kS 61 h rfl (fun h=>?_) fun h=>?_
exact jn (decide (p0.n<=40)) h (sR [])
iterate 3 refine Zg rfl (Zf ?_)
exact jn false h (sR [])
cases h
exact rQ
refine rg ?_
refine cS h rfl (fun h=>?_) fun h=>?_
refine jL h (fun x20=>mkS [(2,.bool x20)] [] 2) (fun k11 h=>?_) fun x20 h=>?_
refine rg ?_
refine kS 71 h rfl (fun h=>?_) fun h=>?_
exact jn (decide (p0.n<=1073741824)) h (sR [])
iterate 3 refine Zg rfl (Zf ?_)
exact jn false h (sR [])
cases h
exact rQ
refine rg ?_
refine cS h rfl (fun h=>?_) fun h=>?_
refine rg ?_
refine aC h (Znt _) fun r21 h=>?_
cases h
exact rQ
refine rg ?_
cases h
exact rQ}
def ZdU (p0:Change):Option Int:=(ZiL p0).bind fun r1=>if (!r1) then (some 7:Option Int) else (Zes p0).bind fun r2=>if (!r2) then (some 2:Option Int) else letk (fun (x3:Bool)=>if x3 then (some 3:Option Int) else ZE Zaq (fun f13 (x45:Int)=>if (decide (x45<(p0.history.length:Int))) then letk (fun (x63:Bool)=>if x63 then (some 3:Option Int) else f13 (w64 (x45+1))) fun k15=>(atI p0.history x45).bind fun e64=>if (decide (8192<(e64.text.size:Int))) then k15 true else (atI p0.history x45).bind fun e65=>k15 (decide (200<(e65.note.size:Int))) else (some 0:Option Int)) 0) fun k1=>if (decide (8192<(p0.text.size:Int))) then k1 true else k1 (decide (200<(p0.note.size:Int)))
theorem Zqk (p0:Change) (r:Int) (h:ZdU p0=some r):Zb Tryz.prog 32 [p0.pv] (.int .i64 r):=by{
refine cF (fun r=>.int .i64 r) h mix Tryz.func32 fun r h=>?_
unfold ZdU at h
refine Zf ?_
refine rg ?_
refine rg ?_
refine aC h (Zsf _) fun r1 h=>?_
refine cS h rfl (fun h=>?_) fun h=>?_
refine rg ?_
cases h
exact rQ
refine rg ?_
refine aC h (ZoV _) fun r2 h=>?_
refine cS h rfl (fun h=>?_) fun h=>?_
refine rg ?_
cases h
exact rQ
refine jL h (fun x3=>mkS [(1,.ptr 1 (1,1) 0),(19,.bool x3)] [(1,some ((1,1),.box (Change.cs p0)))] 2) (fun k1 h=>?_) fun x3 h=>?_
refine rg ?_
refine kS 14 h rfl (fun h=>?_) fun h=>?_
iterate 4 refine Zg rfl (Zf ?_)
exact jn true h (sR [(1,1,0)])
exact jn (decide (200<(p0.note.size:Int))) h (sR [(1,1,0)])
refine cS h rfl (fun h=>?_) fun h=>?_
refine rg ?_
cases h
exact rQ
refine rg ?_
refine bl ?_
refine Zk h fun f13 mf13 hf13 h=>?_
refine Zi (α:=Nat×Int) (fun a _=>mkS [(1,.ptr 1 (1,1) 0),(3,.int .i64 a.2)] [(1,some ((1,1),.box (Change.cs p0)))] 2) (fun a=>ZE a.1 f13 a.2=some r) (fun a=>a.1) (mf13,0) 2 h (sR [(1,1,1)]) (fun a _ h=>?_)
obtain ⟨mf13,x45⟩:=a
obtain ⟨mf13,rfl,h⟩:=Zl hf13 h
dsimp only at h ⊢
refine Zf ?_
refine rg ?_
refine lM Revision.cs p0.history ?_
refine cS h rfl (fun h=>?_) fun h=>?_
refine bl ?_
refine jL h (fun x63=>mkS [(1,.ptr 1 (1,1) 0),(3,.int .i64 x45),(44,.bool x63)] [(1,some ((1,1),.box (Change.cs p0)))] 2) (fun k15 h=>?_) fun x63 h=>?_
refine rg ?_
refine aI Revision.cs h fun e64 h=>?_
refine kS 35 h rfl (fun h=>?_) fun h=>?_
iterate 8 refine Zg rfl (Zf ?_)
exact jn true h (sR [(1,1,1)])
refine aI Revision.cs h fun e65 h=>?_
exact jn (decide (200<(e65.note.size:Int))) h (sR [(1,1,1)])
refine cS h rfl (fun h=>?_) fun h=>?_
refine rg ?_
cases h
exact rQ
refine rg ?_
exact rn (mf13,(w64 (x45+1))) h (sR [(1,1,1)])
refine rg ?_
cases h
exact rQ}
def Zea (p0:Int) (p1:Int):Option Int:=(Zyi .i64 p0 p1).bind fun q1=>letk (fun (x2:Int)=>(some x2:Option Int)) fun k1=>if (decide (q1<0)) then k1 (w64 (q1+p1)) else k1 q1
theorem Zfh (p0:Int) (p1:Int) (r:Int) (h:Zea p0 p1=some r):Zb Tryz.prog 8 [.int .i64 p0,.int .i64 p1] (.int .i64 r):=by{
refine cF (fun r=>.int .i64 r) h mix Tryz.func8 fun r h=>?_
unfold Zea at h
refine Zf ?_
refine rg ?_
refine rg ?_
obtain ⟨q1,h1,h⟩:=bnd h
refine Zwe rfl h1 rfl rfl (Zf ?_)
refine rg ?_
refine jL h (fun x2=>mkS [(5,.int .i64 x2)] [] 2) (fun k1 h=>?_) fun x2 h=>?_
refine cS h rfl (fun h=>?_) fun h=>?_
refine rg ?_
exact jn (w64 (q1+p1)) h (sR [])
exact jn q1 h (sR [])
refine rg ?_
cases h
exact rQ}
def Zi2 (p0:List Int):Option SrcF:=ZE Zaq (fun f7 ((x23,x24):Int×Int)=>letk (fun (x30:Bool)=>if x30 then (atI p0 x23).bind fun e33=>(ZmW .u64 (IntKind.wrap .u64 ((ZsZ .xor .u64 x24 (IntKind.wrap .u64 e33)) * 18397679294719823053)) 33).bind fun q34=>f7 ((w64 (x23+1)),(ZsZ .xor .u64 (IntKind.wrap .u64 ((ZsZ .xor .u64 x24 (IntKind.wrap .u64 e33)) * 18397679294719823053)) q34)) else (some (⟨p0,0,x24⟩:SrcF):Option SrcF)) fun k8=>if (decide (x23<(p0.length:Int))) then k8 (decide (x23<64)) else k8 false) (0,11400714819323198485)
theorem Zn2 (p0:List Int) (r:SrcF) (h:Zi2 p0=some r):ContractN Tryz.prog 11 [.sl (List.map csI p0)] (.box r.cs):=by{
refine Zid (O:=fun r=>.box r.cs) h mix Tryz.func11 (by kernel_rfl) rfl (by kernel_rfl) fun r h=>?_
unfold Zi2 at h
refine Zf ?_
refine rg ?_
refine rg ?_
refine rg ?_
refine bl ?_
refine Zk h fun f7 mf7 hf7 h=>?_
refine Zi (α:=Nat×(Int×Int)) (fun a _=>mkS [(0,.sl (List.map csI p0)),(3,.ptr 7 (1,7) 0),(4,.int .i64 a.2.1)] [(7,some ((1,7),.box [.sl (List.map csI p0),.int .i64 0,.int .u64 a.2.2]))] 2) (fun a=>ZE a.1 f7 a.2=some r) (fun a=>a.1) (mf7,0,11400714819323198485) 2 h (sR [(7,2,2)]) (fun a _ h=>?_)
obtain ⟨mf7,x23,x24⟩:=a
obtain ⟨mf7,rfl,h⟩:=Zl hf7 h
dsimp only at h ⊢
refine Zf ?_
refine jL h (fun x30=>mkS [(0,.sl (List.map csI p0)),(3,.ptr 7 (1,7) 0),(4,.int .i64 x23),(15,.bool x30)] [(7,some ((1,7),.box [.sl (List.map csI p0),.int .i64 0,.int .u64 x24]))] 2) (fun k8 h=>?_) fun x30 h=>?_
refine rg ?_
refine lM csI p0 ?_
refine kS 12 h rfl (fun h=>?_) fun h=>?_
exact jn (decide (x23<64)) h (sR [(7,1,7)])
iterate 2 refine Zg rfl (Zf ?_)
exact jn false h (sR [(7,1,7)])
refine cS h rfl (fun h=>?_) fun h=>?_
refine bl ?_
refine rg ?_
refine aI csI h fun e33 h=>?_
refine rg ?_
obtain ⟨q34,h24,h⟩:=bnd h
refine Zil rfl h24 rfl rfl (Zf ?_)
refine rg ?_
exact rn (mf7,(w64 (x23+1)),(ZsZ .xor .u64 (IntKind.wrap .u64 ((ZsZ .xor .u64 x24 (IntKind.wrap .u64 e33)) * 18397679294719823053)) q34)) h (sR [(7,1,7)])
refine rg ?_
injection h with h
subst h
exact Zup (t:=7) (g:=(1,7)) (o2:=.box [.sl (List.map csI p0),.int .i64 0,.int .u64 x24]) rfl rfl rfl}
def Zz (p0:SrcF) (p1:Int):Option (Int×SrcF):=if (decide (p0.pos<(p0.l.length:Int))) then (atI p0.l (w64 ((w64 (p0.pos+1))-1))).bind fun e3=>(Zea e3 p1).bind fun r4=>(some (r4,(⟨p0.l,(w64 (p0.pos+1)),p0.seed⟩:SrcF)):Option (Int×SrcF)) else (ZmW .u64 (IntKind.wrap .u64 ((IntKind.wrap .u64 (p0.seed * 6364136223846793005))+1442695040888963407)) 33).bind fun q5=>(Zyi .u64 q5 (IntKind.wrap .u64 p1)).bind fun q6=>(some ((IntKind.wrap .i64 q6),(⟨p0.l,p0.pos,(IntKind.wrap .u64 ((IntKind.wrap .u64 (p0.seed * 6364136223846793005))+1442695040888963407))⟩:SrcF)):Option (Int×SrcF))
theorem ZB (p0:SrcF) (p1:Int) (r:Int×SrcF) (h:Zz p0 p1=some r):Contract Tryz.prog 12 [.ptr 0 (0,0) 0,.int .i64 p1] (some (0,p0.cs)) (.int .i64 r.1) (r.2).cs:=by{
refine Za4 (R:=fun r=>.int .i64 r.1) (O:=fun r=>(r.2).cs) h mix Tryz.func12 (by kernel_rfl) rfl (by kernel_rfl) fun r h=>?_
unfold Zz at h
refine Zf ?_
refine rg ?_
refine rg ?_
refine lM csI p0.l ?_
refine cS h rfl (fun h=>?_) fun h=>?_
refine rg ?_
refine rg ?_
refine aI csI h fun e3 h=>?_
refine aC h (Zfh _ _) fun r4 h=>?_
cases h
exact Zgh rfl rfl rfl rfl rfl
refine rg ?_
refine rg ?_
obtain ⟨q5,h5,h⟩:=bnd h
refine Zil rfl h5 rfl rfl (Zf ?_)
obtain ⟨q6,h6,h⟩:=bnd h
refine Zwe rfl h6 rfl rfl (Zf ?_)
cases h
exact Zgh rfl rfl rfl rfl rfl}
def Zfi:Option (List Title):=(some [(⟨0,(⟨#[65]⟩:ByteArray)⟩:Title),(⟨0,(⟨#[66]⟩:ByteArray)⟩:Title),(⟨0,(⟨#[65,47,67]⟩:ByteArray)⟩:Title),(⟨3,(⟨#[84]⟩:ByteArray)⟩:Title),(⟨4,(⟨#[88]⟩:ByteArray)⟩:Title),(⟨4,(⟨#[89]⟩:ByteArray)⟩:Title),(⟨2,(⟨#[65,110,110]⟩:ByteArray)⟩:Title),(⟨0,(⟨#[68]⟩:ByteArray)⟩:Title)]:Option (List Title))
theorem ZhF  (r:List Title) (h:Zfi=some r):Zb Tryz.prog 9 [] (.sl (List.map Title.cs r)):=by{
refine cF (fun r=>.sl (List.map Title.cs r)) h mix Tryz.func9 fun r h=>?_
unfold Zfi at h
refine Zf ?_
refine rg ?_
refine rg ?_
refine ZF (M:=([(⟨0,(⟨#[65]⟩:ByteArray)⟩:Title),(⟨0,(⟨#[66]⟩:ByteArray)⟩:Title),(⟨0,(⟨#[65,47,67]⟩:ByteArray)⟩:Title),(⟨3,(⟨#[84]⟩:ByteArray)⟩:Title),(⟨4,(⟨#[88]⟩:ByteArray)⟩:Title),(⟨4,(⟨#[89]⟩:ByteArray)⟩:Title),(⟨2,(⟨#[65,110,110]⟩:ByteArray)⟩:Title),(⟨0,(⟨#[68]⟩:ByteArray)⟩:Title)]:List Title)) (f:=Title.cs) rfl rfl rfl rfl (Nat.le_of_ble_eq_true rfl) rfl (Zf ?_)
cases h
exact rQ}
def ZfJ:Option Title:=(some (⟨5,(⟨#[80,111,108,105,99,121]⟩:ByteArray)⟩:Title):Option Title)
theorem ZkC  (r:Title) (h:ZfJ=some r):Zb Tryz.prog 36 [] (r.pv):=by{
refine cF (fun r=>r.pv) h mix Tryz.func36 fun r h=>?_
unfold ZfJ at h
refine Zf ?_
refine rg ?_
refine rg ?_
cases h
exact rQ}
def ZfK (p0:SrcF):Option (Title×SrcF):=(Zfi).bind fun r1=>(Zz p0 8).bind fun r2=>(atI r1 r2.1).bind fun e3=>(some (e3,r2.2):Option (Title×SrcF))
theorem Zi3 (p0:SrcF) (r:Title×SrcF) (h:ZfK p0=some r):Contract Tryz.prog 14 [.ptr 0 (0,0) 0] (some (0,p0.cs)) (r.1.pv) (r.2).cs:=by{
refine Za4 (R:=fun r=>r.1.pv) (O:=fun r=>(r.2).cs) h mix Tryz.func14 (by kernel_rfl) rfl (by kernel_rfl) fun r h=>?_
unfold ZfK at h
refine Zf ?_
refine rg ?_
refine rg ?_
refine aC h ZhF fun r1 h=>?_
refine aO h (ZB _ _) fun r2 h=>?_
refine aI Title.cs h fun e3 h=>?_
cases h
exact Zgh rfl rfl rfl rfl rfl}
def ZhG (p0:SrcF):Option (ByteArray×SrcF):=(Zz p0 5).bind fun r1=>(atI ([(⟨#[97,110,110]⟩:ByteArray),(⟨#[98,111,98]⟩:ByteArray),(⟨#[]⟩:ByteArray),(⟨#[99,121]⟩:ByteArray),(⟨#[97,110,110]⟩:ByteArray)]:List ByteArray) r1.1).bind fun c2=>(some (c2,r1.2):Option (ByteArray×SrcF))
theorem ZkD (p0:SrcF) (r:ByteArray×SrcF) (h:ZhG p0=some r):Contract Tryz.prog 28 [.ptr 0 (0,0) 0] (some (0,p0.cs)) (.str r.1) (r.2).cs:=by{
refine Za4 (R:=fun r=>.str r.1) (O:=fun r=>(r.2).cs) h mix Tryz.func28 (by kernel_rfl) rfl (by kernel_rfl) fun r h=>?_
unfold ZhG at h
refine Zf ?_
refine rg ?_
refine rg ?_
refine aO h (ZB _ _) fun r1 h=>?_
obtain ⟨c2,h2,h⟩:=bnd h
refine Zpy (p:=PV.str) rfl h2 rfl rfl rfl rfl rfl (Zf ?_)
cases h
exact Zgh rfl rfl rfl rfl rfl}
def ZmM:Option (List ByteArray):=(some [(⟨#[]⟩:ByteArray),(⟨#[97,110,110]⟩:ByteArray),(⟨#[98,111,98]⟩:ByteArray),(⟨#[99,121]⟩:ByteArray)]:Option (List ByteArray))
theorem Zrl  (r:List ByteArray) (h:ZmM=some r):Zb Tryz.prog 7 [] (.sl (List.map csS r)):=by{
refine cF (fun r=>.sl (List.map csS r)) h mix Tryz.func7 fun r h=>?_
unfold ZmM at h
refine Zf ?_
refine rg ?_
refine rg ?_
refine bM csS ([(⟨#[]⟩:ByteArray),(⟨#[97,110,110]⟩:ByteArray),(⟨#[98,111,98]⟩:ByteArray),(⟨#[99,121]⟩:ByteArray)]:List ByteArray) ?_
cases h
exact rQ}
def Zi4 (p0:SrcF):Option (ByteArray×SrcF):=(Zz p0 3).bind fun r1=>(atI ([(⟨#[]⟩:ByteArray),(⟨#[110,111,116,101]⟩:ByteArray),(⟨#[97,95,98,32,126]⟩:ByteArray)]:List ByteArray) r1.1).bind fun c2=>(some (c2,r1.2):Option (ByteArray×SrcF))
theorem Zn3 (p0:SrcF) (r:ByteArray×SrcF) (h:Zi4 p0=some r):Contract Tryz.prog 160 [.ptr 0 (0,0) 0] (some (0,p0.cs)) (.str r.1) (r.2).cs:=by{
refine Za4 (R:=fun r=>.str r.1) (O:=fun r=>(r.2).cs) h mix Tryz.func160 (by kernel_rfl) rfl (by kernel_rfl) fun r h=>?_
unfold Zi4 at h
refine Zf ?_
refine rg ?_
refine rg ?_
refine aO h (ZB _ _) fun r1 h=>?_
obtain ⟨c2,h2,h⟩:=bnd h
refine Zpy (p:=PV.str) rfl h2 rfl rfl rfl rfl rfl (Zf ?_)
cases h
exact Zgh rfl rfl rfl rfl rfl}
end
def ZwT:ByteArray:=⟨#[97,108,108,111,119,32,114,101,97,100,32,97,108,108,32,60,97,108,108,62,10,97,108,108,111,119,32,101,100,105,116,32,97,108,108,32,60,97,108,108,62,10,97,108,108,111,119,32,109,111,118,101,32,97,108,108,32,60,97,108,108,62,10,97,108,108,111,119,32,100,101,108,101,116,101,32,97,108,108,32,60,97,108,108,62,10,97,108,108,111,119,32,114,101,118,105,101,119,32,97,108,108,32,60,97,108,108,62,10]⟩
def ZwU:ByteArray:=⟨#[97,108,108,111,119,32,114,101,97,100,32,97,108,108,32,60,97,108,108,62,10,97,108,108,111,119,32,101,100,105,116,32,97,108,108,32,60,97,108,108,62,10,97,108,108,111,119,32,109,111,118,101,32,97,108,108,32,60,97,108,108,62,10,97,108,108,111,119,32,100,101,108,101,116,101,32,97,108,108,32,60,97,108,108,62,10,97,108,108,111,119,32,114,101,118,105,101,119,32,97,108,108,32,60,97,108,108,62,10,103,114,111,117,112,32,115,116,97,102,102,32,97,110,110,10,100,101,110,121,32,114,101,97,100,32,97,108,108,32,65,10,97,108,108,111,119,32,114,101,97,100,32,115,116,97,102,102,32,65,47,67,10]⟩
def ZwV:ByteArray:=⟨#[97,108,108,111,119,32,114,101,97,100,32,97,108,108,32,60,97,108,108,62,10,97,108,108,111,119,32,101,100,105,116,32,97,108,108,32,60,97,108,108,62,10,97,108,108,111,119,32,109,111,118,101,32,97,108,108,32,60,97,108,108,62,10,97,108,108,111,119,32,100,101,108,101,116,101,32,97,108,108,32,60,97,108,108,62,10,97,108,108,111,119,32,114,101,118,105,101,119,32,97,108,108,32,60,97,108,108,62,10,103,114,111,117,112,32,115,116,97,102,102,32,97,110,110,10,103,117,97,114,100,32,115,116,97,102,102,32,65,32,124,32,83,10,115,116,114,105,99,116,32,115,116,97,102,102,32,84,101,109,112,108,97,116,101,58,84,10,103,117,97,114,100,32,115,116,97,102,102,32,66,10]⟩
def ZwW:ByteArray:=⟨#[103,114,111,117,112,32,115,116,97,102,102,32,97,110,110,32,64,109,111,114,101,10,103,114,111,117,112,32,109,111,114,101,32,98,111,98,10,97,108,108,111,119,32,114,101,97,100,32,97,108,108,32,60,77,97,105,110,62,10,97,108,108,111,119,32,114,101,97,100,32,97,108,108,32,60,84,101,109,112,108,97,116,101,62,10,97,108,108,111,119,32,114,101,97,100,32,97,108,108,32,60,67,97,116,101,103,111,114,121,62,10,97,108,108,111,119,32,101,100,105,116,32,117,115,101,114,115,32,60,77,97,105,110,62,10,97,108,108,111,119,32,101,100,105,116,32,115,116,97,102,102,32,60,67,97,116,101,103,111,114,121,62,10,97,108,108,111,119,32,114,101,118,105,101,119,32,115,116,97,102,102,32,60,97,108,108,62,10,97,108,108,111,119,32,109,111,118,101,32,115,116,97,102,102,32,60,97,108,108,62,10,97,108,108,111,119,32,100,101,108,101,116,101,32,115,116,97,102,102,32,60,97,108,108,62,10,97,108,108,111,119,32,114,101,97,100,32,115,116,97,102,102,32,60,97,108,108,62,10,97,108,108,111,119,32,101,100,105,116,32,115,116,97,102,102,32,60,97,108,108,62,10]⟩
def ZwX:ByteArray:=⟨#[97,108,108,111,119,32,114,101,97,100,32,97,108,108,32,60,97,108,108,62,10,97,108,108,111,119,32,101,100,105,116,32,97,108,108,32,60,97,108,108,62,10,97,108,108,111,119,32,109,111,118,101,32,97,108,108,32,60,97,108,108,62,10,97,108,108,111,119,32,100,101,108,101,116,101,32,97,108,108,32,60,97,108,108,62,10,97,108,108,111,119,32,114,101,118,105,101,119,32,97,108,108,32,60,97,108,108,62,10,100,101,110,121,32,114,101,97,100,32,97,108,108,32,66,10,100,101,110,121,32,114,101,97,100,32,97,108,108,32,67,97,116,101,103,111,114,121,58,89,10]⟩
def ZwY:ByteArray:=⟨#[97,108,108,111,119,32,114,101,97,100,32,97,108,108,32,60,97,108,108,62,10,97,108,108,111,119,32,101,100,105,116,32,97,108,108,32,60,97,108,108,62,10,97,108,108,111,119,32,109,111,118,101,32,97,108,108,32,60,97,108,108,62,10,97,108,108,111,119,32,100,101,108,101,116,101,32,97,108,108,32,60,97,108,108,62,10,97,108,108,111,119,32,114,101,118,105,101,119,32,97,108,108,32,60,97,108,108,62,10,100,101,110,121,32,101,100,105,116,32,97,108,108,32,66,10,100,101,110,121,32,114,101,97,100,32,117,115,101,114,115,32,68,10]⟩
def ZwZ:ByteArray:=⟨#[97,108,108,111,119,32,114,101,97,100,32,97,108,108,32,60,97,108,108,62,10,97,108,108,111,119,32,101,100,105,116,32,97,108,108,32,60,97,108,108,62,10,97,108,108,111,119,32,109,111,118,101,32,97,108,108,32,60,97,108,108,62,10,97,108,108,111,119,32,100,101,108,101,116,101,32,97,108,108,32,60,97,108,108,62,10,97,108,108,111,119,32,114,101,118,105,101,119,32,97,108,108,32,60,97,108,108,62,10]⟩
def Zw0:ByteArray:=⟨#[97,108,108,111,119,32,114,101,97,100,32,97,108,108,32,60,97,108,108,62,10,97,108,108,111,119,32,101,100,105,116,32,97,108,108,32,60,97,108,108,62,10,97,108,108,111,119,32,109,111,118,101,32,97,108,108,32,60,97,108,108,62,10,97,108,108,111,119,32,100,101,108,101,116,101,32,97,108,108,32,60,97,108,108,62,10,97,108,108,111,119,32,114,101,118,105,101,119,32,97,108,108,32,60,97,108,108,62,10,103,114,111,117,112,32,115,116,97,102,102,32,97,110,110,10,100,101,110,121,32,114,101,118,105,101,119,32,97,108,108,32,60,97,108,108,62,10,97,108,108,111,119,32,114,101,118,105,101,119,32,115,116,97,102,102,32,60,77,97,105,110,62,10,103,117,97,114,100,32,115,116,97,102,102,32,65,10,103,117,97,114,100,32,115,116,97,102,102,32,68,10]⟩
def policyG:List ByteArray:=[ZwT,ZwU,ZwV,ZwW,ZwX,ZwY,ZwZ,Zw0]
def Zwd:List ByteArray:=[(⟨#[112,108,97,105,110,32,119,111,114,100,115,32]⟩:ByteArray),(⟨#[91,91,65,93,93,32]⟩:ByteArray),(⟨#[91,91,66,124,98,101,101,93,93,32]⟩:ByteArray),(⟨#[91,91,67,97,116,101,103,111,114,121,58,88,93,93]⟩:ByteArray),(⟨#[91,91,67,97,116,101,103,111,114,121,58,88,124,107,93,93]⟩:ByteArray),(⟨#[91,91,67,97,116,101,103,111,114,121,58,89,93,93]⟩:ByteArray),(⟨#[123,123,116,124,49,125,125]⟩:ByteArray),(⟨#[123,123,58,66,125,125,32]⟩:ByteArray),(⟨#[123,123,58,65,47,67,125,125]⟩:ByteArray),(⟨#[123,123,35,105,102,101,120,105,115,116,58,66,124,121,101,115,124,110,111,125,125,32]⟩:ByteArray),(⟨#[123,123,35,105,102,101,120,105,115,116,58,68,124,121,101,115,124,110,111,125,125]⟩:ByteArray),(⟨#[123,123,35,109,101,109,98,101,114,115,58,88,125,125,32]⟩:ByteArray),(⟨#[123,123,35,100,97,116,101,58,89,45,109,45,100,125,125,32]⟩:ByteArray),(⟨#[123,123,35,100,97,116,101,58,72,58,105,125,125,32]⟩:ByteArray),(⟨#[123,123,35,114,105,103,104,116,58,101,100,105,116,124,65,124,101,124,110,125,125,32]⟩:ByteArray),(⟨#[123,123,35,114,101,118,105,115,105,111,110,58,65,125,125,32]⟩:ByteArray),(⟨#[10,61,61,32,83,32,61,61,10,98,111,100,121,10]⟩:ByteArray),(⟨#[10,61,61,32,82,32,61,61,10,114,101,115,116,10]⟩:ByteArray),(⟨#[60,110,111,105,110,99,108,117,100,101,62,123,123,116,125,125,60,47,110,111,105,110,99,108,117,100,101,62]⟩:ByteArray),(⟨#[60,105,110,99,108,117,100,101,111,110,108,121,62,91,91,68,93,93,60,47,105,110,99,108,117,100,101,111,110,108,121,62]⟩:ByteArray),(⟨#[123,123,123,49,124,100,125,125,125,32]⟩:ByteArray),(⟨#[10,42,32,105,116,101,109,10]⟩:ByteArray),(⟨#[115,101,99,114,101,116,32]⟩:ByteArray),(⟨#[91,91,84,101,109,112,108,97,116,101,58,84,93,93]⟩:ByteArray),(⟨#[123,123,58,67,97,116,101,103,111,114,121,58,89,125,125]⟩:ByteArray),(⟨#[119,111,114,100,115,32,91,91,68,93,93,32,119,111,114,100,115]⟩:ByteArray),(⟨#[39,39,120,39,39,32]⟩:ByteArray),(⟨#[123,123,35,109,101,109,98,101,114,115,58,89,125,125]⟩:ByteArray)]
section
open VL
def ZgI (p0:SrcF):Option (ByteArray×SrcF):=(Zz p0 8).bind fun r1=>(atI policyG r1.1).bind fun c2=>(some (c2,r1.2):Option (ByteArray×SrcF))
theorem ZpZ (p0:SrcF) (r:ByteArray×SrcF) (h:ZgI p0=some r):Contract Tryz.prog 27 [.ptr 0 (0,0) 0] (some (0,p0.cs)) (.str r.1) (r.2).cs:=by{
refine Za4 (R:=fun r=>.str r.1) (O:=fun r=>(r.2).cs) h mix Tryz.func27 (by kernel_rfl) rfl (by kernel_rfl) fun r h=>?_
unfold ZgI at h
refine Zf ?_
refine rg ?_
refine rg ?_
refine aO h (ZB _ _) fun r1 h=>?_
obtain ⟨c2,h2,h⟩:=bnd h
refine Zpy (p:=PV.str) rfl h2 rfl rfl rfl rfl rfl (Zf ?_)
cases h
exact Zgh rfl rfl rfl rfl rfl}
def ZiF (p0:SrcF):Option (ByteArray×SrcF):=(Zz p0 28).bind fun r1=>(atI Zwd r1.1).bind fun c2=>(some (c2,r1.2):Option (ByteArray×SrcF))
theorem ZrZ (p0:SrcF) (r:ByteArray×SrcF) (h:ZiF p0=some r):Contract Tryz.prog 57 [.ptr 0 (0,0) 0] (some (0,p0.cs)) (.str r.1) (r.2).cs:=by{
refine Za4 (R:=fun r=>.str r.1) (O:=fun r=>(r.2).cs) h mix Tryz.func57 (by kernel_rfl) rfl (by kernel_rfl) fun r h=>?_
unfold ZiF at h
refine Zf ?_
refine rg ?_
refine rg ?_
refine aO h (ZB _ _) fun r1 h=>?_
obtain ⟨c2,h2,h⟩:=bnd h
refine Zpy (p:=PV.str) rfl h2 rfl rfl rfl rfl rfl (Zf ?_)
cases h
exact Zgh rfl rfl rfl rfl rfl}
def ZhZ (p0:SrcF):Option (ByteArray×SrcF):=(Zz p0 12).bind fun r1=>letk (fun (x6:ByteArray) (x7:List Int) (x8:Int) (x9:Int)=>(Zz (⟨x7,x8,x9⟩:SrcF) 5).bind fun r10=>ZE Zaq (fun f3 ((x32,x33,x34,x35,x36):ByteArray×Int×(List Int)×Int×Int)=>if (decide (0<x33)) then (ZiF (⟨x34,x35,x36⟩:SrcF)).bind fun r43=>(Zl6 x32 r43.1).bind fun s44=>f3 (s44,(w64 (x33-1)),r43.2.l,r43.2.pos,r43.2.seed) else (some (x32,(⟨x34,x35,x36⟩:SrcF)):Option (ByteArray×SrcF))) (x6,r10.1,r10.2.l,r10.2.pos,r10.2.seed)) fun k1=>if (decide (r1.1=0)) then (Zz r1.2 3).bind fun r45=>(atI ([(⟨#[66]⟩:ByteArray),(⟨#[65]⟩:ByteArray),(⟨#[84,101,109,112,108,97,116,101,58,84]⟩:ByteArray)]:List ByteArray) r45.1).bind fun c46=>(Zl6 (⟨#[35,82,69,68,73,82,69,67,84,32,91,91]⟩:ByteArray) c46).bind fun s47=>(Zl6 s47 (⟨#[93,93,32]⟩:ByteArray)).bind fun s48=>k1 s48 r45.2.l r45.2.pos r45.2.seed else k1 (⟨#[]⟩:ByteArray) r1.2.l r1.2.pos r1.2.seed
theorem Zlc (p0:SrcF) (r:ByteArray×SrcF) (h:ZhZ p0=some r):Contract Tryz.prog 29 [.ptr 0 (0,0) 0] (some (0,p0.cs)) (.str r.1) (r.2).cs:=by{
refine Za4 (R:=fun r=>.str r.1) (O:=fun r=>(r.2).cs) h mix Tryz.func29 (by kernel_rfl) rfl (by kernel_rfl) fun r h=>?_
unfold ZhZ at h
refine Zf ?_
refine rg ?_
refine rg ?_
refine rg ?_
refine aO h (ZB _ _) fun r1 h=>?_
refine Zag h fun k1 hk1 h=>?_
refine Zax (α:=ByteArray×(List Int)×Int×Int) (fun a _=>mkS [(0,.ptr 0 (0,0) 0),(3,.str a.1)] [(0,some ((0,0),.box [.sl (List.map csI a.2.1),.int .i64 a.2.2.1,.int .u64 a.2.2.2]))] 2) (fun a=>k1 a.1 a.2.1 a.2.2.1 a.2.2.2=some r) (Zf ?_) (fun a _ h=>?_)
refine cS h rfl (fun h=>?_) fun h=>?_
refine rg ?_
refine aO h (ZB _ _) fun r45 h=>?_
obtain ⟨c46,h32,h⟩:=bnd h
refine Zpy (p:=PV.str) rfl h32 rfl rfl rfl rfl rfl (Zf ?_)
refine sT h fun s47 h=>?_
refine sT h fun s48 h=>?_
exact jn (s48,r45.2.l,r45.2.pos,r45.2.seed) h (sR [])
exact jn ((⟨#[]⟩:ByteArray),r1.2.l,r1.2.pos,r1.2.seed) h (sR [])
obtain ⟨x6,x7,x8,x9⟩:=a
subst hk1
dsimp only at h ⊢
refine Zf ?_
refine rg ?_
refine aO h (ZB _ _) fun r10 h=>?_
refine bl ?_
refine Zk h fun f3 mf3 hf3 h=>?_
refine Zi (α:=Nat×(ByteArray×Int×(List Int)×Int×Int)) (fun a _=>mkS [(0,.ptr 0 (0,0) 0),(3,.str a.2.1),(4,.int .i64 a.2.2.1)] [(0,some ((0,0),.box [.sl (List.map csI a.2.2.2.1),.int .i64 a.2.2.2.2.1,.int .u64 a.2.2.2.2.2]))] 2) (fun a=>ZE a.1 f3 a.2=some r) (fun a=>a.1) (mf3,x6,r10.1,r10.2.l,r10.2.pos,r10.2.seed) 2 h (sR []) (fun a _ h=>?_)
obtain ⟨mf3,x32,x33,x34,x35,x36⟩:=a
obtain ⟨mf3,rfl,h⟩:=Zl hf3 h
dsimp only at h ⊢
refine Zf ?_
refine rg ?_
refine cS h rfl (fun h=>?_) fun h=>?_
refine bl ?_
refine rg ?_
refine aO h (ZrZ _) fun r43 h=>?_
refine sT h fun s44 h=>?_
refine rg ?_
exact rn (mf3,s44,(w64 (x33-1)),r43.2.l,r43.2.pos,r43.2.seed) h (sR [])
refine rg ?_
cases h
exact Zgh rfl rfl rfl rfl rfl}
end
end Go.Proofs.YtpdaeclbndpabaaGreatDoor
