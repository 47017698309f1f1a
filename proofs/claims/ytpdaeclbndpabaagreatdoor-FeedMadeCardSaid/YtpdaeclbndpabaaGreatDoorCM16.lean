/- Functions of the program as Lean functions. Written by -/
import Derived.Test.YtpdaeclbndpabaaGreatDoorCM06
import Derived.Test.YtpdaeclbndpabaaGreatDoorCM15
set_option linter.unusedVariables false
set_option maxHeartbeats 4000000
set_option maxRecDepth 100000
namespace Go.Proofs.YtpdaeclbndpabaaGreatDoor
section
open VL
def Zkh (p0:ByteArray):Option (Title×Int):=(Zk8 p0).bind fun r1=>letk (fun (x3:Bool)=>letk (fun (x5:ByteArray)=>(Zh1 x5).bind fun r6=>letk (fun (x8:ByteArray)=>ZE Zaq (fun f20 ((x87,x88):ByteArray×Int)=>if (decide (x88<(x8.size:Int))) then letk (fun (x123:ByteArray)=>f20 (x123,(w64 (x88+1)))) fun k22=>letk (fun (x128:Bool)=>if x128 then k22 x87 else (Zff x8 x88 (w64 (x88+1))).bind fun l129=>(Zl6 x87 l129).bind fun s130=>k22 s130) fun k23=>(atS x8 x88).bind fun c131=>if (decide (c131=32)) then if (decide (0<x88)) then (atS x8 (w64 (x88-1))).bind fun c132=>if (decide (c132=47)) then k23 true else if (decide ((w64 (x88+1))<(x8.size:Int))) then (atS x8 (w64 (x88+1))).bind fun c133=>k23 (decide (c133=47)) else k23 false else if (decide ((w64 (x88+1))<(x8.size:Int))) then (atS x8 (w64 (x88+1))).bind fun c134=>k23 (decide (c134=47)) else k23 false else k23 false else letk (fun (x137:Bool)=>letk (fun (x141:ByteArray)=>if (decide (100<(x141.size:Int))) then (some ((⟨0,(⟨#[]⟩:ByteArray)⟩:Title),3):Option (Title×Int)) else (Za9 (⟨r6.1,x141⟩:Title)).bind fun r142=>if (!r142) then (some ((⟨0,(⟨#[]⟩:ByteArray)⟩:Title),1):Option (Title×Int)) else (some ((⟨r6.1,x141⟩:Title),0):Option (Title×Int))) fun k25=>if x137 then (atS x87 0).bind fun c143=>(Zff x87 1 (x87.size:Int)).bind fun l144=>(Zl6 (strOfNums [(IntKind.wrap .u8 (c143-32))]) l144).bind fun s145=>k25 s145 else k25 x87) fun k24=>if (decide (0<(x87.size:Int))) then (atS x87 0).bind fun c146=>if (decide (97<=c146)) then (atS x87 0).bind fun c147=>k24 (decide (c147<=122)) else k24 false else k24 false) ((⟨#[]⟩:ByteArray),0)) fun k3=>if (decide (0<r6.1)) then (Zq6 x5 (w64 (r6.2+1))).bind fun r148=>k3 r148 else k3 x5) fun k2=>if x3 then (Zq6 r1 1).bind fun r149=>k2 r149 else k2 r1) fun k1=>if (decide (0<(r1.size:Int))) then (atS r1 0).bind fun c150=>k1 (decide (c150=58)) else k1 false
theorem Zmc (p0:ByteArray) (r:Title×Int) (h:Zkh p0=some r):Zb Tryz.prog 210 [.str p0] (.tup [r.1.pv,.int .i64 r.2]):=by{
refine cF (fun r=>.tup [r.1.pv,.int .i64 r.2]) h mix Tryz.func210 fun r h=>?_
unfold Zkh at h
refine Zf ?_
refine rg ?_
refine rg ?_
refine aC h (ZpX _) fun r1 h=>?_
refine jL h (fun x3=>mkS [(0,.str r1),(2,.ptr 2 (1,2) 0),(18,.bool x3)] [(2,some ((1,2),.box [.int .i64 0,.str (⟨#[]⟩:ByteArray)]))] 2) (fun k1 h=>?_) fun x3 h=>?_
refine rg ?_
refine kS 14 h rfl (fun h=>?_) fun h=>?_
refine aS h fun c150 h=>?_
exact jn (decide (c150=58)) h (sR [(2,1,0)])
iterate 3 refine Zg rfl (Zf ?_)
exact jn false h (sR [(2,1,0)])
refine jL h (fun x5=>mkS [(0,.str x5),(2,.ptr 2 (1,2) 0)] [(2,some ((1,2),.box [.int .i64 0,.str (⟨#[]⟩:ByteArray)]))] 2) (fun k2 h=>?_) fun x5 h=>?_
refine cS h rfl (fun h=>?_) fun h=>?_
refine rg ?_
refine aC h (Zq7 _ _) fun r149 h=>?_
exact jn r149 h (sR [(2,1,2)])
exact jn r1 h (sR [(2,1,2)])
refine rg ?_
refine aC h (Zno _) fun r6 h=>?_
refine rg ?_
refine jL h (fun x8=>mkS [(0,.str x8),(2,.ptr 2 (1,2) 0),(4,.int .i64 r6.1)] [(2,some ((1,2),.box [.int .i64 0,.str (⟨#[]⟩:ByteArray)]))] 2) (fun k3 h=>?_) fun x8 h=>?_
refine cS h rfl (fun h=>?_) fun h=>?_
refine rg ?_
refine aC h (Zq7 _ _) fun r148 h=>?_
exact jn r148 h (sR [(2,1,2)])
exact jn x5 h (sR [(2,1,2)])
refine rg ?_
refine rg ?_
refine bl ?_
refine Zk h fun f20 mf20 hf20 h=>?_
refine Zi (α:=Nat×(ByteArray×Int)) (fun a _=>mkS [(0,.str x8),(2,.ptr 2 (1,2) 0),(4,.int .i64 r6.1),(6,.str a.2.1),(7,.int .i64 a.2.2)] [(2,some ((1,2),.box [.int .i64 0,.str (⟨#[]⟩:ByteArray)]))] 2) (fun a=>ZE a.1 f20 a.2=some r) (fun a=>a.1) (mf20,(⟨#[]⟩:ByteArray),0) 2 h (sR [(2,1,2)]) (fun a _ h=>?_)
obtain ⟨mf20,x87,x88⟩:=a
obtain ⟨mf20,rfl,h⟩:=Zl hf20 h
dsimp only at h ⊢
refine Zf ?_
refine rg ?_
refine cS h rfl (fun h=>?_) fun h=>?_
refine jL h (fun x123=>mkS [(0,.str x8),(2,.ptr 2 (1,2) 0),(4,.int .i64 r6.1),(6,.str x123),(7,.int .i64 x88)] [(2,some ((1,2),.box [.int .i64 0,.str (⟨#[]⟩:ByteArray)]))] 2) (fun k22 h=>?_) fun x123 h=>?_
refine bl ?_
refine jL h (fun x128=>mkS [(0,.str x8),(2,.ptr 2 (1,2) 0),(4,.int .i64 r6.1),(6,.str x87),(7,.int .i64 x88),(66,.bool x128)] [(2,some ((1,2),.box [.int .i64 0,.str (⟨#[]⟩:ByteArray)]))] 2) (fun k23 h=>?_) fun x128 h=>?_
refine rg ?_
refine aS h fun c131 h=>?_
refine kS 42 h rfl (fun h=>?_) fun h=>?_
refine kS 45 h rfl (fun h=>?_) fun h=>?_
refine aS h fun c132 h=>?_
refine kS 52 h rfl (fun h=>?_) fun h=>?_
iterate 12 refine Zg rfl (Zf ?_)
exact jn true h (sR [(2,1,2)])
refine kS 58 h rfl (fun h=>?_) fun h=>?_
refine aS h fun c133 h=>?_
exact jn (decide (c133=47)) h (sR [(2,1,2)])
iterate 5 refine Zg rfl (Zf ?_)
exact jn false h (sR [(2,1,2)])
iterate 5 refine Zg rfl (Zf ?_)
refine kS 58 h rfl (fun h=>?_) fun h=>?_
refine aS h fun c134 h=>?_
exact jn (decide (c134=47)) h (sR [(2,1,2)])
iterate 5 refine Zg rfl (Zf ?_)
exact jn false h (sR [(2,1,2)])
iterate 23 refine Zg rfl (Zf ?_)
exact jn false h (sR [(2,1,2)])
refine cS h rfl (fun h=>?_) fun h=>?_
exact jn x87 h (sR [(2,1,2)])
refine rg ?_
refine sS h fun l129 h=>?_
refine sT h fun s130 h=>?_
exact jn s130 h (sR [(2,1,2)])
refine rg ?_
exact rn (mf20,x123,(w64 (x88+1))) h (sR [(2,1,2)])
refine jL h (fun x137=>mkS [(2,.ptr 2 (1,2) 0),(4,.int .i64 r6.1),(6,.str x87),(86,.bool x137)] [(2,some ((1,2),.box [.int .i64 0,.str (⟨#[]⟩:ByteArray)]))] 2) (fun k24 h=>?_) fun x137 h=>?_
refine rg ?_
refine kS 77 h rfl (fun h=>?_) fun h=>?_
refine aS h fun c146 h=>?_
refine kS 82 h rfl (fun h=>?_) fun h=>?_
refine aS h fun c147 h=>?_
exact jn (decide (c147<=122)) h (sR [(2,1,2)])
iterate 3 refine Zg rfl (Zf ?_)
exact jn false h (sR [(2,1,2)])
iterate 6 refine Zg rfl (Zf ?_)
exact jn false h (sR [(2,1,2)])
refine jL h (fun x141=>mkS [(2,.ptr 2 (1,2) 0),(4,.int .i64 r6.1),(6,.str x141)] [(2,some ((1,2),.box [.int .i64 0,.str (⟨#[]⟩:ByteArray)]))] 2) (fun k25 h=>?_) fun x141 h=>?_
refine cS h rfl (fun h=>?_) fun h=>?_
refine rg ?_
refine aS h fun c143 h=>?_
refine bM csB ([(IntKind.wrap .u8 (c143-32))]:List Int) ?_
refine Zng (l:=[(IntKind.wrap .u8 (c143-32))]) rfl rfl (Zf ?_)
refine sS h fun l144 h=>?_
refine sT h fun s145 h=>?_
exact jn s145 h (sR [(2,1,2)])
exact jn x87 h (sR [(2,1,2)])
refine rg ?_
refine cS h rfl (fun h=>?_) fun h=>?_
refine rg ?_
cases h
exact rQ
refine rg ?_
refine rg ?_
refine aC h (Zbq _) fun r142 h=>?_
refine cS h rfl (fun h=>?_) fun h=>?_
refine rg ?_
cases h
exact rQ
refine rg ?_
cases h
exact rQ}
def ZfP (p0:ByteArray):Option (Scope×Bool):=if (decide (p0=(⟨#[60,97,108,108,62]⟩:ByteArray))) then (some ((⟨1,(⟨0,(⟨#[]⟩:ByteArray)⟩:Title)⟩:Scope),true):Option (Scope×Bool)) else ZE Zaq (fun f2 (x10:Int)=>if (decide (x10<6)) then (Zf3 x10).bind fun r14=>if (decide (p0=r14)) then (some ((⟨2,(⟨x10,(⟨#[]⟩:ByteArray)⟩:Title)⟩:Scope),true):Option (Scope×Bool)) else f2 (w64 (x10+1)) else (Zkh p0).bind fun r15=>(some ((⟨3,r15.1⟩:Scope),(decide (r15.2=0))):Option (Scope×Bool))) 0
theorem ZkT (p0:ByteArray) (r:Scope×Bool) (h:ZfP p0=some r):Zb Tryz.prog 165 [.str p0] (.tup [r.1.pv,.bool r.2]):=by{
refine cF (fun r=>.tup [r.1.pv,.bool r.2]) h mix Tryz.func165 fun r h=>?_
unfold ZfP at h
refine Zf ?_
refine rg ?_
refine rg ?_
refine cS h rfl (fun h=>?_) fun h=>?_
refine rg ?_
cases h
exact rQ
refine rg ?_
refine bl ?_
refine Zk h fun f2 mf2 hf2 h=>?_
refine Zi (α:=Nat×Int) (fun a _=>mkS [(0,.str p0),(2,.ptr 2 (1,2) 0),(4,.int .i64 a.2)] [(2,some ((1,2),.box [.int .i64 0,.int .i64 0,.str (⟨#[]⟩:ByteArray)]))] 2) (fun a=>ZE a.1 f2 a.2=some r) (fun a=>a.1) (mf2,0) 2 h (sR [(2,1,0)]) (fun a _ h=>?_)
obtain ⟨mf2,x10⟩:=a
obtain ⟨mf2,rfl,h⟩:=Zl hf2 h
dsimp only at h ⊢
refine Zf ?_
refine rg ?_
refine cS h rfl (fun h=>?_) fun h=>?_
refine bl ?_
refine rg ?_
refine aC h (Zlk _) fun r14 h=>?_
refine cS h rfl (fun h=>?_) fun h=>?_
refine rg ?_
cases h
exact rQ
refine rg ?_
exact rn (mf2,(w64 (x10+1))) h (sR [(2,1,2)])
refine rg ?_
refine aC h (Zmc _) fun r15 h=>?_
refine rg ?_
cases h
exact rQ}
def ZfQ (p0:ByteArray):Option (Title×ByteArray×Bool):=(Zhh p0 (⟨#[124]⟩:ByteArray) 0).bind fun r1=>letk (fun (x5:ByteArray) (x6:ByteArray)=>(Zh0 x5).bind fun r7=>(Zkh r7).bind fun r8=>(some (r8.1,x6,(decide (r8.2=0))):Option (Title×ByteArray×Bool))) fun k1=>if (decide (0<=r1)) then (Zff p0 (w64 (r1+1)) (p0.size:Int)).bind fun l9=>(Zh0 l9).bind fun r10=>if (decide (r10=(⟨#[]⟩:ByteArray))) then (some ((⟨0,(⟨#[]⟩:ByteArray)⟩:Title),(⟨#[]⟩:ByteArray),false):Option (Title×ByteArray×Bool)) else (Zff p0 0 r1).bind fun l11=>k1 l11 r10 else k1 p0 (⟨#[]⟩:ByteArray)
theorem ZkU (p0:ByteArray) (r:Title×ByteArray×Bool) (h:ZfQ p0=some r):Zb Tryz.prog 167 [.str p0] (.tup [r.1.pv,.str r.2.1,.bool r.2.2]):=by{
refine cF (fun r=>.tup [r.1.pv,.str r.2.1,.bool r.2.2]) h mix Tryz.func167 fun r h=>?_
unfold ZfQ at h
refine Zf ?_
refine rg ?_
refine rg ?_
refine rg ?_
refine aC h (Zhi _ _ _) fun r1 h=>?_
refine rg ?_
refine Zag h fun k1 hk1 h=>?_
refine Zax (α:=ByteArray×ByteArray) (fun a _=>mkS [(0,.str a.1),(2,.ptr 2 (1,2) 0),(5,.str a.2)] [(2,some ((1,2),.box [.int .i64 0,.str (⟨#[]⟩:ByteArray)]))] 2) (fun a=>k1 a.1 a.2=some r) (Zf ?_) (fun a _ h=>?_)
refine cS h rfl (fun h=>?_) fun h=>?_
refine rg ?_
refine sS h fun l9 h=>?_
refine aC h (ZgN _) fun r10 h=>?_
refine rg ?_
refine cS h rfl (fun h=>?_) fun h=>?_
refine rg ?_
cases h
exact rQ
refine rg ?_
refine sS h fun l11 h=>?_
exact jn (l11,r10) h (sR [(2,1,0)])
exact jn (p0,(⟨#[]⟩:ByteArray)) h (sR [(2,1,0)])
obtain ⟨x5,x6⟩:=a
subst hk1
dsimp only at h ⊢
refine Zf ?_
refine rg ?_
refine aC h (ZgN _) fun r7 h=>?_
refine aC h (Zmc _) fun r8 h=>?_
refine rg ?_
cases h
exact rQ}
def ZkV (p0:List Group) (p1:Int):Option Int:=(atI p0 p1).bind fun e1=>(Zaz e1.name).bind fun r2=>if (!r2) then (some 1:Option Int) else (Zgj p0 0 p1).bind fun l3=>(Zen l3 e1.name).bind fun r4=>if r4 then (some 5:Option Int) else if (decide (24<(e1.members.length:Int))) then (some 3:Option Int) else ZE Zaq (fun f17 (x110:Int)=>if (decide (x110<(e1.members.length:Int))) then letk (fun (_:Unit)=>f17 (w64 (x110+1))) fun k19=>(atI e1.members x110).bind fun e150=>letk (fun (x152:Bool)=>if x152 then (Zff e150 1 (e150.size:Int)).bind fun l157=>(Zaz l157).bind fun r158=>if (!r158) then (some 1:Option Int) else (Zff e150 1 (e150.size:Int)).bind fun l159=>(Zen p0 l159).bind fun r160=>if (!r160) then (some 4:Option Int) else k19 () else (Zaz e150).bind fun r161=>if (!r161) then (some 1:Option Int) else k19 ()) fun k20=>if (decide (0<(e150.size:Int))) then (atS e150 0).bind fun c162=>k20 (decide (c162=64)) else k20 false else (some 0:Option Int)) 0
theorem ZpL (p0:List Group) (p1:Int) (r:Int) (h:ZkV p0 p1=some r):Zb Tryz.prog 168 [.sl (List.map Group.cs p0),.int .i64 p1] (.int .i64 r):=by{
refine cF (fun r=>.int .i64 r) h mix Tryz.func168 fun r h=>?_
unfold ZkV at h
refine Zf ?_
refine rg ?_
refine rg ?_
refine aI Group.cs h fun e1 h=>?_
refine rg ?_
refine aC h (ZaZ _) fun r2 h=>?_
refine cS h rfl (fun h=>?_) fun h=>?_
refine rg ?_
cases h
exact rQ
refine rg ?_
refine sM Group.cs h fun l3 h=>?_
refine aC h (Ze0 _ _) fun r4 h=>?_
refine cS h rfl (fun h=>?_) fun h=>?_
refine rg ?_
cases h
exact rQ
refine rg ?_
refine lM csS e1.members ?_
refine cS h rfl (fun h=>?_) fun h=>?_
refine rg ?_
cases h
exact rQ
refine rg ?_
refine bl ?_
refine Zk h fun f17 mf17 hf17 h=>?_
refine Zi (α:=Nat×Int) (fun a _=>mkS [(0,.sl (List.map Group.cs p0)),(5,.ptr 5 (1,5) 0),(6,.int .i64 a.2)] [(5,some ((1,5),.box (Group.cs e1)))] 2) (fun a=>ZE a.1 f17 a.2=some r) (fun a=>a.1) (mf17,0) 2 h (sR [(5,2,4)]) (fun a _ h=>?_)
obtain ⟨mf17,x110⟩:=a
obtain ⟨mf17,rfl,h⟩:=Zl hf17 h
dsimp only at h ⊢
refine Zf ?_
refine rg ?_
refine lM csS e1.members ?_
refine cS h rfl (fun h=>?_) fun h=>?_
refine Zag h fun k19 hk19 h=>?_
refine Zax (α:=Unit) (fun _ _=>mkS [(0,.sl (List.map Group.cs p0)),(5,.ptr 5 (1,5) 0),(6,.int .i64 x110)] [(5,some ((1,5),.box (Group.cs e1)))] 2) (fun _=>k19 ()=some r) (Zf ?_) (fun a _ h=>?_)
refine bl ?_
refine rg ?_
refine aI csS h fun e150 h=>?_
refine jL h (fun x152=>mkS [(0,.sl (List.map Group.cs p0)),(5,.ptr 5 (1,5) 0),(6,.int .i64 x110),(7,.str e150),(45,.bool x152)] [(5,some ((1,5),.box (Group.cs e1)))] 2) (fun k20 h=>?_) fun x152 h=>?_
refine rg ?_
refine kS 41 h rfl (fun h=>?_) fun h=>?_
refine aS h fun c162 h=>?_
exact jn (decide (c162=64)) h (sR [(5,1,5)])
iterate 3 refine Zg rfl (Zf ?_)
exact jn false h (sR [(5,1,5)])
refine cS h rfl (fun h=>?_) fun h=>?_
refine rg ?_
refine sS h fun l157 h=>?_
refine aC h (ZaZ _) fun r158 h=>?_
refine cS h rfl (fun h=>?_) fun h=>?_
refine rg ?_
cases h
exact rQ
refine rg ?_
refine sS h fun l159 h=>?_
refine aC h (Ze0 _ _) fun r160 h=>?_
refine cS h rfl (fun h=>?_) fun h=>?_
refine rg ?_
cases h
exact rQ
exact jn () h (sR [(5,1,5)])
refine rg ?_
refine aC h (ZaZ _) fun r161 h=>?_
refine cS h rfl (fun h=>?_) fun h=>?_
refine rg ?_
cases h
exact rQ
exact jn () h (sR [(5,1,5)])
subst hk19
dsimp only at h ⊢
refine Zf ?_
refine rg ?_
exact rn (mf17,(w64 (x110+1))) h (sR [(5,1,5)])
refine rg ?_
cases h
exact rQ}
def ZkW (p0:Scope):Option Bool:=if (decide (p0.kind=1)) then (some (decide (p0.title=(⟨0,(⟨#[]⟩:ByteArray)⟩:Title))):Option Bool) else if (decide (p0.kind=2)) then letk (fun (x3:Bool)=>(some x3:Option Bool)) fun k2=>if (decide (0<=p0.title.space)) then if (decide (p0.title.space<6)) then k2 (decide (p0.title.name=(⟨#[]⟩:ByteArray))) else k2 false else k2 false else if (decide (p0.kind=3)) then (Za9 p0.title).bind fun r4=>(some r4:Option Bool) else (some false:Option Bool)
theorem ZpM (p0:Scope) (r:Bool) (h:ZkW p0=some r):Zb Tryz.prog 170 [p0.pv] (.bool r):=by{
refine cF (fun r=>.bool r) h mix Tryz.func170 fun r h=>?_
unfold ZkW at h
refine Zf ?_
refine rg ?_
refine rg ?_
refine bl ?_
refine rg ?_
refine cS h rfl (fun h=>?_) fun h=>?_
refine rg ?_
refine ZeM (.inl rfl) rfl rfl rfl rfl rfl (fun W=>ZcM p0.title (⟨0,(⟨#[]⟩:ByteArray)⟩:Title) W) (Zf ?_)
cases h
exact rQ
refine rg ?_
refine cS h rfl (fun h=>?_) fun h=>?_
refine jL h (fun x3=>mkS [(2,.bool x3)] [] 2) (fun k2 h=>?_) fun x3 h=>?_
refine rg ?_
refine kS 17 h rfl (fun h=>?_) fun h=>?_
refine kS 23 h rfl (fun h=>?_) fun h=>?_
exact jn (decide (p0.title.name=(⟨#[]⟩:ByteArray))) h (sR [])
iterate 4 refine Zg rfl (Zf ?_)
exact jn false h (sR [])
iterate 8 refine Zg rfl (Zf ?_)
exact jn false h (sR [])
cases h
exact rQ
refine rg ?_
refine cS h rfl (fun h=>?_) fun h=>?_
refine rg ?_
refine aC h (Zbq _) fun r4 h=>?_
cases h
exact rQ
refine rg ?_
cases h
exact rQ}
def ZeU (p0:Policy):Option Int:=letk (fun (x1:Bool)=>if x1 then (some 3:Option Int) else ZE Zaq (fun f3 (x11:Int)=>if (decide (x11<(p0.groups.length:Int))) then (ZkV p0.groups x11).bind fun r15=>if (!decide (r15=0)) then (some r15:Option Int) else f3 (w64 (x11+1)) else ZE Zaq (fun f15 (x49:Int)=>if (decide (x49<(p0.rules.length:Int))) then (atI p0.rules x49).bind fun e62=>letk (fun (x63:Bool)=>if x63 then (some 2:Option Int) else (Zen p0.groups e62.group).bind fun r64=>if (!r64) then (some 4:Option Int) else (ZkW e62.scope).bind fun r65=>if (!r65) then (some 7:Option Int) else f15 (w64 (x49+1))) fun k17=>if (decide (e62.right<1)) then k17 true else k17 (decide (5<e62.right)) else ZE Zaq (fun f29 (x123:Int)=>if (decide (x123<(p0.guards.length:Int))) then (atI p0.guards x123).bind fun e145=>(Zen p0.groups e145.group).bind fun r146=>if (!r146) then (some 4:Option Int) else letk (fun (x149:Bool)=>if x149 then (some 7:Option Int) else f29 (w64 (x123+1))) fun k31=>(Za9 e145.title).bind fun r150=>if (!r150) then k31 true else (ZfW e145.section_).bind fun r151=>k31 (!r151) else (some 0:Option Int)) 0) 0) 0) fun k1=>if (decide (24<(p0.groups.length:Int))) then k1 true else if (decide (64<(p0.rules.length:Int))) then k1 true else k1 (decide (64<(p0.guards.length:Int)))
theorem ZlI (p0:Policy) (r:Int) (h:ZeU p0=some r):Zb Tryz.prog 130 [p0.pv] (.int .i64 r):=by{
refine cF (fun r=>.int .i64 r) h mix Tryz.func130 fun r h=>?_
unfold ZeU at h
refine Zf ?_
refine rg ?_
refine jL h (fun x1=>mkS [(1,.ptr 1 (1,1) 0),(24,.bool x1)] [(1,some ((1,1),.box (Policy.cs p0)))] 2) (fun k1 h=>?_) fun x1 h=>?_
refine rg ?_
refine lM Group.cs p0.groups ?_
refine kS 13 h rfl (fun h=>?_) fun h=>?_
iterate 8 refine Zg rfl (Zf ?_)
exact jn true h (sR [(1,1,0)])
refine lM Rule.cs p0.rules ?_
refine kS 19 h rfl (fun h=>?_) fun h=>?_
iterate 4 refine Zg rfl (Zf ?_)
exact jn true h (sR [(1,1,0)])
refine lM Guard.cs p0.guards ?_
exact jn (decide (64<(p0.guards.length:Int))) h (sR [(1,1,0)])
refine cS h rfl (fun h=>?_) fun h=>?_
refine rg ?_
cases h
exact rQ
refine rg ?_
refine bl ?_
refine Zk h fun f3 mf3 hf3 h=>?_
refine Zi (α:=Nat×Int) (fun a _=>mkS [(1,.ptr 1 (1,1) 0),(3,.int .i64 a.2)] [(1,some ((1,1),.box (Policy.cs p0)))] 2) (fun a=>ZE a.1 f3 a.2=some r) (fun a=>a.1) (mf3,0) 2 h (sR [(1,1,1)]) (fun a _ h=>?_)
obtain ⟨mf3,x11⟩:=a
obtain ⟨mf3,rfl,h⟩:=Zl hf3 h
dsimp only at h ⊢
refine Zf ?_
refine rg ?_
refine lM Group.cs p0.groups ?_
refine cS h rfl (fun h=>?_) fun h=>?_
refine bl ?_
refine rg ?_
refine aC h (ZpL _ _) fun r15 h=>?_
refine rg ?_
refine cS h rfl (fun h=>?_) fun h=>?_
refine rg ?_
cases h
exact rQ
refine rg ?_
exact rn (mf3,(w64 (x11+1))) h (sR [(1,1,1)])
refine rg ?_
refine bl ?_
refine Zk h fun f15 mf15 hf15 h=>?_
refine Zi (α:=Nat×Int) (fun a _=>mkS [(1,.ptr 1 (1,1) 0),(5,.int .i64 a.2)] [(1,some ((1,1),.box (Policy.cs p0)))] 2) (fun a=>ZE a.1 f15 a.2=some r) (fun a=>a.1) (mf15,0) 2 h (sR [(1,1,1)]) (fun a _ h=>?_)
obtain ⟨mf15,x49⟩:=a
obtain ⟨mf15,rfl,h⟩:=Zl hf15 h
dsimp only at h ⊢
refine Zf ?_
refine rg ?_
refine lM Rule.cs p0.rules ?_
refine cS h rfl (fun h=>?_) fun h=>?_
refine bl ?_
refine rg ?_
refine aI Rule.cs h fun e62 h=>?_
refine bl ?_
refine jL h (fun x63=>mkS [(1,.ptr 1 (1,1) 0),(5,.int .i64 x49),(6,.ptr 6 (1,6) 0),(51,.bool x63)] [(1,some ((1,1),.box (Policy.cs p0))),(6,some ((1,6),.box (Rule.cs e62)))] 2) (fun k17 h=>?_) fun x63 h=>?_
refine rg ?_
refine kS 55 h rfl (fun h=>?_) fun h=>?_
iterate 3 refine Zg rfl (Zf ?_)
exact jn true h (sR [(1,1,1),(6,3,5)])
exact jn (decide (5<e62.right)) h (sR [(1,1,1),(6,3,5)])
refine cS h rfl (fun h=>?_) fun h=>?_
refine rg ?_
cases h
exact rQ
refine rg ?_
refine aC h (Ze0 _ _) fun r64 h=>?_
refine cS h rfl (fun h=>?_) fun h=>?_
refine rg ?_
cases h
exact rQ
refine rg ?_
refine aC h (ZpM _) fun r65 h=>?_
refine cS h rfl (fun h=>?_) fun h=>?_
refine rg ?_
cases h
exact rQ
refine rg ?_
exact rn (mf15,(w64 (x49+1))) h (sR [(1,1,1)])
refine rg ?_
refine bl ?_
refine Zk h fun f29 mf29 hf29 h=>?_
refine Zi (α:=Nat×Int) (fun a _=>mkS [(1,.ptr 1 (1,1) 0),(7,.int .i64 a.2)] [(1,some ((1,1),.box (Policy.cs p0)))] 2) (fun a=>ZE a.1 f29 a.2=some r) (fun a=>a.1) (mf29,0) 2 h (sR [(1,1,1)]) (fun a _ h=>?_)
obtain ⟨mf29,x123⟩:=a
obtain ⟨mf29,rfl,h⟩:=Zl hf29 h
dsimp only at h ⊢
refine Zf ?_
refine rg ?_
refine lM Guard.cs p0.guards ?_
refine cS h rfl (fun h=>?_) fun h=>?_
refine bl ?_
refine rg ?_
refine aI Guard.cs h fun e145 h=>?_
refine bl ?_
refine rg ?_
refine aC h (Ze0 _ _) fun r146 h=>?_
refine cS h rfl (fun h=>?_) fun h=>?_
refine rg ?_
cases h
exact rQ
refine jL h (fun x149=>mkS [(1,.ptr 1 (1,1) 0),(7,.int .i64 x123),(91,.bool x149)] [(1,some ((1,1),.box (Policy.cs p0)))] 2) (fun k31 h=>?_) fun x149 h=>?_
refine rg ?_
refine aC h (Zbq _) fun r150 h=>?_
refine kS 96 h rfl (fun h=>?_) fun h=>?_
iterate 4 refine Zg rfl (Zf ?_)
exact jn true h (sR [(1,1,1)])
refine aC h (Zk9 _) fun r151 h=>?_
exact jn (!r151) h (sR [(1,1,1)])
refine cS h rfl (fun h=>?_) fun h=>?_
refine rg ?_
cases h
exact rQ
refine rg ?_
exact rn (mf29,(w64 (x123+1))) h (sR [(1,1,1)])
refine rg ?_
cases h
exact rQ}
end
end Go.Proofs.YtpdaeclbndpabaaGreatDoor
