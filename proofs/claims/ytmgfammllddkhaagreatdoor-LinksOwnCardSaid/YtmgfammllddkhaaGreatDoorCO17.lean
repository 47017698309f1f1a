/- Functions of the program as Lean functions. Written by -/
import Derived.Test.YtmgfammllddkhaaGreatDoorCO16
set_option linter.unusedVariables false
set_option maxHeartbeats 4000000
set_option maxRecDepth 100000
namespace Go.Proofs.YtmgfammllddkhaaGreatDoor
section
open VL
def I7 (p0:Pst):Q2 (Elt×Pst):=(atI p0.stack (w64 ((p0.stack.length:Int)-1))).bind fun e1=>some (e1,p0)
theorem QQ (p0:Pst) (r:Elt×Pst) (h:I7 p0=some r):Contract Tryz.prog 76 [.ptr 0 (0,0) 0] (some (0,p0.cs)) (r.1.pv) (r.2).cs:=by{
refine G7 (R:=fun r=>r.1.pv) (O:=fun r=>(r.2).cs) h mix Tryz.func76 (by kernel_rfl) rfl (by kernel_rfl) fun r h=>?_
unfold I7 at h
refine Zj ?_
refine rg ?_
refine rg ?_
refine lM Elt.cs p0.stack ?_
refine aI Elt.cs h fun e1 h=>?_
cases h
exact IH rfl rfl rfl rfl rfl}
def KW (p0:Pst) (p1:Elt):Q2 Pst:=(CL p0.stack 0 (w64 ((p0.stack.length:Int)-1))).bind fun l1=>(A8 72 [] l1).bind fun l2=>(A8 72 l2 [p1]).bind fun l3=>some ⟨l3⟩
theorem eZ (p0:Pst) (p1:Elt) (r:Pst) (h:KW p0 p1=some r):Contract Tryz.prog 137 [.ptr 0 (0,0) 0,p1.pv] (some (0,p0.cs)) (.tup []) r.cs:=by{
refine G7 (R:=fun r=>.tup []) (O:=fun r=>r.cs) h mix Tryz.func137 (by kernel_rfl) rfl (by kernel_rfl) fun r h=>?_
unfold KW at h
refine Zj ?_
refine rg ?_
refine rg ?_
refine lM Elt.cs p0.stack ?_
refine sM Elt.cs h fun l1 h=>?_
obtain ⟨l2,h2,h⟩:=bnd h
refine JC (f:=Elt.cs) rfl h2 (fun _=>rfl) rfl rfl rfl (Zj ?_)
refine CT (M:=([p1]:Q3 Elt)) (f:=Elt.cs) rfl rfl rfl rfl (Yk rfl) rfl (Zj ?_)
refine pR Elt.cs h fun l3 h=>?_
cases h
exact CS rfl rfl rfl rfl rfl}
def JO (p0:Pst):Q2 (Elt×Pst):=(I7 p0).bind fun r1=>(CL r1.2.stack 0 (w64 ((r1.2.stack.length:Int)-1))).bind fun l2=>(A8 72 [] l2).bind fun l3=>some (r1.1,⟨l3⟩)
theorem XH (p0:Pst) (r:Elt×Pst) (h:JO p0=some r):Contract Tryz.prog 140 [.ptr 0 (0,0) 0] (some (0,p0.cs)) (r.1.pv) (r.2).cs:=by{
refine G7 (R:=fun r=>r.1.pv) (O:=fun r=>(r.2).cs) h mix Tryz.func140 (by kernel_rfl) rfl (by kernel_rfl) fun r h=>?_
unfold JO at h
refine Zj ?_
refine rg ?_
refine rg ?_
refine aO h (QQ _) fun r1 h=>?_
refine rg ?_
refine lM Elt.cs r1.2.stack ?_
refine sM Elt.cs h fun l2 h=>?_
obtain ⟨l3,h3,h⟩:=bnd h
refine JC (f:=Elt.cs) rfl h3 (fun _=>rfl) rfl rfl rfl (Zj ?_)
refine rg ?_
cases h
exact IH rfl rfl rfl rfl rfl}
def JP (p0:Q3 Node) (p1:Node):Q2 (Q3 Node):=(A8 80 [] p0).bind fun l1=>letk (fun (_:Unit)=>(A8 80 l1 [p1]).bind fun l8=>some l8) fun k2=>if decide (p1.kind=1) then if decide (p1.text=(⟨#[]⟩:Q1)) then some l1 else letk (fun (x10:Bool)=>if x10 then (atI l1 (w64 ((l1.length:Int)-1))).bind fun e11=>(BV e11.text p1.text).bind fun s12=>(atI l1 (w64 ((l1.length:Int)-1))).bind fun e13=>(some (AP l1 (w64 ((l1.length:Int)-1)) (⟨1,0,s12,[],[]⟩:Node)):Q2 (Q3 Node)) else k2 ()) fun k3=>if decide (0<(l1.length:Int)) then (atI l1 (w64 ((l1.length:Int)-1))).bind fun e14=>k3 (decide (e14.kind=1)) else k3 false else k2 ()
theorem pD (p0:Q3 Node) (p1:Node) (r:Q3 Node) (h:JP p0 p1=some r):Zg Tryz.prog 187 [.sl (List.map Node.cs p0),p1.pv] (.sl (List.map Node.cs r)):=by{
refine cF (fun r=>.sl (List.map Node.cs r)) h mix Tryz.func187 fun r h=>?_
unfold JP at h
refine Zj ?_
refine rg ?_
refine rg ?_
obtain ⟨l1,h1,h⟩:=bnd h
refine JC (f:=Node.cs) rfl h1 (fun _=>rfl) rfl rfl rfl (Zj ?_)
refine rg ?_
refine FO h fun k2 hk2 h=>?_
refine DM (α:=Unit) (fun _ _=>mkS [(3,.ptr 3 (1,3) 0),(5,.row 7 (1,7))] [(3,some ((1,3),.box [.int .i64 p1.kind,.int .i64 p1.tag,.str p1.text,.sl p1.kids,.sl p1.args])),(7,some ((1,7),.row 78 5 false (List.map Node.cs l1)))] 2) (fun _=>k2 ()=some r) (Zj ?_) (fun a _ h=>?_)
refine cS h rfl (fun h=>?_) fun h=>?_
refine rg ?_
refine cS h rfl (fun h=>?_) fun h=>?_
refine rg ?_
cases h
exact rQ
refine jL h (fun x10=>mkS [(3,.ptr 3 (1,3) 0),(5,.row 7 (1,7)),(27,.bool x10)] [(3,some ((1,3),.box [.int .i64 p1.kind,.int .i64 p1.tag,.str p1.text,.sl p1.kids,.sl p1.args])),(7,some ((1,7),.row 78 5 false (List.map Node.cs l1)))] 2) (fun k3 h=>?_) fun x10 h=>?_
refine rg ?_
refine lM Node.cs l1 ?_
refine kS 18 h rfl (fun h=>?_) fun h=>?_
refine lM Node.cs l1 ?_
obtain ⟨e14,h12,h⟩:=bnd h
refine ZP rfl h12 rfl rfl rfl (Zj ?_)
refine B6 rfl h12 rfl rfl rfl (Zj ?_)
exact jn (decide (e14.kind=1)) h (sR [(3,1,0),(7,2,1)])
iterate 8 refine Zw rfl (Zj ?_)
exact jn false h (sR [(3,1,0),(7,2,1)])
refine cS h rfl (fun h=>?_) fun h=>?_
refine rg ?_
refine lM Node.cs l1 ?_
refine lM Node.cs l1 ?_
obtain ⟨e11,h9,h⟩:=bnd h
refine ZP rfl h9 rfl rfl rfl (Zj ?_)
refine B6 rfl h9 rfl rfl rfl (Zj ?_)
refine sT h fun s12 h=>?_
obtain ⟨e13,h11,h⟩:=bnd h
refine ZP rfl h11 rfl rfl rfl (Zj ?_)
refine FP (e':=(⟨1,0,s12,[],[]⟩:Node)) rfl h11 rfl rfl rfl rfl rfl rfl (Yk rfl) rfl rfl (Zj ?_)
refine rg ?_
cases h
exact rQ
exact jn () h (sR [(3,1,3),(7,1,7)])
exact jn () h (sR [(3,1,0),(7,2,1)])
subst hk2
dsimp only at h ⊢
refine Zj ?_
refine rg ?_
refine CT (M:=([p1]:Q3 Node)) (f:=Node.cs) rfl rfl rfl rfl (Yk rfl) rfl (Zj ?_)
refine pR Node.cs h fun l8 h=>?_
cases h
exact rQ}
def I8 (p0:Pst) (p1:Node):Q2 Pst:=(I7 p0).bind fun r1=>letk (fun (x2:Bool)=>letk (fun (x9:Q3 Node) (x10:Q3 Arg)=>(KW r1.2 (⟨r1.1.kind,r1.1.tag,r1.1.count,x9,x10⟩:Elt)).bind fun r11=>some r11) fun k2=>if x2 then (A8 56 [] r1.1.args).bind fun l12=>(atI l12 (w64 ((l12.length:Int)-1))).bind fun e13=>(AU e13.value).bind fun l14=>(JP l14 p1).bind fun r15=>(atI l12 (w64 ((l12.length:Int)-1))).bind fun e16=>k2 r1.1.list (AP l12 (w64 ((l12.length:Int)-1)) (⟨e13.named,e13.name,(List.map Node.cs r15)⟩:Arg)) else (JP r1.1.list p1).bind fun r17=>k2 r17 r1.1.args) fun k1=>if decide (r1.1.kind=3) then k1 (decide (0<(r1.1.args.length:Int))) else k1 false
theorem QR (p0:Pst) (p1:Node) (r:Pst) (h:I8 p0 p1=some r):Contract Tryz.prog 134 [.ptr 0 (0,0) 0,p1.pv] (some (0,p0.cs)) (.tup []) r.cs:=by{
refine G7 (R:=fun r=>.tup []) (O:=fun r=>r.cs) h mix Tryz.func134 (by kernel_rfl) rfl (by kernel_rfl) fun r h=>?_
unfold I8 at h
refine Zj ?_
refine rg ?_
refine rg ?_
refine aO h (QQ _) fun r1 h=>?_
refine jL h (fun x2=>mkS [(0,.ptr 0 (0,0) 0),(3,.ptr 3 (1,3) 0),(4,.ptr 4 (1,4) 0),(17,.bool x2)] [(0,some ((0,0),.box (Pst.cs r1.2))),(3,some ((1,3),.box [.int .i64 p1.kind,.int .i64 p1.tag,.str p1.text,.sl p1.kids,.sl p1.args])),(4,some ((1,4),.box (Elt.cs r1.1)))] 2) (fun k1 h=>?_) fun x2 h=>?_
refine rg ?_
refine kS 12 h rfl (fun h=>?_) fun h=>?_
refine lM Arg.cs r1.1.args ?_
exact jn (decide (0<(r1.1.args.length:Int))) h (sR [(3,1,0),(4,2,2)])
iterate 4 refine Zw rfl (Zj ?_)
exact jn false h (sR [(3,1,0),(4,2,2)])
refine FO h fun k2 hk2 h=>?_
refine DM (α:=(Q3 Node)×(Q3 Arg)) (fun a _=>mkS [(0,.ptr 0 (0,0) 0),(4,.ptr 4 (1,4) 0)] [(0,some ((0,0),.box (Pst.cs r1.2))),(4,some ((1,4),.box [.int .i64 r1.1.kind,.int .i64 r1.1.tag,.int .i64 r1.1.count,.sl (List.map Node.cs a.1),.sl (List.map Arg.cs a.2)]))] 2) (fun a=>k2 a.1 a.2=some r) (Zj ?_) (fun a _ h=>?_)
refine cS h rfl (fun h=>?_) fun h=>?_
refine rg ?_
obtain ⟨l12,h9,h⟩:=bnd h
refine JC (f:=Arg.cs) rfl h9 (fun _=>rfl) rfl rfl rfl (Zj ?_)
refine rg ?_
refine lM Arg.cs l12 ?_
obtain ⟨e13,h10,h⟩:=bnd h
refine ZP rfl h10 rfl rfl rfl (Zj ?_)
refine B6 rfl h10 rfl rfl rfl (Zj ?_)
refine rg ?_
obtain ⟨l14,h11,h⟩:=bnd h
refine EB 28 (GB h11) rfl (Zj ?_)
refine aC h (pD _ _) fun r15 h=>?_
refine rg ?_
refine lM Arg.cs l12 ?_
obtain ⟨e16,h13,h⟩:=bnd h
refine ZP rfl h13 rfl rfl rfl (Zj ?_)
refine FP (e':=(⟨e13.named,e13.name,(List.map Node.cs r15)⟩:Arg)) rfl h13 rfl rfl rfl rfl rfl rfl (Yk rfl) rfl rfl (Zj ?_)
refine rg ?_
exact jn (r1.1.list,(AP l12 (w64 ((l12.length:Int)-1)) (⟨e13.named,e13.name,(List.map Node.cs r15)⟩:Arg))) h (Shift.trans (P1 4 rfl rfl) (sR [(4,1,4)]))
refine rg ?_
refine aC h (pD _ _) fun r17 h=>?_
exact jn (r17,r1.1.args) h (sR [(4,1,4)])
obtain ⟨x9,x10⟩:=a
subst hk2
dsimp only at h ⊢
refine Zj ?_
refine rg ?_
refine aO h (eZ _ _) fun r11 h=>?_
cases h
exact CS rfl rfl rfl rfl rfl}
def Zy (p0:Pst) (p1:Q1):Q2 Pst:=(I8 p0 (⟨1,0,p1,[],[]⟩:Node)).bind fun r1=>some r1
theorem ZT (p0:Pst) (p1:Q1) (r:Pst) (h:Zy p0 p1=some r):Contract Tryz.prog 138 [.ptr 0 (0,0) 0,.str p1] (some (0,p0.cs)) (.tup []) r.cs:=by{
refine G7 (R:=fun r=>.tup []) (O:=fun r=>r.cs) h mix Tryz.func138 (by kernel_rfl) rfl (by kernel_rfl) fun r h=>?_
unfold Zy at h
refine Zj ?_
refine rg ?_
refine aO h (QR _ _) fun r1 h=>?_
cases h
exact CS rfl rfl rfl rfl rfl}
def IU (p0:Pst) (p1:Q3 Node):Q2 Pst:=A3 A9 (fun f1 ((x5,x6):Int×(Q3 Elt))=>if decide (x5<(p1.length:Int)) then (atI p1 x5).bind fun e13=>(I8 (⟨x6⟩:Pst) e13).bind fun r14=>f1 ((w64 (x5+1)),r14.stack) else some ⟨x6⟩) (0,p0.stack)
theorem QS (p0:Pst) (p1:Q3 Node) (r:Pst) (h:IU p0 p1=some r):Contract Tryz.prog 141 [.ptr 0 (0,0) 0,.sl (List.map Node.cs p1)] (some (0,p0.cs)) (.tup []) r.cs:=by{
refine G7 (R:=fun r=>.tup []) (O:=fun r=>r.cs) h mix Tryz.func141 (by kernel_rfl) rfl (by kernel_rfl) fun r h=>?_
unfold IU at h
refine Zj ?_
refine rg ?_
refine bl ?_
refine Zz h fun f1 mf1 hf1 h=>?_
refine Zu (α:=Nat×(Int×(Q3 Elt))) (fun a _=>mkS [(0,.ptr 0 (0,0) 0),(1,.sl (List.map Node.cs p1)),(4,.int .i64 a.2.1)] [(0,some ((0,0),.box [.sl (List.map Elt.cs a.2.2)]))] 2) (fun a=>A3 a.1 f1 a.2=some r) (fun a=>a.1) (mf1,0,p0.stack) 2 h (sR []) (fun a _ h=>?_)
obtain ⟨mf1,x5,x6⟩:=a
obtain ⟨mf1,rfl,h⟩:=ZA hf1 h
dsimp only at h ⊢
refine Zj ?_
refine rg ?_
refine lM Node.cs p1 ?_
refine cS h rfl (fun h=>?_) fun h=>?_
refine bl ?_
refine rg ?_
refine aI Node.cs h fun e13 h=>?_
refine aO h (QR _ _) fun r14 h=>?_
refine rg ?_
exact rn (mf1,(w64 (x5+1)),r14.stack) h (sR [])
cases h
exact CS rfl rfl rfl rfl rfl}
def NO (p0:Int) (p1:Q1):Q2 Q1:=A3 A9 (fun f2 ((x11,x12):Q1×Int)=>if decide (x12<p0) then (BV x11 p1).bind fun s16=>f2 (s16,(w64 (x12+1))) else some x11) ((⟨#[]⟩:Q1),0)
theorem pE (p0:Int) (p1:Q1) (r:Q1) (h:NO p0 p1=some r):Zg Tryz.prog 189 [.int .i64 p0,.str p1] (.str r):=by{
refine cF (fun r=>.str r) h mix Tryz.func189 fun r h=>?_
unfold NO at h
refine Zj ?_
refine rg ?_
refine rg ?_
refine rg ?_
refine bl ?_
refine Zz h fun f2 mf2 hf2 h=>?_
refine Zu (α:=Nat×(Q1×Int)) (fun a _=>mkS [(0,.int .i64 p0),(1,.str p1),(5,.str a.2.1),(6,.int .i64 a.2.2)] [] 2) (fun a=>A3 a.1 f2 a.2=some r) (fun a=>a.1) (mf2,⟨#[]⟩,0) 2 h (sR []) (fun a _ h=>?_)
obtain ⟨mf2,x11,x12⟩:=a
obtain ⟨mf2,rfl,h⟩:=ZA hf2 h
dsimp only at h ⊢
refine Zj ?_
refine rg ?_
refine cS h rfl (fun h=>?_) fun h=>?_
refine bl ?_
refine rg ?_
refine sT h fun s16 h=>?_
refine rg ?_
exact rn (mf2,s16,(w64 (x12+1))) h (sR [])
refine rg ?_
cases h
exact rQ}
def TZ (p0:Pst):Q2 Pst:=(JO p0).bind fun r1=>if decide (r1.1.kind=1) then (Zy r1.2 ⟨#[91,91]⟩).bind fun r2=>(IU r2 r1.1.list).bind fun r3=>some r3 else if decide (r1.1.kind=2) then (ED r1.1.tag false).bind fun r4=>(Zy r1.2 r4).bind fun r5=>(IU r5 r1.1.list).bind fun r6=>some r6 else if decide (r1.1.kind=3) then (NO r1.1.count ⟨#[123]⟩).bind fun r7=>(Zy r1.2 r7).bind fun r8=>(IU r8 r1.1.list).bind fun r9=>A3 A9 (fun f5 ((x38,x39):Int×(Q3 Elt))=>if decide (x38<(r1.1.args.length:Int)) then (Zy (⟨x39⟩:Pst) ⟨#[124]⟩).bind fun r82=>(atI r1.1.args x38).bind fun e83=>letk (fun (x88:Q3 Elt)=>(atI r1.1.args x38).bind fun e89=>(AU e89.value).bind fun l90=>(IU (⟨x88⟩:Pst) l90).bind fun r91=>f5 ((w64 (x38+1)),r91.stack)) fun k7=>if e83.named then (atI r1.1.args x38).bind fun e92=>(AU e92.name).bind fun l93=>(IU r82 l93).bind fun r94=>(Zy r94 ⟨#[61]⟩).bind fun r95=>k7 r95.stack else k7 r82.stack else some ⟨x39⟩) (0,r9.stack) else some r1.2
theorem Zin (p0:Pst) (r:Pst) (h:TZ p0=some r):Contract Tryz.prog 144 [.ptr 0 (0,0) 0] (some (0,p0.cs)) (.tup []) r.cs:=by{
refine G7 (R:=fun r=>.tup []) (O:=fun r=>r.cs) h mix Tryz.func144 (by kernel_rfl) rfl (by kernel_rfl) fun r h=>?_
unfold TZ at h
refine Zj ?_
refine rg ?_
refine aO h (XH _) fun r1 h=>?_
refine rg ?_
refine bl ?_
refine rg ?_
refine cS h rfl (fun h=>?_) fun h=>?_
refine rg ?_
refine aO h (ZT _ _) fun r2 h=>?_
refine rg ?_
refine aO h (QS _ _) fun r3 h=>?_
cases h
exact CS rfl rfl rfl rfl rfl
refine rg ?_
refine cS h rfl (fun h=>?_) fun h=>?_
refine rg ?_
refine aC h (PK _ _) fun r4 h=>?_
refine aO h (ZT _ _) fun r5 h=>?_
refine rg ?_
refine aO h (QS _ _) fun r6 h=>?_
cases h
exact CS rfl rfl rfl rfl rfl
refine rg ?_
refine cS h rfl (fun h=>?_) fun h=>?_
refine rg ?_
refine aC h (pE _ _) fun r7 h=>?_
refine aO h (ZT _ _) fun r8 h=>?_
refine rg ?_
refine aO h (QS _ _) fun r9 h=>?_
refine rg ?_
refine bl ?_
refine Zz h fun f5 mf5 hf5 h=>?_
refine Zu (α:=Nat×(Int×(Q3 Elt))) (fun a _=>mkS [(0,.ptr 0 (0,0) 0),(2,.ptr 2 (1,2) 0),(3,.int .i64 a.2.1)] [(0,some ((0,0),.box [.sl (List.map Elt.cs a.2.2)])),(2,some ((1,2),.box (Elt.cs r1.1)))] 2) (fun a=>A3 a.1 f5 a.2=some r) (fun a=>a.1) (mf5,0,r9.stack) 2 h (sR [(2,1,2)]) (fun a _ h=>?_)
obtain ⟨mf5,x38,x39⟩:=a
obtain ⟨mf5,rfl,h⟩:=ZA hf5 h
dsimp only at h ⊢
refine Zj ?_
refine rg ?_
refine lM Arg.cs r1.1.args ?_
refine cS h rfl (fun h=>?_) fun h=>?_
refine bl ?_
refine rg ?_
refine aO h (ZT _ _) fun r82 h=>?_
refine rg ?_
refine aI Arg.cs h fun e83 h=>?_
refine jL h (fun x88=>mkS [(0,.ptr 0 (0,0) 0),(2,.ptr 2 (1,2) 0),(3,.int .i64 x38)] [(0,some ((0,0),.box [.sl (List.map Elt.cs x88)])),(2,some ((1,2),.box (Elt.cs r1.1)))] 2) (fun k7 h=>?_) fun x88 h=>?_
refine cS h rfl (fun h=>?_) fun h=>?_
refine rg ?_
refine aI Arg.cs h fun e92 h=>?_
obtain ⟨l93,h85,h⟩:=bnd h
refine EB 59 (GB h85) rfl (Zj ?_)
refine aO h (QS _ _) fun r94 h=>?_
refine rg ?_
refine aO h (ZT _ _) fun r95 h=>?_
exact jn r95.stack h (sR [(2,1,2)])
exact jn r82.stack h (sR [(2,1,2)])
refine rg ?_
refine aI Arg.cs h fun e89 h=>?_
obtain ⟨l90,h82,h⟩:=bnd h
refine EB 69 (GB h82) rfl (Zj ?_)
refine aO h (QS _ _) fun r91 h=>?_
refine rg ?_
exact rn (mf5,(w64 (x38+1)),r91.stack) h (sR [(2,1,2)])
cases h
exact CS rfl rfl rfl rfl rfl
cases h
exact CS rfl rfl rfl rfl rfl}
def MC (p0:Pst) (p1:Int):Q2 Pst:=A3 A9 (fun f1 (x2:Q3 Elt)=>if decide (p1<(w64 ((x2.length:Int)-1))) then (TZ (⟨x2⟩:Pst)).bind fun r4=>f1 r4.stack else some ⟨x2⟩) p0.stack
theorem f4 (p0:Pst) (p1:Int) (r:Pst) (h:MC p0 p1=some r):Contract Tryz.prog 75 [.ptr 0 (0,0) 0,.int .i64 p1] (some (0,p0.cs)) (.tup []) r.cs:=by{
refine G7 (R:=fun r=>.tup []) (O:=fun r=>r.cs) h mix Tryz.func75 (by kernel_rfl) rfl (by kernel_rfl) fun r h=>?_
unfold MC at h
refine Zj ?_
refine bl ?_
refine Zz h fun f1 mf1 hf1 h=>?_
refine Zu (α:=Nat×(Q3 Elt)) (fun a _=>mkS [(0,.ptr 0 (0,0) 0),(1,.int .i64 p1)] [(0,some ((0,0),.box [.sl (List.map Elt.cs a.2)]))] 2) (fun a=>A3 a.1 f1 a.2=some r) (fun a=>a.1) (mf1,p0.stack) 2 h (sR []) (fun a _ h=>?_)
obtain ⟨mf1,x2⟩:=a
obtain ⟨mf1,rfl,h⟩:=ZA hf1 h
dsimp only at h ⊢
refine Zj ?_
refine rg ?_
refine lM Elt.cs x2 ?_
refine cS h rfl (fun h=>?_) fun h=>?_
refine bl ?_
refine rg ?_
refine aO h (Zin _) fun r4 h=>?_
exact rn (mf1,r4.stack) h (sR [])
cases h
exact CS rfl rfl rfl rfl rfl}
def QT (p0:Pst) (p1:Int):Q2 (Int×Pst):=A3 A9 (fun f12 (x42:Int)=>if decide (0<x42) then letk (fun (x60:Bool)=>if x60 then some (x42,p0) else f12 (w64 (x42-1))) fun k14=>(atI p0.stack x42).bind fun e61=>if decide (e61.kind=2) then (atI p0.stack x42).bind fun e62=>k14 (decide (e62.tag=p1)) else k14 false else some (0,p0)) (w64 ((p0.stack.length:Int)-1))
theorem Zio (p0:Pst) (p1:Int) (r:Int×Pst) (h:QT p0 p1=some r):Contract Tryz.prog 142 [.ptr 0 (0,0) 0,.int .i64 p1] (some (0,p0.cs)) (.int .i64 r.1) (r.2).cs:=by{
refine G7 (R:=fun r=>.int .i64 r.1) (O:=fun r=>(r.2).cs) h mix Tryz.func142 (by kernel_rfl) rfl (by kernel_rfl) fun r h=>?_
unfold QT at h
refine Zj ?_
refine rg ?_
refine rg ?_
refine lM Elt.cs p0.stack ?_
refine bl ?_
refine Zz h fun f12 mf12 hf12 h=>?_
refine Zu (α:=Nat×Int) (fun a _=>mkS [(0,.ptr 0 (0,0) 0),(1,.int .i64 p1),(5,.int .i64 a.2)] [(0,some ((0,0),.box (Pst.cs p0)))] 2) (fun a=>A3 a.1 f12 a.2=some r) (fun a=>a.1) (mf12,(w64 ((p0.stack.length:Int)-1))) 2 h (sR []) (fun a _ h=>?_)
obtain ⟨mf12,x42⟩:=a
obtain ⟨mf12,rfl,h⟩:=ZA hf12 h
dsimp only at h ⊢
refine Zj ?_
refine rg ?_
refine cS h rfl (fun h=>?_) fun h=>?_
refine bl ?_
refine jL h (fun x60=>mkS [(0,.ptr 0 (0,0) 0),(1,.int .i64 p1),(5,.int .i64 x42),(36,.bool x60)] [(0,some ((0,0),.box (Pst.cs p0)))] 2) (fun k14 h=>?_) fun x60 h=>?_
refine rg ?_
refine aI Elt.cs h fun e61 h=>?_
refine kS 25 h rfl (fun h=>?_) fun h=>?_
refine aI Elt.cs h fun e62 h=>?_
exact jn (decide (e62.tag=p1)) h (sR [])
iterate 10 refine Zw rfl (Zj ?_)
exact jn false h (sR [])
refine cS h rfl (fun h=>?_) fun h=>?_
refine rg ?_
cases h
exact IH rfl rfl rfl rfl rfl
refine rg ?_
exact rn (mf12,(w64 (x42-1))) h (sR [])
refine rg ?_
cases h
exact IH rfl rfl rfl rfl rfl}
def U0 (p0:Pst):Q2 (Int×Pst):=A3 A9 (fun f7 (x22:Int)=>letk (fun (x29:Bool)=>if x29 then (atI p0.stack x22).bind fun e31=>if decide (e31.kind=3) then some (x22,p0) else f7 (w64 (x22-1)) else (some (0,p0):Q2 (Int×Pst))) fun k8=>if decide (0<x22) then (atI p0.stack x22).bind fun e32=>k8 (!decide (e32.kind=2)) else k8 false) (w64 ((p0.stack.length:Int)-1))
theorem Zhe (p0:Pst) (r:Int×Pst) (h:U0 p0=some r):Contract Tryz.prog 188 [.ptr 0 (0,0) 0] (some (0,p0.cs)) (.int .i64 r.1) (r.2).cs:=by{
refine G7 (R:=fun r=>.int .i64 r.1) (O:=fun r=>(r.2).cs) h mix Tryz.func188 (by kernel_rfl) rfl (by kernel_rfl) fun r h=>?_
unfold U0 at h
refine Zj ?_
refine rg ?_
refine rg ?_
refine lM Elt.cs p0.stack ?_
refine bl ?_
refine Zz h fun f7 mf7 hf7 h=>?_
refine Zu (α:=Nat×Int) (fun a _=>mkS [(0,.ptr 0 (0,0) 0),(3,.int .i64 a.2)] [(0,some ((0,0),.box (Pst.cs p0)))] 2) (fun a=>A3 a.1 f7 a.2=some r) (fun a=>a.1) (mf7,(w64 ((p0.stack.length:Int)-1))) 2 h (sR []) (fun a _ h=>?_)
obtain ⟨mf7,x22⟩:=a
obtain ⟨mf7,rfl,h⟩:=ZA hf7 h
dsimp only at h ⊢
refine Zj ?_
refine jL h (fun x29=>mkS [(0,.ptr 0 (0,0) 0),(3,.int .i64 x22),(22,.bool x29)] [(0,some ((0,0),.box (Pst.cs p0)))] 2) (fun k8 h=>?_) fun x29 h=>?_
refine rg ?_
refine kS 12 h rfl (fun h=>?_) fun h=>?_
refine aI Elt.cs h fun e32 h=>?_
exact jn (!decide (e32.kind=2)) h (sR [])
iterate 9 refine Zw rfl (Zj ?_)
exact jn false h (sR [])
refine cS h rfl (fun h=>?_) fun h=>?_
refine bl ?_
refine rg ?_
refine aI Elt.cs h fun e31 h=>?_
refine cS h rfl (fun h=>?_) fun h=>?_
refine rg ?_
cases h
exact IH rfl rfl rfl rfl rfl
refine rg ?_
exact rn (mf7,(w64 (x22-1))) h (sR [])
refine rg ?_
cases h
exact IH rfl rfl rfl rfl rfl}
def U3 (p0:Pst) (p1:Int):Q2 Pst:=letk (fun (x45:Int) (x46:Q3 Elt)=>(NO x45 ⟨#[125]⟩).bind fun r47=>(Zy (⟨x46⟩:Pst) r47).bind fun r48=>some r48) fun k11=>A3 A9 (fun f18 ((x63,x64):Int×(Q3 Elt))=>if decide (2<=x63) then (U0 (⟨x64⟩:Pst)).bind fun r79=>if decide (r79.1=0) then k11 x63 r79.2.stack else (MC r79.2 r79.1).bind fun r80=>(JO r80).bind fun r81=>letk (fun (x82:Bool)=>letk (fun (x83:Int) (x84:Int)=>if decide (2<=(w64 (r81.1.count-x83))) then (A8 72 [] r81.2.stack).bind fun l87=>(A8 72 l87 [(⟨3,0,(w64 (r81.1.count-x83)),[(⟨x84,0,⟨#[]⟩,(List.map Node.cs r81.1.list),(List.map Arg.cs r81.1.args)⟩:Node)],[]⟩:Elt)]).bind fun l88=>f18 ((w64 (x63-x83)),l88) else letk (fun (x90:Q3 Elt)=>(I8 (⟨x90⟩:Pst) (⟨x84,0,⟨#[]⟩,(List.map Node.cs r81.1.list),(List.map Arg.cs r81.1.args)⟩:Node)).bind fun r91=>f18 ((w64 (x63-x83)),r91.stack)) fun k21=>if decide ((w64 (r81.1.count-x83))=1) then (Zy r81.2 ⟨#[123]⟩).bind fun r92=>k21 r92.stack else k21 r81.2.stack) fun k20=>if x82 then k20 3 5 else k20 2 4) fun k19=>if decide (3<=x63) then k19 (decide (3<=r81.1.count)) else k19 false else k11 x63 x64) (p1,p0.stack)
theorem Zip (p0:Pst) (p1:Int) (r:Pst) (h:U3 p0 p1=some r):Contract Tryz.prog 143 [.ptr 0 (0,0) 0,.int .i64 p1] (some (0,p0.cs)) (.tup []) r.cs:=by{
refine G7 (R:=fun r=>.tup []) (O:=fun r=>r.cs) h mix Tryz.func143 (by kernel_rfl) rfl (by kernel_rfl) fun r h=>?_
unfold U3 at h
refine Zj ?_
refine FO h fun k11 hk11 h=>?_
refine DM (α:=Int×(Q3 Elt)) (fun a _=>mkS [(0,.ptr 0 (0,0) 0),(1,.int .i64 a.1)] [(0,some ((0,0),.box [.sl (List.map Elt.cs a.2)]))] 2) (fun a=>k11 a.1 a.2=some r) (Zj ?_) (fun a _ h=>?_)
refine bl ?_
refine Zz h fun f18 mf18 hf18 h=>?_
refine Zu (α:=Nat×(Int×(Q3 Elt))) (fun a _=>mkS [(0,.ptr 0 (0,0) 0),(1,.int .i64 a.2.1)] [(0,some ((0,0),.box [.sl (List.map Elt.cs a.2.2)]))] 2) (fun a=>A3 a.1 f18 a.2=some r) (fun a=>a.1) (mf18,p1,p0.stack) 2 h (sR []) (fun a _ h=>?_)
obtain ⟨mf18,x63,x64⟩:=a
obtain ⟨mf18,rfl,h⟩:=ZA hf18 h
dsimp only at h ⊢
refine Zj ?_
refine rg ?_
refine cS h rfl (fun h=>?_) fun h=>?_
refine bl ?_
refine rg ?_
refine aO h (Zhe _) fun r79 h=>?_
refine rg ?_
refine cS h rfl (fun h=>?_) fun h=>?_
exact jn (x63,r79.2.stack) h (sR [])
refine rg ?_
refine aO h (f4 _ _) fun r80 h=>?_
refine rg ?_
refine aO h (XH _) fun r81 h=>?_
refine rg ?_
refine jL h (fun x82=>mkS [(0,.ptr 0 (0,0) 0),(1,.int .i64 x63),(5,.ptr 5 (1,5) 0),(6,.int .i64 2),(7,.int .i64 4),(27,.bool x82)] [(0,some ((0,0),.box (Pst.cs r81.2))),(5,some ((1,5),.box (Elt.cs r81.1)))] 2) (fun k19 h=>?_) fun x82 h=>?_
refine rg ?_
refine kS 23 h rfl (fun h=>?_) fun h=>?_
exact jn (decide (3<=r81.1.count)) h (sR [(5,6,2)])
iterate 3 refine Zw rfl (Zj ?_)
exact jn false h (sR [(5,6,2)])
refine FO h fun k20 hk20 h=>?_
refine DM (α:=Int×Int) (fun a _=>mkS [(0,.ptr 0 (0,0) 0),(1,.int .i64 x63),(5,.ptr 5 (1,5) 0),(6,.int .i64 a.1),(7,.int .i64 a.2)] [(0,some ((0,0),.box (Pst.cs r81.2))),(5,some ((1,5),.box (Elt.cs r81.1)))] 2) (fun a=>k20 a.1 a.2=some r) (Zj ?_) (fun a _ h=>?_)
refine cS h rfl (fun h=>?_) fun h=>?_
refine rg ?_
exact jn (3,5) h (sR [(5,1,5)])
exact jn (2,4) h (sR [(5,1,5)])
obtain ⟨x83,x84⟩:=a
subst hk20
dsimp only at h ⊢
refine Zj ?_
refine rg ?_
refine rg ?_
refine rg ?_
refine rg ?_
refine cS h rfl (fun h=>?_) fun h=>?_
refine rg ?_
obtain ⟨l87,h58,h⟩:=bnd h
refine JC (f:=Elt.cs) rfl h58 (fun _=>rfl) rfl rfl rfl (Zj ?_)
refine CT (M:=([(⟨x84,0,⟨#[]⟩,(List.map Node.cs r81.1.list),(List.map Arg.cs r81.1.args)⟩:Node)]:Q3 Node)) (f:=Node.cs) rfl rfl rfl rfl (Yk rfl) rfl (Zj ?_)
refine CT (M:=([(⟨3,0,(w64 (r81.1.count-x83)),[(⟨x84,0,⟨#[]⟩,(List.map Node.cs r81.1.list),(List.map Arg.cs r81.1.args)⟩:Node)],[]⟩:Elt)]:Q3 Elt)) (f:=Elt.cs) rfl rfl rfl rfl (Yk rfl) rfl (Zj ?_)
refine pR Elt.cs h fun l88 h=>?_
exact rn (mf18,(w64 (x63-x83)),l88) h (Shift.trans (P1 0 rfl rfl) (sR []))
refine rg ?_
refine jL h (fun x90=>mkS [(0,.ptr 0 (0,0) 0),(1,.int .i64 (w64 (x63-x83))),(8,.ptr 8 (1,8) 0)] [(0,some ((0,0),.box [.sl (List.map Elt.cs x90)])),(8,some ((1,8),.box [.int .i64 x84,.int .i64 0,.str ⟨#[]⟩,.sl (List.map Node.cs r81.1.list),.sl (List.map Arg.cs r81.1.args)]))] 2) (fun k21 h=>?_) fun x90 h=>?_
refine cS h rfl (fun h=>?_) fun h=>?_
refine rg ?_
refine aO h (ZT _ _) fun r92 h=>?_
exact jn r92.stack h (sR [(8,2,6)])
exact jn r81.2.stack h (sR [(8,2,6)])
refine rg ?_
refine aO h (QR _ _) fun r91 h=>?_
exact rn (mf18,(w64 (x63-x83)),r91.stack) h (sR [])
exact jn (x63,x64) h (sR [])
obtain ⟨x45,x46⟩:=a
subst hk11
dsimp only at h ⊢
refine Zj ?_
refine rg ?_
refine aC h (pE _ _) fun r47 h=>?_
refine aO h (ZT _ _) fun r48 h=>?_
cases h
exact CS rfl rfl rfl rfl rfl}
def NP (p0:Pst) (p1:Elt) (p2:Q1):Q2 Pst:=if decide (20<=(w64 ((p0.stack.length:Int)-1))) then (Zy p0 p2).bind fun r2=>some r2 else (A8 72 [] p0.stack).bind fun l3=>(A8 72 l3 [p1]).bind fun l4=>some ⟨l4⟩
theorem fA (p0:Pst) (p1:Elt) (p2:Q1) (r:Pst) (h:NP p0 p1 p2=some r):Contract Tryz.prog 135 [.ptr 0 (0,0) 0,p1.pv,.str p2] (some (0,p0.cs)) (.tup []) r.cs:=by{
refine G7 (R:=fun r=>.tup []) (O:=fun r=>r.cs) h mix Tryz.func135 (by kernel_rfl) rfl (by kernel_rfl) fun r h=>?_
unfold NP at h
refine Zj ?_
refine rg ?_
refine rg ?_
refine lM Elt.cs p0.stack ?_
refine cS h rfl (fun h=>?_) fun h=>?_
refine rg ?_
refine aO h (ZT _ _) fun r2 h=>?_
cases h
exact IH rfl rfl rfl rfl rfl
refine rg ?_
obtain ⟨l3,h3,h⟩:=bnd h
refine JC (f:=Elt.cs) rfl h3 (fun _=>rfl) rfl rfl rfl (Zj ?_)
refine CT (M:=([p1]:Q3 Elt)) (f:=Elt.cs) rfl rfl rfl rfl (Yk rfl) rfl (Zj ?_)
refine pR Elt.cs h fun l4 h=>?_
cases h
exact CS rfl rfl rfl rfl rfl}
def U4 (p0:Pst):Q2 Pst:=(I7 p0).bind fun r1=>letk (fun (x3:Bool)=>if x3 then (Zy r1.2 ⟨#[61]⟩).bind fun r5=>some r5 else (A8 56 [] r1.1.args).bind fun l6=>(atI l6 (w64 ((l6.length:Int)-1))).bind fun e7=>(atI l6 (w64 ((l6.length:Int)-1))).bind fun e8=>(KW r1.2 (⟨r1.1.kind,r1.1.tag,r1.1.count,r1.1.list,(AP l6 (w64 ((l6.length:Int)-1)) (⟨true,e7.value,[]⟩:Arg))⟩:Elt)).bind fun r9=>some r9) fun k1=>if (!decide (r1.1.kind=3)) then k1 true else if decide ((r1.1.args.length:Int)=0) then k1 true else (atI r1.1.args (w64 ((r1.1.args.length:Int)-1))).bind fun e10=>k1 e10.named
theorem ZjT (p0:Pst) (r:Pst) (h:U4 p0=some r):Contract Tryz.prog 139 [.ptr 0 (0,0) 0] (some (0,p0.cs)) (.tup []) r.cs:=by{
refine G7 (R:=fun r=>.tup []) (O:=fun r=>r.cs) h mix Tryz.func139 (by kernel_rfl) rfl (by kernel_rfl) fun r h=>?_
unfold U4 at h
refine Zj ?_
refine rg ?_
refine aO h (QQ _) fun r1 h=>?_
refine jL h (fun x3=>mkS [(0,.ptr 0 (0,0) 0),(2,.ptr 2 (1,2) 0),(25,.bool x3)] [(0,some ((0,0),.box (Pst.cs r1.2))),(2,some ((1,2),.box (Elt.cs r1.1)))] 2) (fun k1 h=>?_) fun x3 h=>?_
refine rg ?_
refine kS 9 h rfl (fun h=>?_) fun h=>?_
iterate 13 refine Zw rfl (Zj ?_)
exact jn true h (sR [(2,1,2)])
refine lM Arg.cs r1.1.args ?_
refine kS 15 h rfl (fun h=>?_) fun h=>?_
iterate 9 refine Zw rfl (Zj ?_)
exact jn true h (sR [(2,1,2)])
refine lM Arg.cs r1.1.args ?_
refine aI Arg.cs h fun e10 h=>?_
exact jn e10.named h (sR [(2,1,2)])
refine cS h rfl (fun h=>?_) fun h=>?_
refine rg ?_
refine aO h (ZT _ _) fun r5 h=>?_
cases h
exact IH rfl rfl rfl rfl rfl
refine rg ?_
obtain ⟨l6,h5,h⟩:=bnd h
refine JC (f:=Arg.cs) rfl h5 (fun _=>rfl) rfl rfl rfl (Zj ?_)
refine rg ?_
refine lM Arg.cs l6 ?_
refine lM Arg.cs l6 ?_
obtain ⟨e7,h6,h⟩:=bnd h
refine ZP rfl h6 rfl rfl rfl (Zj ?_)
refine B6 rfl h6 rfl rfl rfl (Zj ?_)
obtain ⟨e8,h7,h⟩:=bnd h
refine ZP rfl h7 rfl rfl rfl (Zj ?_)
refine FP (e':=(⟨true,e7.value,[]⟩:Arg)) rfl h7 rfl rfl rfl rfl rfl rfl (Yk rfl) rfl rfl (Zj ?_)
refine rg ?_
refine rg ?_
refine aO h (eZ _ _) fun r9 h=>?_
cases h
exact CS rfl rfl rfl rfl rfl}
def U5 (p0:Pst) (p1:Q1) (p2:Tok):Q2 Pst:=(KR p1 p2).bind fun r1=>if decide (p2.kind=9) then (I8 p0 (⟨2,0,r1,[],[]⟩:Node)).bind fun r2=>some r2 else if decide (p2.kind=10) then (AH r1 8 (w64 ((r1.size:Int)-9))).bind fun l3=>(I8 p0 (⟨3,0,l3,[],[]⟩:Node)).bind fun r4=>some r4 else if decide (p2.kind=3) then (NP p0 (⟨3,0,(r1.size:Int),[],[]⟩:Elt) r1).bind fun r5=>some r5 else if decide (p2.kind=5) then (NP p0 (⟨1,0,0,[],[]⟩:Elt) r1).bind fun r6=>some r6 else if decide (p2.kind=11) then (NK p1 p2).bind fun r7=>(NP p0 (⟨2,r7,0,[],[]⟩:Elt) r1).bind fun r8=>some r8 else if decide (p2.kind=7) then (I7 p0).bind fun r9=>if decide (r9.1.kind=3) then (A8 56 [] r9.1.args).bind fun l13=>(A8 56 l13 [(⟨false,[],[]⟩:Arg)]).bind fun l14=>(KW r9.2 (⟨r9.1.kind,r9.1.tag,r9.1.count,r9.1.list,l14⟩:Elt)).bind fun r15=>some r15 else (Zy r9.2 r1).bind fun r16=>some r16 else if decide (p2.kind=8) then (U4 p0).bind fun r17=>some r17 else if decide (p2.kind=6) then (I7 p0).bind fun r18=>if (!decide (r18.1.kind=1)) then (Zy r18.2 r1).bind fun r20=>some r20 else (JO r18.2).bind fun r21=>(Zy r21.2 ⟨#[91,91]⟩).bind fun r22=>(IU r22 r21.1.list).bind fun r23=>(Zy r23 ⟨#[93,93]⟩).bind fun r24=>some r24 else if decide (p2.kind=12) then (NK p1 p2).bind fun r25=>(QT p0 r25).bind fun r26=>if decide (r26.1=0) then (Zy r26.2 r1).bind fun r28=>some r28 else (MC r26.2 r26.1).bind fun r29=>(JO r29).bind fun r30=>(I8 r30.2 (⟨6,r30.1.tag,⟨#[]⟩,(List.map Node.cs r30.1.list),[]⟩:Node)).bind fun r31=>some r31 else if decide (p2.kind=4) then (U3 p0 (r1.size:Int)).bind fun r32=>some r32 else (Zy p0 r1).bind fun r33=>some r33
theorem ZjU (p0:Pst) (p1:Q1) (p2:Tok) (r:Pst) (h:U5 p0 p1 p2=some r):Contract Tryz.prog 74 [.ptr 0 (0,0) 0,.str p1,p2.pv] (some (0,p0.cs)) (.tup []) r.cs:=by{
refine G7 (R:=fun r=>.tup []) (O:=fun r=>r.cs) h mix Tryz.func74 (by kernel_rfl) rfl (by kernel_rfl) fun r h=>?_
unfold U5 at h
refine Zj ?_
refine rg ?_
refine rg ?_
refine aC h (X6 _ _) fun r1 h=>?_
refine rg ?_
refine bl ?_
refine rg ?_
refine cS h rfl (fun h=>?_) fun h=>?_
refine rg ?_
refine aO h (QR _ _) fun r2 h=>?_
cases h
exact CS rfl rfl rfl rfl rfl
refine rg ?_
refine cS h rfl (fun h=>?_) fun h=>?_
refine rg ?_
refine sS h fun l3 h=>?_
refine aO h (QR _ _) fun r4 h=>?_
cases h
exact CS rfl rfl rfl rfl rfl
refine rg ?_
refine cS h rfl (fun h=>?_) fun h=>?_
refine rg ?_
refine aO h (fA _ _ _) fun r5 h=>?_
cases h
exact CS rfl rfl rfl rfl rfl
refine rg ?_
refine cS h rfl (fun h=>?_) fun h=>?_
refine rg ?_
refine aO h (fA _ _ _) fun r6 h=>?_
cases h
exact CS rfl rfl rfl rfl rfl
refine rg ?_
refine cS h rfl (fun h=>?_) fun h=>?_
refine rg ?_
refine aC h (o8 _ _) fun r7 h=>?_
refine aO h (fA _ _ _) fun r8 h=>?_
cases h
exact CS rfl rfl rfl rfl rfl
refine rg ?_
refine cS h rfl (fun h=>?_) fun h=>?_
refine rg ?_
refine aO h (QQ _) fun r9 h=>?_
refine rg ?_
refine cS h rfl (fun h=>?_) fun h=>?_
refine rg ?_
obtain ⟨l13,h13,h⟩:=bnd h
refine JC (f:=Arg.cs) rfl h13 (fun _=>rfl) rfl rfl rfl (Zj ?_)
refine CT (M:=([(⟨false,[],[]⟩:Arg)]:Q3 Arg)) (f:=Arg.cs) rfl rfl rfl rfl (Yk rfl) rfl (Zj ?_)
refine pR Arg.cs h fun l14 h=>?_
refine rg ?_
refine aO h (eZ _ _) fun r15 h=>?_
cases h
exact IH rfl rfl rfl rfl rfl
refine rg ?_
refine aO h (ZT _ _) fun r16 h=>?_
cases h
exact CS rfl rfl rfl rfl rfl
refine rg ?_
refine cS h rfl (fun h=>?_) fun h=>?_
refine rg ?_
refine aO h (ZjT _) fun r17 h=>?_
cases h
exact CS rfl rfl rfl rfl rfl
refine rg ?_
refine cS h rfl (fun h=>?_) fun h=>?_
refine rg ?_
refine aO h (QQ _) fun r18 h=>?_
refine cS h rfl (fun h=>?_) fun h=>?_
refine rg ?_
refine aO h (ZT _ _) fun r20 h=>?_
cases h
exact IH rfl rfl rfl rfl rfl
refine rg ?_
refine aO h (XH _) fun r21 h=>?_
refine rg ?_
refine aO h (ZT _ _) fun r22 h=>?_
refine rg ?_
refine aO h (QS _ _) fun r23 h=>?_
refine rg ?_
refine aO h (ZT _ _) fun r24 h=>?_
cases h
exact CS rfl rfl rfl rfl rfl
refine rg ?_
refine cS h rfl (fun h=>?_) fun h=>?_
refine rg ?_
refine aC h (o8 _ _) fun r25 h=>?_
refine aO h (Zio _ _) fun r26 h=>?_
refine rg ?_
refine cS h rfl (fun h=>?_) fun h=>?_
refine rg ?_
refine aO h (ZT _ _) fun r28 h=>?_
cases h
exact IH rfl rfl rfl rfl rfl
refine rg ?_
refine aO h (f4 _ _) fun r29 h=>?_
refine rg ?_
refine aO h (XH _) fun r30 h=>?_
refine rg ?_
refine aO h (QR _ _) fun r31 h=>?_
cases h
exact CS rfl rfl rfl rfl rfl
refine rg ?_
refine cS h rfl (fun h=>?_) fun h=>?_
refine rg ?_
refine aO h (Zip _ _) fun r32 h=>?_
cases h
exact CS rfl rfl rfl rfl rfl
refine rg ?_
refine aO h (ZT _ _) fun r33 h=>?_
cases h
exact CS rfl rfl rfl rfl rfl}
def QU (p0:Q1):Q2 ((Q3 Node)×Int):=(TN p0).bind fun r1=>if (!decide (r1.2=0)) then some ([],r1.2) else A3 A9 (fun f2 ((x20,x21):Int×(Q3 Elt))=>if decide (x20<(r1.1.length:Int)) then (atI r1.1 x20).bind fun e28=>(U5 (⟨x21⟩:Pst) p0 e28).bind fun r29=>f2 ((w64 (x20+1)),r29.stack) else (MC (⟨x21⟩:Pst) 0).bind fun r30=>(I7 r30).bind fun r31=>some (r31.1.list,0)) (0,[(⟨0,0,0,[],[]⟩:Elt)])
theorem Zsl (p0:Q1) (r:(Q3 Node)×Int) (h:QU p0=some r):Zg Tryz.prog 42 [.str p0] (.tup [.sl (List.map Node.cs r.1),.int .i64 r.2]):=by{
refine cF (fun r=>.tup [.sl (List.map Node.cs r.1),.int .i64 r.2]) h mix Tryz.func42 fun r h=>?_
unfold QU at h
refine Zj ?_
refine rg ?_
refine rg ?_
refine aC h (Zt0 _) fun r1 h=>?_
refine rg ?_
refine cS h rfl (fun h=>?_) fun h=>?_
refine rg ?_
cases h
exact rQ
refine rg ?_
refine CT (M:=([(⟨0,0,0,[],[]⟩:Elt)]:Q3 Elt)) (f:=Elt.cs) rfl rfl rfl rfl (Yk rfl) rfl (Zj ?_)
refine rg ?_
refine bl ?_
refine Zz h fun f2 mf2 hf2 h=>?_
refine Zu (α:=Nat×(Int×(Q3 Elt))) (fun a _=>mkS [(0,.str p0),(4,.sl (List.map Tok.cs r1.1)),(6,.ptr 19 (1,19) 0),(7,.int .i64 a.2.1)] [(19,some ((1,19),.box [.sl (List.map Elt.cs a.2.2)]))] 2) (fun a=>A3 a.1 f2 a.2=some r) (fun a=>a.1) (mf2,0,[(⟨0,0,0,[],[]⟩:Elt)]) 2 h (Shift.trans (P1 19 rfl rfl) (sR [(19,4,3)])) (fun a _ h=>?_)
obtain ⟨mf2,x20,x21⟩:=a
obtain ⟨mf2,rfl,h⟩:=ZA hf2 h
dsimp only at h ⊢
refine Zj ?_
refine rg ?_
refine lM Tok.cs r1.1 ?_
refine cS h rfl (fun h=>?_) fun h=>?_
refine bl ?_
refine rg ?_
refine aI Tok.cs h fun e28 h=>?_
refine aO h (ZjU _ _ _) fun r29 h=>?_
refine rg ?_
exact rn (mf2,(w64 (x20+1)),r29.stack) h (sR [(19,1,19)])
refine rg ?_
refine aO h (f4 _ _) fun r30 h=>?_
refine rg ?_
refine aO h (QQ _) fun r31 h=>?_
cases h
exact rQ}
end
end Go.Proofs.YtmgfammllddkhaaGreatDoor
