/- Functions of -/
import Derived.Test.YtmgfammllddkhaaGreatDoorCU11
set_option linter.unusedSimpArgs false
set_option linter.unusedVariables false
set_option maxHeartbeats 4000000
set_option maxRecDepth 100000
namespace Go.Proofs.YtmgfammllddkhaaGreatDoor
section
open VL
def HY (p0:Pst):Q2 (Elt×Pst):=(atI p0.stack (w64 ((p0.stack.length:Int)-1))).bind fun e1=>some (e1,p0)
theorem QV (p0:Pst) (r:Elt×Pst) (h:HY p0=some r):Contract Q7 76 [.ptr 0 (0,0) 0] (some (0,p0.cs)) (r.1.pv) (r.2).cs:=by{
refine DB (R:=fun r=>r.1.pv) (O:=fun r=>(r.2).cs) h mix Tryz.func76 fun r h=>?_
unfold HY at h
refine Zi ?_
refine rg ?_
refine rg ?_
refine lM Elt.cs p0.stack ?_
refine aI Elt.cs h fun e1 h=>?_
cases h
exact AX rfl rfl rfl rfl rfl}
def KR (p0:Pst) (p1:Elt):Q2 Pst:=(CJ p0.stack 0 (w64 ((p0.stack.length:Int)-1))).bind fun l1=>(AA 72 [] l1).bind fun l2=>(AA 72 l2 [p1]).bind fun l3=>some ⟨l3⟩
theorem fI (p0:Pst) (p1:Elt) (r:Pst) (h:KR p0 p1=some r):Contract Q7 137 [.ptr 0 (0,0) 0,p1.pv] (some (0,p0.cs)) (.tup []) r.cs:=by{
refine DB (R:=fun r=>.tup []) (O:=fun r=>r.cs) h mix Tryz.func137 fun r h=>?_
unfold KR at h
refine Zi ?_
refine rg ?_
refine rg ?_
refine lM Elt.cs p0.stack ?_
refine sM Elt.cs h fun l1 h=>?_
let ⟨l2,h2,h⟩:=bnd h
refine J4 (f:=Elt.cs) rfl h2 (fun _=>rfl) rfl rfl rfl (Zi ?_)
refine CR (M:=([p1]:Q3 Elt)) (f:=Elt.cs) rfl rfl rfl rfl (Yk rfl) rfl (Zi ?_)
refine pR Elt.cs h fun l3 h=>?_
cases h
exact CQ rfl rfl rfl rfl rfl}
def JG (p0:Pst):Q2 (Elt×Pst):=(HY p0).bind fun r1=>(CJ r1.2.stack 0 (w64 ((r1.2.stack.length:Int)-1))).bind fun l2=>(AA 72 [] l2).bind fun l3=>some (r1.1,⟨l3⟩)
theorem XS (p0:Pst) (r:Elt×Pst) (h:JG p0=some r):Contract Q7 140 [.ptr 0 (0,0) 0] (some (0,p0.cs)) (r.1.pv) (r.2).cs:=by{
refine DB (R:=fun r=>r.1.pv) (O:=fun r=>(r.2).cs) h mix Tryz.func140 fun r h=>?_
unfold JG at h
refine Zi ?_
refine rg ?_
refine rg ?_
refine aO h (QV _) fun r1 h=>?_
refine rg ?_
refine lM Elt.cs r1.2.stack ?_
refine sM Elt.cs h fun l2 h=>?_
let ⟨l3,h3,h⟩:=bnd h
refine J4 (f:=Elt.cs) rfl h3 (fun _=>rfl) rfl rfl rfl (Zi ?_)
refine rg ?_
cases h
exact AX rfl rfl rfl rfl rfl}
def JH (p0:Q3 Node) (p1:Node):Q2 (Q3 Node):=(AA 80 [] p0).bind fun l1=>letk (fun (_:Unit)=>(AA 80 l1 [p1]).bind fun l8=>some l8) fun k2=>if decide (p1.kind=1) then if decide (p1.text=(⟨#[]⟩:Q1)) then some l1 else letk (fun (x10:Bool)=>if x10 then (atI l1 (w64 ((l1.length:Int)-1))).bind fun e11=>(A7 e11.text p1.text).bind fun s12=>(atI l1 (w64 ((l1.length:Int)-1))).bind fun e13=>(some (AQ l1 (w64 ((l1.length:Int)-1)) (⟨1,0,s12,[],[]⟩:Node)):Q2 (Q3 Node)) else k2 ()) fun k3=>if decide (0<(l1.length:Int)) then (atI l1 (w64 ((l1.length:Int)-1))).bind fun e14=>k3 (decide (e14.kind=1)) else k3 false else k2 ()
theorem qI (p0:Q3 Node) (p1:Node) (r:Q3 Node) (h:JH p0 p1=some r):Zg Q7 187 [.sl (List.map Node.cs p0),p1.pv] (.sl (List.map Node.cs r)):=by{
refine cF (fun r=>.sl (Q8 Node.cs r)) h mix Tryz.func187 fun r h=>?_
unfold JH at h
refine Zi ?_
refine rg ?_
refine rg ?_
let ⟨l1,h1,h⟩:=bnd h
refine J4 (f:=Node.cs) rfl h1 (fun _=>rfl) rfl rfl rfl (Zi ?_)
refine rg ?_
refine ER h fun k2 hk2 h=>?_
refine DA (α:=Unit) (fun _ _=>mkS [(3,.ptr 3 (1,3) 0),(5,.row 7 (1,7))] [(3,some ((1,3),.box [Q5 p1.kind,Q5 p1.tag,.str p1.text,.sl p1.kids,.sl p1.args])),(7,some ((1,7),.row 78 5 false (Q8 Node.cs l1)))] 2) (fun _=>k2 ()=some r) (Zi ?_) (fun a _ h=>?_)
refine cS h rfl (fun h=>?_) fun h=>?_
refine rg ?_
refine cS h rfl (fun h=>?_) fun h=>?_
refine rg ?_
cases h
exact rQ
refine jL h (fun x10=>mkS [(3,.ptr 3 (1,3) 0),(5,.row 7 (1,7)),(27,.bool x10)] [(3,some ((1,3),.box [Q5 p1.kind,Q5 p1.tag,.str p1.text,.sl p1.kids,.sl p1.args])),(7,some ((1,7),.row 78 5 false (Q8 Node.cs l1)))] 2) (fun k3 h=>?_) fun x10 h=>?_
refine rg ?_
refine lM Node.cs l1 ?_
refine kS 18 h rfl (fun h=>?_) fun h=>?_
refine lM Node.cs l1 ?_
let ⟨e14,h12,h⟩:=bnd h
refine ZT rfl h12 rfl rfl rfl (Zi ?_)
refine B9 rfl h12 rfl rfl rfl (Zi ?_)
exact jn (decide (e14.kind=1)) h (sR [(3,1,0),(7,2,1)])
iterate 8 refine Zw rfl (Zi ?_)
exact jn false h (sR [(3,1,0),(7,2,1)])
refine cS h rfl (fun h=>?_) fun h=>?_
refine rg ?_
refine lM Node.cs l1 ?_
refine lM Node.cs l1 ?_
let ⟨e11,h9,h⟩:=bnd h
refine ZT rfl h9 rfl rfl rfl (Zi ?_)
refine B9 rfl h9 rfl rfl rfl (Zi ?_)
refine sT h fun s12 h=>?_
let ⟨e13,h11,h⟩:=bnd h
refine ZT rfl h11 rfl rfl rfl (Zi ?_)
refine FM (e':=(⟨1,0,s12,[],[]⟩:Node)) rfl h11 rfl rfl rfl rfl rfl rfl (Yk rfl) rfl rfl (Zi ?_)
refine rg ?_
cases h
exact rQ
exact jn () h (sR [(3,1,3),(7,1,7)])
exact jn () h (sR [(3,1,0),(7,2,1)])
subst hk2
dsimp only at h ⊢
refine Zi ?_
refine rg ?_
refine CR (M:=([p1]:Q3 Node)) (f:=Node.cs) rfl rfl rfl rfl (Yk rfl) rfl (Zi ?_)
refine pR Node.cs h fun l8 h=>?_
cases h
exact rQ}
def I0 (p0:Pst) (p1:Node):Q2 Pst:=(HY p0).bind fun r1=>letk (fun (x2:Bool)=>letk (fun (x9:Q3 Node) (x10:Q3 Arg)=>(KR r1.2 (⟨r1.1.kind,r1.1.tag,r1.1.count,x9,x10⟩:Elt)).bind fun r11=>some r11) fun k2=>if x2 then (AA 56 [] r1.1.args).bind fun l12=>(atI l12 (w64 ((l12.length:Int)-1))).bind fun e13=>(AV e13.value).bind fun l14=>(JH l14 p1).bind fun r15=>(atI l12 (w64 ((l12.length:Int)-1))).bind fun e16=>k2 r1.1.list (AQ l12 (w64 ((l12.length:Int)-1)) (⟨e13.named,e13.name,(List.map Node.cs r15)⟩:Arg)) else (JH r1.1.list p1).bind fun r17=>k2 r17 r1.1.args) fun k1=>if decide (r1.1.kind=3) then k1 (decide (0<(r1.1.args.length:Int))) else k1 false
theorem QW (p0:Pst) (p1:Node) (r:Pst) (h:I0 p0 p1=some r):Contract Q7 134 [.ptr 0 (0,0) 0,p1.pv] (some (0,p0.cs)) (.tup []) r.cs:=by{
refine DB (R:=fun r=>.tup []) (O:=fun r=>r.cs) h mix Tryz.func134 fun r h=>?_
unfold I0 at h
refine Zi ?_
refine rg ?_
refine rg ?_
refine aO h (QV _) fun r1 h=>?_
refine jL h (fun x2=>mkS [(0,Q6),(3,.ptr 3 (1,3) 0),(4,.ptr 4 (1,4) 0),(17,.bool x2)] [(0,some ((0,0),.box (Pst.cs r1.2))),(3,some ((1,3),.box [Q5 p1.kind,Q5 p1.tag,.str p1.text,.sl p1.kids,.sl p1.args])),(4,some ((1,4),.box (Elt.cs r1.1)))] 2) (fun k1 h=>?_) fun x2 h=>?_
refine rg ?_
refine kS 12 h rfl (fun h=>?_) fun h=>?_
refine lM Arg.cs r1.1.args ?_
exact jn (decide (0<(r1.1.args.length:Int))) h (sR [(3,1,0),(4,2,2)])
iterate 4 refine Zw rfl (Zi ?_)
exact jn false h (sR [(3,1,0),(4,2,2)])
refine ER h fun k2 hk2 h=>?_
refine DA (α:=(Q3 Node)×(Q3 Arg)) (fun a _=>mkS [(0,Q6),(4,.ptr 4 (1,4) 0)] [(0,some ((0,0),.box (Pst.cs r1.2))),(4,some ((1,4),.box [Q5 r1.1.kind,Q5 r1.1.tag,Q5 r1.1.count,.sl (Q8 Node.cs a.1),.sl (Q8 Arg.cs a.2)]))] 2) (fun a=>k2 a.1 a.2=some r) (Zi ?_) (fun a _ h=>?_)
refine cS h rfl (fun h=>?_) fun h=>?_
refine rg ?_
let ⟨l12,h9,h⟩:=bnd h
refine J4 (f:=Arg.cs) rfl h9 (fun _=>rfl) rfl rfl rfl (Zi ?_)
refine rg ?_
refine lM Arg.cs l12 ?_
let ⟨e13,h10,h⟩:=bnd h
refine ZT rfl h10 rfl rfl rfl (Zi ?_)
refine B9 rfl h10 rfl rfl rfl (Zi ?_)
refine rg ?_
let ⟨l14,h11,h⟩:=bnd h
refine E9 28 (G6 h11) rfl (Zi ?_)
refine aC h (qI _ _) fun r15 h=>?_
refine rg ?_
refine lM Arg.cs l12 ?_
let ⟨e16,h13,h⟩:=bnd h
refine ZT rfl h13 rfl rfl rfl (Zi ?_)
refine FM (e':=(⟨e13.named,e13.name,(Q8 Node.cs r15)⟩:Arg)) rfl h13 rfl rfl rfl rfl rfl rfl (Yk rfl) rfl rfl (Zi ?_)
refine rg ?_
exact jn (r1.1.list,(AQ l12 (w64 ((l12.length:Int)-1)) (⟨e13.named,e13.name,(Q8 Node.cs r15)⟩:Arg))) h (Shift.trans (P1 4 rfl rfl) (sR [(4,1,4)]))
refine rg ?_
refine aC h (qI _ _) fun r17 h=>?_
exact jn (r17,r1.1.args) h (sR [(4,1,4)])
obtain ⟨x9,x10⟩:=a
subst hk2
dsimp only at h ⊢
refine Zi ?_
refine rg ?_
refine aO h (fI _ _) fun r11 h=>?_
cases h
exact CQ rfl rfl rfl rfl rfl}
def ZA (p0:Pst) (p1:Q1):Q2 Pst:=(I0 p0 (⟨1,0,p1,[],[]⟩:Node)).bind fun r1=>some r1
theorem ZW (p0:Pst) (p1:Q1) (r:Pst) (h:ZA p0 p1=some r):Contract Q7 138 [.ptr 0 (0,0) 0,.str p1] (some (0,p0.cs)) (.tup []) r.cs:=by{
refine DB (R:=fun r=>.tup []) (O:=fun r=>r.cs) h mix Tryz.func138 fun r h=>?_
unfold ZA at h
refine Zi ?_
refine rg ?_
refine aO h (QW _ _) fun r1 h=>?_
cases h
exact CQ rfl rfl rfl rfl rfl}
def IR (p0:Pst) (p1:Q3 Node):Q2 Pst:=A4 A9 (fun f1 ((x5,x6):Int×(Q3 Elt))=>if decide (x5<(p1.length:Int)) then (atI p1 x5).bind fun e13=>(I0 (⟨x6⟩:Pst) e13).bind fun r14=>f1 ((w64 (x5+1)),r14.stack) else some ⟨x6⟩) (0,p0.stack)
theorem QX (p0:Pst) (p1:Q3 Node) (r:Pst) (h:IR p0 p1=some r):Contract Q7 141 [.ptr 0 (0,0) 0,.sl (List.map Node.cs p1)] (some (0,p0.cs)) (.tup []) r.cs:=by{
refine DB (R:=fun r=>.tup []) (O:=fun r=>r.cs) h mix Tryz.func141 fun r h=>?_
unfold IR at h
refine Zi ?_
refine rg ?_
refine bl ?_
refine Zy h fun f1 mf1 hf1 h=>?_
refine Zu (α:=Nat×(Int×(Q3 Elt))) (fun a _=>mkS [(0,Q6),(1,.sl (Q8 Node.cs p1)),(4,Q5 a.2.1)] [(0,some ((0,0),.box [.sl (Q8 Elt.cs a.2.2)]))] 2) (fun a=>A4 a.1 f1 a.2=some r) (fun a=>a.1) (mf1,0,p0.stack) 2 h (sR []) (fun a _ h=>?_)
obtain ⟨mf1,x5,x6⟩:=a
obtain ⟨mf1,rfl,h⟩:=Zz hf1 h
dsimp only at h ⊢
refine Zi ?_
refine rg ?_
refine lM Node.cs p1 ?_
refine cS h rfl (fun h=>?_) fun h=>?_
refine bl ?_
refine rg ?_
refine aI Node.cs h fun e13 h=>?_
refine aO h (QW _ _) fun r14 h=>?_
refine rg ?_
exact rn (mf1,(w64 (x5+1)),r14.stack) h (sR [])
cases h
exact CQ rfl rfl rfl rfl rfl}
def NR (p0:Int) (p1:Q1):Q2 Q1:=A4 A9 (fun f2 ((x11,x12):Q1×Int)=>if decide (x12<p0) then (A7 x11 p1).bind fun s16=>f2 (s16,(w64 (x12+1))) else some x11) ((⟨#[]⟩:Q1),0)
theorem qJ (p0:Int) (p1:Q1) (r:Q1) (h:NR p0 p1=some r):Zg Q7 189 [.int .i64 p0,.str p1] (.str r):=by{
refine cF (fun r=>.str r) h mix Tryz.func189 fun r h=>?_
unfold NR at h
refine Zi ?_
refine rg ?_
refine rg ?_
refine rg ?_
refine bl ?_
refine Zy h fun f2 mf2 hf2 h=>?_
refine Zu (α:=Nat×(Q1×Int)) (fun a _=>mkS [(0,Q5 p0),(1,.str p1),(5,.str a.2.1),(6,Q5 a.2.2)] [] 2) (fun a=>A4 a.1 f2 a.2=some r) (fun a=>a.1) (mf2,⟨#[]⟩,0) 2 h (sR []) (fun a _ h=>?_)
obtain ⟨mf2,x11,x12⟩:=a
obtain ⟨mf2,rfl,h⟩:=Zz hf2 h
dsimp only at h ⊢
refine Zi ?_
refine rg ?_
refine cS h rfl (fun h=>?_) fun h=>?_
refine bl ?_
refine rg ?_
refine sT h fun s16 h=>?_
refine rg ?_
exact rn (mf2,s16,(w64 (x12+1))) h (sR [])
refine rg ?_
cases h
exact rQ}
def U9 (p0:Pst):Q2 Pst:=(JG p0).bind fun r1=>if decide (r1.1.kind=1) then (ZA r1.2 ⟨#[91,91]⟩).bind fun r2=>(IR r2 r1.1.list).bind fun r3=>some r3 else if decide (r1.1.kind=2) then (EB r1.1.tag false).bind fun r4=>(ZA r1.2 r4).bind fun r5=>(IR r5 r1.1.list).bind fun r6=>some r6 else if decide (r1.1.kind=3) then (NR r1.1.count ⟨#[123]⟩).bind fun r7=>(ZA r1.2 r7).bind fun r8=>(IR r8 r1.1.list).bind fun r9=>A4 A9 (fun f5 ((x38,x39):Int×(Q3 Elt))=>if decide (x38<(r1.1.args.length:Int)) then (ZA (⟨x39⟩:Pst) ⟨#[124]⟩).bind fun r82=>(atI r1.1.args x38).bind fun e83=>letk (fun (x88:Q3 Elt)=>(atI r1.1.args x38).bind fun e89=>(AV e89.value).bind fun l90=>(IR (⟨x88⟩:Pst) l90).bind fun r91=>f5 ((w64 (x38+1)),r91.stack)) fun k7=>if e83.named then (atI r1.1.args x38).bind fun e92=>(AV e92.name).bind fun l93=>(IR r82 l93).bind fun r94=>(ZA r94 ⟨#[61]⟩).bind fun r95=>k7 r95.stack else k7 r82.stack else some ⟨x39⟩) (0,r9.stack) else some r1.2
theorem ZiC (p0:Pst) (r:Pst) (h:U9 p0=some r):Contract Q7 144 [.ptr 0 (0,0) 0] (some (0,p0.cs)) (.tup []) r.cs:=by{
refine DB (R:=fun r=>.tup []) (O:=fun r=>r.cs) h mix Tryz.func144 fun r h=>?_
unfold U9 at h
refine Zi ?_
refine rg ?_
refine aO h (XS _) fun r1 h=>?_
refine rg ?_
refine bl ?_
refine rg ?_
refine cS h rfl (fun h=>?_) fun h=>?_
refine rg ?_
refine aO h (ZW _ _) fun r2 h=>?_
refine rg ?_
refine aO h (QX _ _) fun r3 h=>?_
cases h
exact CQ rfl rfl rfl rfl rfl
refine rg ?_
refine cS h rfl (fun h=>?_) fun h=>?_
refine rg ?_
refine aC h (PL _ _) fun r4 h=>?_
refine aO h (ZW _ _) fun r5 h=>?_
refine rg ?_
refine aO h (QX _ _) fun r6 h=>?_
cases h
exact CQ rfl rfl rfl rfl rfl
refine rg ?_
refine cS h rfl (fun h=>?_) fun h=>?_
refine rg ?_
refine aC h (qJ _ _) fun r7 h=>?_
refine aO h (ZW _ _) fun r8 h=>?_
refine rg ?_
refine aO h (QX _ _) fun r9 h=>?_
refine rg ?_
refine bl ?_
refine Zy h fun f5 mf5 hf5 h=>?_
refine Zu (α:=Nat×(Int×(Q3 Elt))) (fun a _=>mkS [(0,Q6),(2,.ptr 2 (1,2) 0),(3,Q5 a.2.1)] [(0,some ((0,0),.box [.sl (Q8 Elt.cs a.2.2)])),(2,some ((1,2),.box (Elt.cs r1.1)))] 2) (fun a=>A4 a.1 f5 a.2=some r) (fun a=>a.1) (mf5,0,r9.stack) 2 h (sR [(2,1,2)]) (fun a _ h=>?_)
obtain ⟨mf5,x38,x39⟩:=a
obtain ⟨mf5,rfl,h⟩:=Zz hf5 h
dsimp only at h ⊢
refine Zi ?_
refine rg ?_
refine lM Arg.cs r1.1.args ?_
refine cS h rfl (fun h=>?_) fun h=>?_
refine bl ?_
refine rg ?_
refine aO h (ZW _ _) fun r82 h=>?_
refine rg ?_
refine aI Arg.cs h fun e83 h=>?_
refine jL h (fun x88=>mkS [(0,Q6),(2,.ptr 2 (1,2) 0),(3,Q5 x38)] [(0,some ((0,0),.box [.sl (Q8 Elt.cs x88)])),(2,some ((1,2),.box (Elt.cs r1.1)))] 2) (fun k7 h=>?_) fun x88 h=>?_
refine cS h rfl (fun h=>?_) fun h=>?_
refine rg ?_
refine aI Arg.cs h fun e92 h=>?_
let ⟨l93,h85,h⟩:=bnd h
refine E9 59 (G6 h85) rfl (Zi ?_)
refine aO h (QX _ _) fun r94 h=>?_
refine rg ?_
refine aO h (ZW _ _) fun r95 h=>?_
exact jn r95.stack h (sR [(2,1,2)])
exact jn r82.stack h (sR [(2,1,2)])
refine rg ?_
refine aI Arg.cs h fun e89 h=>?_
let ⟨l90,h82,h⟩:=bnd h
refine E9 69 (G6 h82) rfl (Zi ?_)
refine aO h (QX _ _) fun r91 h=>?_
refine rg ?_
exact rn (mf5,(w64 (x38+1)),r91.stack) h (sR [(2,1,2)])
cases h
exact CQ rfl rfl rfl rfl rfl
cases h
exact CQ rfl rfl rfl rfl rfl}
def MC (p0:Pst) (p1:Int):Q2 Pst:=A4 A9 (fun f1 (x2:Q3 Elt)=>if decide (p1<(w64 ((x2.length:Int)-1))) then (U9 (⟨x2⟩:Pst)).bind fun r4=>f1 r4.stack else some ⟨x2⟩) p0.stack
theorem fJ (p0:Pst) (p1:Int) (r:Pst) (h:MC p0 p1=some r):Contract Q7 75 [.ptr 0 (0,0) 0,.int .i64 p1] (some (0,p0.cs)) (.tup []) r.cs:=by{
refine DB (R:=fun r=>.tup []) (O:=fun r=>r.cs) h mix Tryz.func75 fun r h=>?_
unfold MC at h
refine Zi ?_
refine bl ?_
refine Zy h fun f1 mf1 hf1 h=>?_
refine Zu (α:=Nat×(Q3 Elt)) (fun a _=>mkS [(0,Q6),(1,Q5 p1)] [(0,some ((0,0),.box [.sl (Q8 Elt.cs a.2)]))] 2) (fun a=>A4 a.1 f1 a.2=some r) (fun a=>a.1) (mf1,p0.stack) 2 h (sR []) (fun a _ h=>?_)
obtain ⟨mf1,x2⟩:=a
obtain ⟨mf1,rfl,h⟩:=Zz hf1 h
dsimp only at h ⊢
refine Zi ?_
refine rg ?_
refine lM Elt.cs x2 ?_
refine cS h rfl (fun h=>?_) fun h=>?_
refine bl ?_
refine rg ?_
refine aO h (ZiC _) fun r4 h=>?_
exact rn (mf1,r4.stack) h (sR [])
cases h
exact CQ rfl rfl rfl rfl rfl}
def QY (p0:Pst) (p1:Int):Q2 (Int×Pst):=A4 A9 (fun f12 (x42:Int)=>if decide (0<x42) then letk (fun (x60:Bool)=>if x60 then some (x42,p0) else f12 (w64 (x42-1))) fun k14=>(atI p0.stack x42).bind fun e61=>if decide (e61.kind=2) then (atI p0.stack x42).bind fun e62=>k14 (decide (e62.tag=p1)) else k14 false else some (0,p0)) (w64 ((p0.stack.length:Int)-1))
theorem ZiD (p0:Pst) (p1:Int) (r:Int×Pst) (h:QY p0 p1=some r):Contract Q7 142 [.ptr 0 (0,0) 0,.int .i64 p1] (some (0,p0.cs)) (.int .i64 r.1) (r.2).cs:=by{
refine DB (R:=fun r=>.int .i64 r.1) (O:=fun r=>(r.2).cs) h mix Tryz.func142 fun r h=>?_
unfold QY at h
refine Zi ?_
refine rg ?_
refine rg ?_
refine lM Elt.cs p0.stack ?_
refine bl ?_
refine Zy h fun f12 mf12 hf12 h=>?_
refine Zu (α:=Nat×Int) (fun a _=>mkS [(0,Q6),(1,Q5 p1),(5,Q5 a.2)] [(0,some ((0,0),.box (Pst.cs p0)))] 2) (fun a=>A4 a.1 f12 a.2=some r) (fun a=>a.1) (mf12,(w64 ((p0.stack.length:Int)-1))) 2 h (sR []) (fun a _ h=>?_)
obtain ⟨mf12,x42⟩:=a
obtain ⟨mf12,rfl,h⟩:=Zz hf12 h
dsimp only at h ⊢
refine Zi ?_
refine rg ?_
refine cS h rfl (fun h=>?_) fun h=>?_
refine bl ?_
refine jL h (fun x60=>mkS [(0,Q6),(1,Q5 p1),(5,Q5 x42),(36,.bool x60)] [(0,some ((0,0),.box (Pst.cs p0)))] 2) (fun k14 h=>?_) fun x60 h=>?_
refine rg ?_
refine aI Elt.cs h fun e61 h=>?_
refine kS 25 h rfl (fun h=>?_) fun h=>?_
refine aI Elt.cs h fun e62 h=>?_
exact jn (decide (e62.tag=p1)) h (sR [])
iterate 10 refine Zw rfl (Zi ?_)
exact jn false h (sR [])
refine cS h rfl (fun h=>?_) fun h=>?_
refine rg ?_
cases h
exact AX rfl rfl rfl rfl rfl
refine rg ?_
exact rn (mf12,(w64 (x42-1))) h (sR [])
refine rg ?_
cases h
exact AX rfl rfl rfl rfl rfl}
def UA (p0:Pst):Q2 (Int×Pst):=A4 A9 (fun f7 (x22:Int)=>letk (fun (x29:Bool)=>if x29 then (atI p0.stack x22).bind fun e31=>if decide (e31.kind=3) then some (x22,p0) else f7 (w64 (x22-1)) else (some (0,p0):Q2 (Int×Pst))) fun k8=>if decide (0<x22) then (atI p0.stack x22).bind fun e32=>k8 (!decide (e32.kind=2)) else k8 false) (w64 ((p0.stack.length:Int)-1))
theorem Zhs (p0:Pst) (r:Int×Pst) (h:UA p0=some r):Contract Q7 188 [.ptr 0 (0,0) 0] (some (0,p0.cs)) (.int .i64 r.1) (r.2).cs:=by{
refine DB (R:=fun r=>.int .i64 r.1) (O:=fun r=>(r.2).cs) h mix Tryz.func188 fun r h=>?_
unfold UA at h
refine Zi ?_
refine rg ?_
refine rg ?_
refine lM Elt.cs p0.stack ?_
refine bl ?_
refine Zy h fun f7 mf7 hf7 h=>?_
refine Zu (α:=Nat×Int) (fun a _=>mkS [(0,Q6),(3,Q5 a.2)] [(0,some ((0,0),.box (Pst.cs p0)))] 2) (fun a=>A4 a.1 f7 a.2=some r) (fun a=>a.1) (mf7,(w64 ((p0.stack.length:Int)-1))) 2 h (sR []) (fun a _ h=>?_)
obtain ⟨mf7,x22⟩:=a
obtain ⟨mf7,rfl,h⟩:=Zz hf7 h
dsimp only at h ⊢
refine Zi ?_
refine jL h (fun x29=>mkS [(0,Q6),(3,Q5 x22),(22,.bool x29)] [(0,some ((0,0),.box (Pst.cs p0)))] 2) (fun k8 h=>?_) fun x29 h=>?_
refine rg ?_
refine kS 12 h rfl (fun h=>?_) fun h=>?_
refine aI Elt.cs h fun e32 h=>?_
exact jn (!decide (e32.kind=2)) h (sR [])
iterate 9 refine Zw rfl (Zi ?_)
exact jn false h (sR [])
refine cS h rfl (fun h=>?_) fun h=>?_
refine bl ?_
refine rg ?_
refine aI Elt.cs h fun e31 h=>?_
refine cS h rfl (fun h=>?_) fun h=>?_
refine rg ?_
cases h
exact AX rfl rfl rfl rfl rfl
refine rg ?_
exact rn (mf7,(w64 (x22-1))) h (sR [])
refine rg ?_
cases h
exact AX rfl rfl rfl rfl rfl}
def UB (p0:Pst) (p1:Int):Q2 Pst:=letk (fun (x45:Int) (x46:Q3 Elt)=>(NR x45 ⟨#[125]⟩).bind fun r47=>(ZA (⟨x46⟩:Pst) r47).bind fun r48=>some r48) fun k11=>A4 A9 (fun f18 ((x63,x64):Int×(Q3 Elt))=>if decide (2<=x63) then (UA (⟨x64⟩:Pst)).bind fun r79=>if decide (r79.1=0) then k11 x63 r79.2.stack else (MC r79.2 r79.1).bind fun r80=>(JG r80).bind fun r81=>letk (fun (x82:Bool)=>letk (fun (x83:Int) (x84:Int)=>if decide (2<=(w64 (r81.1.count-x83))) then (AA 72 [] r81.2.stack).bind fun l87=>(AA 72 l87 [(⟨3,0,(w64 (r81.1.count-x83)),[(⟨x84,0,⟨#[]⟩,(List.map Node.cs r81.1.list),(List.map Arg.cs r81.1.args)⟩:Node)],[]⟩:Elt)]).bind fun l88=>f18 ((w64 (x63-x83)),l88) else letk (fun (x90:Q3 Elt)=>(I0 (⟨x90⟩:Pst) (⟨x84,0,⟨#[]⟩,(List.map Node.cs r81.1.list),(List.map Arg.cs r81.1.args)⟩:Node)).bind fun r91=>f18 ((w64 (x63-x83)),r91.stack)) fun k21=>if decide ((w64 (r81.1.count-x83))=1) then (ZA r81.2 ⟨#[123]⟩).bind fun r92=>k21 r92.stack else k21 r81.2.stack) fun k20=>if x82 then k20 3 5 else k20 2 4) fun k19=>if decide (3<=x63) then k19 (decide (3<=r81.1.count)) else k19 false else k11 x63 x64) (p1,p0.stack)
theorem ZiE (p0:Pst) (p1:Int) (r:Pst) (h:UB p0 p1=some r):Contract Q7 143 [.ptr 0 (0,0) 0,.int .i64 p1] (some (0,p0.cs)) (.tup []) r.cs:=by{
refine DB (R:=fun r=>.tup []) (O:=fun r=>r.cs) h mix Tryz.func143 fun r h=>?_
unfold UB at h
refine Zi ?_
refine ER h fun k11 hk11 h=>?_
refine DA (α:=Int×(Q3 Elt)) (fun a _=>mkS [(0,Q6),(1,Q5 a.1)] [(0,some ((0,0),.box [.sl (Q8 Elt.cs a.2)]))] 2) (fun a=>k11 a.1 a.2=some r) (Zi ?_) (fun a _ h=>?_)
refine bl ?_
refine Zy h fun f18 mf18 hf18 h=>?_
refine Zu (α:=Nat×(Int×(Q3 Elt))) (fun a _=>mkS [(0,Q6),(1,Q5 a.2.1)] [(0,some ((0,0),.box [.sl (Q8 Elt.cs a.2.2)]))] 2) (fun a=>A4 a.1 f18 a.2=some r) (fun a=>a.1) (mf18,p1,p0.stack) 2 h (sR []) (fun a _ h=>?_)
obtain ⟨mf18,x63,x64⟩:=a
obtain ⟨mf18,rfl,h⟩:=Zz hf18 h
dsimp only at h ⊢
refine Zi ?_
refine rg ?_
refine cS h rfl (fun h=>?_) fun h=>?_
refine bl ?_
refine rg ?_
refine aO h (Zhs _) fun r79 h=>?_
refine rg ?_
refine cS h rfl (fun h=>?_) fun h=>?_
exact jn (x63,r79.2.stack) h (sR [])
refine rg ?_
refine aO h (fJ _ _) fun r80 h=>?_
refine rg ?_
refine aO h (XS _) fun r81 h=>?_
refine rg ?_
refine jL h (fun x82=>mkS [(0,Q6),(1,Q5 x63),(5,.ptr 5 (1,5) 0),(6,Q5 2),(7,Q5 4),(27,.bool x82)] [(0,some ((0,0),.box (Pst.cs r81.2))),(5,some ((1,5),.box (Elt.cs r81.1)))] 2) (fun k19 h=>?_) fun x82 h=>?_
refine rg ?_
refine kS 23 h rfl (fun h=>?_) fun h=>?_
exact jn (decide (3<=r81.1.count)) h (sR [(5,6,2)])
iterate 3 refine Zw rfl (Zi ?_)
exact jn false h (sR [(5,6,2)])
refine ER h fun k20 hk20 h=>?_
refine DA (α:=Int×Int) (fun a _=>mkS [(0,Q6),(1,Q5 x63),(5,.ptr 5 (1,5) 0),(6,Q5 a.1),(7,Q5 a.2)] [(0,some ((0,0),.box (Pst.cs r81.2))),(5,some ((1,5),.box (Elt.cs r81.1)))] 2) (fun a=>k20 a.1 a.2=some r) (Zi ?_) (fun a _ h=>?_)
refine cS h rfl (fun h=>?_) fun h=>?_
refine rg ?_
exact jn (3,5) h (sR [(5,1,5)])
exact jn (2,4) h (sR [(5,1,5)])
obtain ⟨x83,x84⟩:=a
subst hk20
dsimp only at h ⊢
refine Zi ?_
refine rg ?_
refine rg ?_
refine rg ?_
refine rg ?_
refine cS h rfl (fun h=>?_) fun h=>?_
refine rg ?_
let ⟨l87,h58,h⟩:=bnd h
refine J4 (f:=Elt.cs) rfl h58 (fun _=>rfl) rfl rfl rfl (Zi ?_)
refine CR (M:=([(⟨x84,0,⟨#[]⟩,(Q8 Node.cs r81.1.list),(Q8 Arg.cs r81.1.args)⟩:Node)]:Q3 Node)) (f:=Node.cs) rfl rfl rfl rfl (Yk rfl) rfl (Zi ?_)
refine CR (M:=([(⟨3,0,(w64 (r81.1.count-x83)),[(⟨x84,0,⟨#[]⟩,(Q8 Node.cs r81.1.list),(Q8 Arg.cs r81.1.args)⟩:Node)],[]⟩:Elt)]:Q3 Elt)) (f:=Elt.cs) rfl rfl rfl rfl (Yk rfl) rfl (Zi ?_)
refine pR Elt.cs h fun l88 h=>?_
exact rn (mf18,(w64 (x63-x83)),l88) h (Shift.trans (P1 0 rfl rfl) (sR []))
refine rg ?_
refine jL h (fun x90=>mkS [(0,Q6),(1,Q5 (w64 (x63-x83))),(8,.ptr 8 (1,8) 0)] [(0,some ((0,0),.box [.sl (Q8 Elt.cs x90)])),(8,some ((1,8),.box [Q5 x84,Q5 0,.str ⟨#[]⟩,.sl (Q8 Node.cs r81.1.list),.sl (Q8 Arg.cs r81.1.args)]))] 2) (fun k21 h=>?_) fun x90 h=>?_
refine cS h rfl (fun h=>?_) fun h=>?_
refine rg ?_
refine aO h (ZW _ _) fun r92 h=>?_
exact jn r92.stack h (sR [(8,2,6)])
exact jn r81.2.stack h (sR [(8,2,6)])
refine rg ?_
refine aO h (QW _ _) fun r91 h=>?_
exact rn (mf18,(w64 (x63-x83)),r91.stack) h (sR [])
exact jn (x63,x64) h (sR [])
obtain ⟨x45,x46⟩:=a
subst hk11
dsimp only at h ⊢
refine Zi ?_
refine rg ?_
refine aC h (qJ _ _) fun r47 h=>?_
refine aO h (ZW _ _) fun r48 h=>?_
cases h
exact CQ rfl rfl rfl rfl rfl}
def NS (p0:Pst) (p1:Elt) (p2:Q1):Q2 Pst:=if decide (20<=(w64 ((p0.stack.length:Int)-1))) then (ZA p0 p2).bind fun r2=>some r2 else (AA 72 [] p0.stack).bind fun l3=>(AA 72 l3 [p1]).bind fun l4=>some ⟨l4⟩
theorem fK (p0:Pst) (p1:Elt) (p2:Q1) (r:Pst) (h:NS p0 p1 p2=some r):Contract Q7 135 [.ptr 0 (0,0) 0,p1.pv,.str p2] (some (0,p0.cs)) (.tup []) r.cs:=by{
refine DB (R:=fun r=>.tup []) (O:=fun r=>r.cs) h mix Tryz.func135 fun r h=>?_
unfold NS at h
refine Zi ?_
refine rg ?_
refine rg ?_
refine lM Elt.cs p0.stack ?_
refine cS h rfl (fun h=>?_) fun h=>?_
refine rg ?_
refine aO h (ZW _ _) fun r2 h=>?_
cases h
exact AX rfl rfl rfl rfl rfl
refine rg ?_
let ⟨l3,h3,h⟩:=bnd h
refine J4 (f:=Elt.cs) rfl h3 (fun _=>rfl) rfl rfl rfl (Zi ?_)
refine CR (M:=([p1]:Q3 Elt)) (f:=Elt.cs) rfl rfl rfl rfl (Yk rfl) rfl (Zi ?_)
refine pR Elt.cs h fun l4 h=>?_
cases h
exact CQ rfl rfl rfl rfl rfl}
def UC (p0:Pst):Q2 Pst:=(HY p0).bind fun r1=>letk (fun (x3:Bool)=>if x3 then (ZA r1.2 ⟨#[61]⟩).bind fun r5=>some r5 else (AA 56 [] r1.1.args).bind fun l6=>(atI l6 (w64 ((l6.length:Int)-1))).bind fun e7=>(atI l6 (w64 ((l6.length:Int)-1))).bind fun e8=>(KR r1.2 (⟨r1.1.kind,r1.1.tag,r1.1.count,r1.1.list,(AQ l6 (w64 ((l6.length:Int)-1)) (⟨true,e7.value,[]⟩:Arg))⟩:Elt)).bind fun r9=>some r9) fun k1=>if (!decide (r1.1.kind=3)) then k1 true else if decide ((r1.1.args.length:Int)=0) then k1 true else (atI r1.1.args (w64 ((r1.1.args.length:Int)-1))).bind fun e10=>k1 e10.named
theorem Zj8 (p0:Pst) (r:Pst) (h:UC p0=some r):Contract Q7 139 [.ptr 0 (0,0) 0] (some (0,p0.cs)) (.tup []) r.cs:=by{
refine DB (R:=fun r=>.tup []) (O:=fun r=>r.cs) h mix Tryz.func139 fun r h=>?_
unfold UC at h
refine Zi ?_
refine rg ?_
refine aO h (QV _) fun r1 h=>?_
refine jL h (fun x3=>mkS [(0,Q6),(2,.ptr 2 (1,2) 0),(25,.bool x3)] [(0,some ((0,0),.box (Pst.cs r1.2))),(2,some ((1,2),.box (Elt.cs r1.1)))] 2) (fun k1 h=>?_) fun x3 h=>?_
refine rg ?_
refine kS 9 h rfl (fun h=>?_) fun h=>?_
iterate 13 refine Zw rfl (Zi ?_)
exact jn true h (sR [(2,1,2)])
refine lM Arg.cs r1.1.args ?_
refine kS 15 h rfl (fun h=>?_) fun h=>?_
iterate 9 refine Zw rfl (Zi ?_)
exact jn true h (sR [(2,1,2)])
refine lM Arg.cs r1.1.args ?_
refine aI Arg.cs h fun e10 h=>?_
exact jn e10.named h (sR [(2,1,2)])
refine cS h rfl (fun h=>?_) fun h=>?_
refine rg ?_
refine aO h (ZW _ _) fun r5 h=>?_
cases h
exact AX rfl rfl rfl rfl rfl
refine rg ?_
let ⟨l6,h5,h⟩:=bnd h
refine J4 (f:=Arg.cs) rfl h5 (fun _=>rfl) rfl rfl rfl (Zi ?_)
refine rg ?_
refine lM Arg.cs l6 ?_
refine lM Arg.cs l6 ?_
let ⟨e7,h6,h⟩:=bnd h
refine ZT rfl h6 rfl rfl rfl (Zi ?_)
refine B9 rfl h6 rfl rfl rfl (Zi ?_)
let ⟨e8,h7,h⟩:=bnd h
refine ZT rfl h7 rfl rfl rfl (Zi ?_)
refine FM (e':=(⟨true,e7.value,[]⟩:Arg)) rfl h7 rfl rfl rfl rfl rfl rfl (Yk rfl) rfl rfl (Zi ?_)
refine rg ?_
refine rg ?_
refine aO h (fI _ _) fun r9 h=>?_
cases h
exact CQ rfl rfl rfl rfl rfl}
def UD (p0:Pst) (p1:Q1) (p2:Tok):Q2 Pst:=(KM p1 p2).bind fun r1=>if decide (p2.kind=9) then (I0 p0 (⟨2,0,r1,[],[]⟩:Node)).bind fun r2=>some r2 else if decide (p2.kind=10) then (AJ r1 8 (w64 ((r1.size:Int)-9))).bind fun l3=>(I0 p0 (⟨3,0,l3,[],[]⟩:Node)).bind fun r4=>some r4 else if decide (p2.kind=3) then (NS p0 (⟨3,0,(r1.size:Int),[],[]⟩:Elt) r1).bind fun r5=>some r5 else if decide (p2.kind=5) then (NS p0 (⟨1,0,0,[],[]⟩:Elt) r1).bind fun r6=>some r6 else if decide (p2.kind=11) then (NN p1 p2).bind fun r7=>(NS p0 (⟨2,r7,0,[],[]⟩:Elt) r1).bind fun r8=>some r8 else if decide (p2.kind=7) then (HY p0).bind fun r9=>if decide (r9.1.kind=3) then (AA 56 [] r9.1.args).bind fun l13=>(AA 56 l13 [(⟨false,[],[]⟩:Arg)]).bind fun l14=>(KR r9.2 (⟨r9.1.kind,r9.1.tag,r9.1.count,r9.1.list,l14⟩:Elt)).bind fun r15=>some r15 else (ZA r9.2 r1).bind fun r16=>some r16 else if decide (p2.kind=8) then (UC p0).bind fun r17=>some r17 else if decide (p2.kind=6) then (HY p0).bind fun r18=>if (!decide (r18.1.kind=1)) then (ZA r18.2 r1).bind fun r20=>some r20 else (JG r18.2).bind fun r21=>(ZA r21.2 ⟨#[91,91]⟩).bind fun r22=>(IR r22 r21.1.list).bind fun r23=>(ZA r23 ⟨#[93,93]⟩).bind fun r24=>some r24 else if decide (p2.kind=12) then (NN p1 p2).bind fun r25=>(QY p0 r25).bind fun r26=>if decide (r26.1=0) then (ZA r26.2 r1).bind fun r28=>some r28 else (MC r26.2 r26.1).bind fun r29=>(JG r29).bind fun r30=>(I0 r30.2 (⟨6,r30.1.tag,⟨#[]⟩,(List.map Node.cs r30.1.list),[]⟩:Node)).bind fun r31=>some r31 else if decide (p2.kind=4) then (UB p0 (r1.size:Int)).bind fun r32=>some r32 else (ZA p0 r1).bind fun r33=>some r33
theorem Zj9 (p0:Pst) (p1:Q1) (p2:Tok) (r:Pst) (h:UD p0 p1 p2=some r):Contract Q7 74 [.ptr 0 (0,0) 0,.str p1,p2.pv] (some (0,p0.cs)) (.tup []) r.cs:=by{
refine DB (R:=fun r=>.tup []) (O:=fun r=>r.cs) h mix Tryz.func74 fun r h=>?_
unfold UD at h
refine Zi ?_
refine rg ?_
refine rg ?_
refine aC h (XH _ _) fun r1 h=>?_
refine rg ?_
refine bl ?_
refine rg ?_
refine cS h rfl (fun h=>?_) fun h=>?_
refine rg ?_
refine aO h (QW _ _) fun r2 h=>?_
cases h
exact CQ rfl rfl rfl rfl rfl
refine rg ?_
refine cS h rfl (fun h=>?_) fun h=>?_
refine rg ?_
refine sS h fun l3 h=>?_
refine aO h (QW _ _) fun r4 h=>?_
cases h
exact CQ rfl rfl rfl rfl rfl
refine rg ?_
refine cS h rfl (fun h=>?_) fun h=>?_
refine rg ?_
refine aO h (fK _ _ _) fun r5 h=>?_
cases h
exact CQ rfl rfl rfl rfl rfl
refine rg ?_
refine cS h rfl (fun h=>?_) fun h=>?_
refine rg ?_
refine aO h (fK _ _ _) fun r6 h=>?_
cases h
exact CQ rfl rfl rfl rfl rfl
refine rg ?_
refine cS h rfl (fun h=>?_) fun h=>?_
refine rg ?_
refine aC h (pA _ _) fun r7 h=>?_
refine aO h (fK _ _ _) fun r8 h=>?_
cases h
exact CQ rfl rfl rfl rfl rfl
refine rg ?_
refine cS h rfl (fun h=>?_) fun h=>?_
refine rg ?_
refine aO h (QV _) fun r9 h=>?_
refine rg ?_
refine cS h rfl (fun h=>?_) fun h=>?_
refine rg ?_
let ⟨l13,h13,h⟩:=bnd h
refine J4 (f:=Arg.cs) rfl h13 (fun _=>rfl) rfl rfl rfl (Zi ?_)
refine CR (M:=([(⟨false,[],[]⟩:Arg)]:Q3 Arg)) (f:=Arg.cs) rfl rfl rfl rfl (Yk rfl) rfl (Zi ?_)
refine pR Arg.cs h fun l14 h=>?_
refine rg ?_
refine aO h (fI _ _) fun r15 h=>?_
cases h
exact AX rfl rfl rfl rfl rfl
refine rg ?_
refine aO h (ZW _ _) fun r16 h=>?_
cases h
exact CQ rfl rfl rfl rfl rfl
refine rg ?_
refine cS h rfl (fun h=>?_) fun h=>?_
refine rg ?_
refine aO h (Zj8 _) fun r17 h=>?_
cases h
exact CQ rfl rfl rfl rfl rfl
refine rg ?_
refine cS h rfl (fun h=>?_) fun h=>?_
refine rg ?_
refine aO h (QV _) fun r18 h=>?_
refine cS h rfl (fun h=>?_) fun h=>?_
refine rg ?_
refine aO h (ZW _ _) fun r20 h=>?_
cases h
exact AX rfl rfl rfl rfl rfl
refine rg ?_
refine aO h (XS _) fun r21 h=>?_
refine rg ?_
refine aO h (ZW _ _) fun r22 h=>?_
refine rg ?_
refine aO h (QX _ _) fun r23 h=>?_
refine rg ?_
refine aO h (ZW _ _) fun r24 h=>?_
cases h
exact CQ rfl rfl rfl rfl rfl
refine rg ?_
refine cS h rfl (fun h=>?_) fun h=>?_
refine rg ?_
refine aC h (pA _ _) fun r25 h=>?_
refine aO h (ZiD _ _) fun r26 h=>?_
refine rg ?_
refine cS h rfl (fun h=>?_) fun h=>?_
refine rg ?_
refine aO h (ZW _ _) fun r28 h=>?_
cases h
exact AX rfl rfl rfl rfl rfl
refine rg ?_
refine aO h (fJ _ _) fun r29 h=>?_
refine rg ?_
refine aO h (XS _) fun r30 h=>?_
refine rg ?_
refine aO h (QW _ _) fun r31 h=>?_
cases h
exact CQ rfl rfl rfl rfl rfl
refine rg ?_
refine cS h rfl (fun h=>?_) fun h=>?_
refine rg ?_
refine aO h (ZiE _ _) fun r32 h=>?_
cases h
exact CQ rfl rfl rfl rfl rfl
refine rg ?_
refine aO h (ZW _ _) fun r33 h=>?_
cases h
exact CQ rfl rfl rfl rfl rfl}
def QZ (p0:Q1):Q2 ((Q3 Node)×Int):=(TV p0).bind fun r1=>if (!decide (r1.2=0)) then some ([],r1.2) else A4 A9 (fun f2 ((x20,x21):Int×(Q3 Elt))=>if decide (x20<(r1.1.length:Int)) then (atI r1.1 x20).bind fun e28=>(UD (⟨x21⟩:Pst) p0 e28).bind fun r29=>f2 ((w64 (x20+1)),r29.stack) else (MC (⟨x21⟩:Pst) 0).bind fun r30=>(HY r30).bind fun r31=>some (r31.1.list,0)) (0,[(⟨0,0,0,[],[]⟩:Elt)])
theorem ZsK (p0:Q1) (r:(Q3 Node)×Int) (h:QZ p0=some r):Zg Q7 42 [.str p0] (.tup [.sl (List.map Node.cs r.1),.int .i64 r.2]):=by{
refine cF (fun r=>.tup [.sl (Q8 Node.cs r.1),.int .i64 r.2]) h mix Tryz.func42 fun r h=>?_
unfold QZ at h
refine Zi ?_
refine rg ?_
refine rg ?_
refine aC h (Zuu _) fun r1 h=>?_
refine rg ?_
refine cS h rfl (fun h=>?_) fun h=>?_
refine rg ?_
cases h
exact rQ
refine rg ?_
refine CR (M:=([(⟨0,0,0,[],[]⟩:Elt)]:Q3 Elt)) (f:=Elt.cs) rfl rfl rfl rfl (Yk rfl) rfl (Zi ?_)
refine rg ?_
refine bl ?_
refine Zy h fun f2 mf2 hf2 h=>?_
refine Zu (α:=Nat×(Int×(Q3 Elt))) (fun a _=>mkS [(0,.str p0),(4,.sl (Q8 Tok.cs r1.1)),(6,.ptr 19 (1,19) 0),(7,Q5 a.2.1)] [(19,some ((1,19),.box [.sl (Q8 Elt.cs a.2.2)]))] 2) (fun a=>A4 a.1 f2 a.2=some r) (fun a=>a.1) (mf2,0,[(⟨0,0,0,[],[]⟩:Elt)]) 2 h (Shift.trans (P1 19 rfl rfl) (sR [(19,4,3)])) (fun a _ h=>?_)
obtain ⟨mf2,x20,x21⟩:=a
obtain ⟨mf2,rfl,h⟩:=Zz hf2 h
dsimp only at h ⊢
refine Zi ?_
refine rg ?_
refine lM Tok.cs r1.1 ?_
refine cS h rfl (fun h=>?_) fun h=>?_
refine bl ?_
refine rg ?_
refine aI Tok.cs h fun e28 h=>?_
refine aO h (Zj9 _ _ _) fun r29 h=>?_
refine rg ?_
exact rn (mf2,(w64 (x20+1)),r29.stack) h (sR [(19,1,19)])
refine rg ?_
refine aO h (fJ _ _) fun r30 h=>?_
refine rg ?_
refine aO h (QV _) fun r31 h=>?_
cases h
exact rQ}
inductive LW:Bool->Nat->List (List PV)->Prop
 | nil (b:Bool) (w:Nat):LW b w []
 | node (n:Node) (l:List (List PV)) (w wk wa wl:Nat) (h:n.text.size+1+wk+wa+wl<=w) (hk:LW false wk n.kids) (ha:LW true wa n.args) (hl:LW false wl l):LW false w (n.cs::l)
 | arg (a:Arg) (l:List (List PV)) (w wn wv wl:Nat) (h:4+wn+wv+wl<=w) (hn:LW false wn a.name) (hv:LW false wv a.value) (hl:LW true wl l):LW true w (a.cs::l)
theorem LW.mono {b:Bool} {w w':Nat} {l:Q3 (Q3 PV)} (h:LW b w l) (hw:w<=w'):LW b w' l:=by{
cases h with
| nil=>exact .nil _ _
| node n l w wk wa wl h hk ha hl=>exact .node n l w' wk wa wl (by omega) hk ha hl
| arg a l w wn wv wl h hn hv hl=>exact .arg a l w' wn wv wl (by omega) hn hv hl}
theorem XT {a b:Node} (h:a.cs=b.cs):a=b:=by{
obtain ⟨a1,a2,a3,a4,a5⟩:=a
obtain ⟨b1,b2,b3,b4,b5⟩:=b
simp [Node.cs] at h
simp [h]}
theorem fL {a b:Arg} (h:a.cs=b.cs):a=b:=by{
obtain ⟨a1,a2,a3⟩:=a
obtain ⟨b1,b2,b3⟩:=b
simp [Arg.cs] at h
simp [h]}
theorem LW.node_inv {w:Nat} {x:Q3 PV} {l:Q3 (Q3 PV)} (h:LW false w (x::l)):∃ (n:Node) (wk wa wl:Nat),x=n.cs/\n.text.size+1+wk+wa+wl<=w/\LW false wk n.kids/\LW true wa n.args/\LW false wl l:=by
 cases h with
 | node n l w wk wa wl h hk ha hl=>exact ⟨n,wk,wa,wl,rfl,h,hk,ha,hl⟩
theorem LW.arg_inv {w:Nat} {x:Q3 PV} {l:Q3 (Q3 PV)} (h:LW true w (x::l)):∃ (a:Arg) (wn wv wl:Nat),x=a.cs/\4+wn+wv+wl<=w/\LW false wn a.name/\LW false wv a.value/\LW true wl l:=by
 cases h with
 | arg a l w wn wv wl h hn hv hl=>exact ⟨a,wn,wv,wl,rfl,h,hn,hv,hl⟩
theorem LW.app {b:Bool}:∀ {l1 l2:Q3 (Q3 PV)} {w1 w2:Nat},LW b w1 l1->LW b w2 l2->LW b (w1+w2) (l1++l2)
 | [],l2,w1,w2,_,h=>h.mono (by omega)
 | x::l1,l2,w1,w2,h1,h2=>by
   cases b with
   | false=>
     obtain ⟨n,wk,wa,wl,rfl,h,hk,ha,hl⟩:=h1.node_inv
     exact .node n _ _ wk wa (wl+w2) (by omega) hk ha (LW.app hl h2)
   | true=>
     obtain ⟨a,wn,wv,wl,rfl,h,hn,hv,hl⟩:=h1.arg_inv
     exact .arg a _ _ wn wv (wl+w2) (by omega) hn hv (LW.app hl h2)
theorem LW.len {b:Bool}:∀ {l:Q3 (Q3 PV)} {w:Nat},LW b w l->l.length<=w
 | [],w,_=>YJ _
 | x::l,w,h=>by
   cases b with
   | false=>
     obtain ⟨n,wk,wa,wl,rfl,h,hk,ha,hl⟩:=h.node_inv
     have:=LW.len hl
     simp
     omega
   | true=>
     obtain ⟨a,wn,wv,wl,rfl,h,hn,hv,hl⟩:=h.arg_inv
     have:=LW.len hl
     simp
     omega
theorem LW.split {b:Bool}:∀ {l1 l2:Q3 (Q3 PV)} {w:Nat},LW b w (l1++l2)->∃ w1 w2,w1+w2<=w/\LW b w1 l1/\LW b w2 l2
 | [],l2,w,h=>⟨0,w,by omega,.nil _ _,h⟩
 | x::l1,l2,w,h=>by
   rw [FC] at h
   cases b with
   | false=>
     obtain ⟨n,wk,wa,wl,rfl,h,hk,ha,hl⟩:=h.node_inv
     obtain ⟨w1,w2,h0,h1,h2⟩:=LW.split hl
     exact ⟨n.text.size+1+wk+wa+w1,w2,by omega,.node n _ _ wk wa w1 (Yn _) hk ha h1,h2⟩
   | true=>
     obtain ⟨a,wn,wv,wl,rfl,h,hn,hv,hl⟩:=h.arg_inv
     obtain ⟨w1,w2,h0,h1,h2⟩:=LW.split hl
     exact ⟨4+wn+wv+w1,w2,by omega,.arg a _ _ wn wv w1 (Yn _) hn hv h1,h2⟩
theorem LW.node1 {w:Nat} {n:Node} (h:LW false w [n.cs]):∃ wk wa,n.text.size+1+wk+wa<=w/\LW false wk n.kids/\LW true wa n.args:=by
 obtain ⟨m,wk,wa,wl,e,h,hk,ha,hl⟩:=h.node_inv
 obtain rfl:=XT e
 exact ⟨wk,wa,by omega,hk,ha⟩
theorem LW.arg1 {w:Nat} {a:Arg} (h:LW true w [a.cs]):∃ wn wv,4+wn+wv<=w/\LW false wn a.name/\LW false wv a.value:=by
 obtain ⟨m,wk,wa,wl,e,h,hk,ha,hl⟩:=h.arg_inv
 obtain rfl:=fL e
 exact ⟨wk,wa,by omega,hk,ha⟩
theorem LW.mk1 {w:Nat} (k t:Int) (s:Q1) {kids args:Q3 (Q3 PV)} {wk wa:Nat} (hk:LW false wk kids) (ha:LW true wa args) (h:s.size+1+wk+wa<=w):LW false w [Node.cs ⟨k,t,s,kids,args⟩]:=
 .node ⟨k,t,s,kids,args⟩ [] w wk wa 0 (by dsimp only;omega) hk ha (.nil _ _)
theorem LW.mkA {w:Nat} (b:Bool) {n v:Q3 (Q3 PV)} {wn wv:Nat} (hn:LW false wn n) (hv:LW false wv v) (h:4+wn+wv<=w):LW true w [Arg.cs ⟨b,n,v⟩]:=
 (.arg ⟨b,n,v⟩ [] w wn wv 0 (by omega) hn hv (.nil _ _))
def EW (w:Nat) (e:El):Prop:=((e.kind=2->1<=e.tag/\e.tag<=3)/\0<=e.count)/\∃ wl wa,wl+wa+20+e.count.toNat<=w/\LW false wl e.list/\LW true wa (e.argL.map Arg.cs)
theorem EW.mono {w w':Nat} {e:El} (h:EW w e) (hw:w<=w'):EW w' e:=by
 obtain ⟨h0,wl,wa,h1,h2,h3⟩:=h
 exact ⟨h0,wl,wa,by omega,h2,h3⟩
theorem EW.focus {w:Nat} {e:El} (h:EW w e):∃ wc wo,wc+wo<=w/\LW false wc e.cur/\∀ (l':Q3 (Q3 PV)) (wc':Nat),LW false wc' l'->EW (wc'+wo) (e.setCur l'):=by{
obtain ⟨kind,tag,count,list,args⟩:=e
obtain ⟨h0,wl,wa,h1,h2,h3⟩:=h
dsimp only at h0 h1 h2
cases args with
| none=>exact ⟨wl,wa+20+count.toNat,by omega,h2,fun l' wc' hl=>⟨h0,wc',wa,by dsimp only [El.setCur];omega,hl,h3⟩⟩
| some q=>
  obtain ⟨pre,a⟩:=q
  by_cases hk:kind=3
  have h4:LW true wa ((pre ++ [a]).map Arg.cs):=h3
  rw [YR] at h4
  obtain ⟨w1,w2,h5,h6,h7⟩:=h4.split
  obtain ⟨wn,wv,h8,h9,h10⟩:=LW.arg1 h7
  refine ⟨wv,wl+w1+4+wn+20+count.toNat,by omega,?_,fun l' wc' hl=>?_⟩
  show LW false wv (if kind=3 then a.value else list)
  rw [if_pos hk]
  exact h10
  have e:El.setCur ⟨kind,tag,count,list,some (pre,a)⟩ l'=⟨kind,tag,count,list,some (pre,⟨a.named,a.name,l'⟩)⟩:=by
   unfold El.setCur
   dsimp only
   rw [if_pos hk]
  rw [e]
  refine ⟨h0,wl,w1+(4+wn+wc'),by dsimp only;omega,h2,?_⟩
  show LW true _ ((pre ++ [(⟨a.named,a.name,l'⟩:Arg)]).map Arg.cs)
  rw [YR]
  exact LW.app h6 (LW.mkA _ h9 hl (Yn _))
  refine ⟨wl,wa+20+count.toNat,by omega,?_,fun l' wc' hl=>?_⟩
  show LW false wl (if kind=3 then a.value else list)
  rw [if_neg hk]
  exact h2
  have e:El.setCur ⟨kind,tag,count,list,some (pre,a)⟩ l'=⟨kind,tag,count,l',some (pre,a)⟩:=by
   unfold El.setCur
   dsimp only
   rw [if_neg hk]
  rw [e]
  exact ⟨h0,wc',wa,by dsimp only;omega,hl,h3⟩}
theorem qK {w wn:Nat} {l:Q3 (Q3 PV)} {n:Node} (h:LW false w l) (hn:LW false wn [n.cs]) (hb:w+wn<=1000000):∃ l',F4 l n=some l'/\LW false (w+wn) l':=by
 have h1:=h.len
 have h2:=hn.len
 refine ⟨l ++ [n.cs],J5 1000000 (by simp at h2 ⊢;omega) (by omega) (by omega),LW.app h hn⟩
theorem ZxU {w:Nat} {l:Q3 (Q3 PV)} {s:Q1} (h:LW false w l) (hb:w+s.size+1<=1000000):∃ l',GQ l s=some l'/\LW false (w+(s.size+1)) l':=by{
have hn:∃ l',F4 l ⟨1,0,s,[],[]⟩=some l'/\LW false (w+(s.size+1)) l':=qK h (LW.mk1 1 0 s (LW.nil _ 0) (LW.nil _ 0) (by omega)) (by omega)
unfold GQ
split
exact hn
rename_i x hx
obtain ⟨init,rfl⟩:=List.getLast?_eq_some_iff.1 hx
obtain ⟨w1,w2,h1,h2,h3⟩:=h.split
obtain ⟨n,wk,wa,wl,rfl,h4,hk,ha,_⟩:=h3.node_inv
rw [show NJ n.cs=some n from rfl]
show ∃ l',(if n.kind=1 then (A7 n.text s).map fun y=>(init ++ [n.cs]).dropLast ++ [Node.cs ⟨1,n.tag,y,n.kids,n.args⟩] else F4 (init ++ [n.cs]) ⟨1,0,s,[],[]⟩)=some l'/\_
by_cases hk1:n.kind=1
rw [if_pos hk1,VU (by omega)]
refine ⟨_,rfl,?_⟩
rw [Z8]
refine LW.mono (LW.app h2 (LW.mk1 1 n.tag (n.text++s) hk ha (Yn _))) ?_
rw [Z7]
omega
rw [if_neg hk1]
exact hn}
def alike (e e':El):Prop:=e'.kind=e.kind/\e'.tag=e.tag/\e'.count=e.count/\(e'.args=none↔e.args=none)
theorem alike.refl (e:El):alike e e:=⟨rfl,rfl,rfl,Iff.rfl⟩
theorem alike.trans {a b c:El} (h:alike a b) (k:alike b c):alike a c:=⟨k.1.trans h.1,k.2.1.trans h.2.1,k.2.2.1.trans h.2.2.1,k.2.2.2.trans h.2.2.2⟩
theorem fM (e:El) (l:Q3 (Q3 PV)):alike e (e.setCur l):=by{
obtain ⟨kind,tag,count,list,args⟩:=e
cases args with
| none=>exact ⟨rfl,rfl,rfl,Iff.rfl⟩
| some q=>
  obtain ⟨pre,a⟩:=q
  unfold El.setCur
  dsimp only
  split
  exact ⟨rfl,rfl,rfl,by simp⟩
  exact ⟨rfl,rfl,rfl,Iff.rfl⟩}
theorem qL {w wn:Nat} {e:El} {n:Node} (h:EW w e) (hn:LW false wn [n.cs]) (hb:w+wn<=1000000):∃ e',EG e n=some e'/\EW (w+wn) e'/\alike e e':=by
 obtain ⟨wc,wo,h1,h2,h3⟩:=h.focus
 obtain ⟨l',h4,h5⟩:=qK h2 hn (by omega)
 exact ⟨e.setCur l',by unfold EG;rw [h4];rfl,(h3 l' _ h5).mono (by omega),fM e l'⟩
theorem NU {w:Nat} {e:El} {s:Q1} (h:EW w e) (hb:w+s.size+1<=1000000):∃ e',AM e s=some e'/\EW (w+(s.size+1)) e'/\alike e e':=by{
unfold AM
split
exact ⟨e,rfl,h.mono (by omega),alike.refl e⟩
obtain ⟨wc,wo,h1,h2,h3⟩:=h.focus
obtain ⟨l',h4,h5⟩:=ZxU (s:=s) h2 (by omega)
exact ⟨e.setCur l',by rw [h4];rfl,(h3 l' _ h5).mono (by omega),fM e l'⟩}
theorem qM:∀ {l:Q3 (Q3 PV)} {w wl:Nat} {e:El},EW w e->LW false wl l->w+wl<=1000000->∃ e',FR e l=some e'/\EW (w+wl) e'/\alike e e'
 | [],w,wl,e,h,_,_=>⟨e,rfl,h.mono (by omega),alike.refl e⟩
 | x::l,w,wl,e,h,hl,hb=>by
   obtain ⟨n,wk,wa,wr,rfl,h1,hk,ha,hr⟩:=hl.node_inv
   have step:∃ e',(if n.kind=1 then AM e n.text else EG e n)=some e'/\EW (w+(n.text.size+1+wk+wa)) e'/\alike e e':=by
    by_cases hk1:n.kind=1
    ·rw [if_pos hk1]
     obtain ⟨e',h2,h3,h4⟩:=NU (s:=n.text) h (by omega)
     exact ⟨e',h2,h3.mono (by omega),h4⟩
    ·rw [if_neg hk1]
     exact qL h (LW.mk1 n.kind n.tag n.text hk ha (Yn _)) (by omega)
   obtain ⟨e',h2,h3,h4⟩:=step
   obtain ⟨e2,h5,h6,h7⟩:=qM h3 hr (by omega)
   refine ⟨e2,?_,h6.mono (by omega),h4.trans h7⟩
   show ((NJ n.cs).bind fun n=>(if n.kind=1 then AM e n.text else EG e n).bind fun e'=>FR e' l)=_
   rw [show NJ n.cs=some n from rfl]
   show ((if n.kind=1 then AM e n.text else EG e n).bind fun e'=>FR e' l)=_
   rw [h2]
   exact h5
theorem XU {l:Q3 (Q3 PV)} {w wl:Nat} {e:El} (h:EW w e) (hl:LW false wl l) (hb:w+wl<=1000000):∃ e',DP e l=some e'/\EW (w+wl) e'/\alike e e':=by{
have:=hl.len
unfold DP
rw [if_pos (by omega)]
exact qM h hl hb}
theorem Ztk {a:Arg} {w wn wv:Nat} {e:El} (h:EW w e) (hn:LW false wn a.name) (hv:LW false wv a.value) (hb:w+(4+wn+wv)<=1000000):∃ e',M6 e a=some e'/\EW (w+(4+wn+wv)) e'/\alike e e':=by{
have z1:(⟨#[124]⟩:Q1).size=1:=rfl
have z2:(⟨#[61]⟩:Q1).size=1:=rfl
obtain ⟨b,h1,h2,h3⟩:=NU (s:=⟨#[124]⟩) h (by omega)
have mid:∃ d,((if a.named=true then (DP b a.name).bind fun c=>AM c ⟨#[61]⟩ else some b):Q2 El)=some d/\EW (w+(4+wn)) d/\alike b d:=by
 by_cases hm:a.named=true
 rw [if_pos hm]
 obtain ⟨c,h4,h5,h6⟩:=XU h2 hn (by omega)
 obtain ⟨d,h7,h8,h9⟩:=NU (s:=⟨#[61]⟩) h5 (by omega)
 exact ⟨d,by rw [h4];exact h7,h8.mono (by omega),h6.trans h9⟩
 rw [if_neg hm]
 exact ⟨b,rfl,h2.mono (by omega),alike.refl b⟩
obtain ⟨d,h4,h5,h6⟩:=mid
obtain ⟨e',h7,h8,h9⟩:=XU h5 hv (by omega)
refine ⟨e',?_,h8.mono (by omega),h3.trans (h6.trans h9)⟩
unfold M6
rw [h1]
show (((if a.named=true then (DP b a.name).bind fun c=>AM c ⟨#[61]⟩ else some b):Q2 El).bind fun d=>DP d a.value)=_
rw [h4]
exact h7}
theorem qN:∀ {l:Q3 Arg} {w wl:Nat} {e:El},EW w e->LW true wl (l.map Arg.cs)->w+wl<=1000000->∃ e',IK e l=some e'/\EW (w+wl) e'/\alike e e'
 | [],w,wl,e,h,_,_=>⟨e,rfl,h.mono (by omega),alike.refl e⟩
 | a::l,w,wl,e,h,hl,hb=>by
   rw [YO] at hl
   obtain ⟨a',wn,wv,wr,ea,h1,hn,hv,hr⟩:=hl.arg_inv
   obtain rfl:=fL ea
   obtain ⟨e1,h2,h3,h4⟩:=Ztk h hn hv (by omega)
   obtain ⟨e2,h5,h6,h7⟩:=qN h3 hr (by omega)
   refine ⟨e2,?_,h6.mono (by omega),h4.trans h7⟩
   show ((M6 e a).bind fun e'=>IK e' l)=_
   rw [h2]
   exact h5
theorem qO {b:Q4} {c:Int} (h0:0<=c) (h1:c<=1000000):∃ s,strings_Repeat ⟨#[b]⟩ c=some s/\s.size=c.toNat/\(c=0->s=⟨#[]⟩):=by{
have z:(⟨#[b]⟩:Q1).size=1:=rfl
refine ⟨⟨(Lib.repeatL [b] c.toNat).toArray⟩,?_,?_,fun h=>?_⟩
unfold strings_Repeat
rw [if_pos ⟨h0,by omega,by rw [z,Nat.one_mul];omega⟩]
show (Lib.repeatL [b] c.toNat).length=_
rw [Lib.repeatL_length]
simp
subst h
rfl}
theorem ZuW {t:Int} (h1:1<=t) (h3:t<=3):∃ s,LQ t=some s/\s.size<=13:=by{
have:t=1\/t=2\/t=3:=by omega
rcases this with rfl | rfl | rfl
exact ⟨⟨#[60,110,111,105,110,99,108,117,100,101,62]⟩,by kernel_rfl,by decide⟩
exact ⟨⟨#[60,105,110,99,108,117,100,101,111,110,108,121,62]⟩,by kernel_rfl,by decide⟩
exact ⟨⟨#[60,111,110,108,121,105,110,99,108,117,100,101,62]⟩,by kernel_rfl,by decide⟩}
theorem Zsz {w c:Nat} {e e2:El} (ht:e.kind=2->1<=e.tag/\e.tag<=3) (h0:0<=e.count) (hc:e.count.toNat=c) (h:EW w e2) (hb:w+20+c<=1000000):∃ a,JC e e2=some a/\EW (w+20+c) a/\alike e2 a:=by{
have z1:(⟨#[91,91]⟩:Q1).size=2:=rfl
unfold JC
by_cases k1:e.kind=1
rw [if_pos k1]
obtain ⟨a,h1,h2,h3⟩:=NU (s:=⟨#[91,91]⟩) h (by omega)
exact ⟨a,h1,h2.mono (by omega),h3⟩
rw [if_neg k1]
by_cases k2:e.kind=2
rw [if_pos k2]
obtain ⟨s,hs,hz⟩:=ZuW (ht k2).1 (ht k2).2
obtain ⟨a,h1,h2,h3⟩:=NU (s:=s) h (by omega)
exact ⟨a,by rw [hs];exact h1,h2.mono (by omega),h3⟩
rw [if_neg k2]
by_cases k3:e.kind=3
rw [if_pos k3]
obtain ⟨s,hs,hz,_⟩:=qO (b:=123) h0 (by omega)
obtain ⟨a,h1,h2,h3⟩:=NU (s:=s) h (by omega)
exact ⟨a,by rw [hs];exact h1,h2.mono (by omega),h3⟩
rw [if_neg k3]
exact ⟨e2,rfl,h.mono (by omega),alike.refl _⟩}
theorem ZsA {w w2:Nat} {e e2:El} (h:EW w e) (h2:EW w2 e2) (hb:w+w2<=1000000):∃ e3,JD e e2=some e3/\EW (w+w2) e3/\alike e2 e3:=by{
obtain ⟨⟨ht,h0⟩,wl,wa,h3,h4,h5⟩:=h
obtain ⟨a,a1,a2,a3⟩:=Zsz ht h0 rfl h2 (by omega)
obtain ⟨b,b1,b2,b3⟩:=XU a2 h4 (by omega)
obtain ⟨c,c1,c2,c3⟩:=qN b2 h5 (by omega)
have hl:=h5.len
rw [Yv] at hl
refine ⟨c,?_,c2.mono (by omega),a3.trans (b3.trans c3)⟩
unfold JD
rw [a1]
show ((DP a e.list).bind fun b=>if e.argL.length<=4611686018427387904 then IK b e.argL else none)=_
rw [b1]
show (if e.argL.length<=4611686018427387904 then IK b e.argL else none)=_
rw [if_pos (by omega)]
exact c1}
def SW:Nat->El->Q3 El->Prop | w,e,[]=>EW w e | w,e,e2::r=>∃ w1 w2,w1+w2<=w/\EW w1 e/\SW w2 e2 r
theorem SW.mono:∀ {r:Q3 El} {w w':Nat} {e:El},SW w e r->w<=w'->SW w' e r
 | [],w,w',e,h,hw=>EW.mono h hw
 | e2::r,w,w',e,⟨w1,w2,h0,h1,h2⟩,hw=>⟨w1,w2,by omega,h1,h2⟩
theorem SW.top {w:Nat} {e:El}:∀ {r:Q3 El},SW w e r->∃ w1 w2,w1+w2<=w/\EW w1 e/\∀ e' w',EW w' e'->SW (w'+w2) e' r
 | [],h=>⟨w,0,by omega,h,fun e' w' h'=>EW.mono h' (by omega)⟩
 | e2::r,⟨w1,w2,h0,h1,h2⟩=>⟨w1,w2,h0,h1,fun e' w' h'=>⟨w',w2,Yn _,h',h2⟩⟩
theorem SW.push {w w1:Nat} {e x:El} {r:Q3 El} (h:SW w e r) (hx:EW w1 x):SW (w1+w) x (e::r):=⟨w1,w,Yn _,hx,h⟩
def bot:El->Q3 El->Prop | e,[]=>e.kind=0 | _,e2::r=>bot e2 r
theorem NV {e e':El} (hk:e'.kind=e.kind):∀ {r:Q3 El},bot e r->bot e' r
 | [],h=>hk.trans h
 | _::_,h=>h
theorem XV:∀ (n:Nat) {e:El} {r:Q3 El} {w:Nat},SW w e r->n<=r.length->w<=1000000->∃ q,F6 n e r=some q/\SW w q.1 q.2/\q.2=r.drop n/\∃ x,(e::r)[n]? = some x/\alike x q.1
 | 0,e,r,w,h,_,_=>⟨(e,r),rfl,h,rfl,e,rfl,alike.refl e⟩
 | n+1,e,[],w,h,hn,_=>by simp at hn
 | n+1,e,e2::r,w,⟨w1,w2,h0,h1,h2⟩,hn,hb=>by
   obtain ⟨u1,u2,h3,h4,h5⟩:=h2.top
   obtain ⟨e3,h6,h7,h8⟩:=ZsA h1 h4 (by omega)
   obtain ⟨q,q1,q2,q3,x,q4,q5⟩:=XV n (h5 e3 _ h7) (by simpa using hn) (by omega)
   refine ⟨q,?_,q2.mono (by omega),q3,?_⟩
   show ((JD e e2).bind fun e3=>F6 n e3 r)=_
   rw [h6]
   exact q1
   cases n with
   | zero=>
     cases q4
     exact ⟨e2,rfl,h8.trans q5⟩
   | succ n=>exact ⟨x,q4,q5⟩
theorem fN:∀ (n:Nat) {e x:El} {r:Q3 El},bot e r->(e::r)[n]? = some x->n<=r.length->bot x (r.drop n)
 | 0,e,x,r,h,hx,_=>by injection hx with hx;subst hx;exact h
 | n+1,e,x,[],h,hx,hn=>by simp at hn
 | n+1,e,x,e2::r,h,hx,hn=>fN n (e:=e2) h (by simpa using hx) (by simpa using hn)
theorem JI {w:Nat} {e:El} {r:Q3 El} {s:Q1} (h:SW w e r) (hk:bot e r) (hb:w+s.size+1<=1000000):∃ e',AM e s=some e'/\SW (w+s.size+1) e' r/\bot e' r/\alike e e':=by
 obtain ⟨w1,w2,h1,h2,h3⟩:=h.top
 obtain ⟨e',h4,h5,h6⟩:=NU (s:=s) h2 (by omega)
 exact ⟨e',h4,(h3 e' _ h5).mono (by omega),NV h6.1 hk,h6⟩
theorem XW {w wn:Nat} {e:El} {r:Q3 El} {n:Node} (h:SW w e r) (hk:bot e r) (hn:LW false wn [n.cs]) (hb:w+wn<=1000000):∃ e',EG e n=some e'/\SW (w+wn) e' r/\bot e' r/\alike e e':=by
 obtain ⟨w1,w2,h1,h2,h3⟩:=h.top
 obtain ⟨e',h4,h5,h6⟩:=qL h2 hn (by omega)
 exact ⟨e',h4,(h3 e' _ h5).mono (by omega),NV h6.1 hk,h6⟩
theorem EW.new {k t c:Int} (ht:k=2->1<=t/\t<=3) (hc:0<=c):EW (20+c.toNat) ⟨k,t,c,[],none⟩:=⟨⟨ht,hc⟩,0,0,by dsimp only;omega,.nil _ _,.nil _ _⟩
theorem fO {w:Nat} {e:El} {r:Q3 El} {k t c:Int} {x:Q1} (h:SW w e r) (hk:bot e r) (hr:r.length<=20) (ht:k=2->1<=t/\t<=3) (h0:0<=c) (hc:c.toNat<=x.size) (hb:w+x.size+20<=1000000) :
  ∃ q,IL k t c x e r=some q/\SW (w+x.size+20) q.1 q.2/\bot q.1 q.2/\q.2.length<=20:=by{
unfold IL
by_cases hl:20<=r.length
rw [if_pos hl]
obtain ⟨e',h1,h2,h3,_⟩:=JI (s:=x) h hk (by omega)
exact ⟨(e',r),by rw [h1];rfl,h2.mono (by omega),h3,hr⟩
rw [if_neg hl]
exact ⟨_,rfl,(h.push (EW.new ht h0)).mono (by omega),hk,by simp;omega⟩}
theorem ZzV {w:Nat} {e:El} {r:Q3 El} (h:SW w e r) (hk:bot e r) (hb:w+4<=1000000):∃ e',KJ e=some e'/\SW (w+4) e' r/\bot e' r/\e'.kind=e.kind/\e'.tag=e.tag/\e'.count=e.count:=by{
obtain ⟨w1,w2,h1,h2,h3⟩:=h.top
obtain ⟨kind,tag,count,list,args⟩:=e
unfold KJ
by_cases k3:kind=3
rw [if_pos (show (El.mk kind tag count list args).kind=3 from k3)]
obtain ⟨h0,wl,wa,h4,h5,h6⟩:=h2
dsimp only at h0 h4 h5
cases args with
| none=>
  refine ⟨_,rfl,(h3 _ (w1+4) ⟨h0,wl,4,by dsimp only;omega,h5,?_⟩).mono (by omega),(by refine NV ?_ hk;rfl),rfl,rfl,rfl⟩
  exact LW.mkA false (LW.nil _ 0) (LW.nil _ 0) (by omega)
| some q=>
  obtain ⟨pre,a⟩:=q
  have h7:LW true wa ((pre ++ [a]).map Arg.cs):=h6
  have h8:=h7.len
  simp only [Yv,Yb,Yr,DI] at h8
  refine ⟨⟨kind,tag,count,list,some (pre ++ [a],⟨false,[],[]⟩)⟩,?_,(h3 _ (w1+4) ⟨h0,wl,wa+4,by dsimp only;omega,h5,?_⟩).mono (by omega),(by refine NV ?_ hk;rfl),rfl,rfl,rfl⟩
  show (if pre.length+1<=1000000 then _ else none)=_
  rw [if_pos (by omega)]
  show LW true _ (((pre ++ [a]) ++ [(⟨false,[],[]⟩:Arg)]).map Arg.cs)
  rw [YR]
  exact LW.app h7 (LW.mkA false (LW.nil _ 0) (LW.nil _ 0) (by omega))
rw [if_neg (show ¬ (El.mk kind tag count list args).kind=3 from k3)]
have z1:(⟨#[124]⟩:Q1).size=1:=rfl
obtain ⟨e',h4,h5,h6,h7⟩:=JI (s:=⟨#[124]⟩) h hk (by omega)
exact ⟨e',h4,h5.mono (by omega),h6,h7.1,h7.2.1,h7.2.2.1⟩}
theorem ZwU {w:Nat} {e:El} {r:Q3 El} (h:SW w e r) (hk:bot e r) (hb:w+4<=1000000):∃ e',KF e=some e'/\SW (w+4) e' r/\bot e' r/\alike e e':=by{
have z1:(⟨#[61]⟩:Q1).size=1:=rfl
have tx:∃ e',AM e ⟨#[61]⟩=some e'/\SW (w+4) e' r/\bot e' r/\alike e e':=by
 obtain ⟨e',h4,h5,h6,h7⟩:=JI (s:=⟨#[61]⟩) h hk (by omega)
 exact ⟨e',h4,h5.mono (by omega),h6,h7⟩
obtain ⟨w1,w2,h1,h2,h3⟩:=h.top
obtain ⟨kind,tag,count,list,args⟩:=e
unfold KF
cases args with
| none=>exact tx
| some q=>
  obtain ⟨pre,a⟩:=q
  dsimp only
  by_cases hc:kind=3/\a.named=false
  rw [if_pos hc]
  obtain ⟨h0,wl,wa,h4,h5,h6⟩:=h2
  dsimp only at h0 h4 h5
  have h7:LW true wa ((pre ++ [a]).map Arg.cs):=h6
  rw [YR] at h7
  obtain ⟨u1,u2,u3,u4,u5⟩:=h7.split
  obtain ⟨wn,wv,u6,u7,u8⟩:=LW.arg1 u5
  refine ⟨_,rfl,(h3 _ w1 ⟨h0,wl,u1+(4+wv+0),by dsimp only;omega,h5,?_⟩).mono (by omega),(by refine NV ?_ hk;rfl),rfl,rfl,rfl,by simp⟩
  show LW true _ ((pre ++ [(⟨true,a.value,[]⟩:Arg)]).map Arg.cs)
  rw [YR]
  exact LW.app u4 (LW.mkA true u8 (LW.nil _ 0) (Yn _))
  rw [if_neg hc]
  exact tx}
theorem Zpk {w:Nat} {e:El} {r:Q3 El} (h:SW w e r) (hk:bot e r) (hr:r.length<=20) (hb:w+4<=1000000):∃ q,KH e r=some q/\SW (w+4) q.1 q.2/\bot q.1 q.2/\q.2.length<=20:=by{
have z1:(⟨#[91,91]⟩:Q1).size=2:=rfl
have z2:(⟨#[93,93]⟩:Q1).size=2:=rfl
unfold KH
by_cases k1:e.kind=1
rw [if_pos k1]
cases r with
| nil=>have:e.kind=0:=hk;omega
| cons e2 r=>
  obtain ⟨w1,w2,h0,h1,h2⟩:=h
  obtain ⟨_,wl,wa,h3,h4,h5⟩:=h1
  obtain ⟨a,a1,a2,a3,a4⟩:=JI (s:=⟨#[91,91]⟩) h2 hk (by omega)
  obtain ⟨u1,u2,u3,u4,u5⟩:=a2.top
  obtain ⟨b,b1,b2,b3⟩:=XU u4 h4 (by omega)
  have b4:=u5 b _ b2
  obtain ⟨c,c1,c2,c3,c4⟩:=JI (s:=⟨#[93,93]⟩) b4 (NV b3.1 a3) (by omega)
  refine ⟨(c,r),?_,c2.mono (by omega),c3,by simp at hr;dsimp only;omega⟩
  dsimp only
  rw [a1]
  show ((DP a e.list).bind fun b=>(AM b ⟨#[93,93]⟩).map fun c=>(c,r))=_
  rw [b1]
  show ((AM b ⟨#[93,93]⟩).map fun c=>(c,r))=_
  rw [c1]
  rfl
rw [if_neg k1]
obtain ⟨c,c1,c2,c3,_⟩:=JI (s:=⟨#[93,93]⟩) h hk (by omega)
exact ⟨(c,r),by rw [c1];rfl,c2.mono (by omega),c3,hr⟩}
theorem Zqp {w:Nat} {e:El} {r:Q3 El} {k:Int} {s:Q1} (h:SW w e r) (hk:bot e r) (hr:r.length<=20) (hb:w+s.size+1<=1000000):∃ q,KI k s e r=some q/\SW (w+s.size+1) q.1 q.2/\bot q.1 q.2/\q.2.length<=20:=by{
unfold KI
by_cases h0:BQ k e r=0
rw [if_pos h0]
obtain ⟨c,c1,c2,c3,_⟩:=JI (s:=s) h hk (by omega)
exact ⟨(c,r),by rw [c1];rfl,c2,c3,hr⟩
rw [if_neg h0]
have hle:=eM k e r
obtain ⟨⟨x,r1⟩,q1,q2,q3,y,q4,q5⟩:=XV (r.length-BQ k e r) h (by omega) (by omega)
dsimp only at q2 q3
have hlen:r1.length=BQ k e r:=by rw [q3,Yx];omega
rw [q1]
cases r1 with
| nil=>simp at hlen;omega
| cons e2 r2=>
  obtain ⟨w1,w2,u0,u1,u2⟩:=q2
  obtain ⟨_,wl,wa,v1,v2,v3⟩:=u1
  have hb2:bot e2 r2:=by
   have:=fN (r.length-BQ k e r) hk q4 (by omega)
   rw [<- q3] at this
   exact this
  obtain ⟨e3,n1,n2,n3,_⟩:=XW (n:=⟨6,k,⟨#[]⟩,x.list,[]⟩) u2 hb2 (LW.mk1 6 k ⟨#[]⟩ v2 (LW.nil _ 0) (Yn _)) (by have z:(⟨#[]⟩:Q1).size=0:=rfl;omega)
  refine ⟨(e3,r2),?_,n2.mono (by have z:(⟨#[]⟩:Q1).size=0:=rfl;omega),n3,by simp at hlen;dsimp only;omega⟩
  show ((EG e2 ⟨6,k,⟨#[]⟩,x.list,[]⟩).map fun e3=>(e3,r2))=_
  rw [n1]
  rfl}
theorem qP {α:Type} {x:Q2 α} {v:α} (h:Tot x (fun r=>r=v)):x=some v:=by
 obtain ⟨w,h1,h2⟩:=h
 rw [h1,h2]
theorem Zwf {w:Nat} {c:Int} {e:El} (h:EW w e):∃ wn,wn+19+e.count.toNat<=w/\LW false wn [(DQ c e).cs]:=by
 obtain ⟨_,wl,wa,h1,h2,h3⟩:=h
 exact ⟨wl+wa+1,by omega,LW.mk1 _ _ _ h2 h3 (by have z:(⟨#[]⟩:Q1).size=0:=rfl;omega)⟩
theorem Zzv {w:Nat} {c:Int} {e:El} {r:Q3 El} (h:SW w e r) (hk:bot e r) (h0:0<=c) (hb:w+c.toNat+1<=1000000):∃ q,M7 c e r=some q/\SW (w+c.toNat+1) q.1 q.2/\bot q.1 q.2/\q.2=r:=by{
obtain ⟨s,h1,h2,_⟩:=qO (b:=125) h0 (by omega)
obtain ⟨e',h3,h4,h5,_⟩:=JI (s:=s) h hk (by omega)
refine ⟨(e',r),?_,h4.mono (by omega),h5,rfl⟩
unfold M7
rw [h1]
show ((AM e s).map fun e'=>(e',r))=_
rw [h3]
rfl}
theorem Zzw {w wn:Nat} {m:Int} {n:Node} {e:El} {r:Q3 El} (h:SW w e r) (hk:bot e r) (hn:LW false wn [n.cs]) (hb:w+wn+2<=1000000):∃ e',QI e m n=some e'/\SW (w+wn+2) e' r/\bot e' r:=by{
have z:(⟨#[123]⟩:Q1).size=1:=rfl
have mid:∃ e3,((if m=1 then AM e ⟨#[123]⟩ else some e):Q2 El)=some e3/\SW (w+2) e3 r/\bot e3 r:=by
 by_cases hm:m=1
 rw [if_pos hm]
 obtain ⟨e3,h1,h2,h3,_⟩:=JI (s:=⟨#[123]⟩) h hk (by omega)
 exact ⟨e3,h1,h2.mono (by omega),h3⟩
 rw [if_neg hm]
 exact ⟨e,rfl,h.mono (by omega),hk⟩
obtain ⟨e3,h1,h2,h3⟩:=mid
obtain ⟨e',h4,h5,h6,_⟩:=XW h2 h3 hn (by omega)
refine ⟨e',?_,h5.mono (by omega),h6⟩
unfold QI
rw [h1]
exact h4}
theorem fP:∀ (f:Nat) {c:Int} {e:El} {r:Q3 El} {w:Nat},SW w e r->bot e r->r.length<=20->0<=c->c<f->w+c.toNat+1<=1000000->∃ q,FT f c e r=some q/\SW (w+c.toNat+1) q.1 q.2/\bot q.1 q.2/\q.2.length<=20
 | 0,c,e,r,w,_,_,_,h0,h1,_=>by omega
 | f+1,c,e,r,w,h,hk,hr,h0,hf,hb=>by
   have fin:∃ q,M7 c e r=some q/\SW (w+c.toNat+1) q.1 q.2/\bot q.1 q.2/\q.2.length<=20:=by
    obtain ⟨q,h1,h2,h3,h4⟩:=Zzv h hk h0 hb
    exact ⟨q,h1,h2,h3,by rw [h4];exact hr⟩
   unfold FT
   by_cases h2:2<=c
   ·rw [if_pos h2]
    by_cases hz:ZU e r=0
    ·rw [if_pos hz]
     exact fin
    ·rw [if_neg hz]
     have hle:=eN e r
     obtain ⟨⟨x,r1⟩,q1,q2,q3,y,q4,q5⟩:=XV (r.length-ZU e r) h (by omega) (by omega)
     dsimp only at q2 q3 q5
     have hlen:r1.length=ZU e r:=by rw [q3,Yx];omega
     have hbx:bot x r1:=by
      have:=fN (r.length-ZU e r) hk q4 (by omega)
      rw [<- q3] at this
      exact NV q5.1 this
     have hbb:=hbx
     rw [q1]
     cases r1 with
     | nil=>simp at hlen;omega
     | cons e2 r2=>
       obtain ⟨w1,w2,u0,u1,u2⟩:=q2
       have hx0:0<=x.count:=u1.1.2
       have hxw:x.count.toNat<=w1:=by obtain ⟨_,wl,wa,h1,_⟩:=u1;omega
       obtain ⟨wn,n1,n2⟩:=Zwf (c:=c) u1
       have hK:2<=BJ c x.count:=by unfold BJ;split<;>omega
       have hKc:BJ c x.count<=c:=by unfold BJ;split<;>omega
       have hcc:(c-BJ c x.count).toNat+2<=c.toNat:=by omega
       show ∃ q,(if c<=9223372036854775807/\0<=x.count/\x.count<=9223372036854775807 then
        (if 2<=x.count-BJ c x.count then FT f (c-BJ c x.count) ⟨x.kind,x.tag,x.count-BJ c x.count,[(DQ c x).cs],none⟩ (e2::r2)
         else (QI e2 (x.count-BJ c x.count) (DQ c x)).bind fun e4=>FT f (c-BJ c x.count) e4 r2) else none)=some q/\_
       rw [if_pos ⟨by omega,hx0,by omega⟩]
       by_cases hm:2<=x.count-BJ c x.count
       ·rw [if_pos hm]
        have hnew:SW w ⟨x.kind,x.tag,x.count-BJ c x.count,[(DQ c x).cs],none⟩ (e2::r2):=by
         refine ⟨wn+20+(x.count-BJ c x.count).toNat,w2,by omega,⟨⟨u1.1.1,by dsimp only;omega⟩,wn,0,by dsimp only;omega,n2,.nil _ _⟩,u2⟩
        obtain ⟨q,a1,a2,a3,a4⟩:=fP f (c:=c-BJ c x.count) (w:=w) hnew (show bot _ (e2::r2) from hbb) (by omega) (by omega) (by omega) (by omega)
        exact ⟨q,a1,a2.mono (by omega),a3,a4⟩
       ·rw [if_neg hm]
        have hb2:bot e2 r2:=hbb
        obtain ⟨e4,o1,o2,o3⟩:=Zzw (m:=x.count-BJ c x.count) u2 hb2 n2 (by omega)
        rw [o1]
        simp only [Yr] at hlen
        obtain ⟨q,a1,a2,a3,a4⟩:=fP f (c:=c-BJ c x.count) (w:=w) (o2.mono (by omega)) o3 (by omega) (by omega) (by omega) (by omega)
        exact ⟨q,a1,a2.mono (by omega),a3,a4⟩
   ·rw [if_neg h2]
    exact fin
structure TokOK (s:ByteArray) (t:Tok):Prop where
 lo:0<=t.from_
 le:t.from_<=t.to_
 hi:t.to_<=(s.size:Int)
 nowiki:t.kind=10->t.from_+17<=t.to_
 tago:t.kind=11->∃ k,K8 s t=some k/\1<=k/\k<=3
 tagc:t.kind=12->∃ k,K8 s t=some k
theorem qQ {s:Q1} {t:Tok} (h:TokOK s t):∃ x,H8 s t=some x/\x.size=(t.to_-t.from_).toNat/\x=s.extract t.from_.toNat t.to_.toNat:=by{
have h1:=h.lo
have h2:=h.le
have h3:=h.hi
refine ⟨s.extract t.from_.toNat t.to_.toNat,?_,by rw [FA];omega,rfl⟩
refine qP ?_
unfold H8
refine B7 (Zb (fun h=>absurd h (by omega)) fun _=>Zb (fun h=>absurd h (by omega)) fun _=>?_)
rw [Yf (show ¬ (s.size:Int)<t.to_ by omega)]
exact bY h1 h2 h3 fun m hm _=>Zd hm}
theorem qR {s:Q1} {t:Tok} {w:Nat} {e:El} {r:Q3 El} (ht:TokOK s t) (h:SW w e r) (hk:bot e r) (hr:r.length<=20) (hb:w+(t.to_-t.from_).toNat+30<=1000000) :
  ∃ q,M8 s t e r=some q/\SW (w+(t.to_-t.from_).toNat+30) q.1 q.2/\bot q.1 q.2/\q.2.length<=20:=by{
obtain ⟨x,hx,hz,_⟩:=qQ ht
have one:∀ {o:Q2 El} {w':Nat},w'<=w+(t.to_-t.from_).toNat+30->(∃ e',o=some e'/\SW w' e' r/\bot e' r)->∃ q,(o.map fun e'=>(e',r))=some q/\SW (w+(t.to_-t.from_).toNat+30) q.1 q.2/\bot q.1 q.2/\q.2.length<=20:=by
 rintro o w' hw ⟨e',rfl,h1,h2⟩
 exact ⟨(e',r),rfl,h1.mono hw,h2,hr⟩
have up:∀ {o:Q2 (El×Q3 El)} {w':Nat},w'<=w+(t.to_-t.from_).toNat+30->(∃ q,o=some q/\SW w' q.1 q.2/\bot q.1 q.2/\q.2.length<=20)->∃ q,o=some q/\SW (w+(t.to_-t.from_).toNat+30) q.1 q.2/\bot q.1 q.2/\q.2.length<=20:=by
 rintro o w' hw ⟨q,rfl,h1,h2,h3⟩
 exact ⟨q,rfl,h1.mono hw,h2,h3⟩
unfold M8
rw [hx]
show ∃ q,(if t.kind=1\/t.kind=2 then (AM e x).map fun e'=>(e',r) else _)=some q/\_
by_cases k1:t.kind=1\/t.kind=2
rw [if_pos k1]
obtain ⟨e',h1,h2,h3,_⟩:=JI (s:=x) h hk (by omega)
exact one (by omega) ⟨e',h1,h2,h3⟩
rw [if_neg k1]
have z0:(⟨#[]⟩:Q1).size=0:=rfl
by_cases k9:t.kind=9
rw [if_pos k9]
obtain ⟨e',h1,h2,h3,_⟩:=XW (n:=⟨2,0,x,[],[]⟩) h hk (LW.mk1 2 0 x (LW.nil _ 0) (LW.nil _ 0) (Yn _)) (by omega)
exact one (by omega) ⟨e',h1,h2,h3⟩
rw [if_neg k9]
by_cases k10:t.kind=10
rw [if_pos k10]
have hn:=ht.nowiki k10
have hw:w64 ((x.size:Int)-9)=(x.size:Int)-9:=ZH (by omega) (by have:=ht.hi;have:=ht.lo;omega)
rw [hw]
have e1:AJ x 8 ((x.size:Int)-9)=some (x.extract 8 (x.size-9)):=by
 unfold AJ
 rw [if_pos ⟨by omega,by omega,by omega⟩]
 have:(((x.size:Int)-9)).toNat=x.size-9:=by omega
 rw [this]
 rfl
rw [e1]
have z2:(x.extract 8 (x.size-9)).size<=x.size:=by rw [FA];omega
obtain ⟨e',h1,h2,h3,_⟩:=XW (n:=⟨3,0,x.extract 8 (x.size-9),[],[]⟩) h hk (LW.mk1 3 0 _ (LW.nil _ 0) (LW.nil _ 0) (Yn _)) (by omega)
exact one (by omega) ⟨e',h1,h2,h3⟩
rw [if_neg k10]
by_cases k3:t.kind=3
rw [if_pos k3]
exact up (by omega) (fO (k:=3) (t:=0) (c:=x.size) (x:=x) h hk hr (by omega) (by omega) (by omega) (by omega))
rw [if_neg k3]
by_cases k5:t.kind=5
rw [if_pos k5]
exact up (by omega) (fO (k:=1) (t:=0) (c:=0) (x:=x) h hk hr (by omega) (by omega) (by omega) (by omega))
rw [if_neg k5]
by_cases k11:t.kind=11
rw [if_pos k11]
obtain ⟨k,g1,g2,g3⟩:=ht.tago k11
rw [g1]
exact up (by omega) (fO (k:=2) (t:=k) (c:=0) (x:=x) h hk hr (by omega) (by omega) (by omega) (by omega))
rw [if_neg k11]
by_cases k7:t.kind=7
rw [if_pos k7]
obtain ⟨e',h1,h2,h3,_⟩:=ZzV h hk (by omega)
exact one (by omega) ⟨e',h1,h2,h3⟩
rw [if_neg k7]
by_cases k8:t.kind=8
rw [if_pos k8]
obtain ⟨e',h1,h2,h3,_⟩:=ZwU h hk (by omega)
exact one (by omega) ⟨e',h1,h2,h3⟩
rw [if_neg k8]
by_cases k6:t.kind=6
rw [if_pos k6]
exact up (by omega) (Zpk h hk hr (by omega))
rw [if_neg k6]
by_cases k12:t.kind=12
rw [if_pos k12]
obtain ⟨k,g1⟩:=ht.tagc k12
rw [g1]
exact up (by omega) (Zqp (k:=k) (s:=x) h hk hr (by omega))
rw [if_neg k12]
by_cases k4:t.kind=4
rw [if_pos k4]
exact up (by omega) (fP (x.size+1) (c:=x.size) h hk hr (by omega) (by omega) (by omega))
rw [if_neg k4]
exact ⟨(e,r),rfl,h.mono (by omega),hk,hr⟩}
def F9:Q3 Tok->Nat | []=>0 | t::l=>(t.to_-t.from_).toNat+30+F9 l
theorem qS {s:Q1}:∀ {l:Q3 Tok} {w:Nat} {e:El} {r:Q3 El},(∀ t ∈ l,TokOK s t)->SW w e r->bot e r->r.length<=20->w+F9 l<=1000000->∃ q,KK s l e r=some q/\SW (w+F9 l) q.1 q.2/\bot q.1 q.2/\q.2.length<=20
 | [],w,e,r,_,h,hk,hr,_=>⟨(e,r),rfl,h,hk,hr⟩
 | t::l,w,e,r,hl,h,hk,hr,hb=>by
   unfold F9 at hb
   obtain ⟨q,q1,q2,q3,q4⟩:=qR (hl t (Yi ..)) h hk hr (by omega)
   obtain ⟨q',p1,p2,p3,p4⟩:=qS (fun t ht=>hl t (Yg _ ht)) q2 q3 q4 (by omega)
   refine ⟨q',?_,p2.mono (by show _<=w+((t.to_-t.from_).toNat+30+F9 l);omega),p3,p4⟩
   show ((M8 s t e r).bind fun q=>KK s l q.1 q.2)=_
   rw [q1]
   exact p1
theorem rtot {α:Type} {x:Q2 α} {v:α} (h:Tot x (fun r=>r=v)):x=some v:=qP h
theorem JJ {α:Type} (S:Q3 α) (x:α) (h:S.length<=1759218604441):atI (S ++ [x]) (w64 (((S ++ [x]).length:Int)-1))=some x:=by{
have e:(S ++ [x]).length=S.length+1:=by simp
rw [ZH,e]
unfold atI
rw [if_pos (by omega),show (((S.length+1:Nat):Int)-1).toNat=S.length by omega]
simp}
theorem fQ {α:Type} (S:Q3 α) (x y:α) (h:S.length<=1759218604441):AQ (S ++ [x]) (w64 (((S ++ [x]).length:Int)-1)) y=S ++ [y]:=by{
have e:(S ++ [x]).length=S.length+1:=by simp
rw [ZH,e]
unfold AQ
rw [show (((S.length+1:Nat):Int)-1).toNat=S.length by omega,MF _ _ (Yn _)]
simp}
theorem front {α:Type} (S:Q3 α) (x:α) (h:S.length<=1759218604441):CJ (S ++ [x]) 0 (w64 (((S ++ [x]).length:Int)-1))=some S:=by{
have e:(S ++ [x]).length=S.length+1:=by simp
rw [ZH,e]
unfold CJ
rw [if_pos ⟨by omega,by omega,by omega⟩,show (((S.length+1:Nat):Int)-1).toNat=S.length by omega]
simp}
theorem R0 (S:Q3 Elt) (x:Elt) (h:S.length<=1000):HY ⟨S ++ [x]⟩=some (x,⟨S ++ [x]⟩):=by
 unfold HY
 rw [JJ S x (by omega)]
 rfl
theorem IS {α:Type} (w:Nat) (S:Q3 α) (hw:w<=80) (h:S.length<=1759218604441):AA w [] S=some S:=by
 have:=J5 (w:=w) (a:=[]) (b:=S) 1759218604441 (by simpa using h) (YX (a6 _ hw) (by decide)) (by decide)
 exact this
theorem R1 {α:Type} (w:Nat) (S:Q3 α) (x:α) (hw:w<=80) (h:S.length+1<=1759218604441):AA w S [x]=some (S ++ [x]):=
 J5 (w:=w) 1759218604441 (by simp;omega) (YX (a6 _ hw) (by decide)) (by decide)
theorem XX (S:Q3 Elt) (x y:Elt) (h:S.length<=1000):KR ⟨S ++ [x]⟩ y=some ⟨S ++ [y]⟩:=by{
unfold KR
rw [front S x (by omega)]
show ((AA 72 [] S).bind fun l2=>(AA 72 l2 [y]).bind fun l3=>(some (⟨l3⟩:Pst):Q2 Pst))=_
rw [IS 72 S (by decide) (by omega)]
show ((AA 72 S [y]).bind fun l3=>(some (⟨l3⟩:Pst):Q2 Pst))=_
rw [R1 72 S y (by decide) (by omega)]
rfl}
theorem XY (S:Q3 Elt) (x:Elt) (h:S.length<=1000):JG ⟨S ++ [x]⟩=some (x,⟨S⟩):=by{
unfold JG
rw [R0 S x h]
show ((CJ (S ++ [x]) 0 (w64 (((S ++ [x]).length:Int)-1))).bind fun l2=>(AA 72 [] l2).bind fun l3=>(some (x,(⟨l3⟩:Pst)):Q2 (Elt×Pst)))=_
rw [front S x (by omega)]
show ((AA 72 [] S).bind fun l3=>(some (x,(⟨l3⟩:Pst)):Q2 (Elt×Pst)))=_
rw [IS 72 S (by decide) (by omega)]
rfl}
inductive TG:Bool->List (List PV)->Prop
 | nil (b:Bool):TG b []
 | node (n:Node) (l:List (List PV)) (ht:n.kind=1->n=⟨1,0,n.text,[],[]⟩) (hg:n.kind=6->1<=n.tag/\n.tag<=3) (hk:TG false n.kids) (ha:TG true n.args) (hl:TG false l):TG false (n.cs::l)
 | arg (a:Arg) (l:List (List PV)) (h1:a.name.length<=1759218604441) (h2:a.value.length<=1759218604441) (hn:TG false a.name) (hv:TG false a.value) (hl:TG true l):TG true (a.cs::l)
structure NG (n:Node):Prop where
 t:n.kind=1->n=⟨1,0,n.text,[],[]⟩
 g:n.kind=6->1<=n.tag/\n.tag<=3
 k:TG false n.kids
 a:TG true n.args
structure AG (a:Arg):Prop where
 h1:a.name.length<=1759218604441
 h2:a.value.length<=1759218604441
 n:TG false a.name
 v:TG false a.value
theorem TG.nodes:∀ {l:Q3 (Q3 PV)},TG false l->∃ xs:Q3 Node,l=xs.map Node.cs/\∀ n ∈ xs,NG n
 | [],_=>⟨[],rfl,fun n h=>by cases h⟩
 | x::l,h=>by
   cases h with
   | node n l ht hg hk ha hl=>
     obtain ⟨xs,rfl,h⟩:=TG.nodes hl
     exact ⟨n::xs,rfl,fun m hm=>by
      rcases Ys.1 hm with rfl | hm
      exact ⟨ht,hg,hk,ha⟩
      exact h m hm⟩
theorem TG.of:∀ {xs:Q3 Node},(∀ n ∈ xs,NG n)->TG false (xs.map Node.cs)
 | [],_=>.nil _
 | x::xs,h=>.node x _ (h x (Yi ..)).t (h x (Yi ..)).g (h x (Yi ..)).k (h x (Yi ..)).a (TG.of fun n hn=>h n (Yg _ hn))
theorem TG.ofA:∀ {xs:Q3 Arg},(∀ n ∈ xs,AG n)->TG true (xs.map Arg.cs)
 | [],_=>.nil _
 | x::xs,h=>.arg x _ (h x (Yi ..)).h1 (h x (Yi ..)).h2 (h x (Yi ..)).n (h x (Yi ..)).v (TG.ofA fun n hn=>h n (Yg _ hn))
theorem fR (s:Q1):NG ⟨1,0,s,[],[]⟩:=⟨fun _=>rfl,nofun,.nil _,.nil _⟩
theorem R2 {α:Type} {P:α->Prop} {l:Q3 α} {x:α} (h:∀ y ∈ l,P y) (hx:P x):∀ y ∈ l ++ [x],P y:=fun y hy=>by
 rcases YD.1 hy with hy | hy
 exact h y hy
 rw [YG.1 hy]
 exact hx
def R3 (l:Q3 (Q3 PV)) (n:Node):Q2 (Q3 (Q3 PV)):=if n.kind=1 then (if n.text=⟨#[]⟩ then some l else GQ l n.text) else F4 l n
theorem ZtY {l:Q3 (Q3 PV)} {s:Q1} {l':Q3 (Q3 PV)} (hl:l = []\/∃ init n,l=init ++ [Node.cs n]/\¬ n.kind=1) (h:GQ l s=some l'):l'=l ++ [Node.cs ⟨1,0,s,[],[]⟩]/\l.length+1<=1759218604441:=by{
have fin:F4 l ⟨1,0,s,[],[]⟩=some l'->l'=l ++ [Node.cs ⟨1,0,s,[],[]⟩]/\l.length+1<=1759218604441:=fun h=>by
 let ⟨h1,_,h3⟩:=GJ h
 exact ⟨h3,by simp at h1;omega⟩
rcases hl with rfl | ⟨init,n,rfl,hk⟩
exact fin h
unfold GQ at h
rw [Z9] at h
have h:((some n:Q2 Node).bind fun n=>if n.kind=1 then (A7 n.text s).map fun y=>(init ++ [Node.cs n]).dropLast ++ [Node.cs ⟨1,n.tag,y,n.kids,n.args⟩] else F4 (init ++ [Node.cs n]) ⟨1,0,s,[],[]⟩)=some l':=h
have h:(if n.kind=1 then (A7 n.text s).map fun y=>(init ++ [Node.cs n]).dropLast ++ [Node.cs ⟨1,n.tag,y,n.kids,n.args⟩] else F4 (init ++ [Node.cs n]) ⟨1,0,s,[],[]⟩)=some l':=h
rw [if_neg hk] at h
exact fin h}
theorem qT (xs:Q3 Node) (n:Node) (hn:NG n) (hx:∀ n ∈ xs,NG n) (h:xs.length<=1759218604441) (l':Q3 (Q3 PV)) (hl:R3 (xs.map Node.cs) n=some l') :
  ∃ ys,l'=ys.map Node.cs/\JH xs n=some ys/\(∀ n ∈ ys,NG n)/\ys.length<=1759218604441:=by{
unfold R3 at hl
by_cases hk:n.kind=1
rotate_left
rw [if_neg hk] at hl
let ⟨h1,_,h3⟩:=GJ hl
simp at h1
refine ⟨xs ++ [n],by rw [h3];simp,rtot ?_,R2 hx hn,by simp;omega⟩
unfold JH
refine Za (IS 80 xs (by decide) h) (B7 (Zb (fun h=>absurd h hk) fun _=>?_))
exact Za (R1 80 xs n (by decide) (by omega)) (Zd rfl)
rw [if_pos hk] at hl
obtain ⟨s,rfl⟩:∃ s,n=⟨1,0,s,[],[]⟩:=⟨_,hn.t hk⟩
dsimp only at hl
by_cases hs:s=⟨#[]⟩
rw [if_pos hs] at hl
refine ⟨xs,(D7 hl).symm,rtot ?_,hx,h⟩
unfold JH
refine Za (IS 80 xs (by decide) h) (B7 (Zb (fun _=>?_) fun h=>absurd rfl h))
exact Zb (fun _=>Zd rfl) fun h=>absurd hs h
rw [if_neg hs] at hl
have new:(xs = []\/∃ init n,xs=init ++ [n]/\¬ n.kind=1)->∃ ys,l'=ys.map Node.cs/\JH xs ⟨1,0,s,[],[]⟩=some ys/\(∀ n ∈ ys,NG n)/\ys.length<=1759218604441:=fun hc=>by
 let ⟨e1,e2⟩:=ZtY (l:=xs.map Node.cs) (hc.imp (fun e=>by rw [e];rfl) fun ⟨i,m,e,hm⟩=>⟨i.map Node.cs,m,by rw [e];simp,hm⟩) hl
 rw [Yv] at e2
 refine ⟨xs ++ [⟨1,0,s,[],[]⟩],by rw [e1];simp,rtot ?_,R2 hx (fR s),by simp;omega⟩
 unfold JH
 refine Za (IS 80 xs (by decide) h) (Zt (fun q=>Tot (q ()) (fun r=>r=xs ++ [⟨1,0,s,[],[]⟩])) (Za (R1 80 xs _ (by decide) e2) (Zd rfl)) fun k2 hk2=>?_)
 refine Zb (fun _=>Zb (fun h=>absurd h hs) fun _=>?_) fun h=>absurd rfl h
 refine Zt (fun q=>Tot (q false) (fun r=>r=xs ++ [⟨1,0,s,[],[]⟩])) (Zj nofun fun _=>hk2) fun k3 hk3=>?_
 refine Zb (fun hlt=>?_) fun _=>hk3
 rcases hc with rfl | ⟨init,n,rfl,hk⟩
 exact absurd hlt (by decide)
 refine Za (JJ init n (by simp at h;omega)) ?_
 rw [Yf hk]
 exact hk3
rcases MG xs with rfl | ⟨init,n,hcat⟩
exact new (.inl rfl)
obtain rfl:xs=init ++ [n]:=by rw [hcat];simp
by_cases hk:n.kind=1
have hn:=(hx n (by simp)).t hk
have hi:init.length+1<=1759218604441:=by simpa using h
have hl2:GQ (init.map Node.cs ++ [Node.cs n]) s=some l':=by rw [YR] at hl;exact hl
unfold GQ at hl2
rw [Z9] at hl2
have hl3:(if n.kind=1 then (A7 n.text s).map fun y=>(init.map Node.cs ++ [Node.cs n]).dropLast ++ [Node.cs ⟨1,n.tag,y,n.kids,n.args⟩] else F4 (init.map Node.cs ++ [Node.cs n]) ⟨1,0,s,[],[]⟩)=some l':=hl2
rw [if_pos hk,Z8] at hl3
obtain ⟨y,hy,rfl⟩:=Ye.1 hl3
refine ⟨init ++ [⟨1,0,y,[],[]⟩],?_,rtot ?_,R2 (fun m hm=>hx m (Yz _ hm)) (fR y),by simpa using hi⟩
rw [hn]
simp
unfold JH
refine Za (IS 80 _ (by decide) h) (B7 (Zb (fun _=>Zb (fun h=>absurd h hs) fun _=>?_) fun h=>absurd rfl h))
refine Zt (fun q=>Tot (q true) (fun r=>r=init ++ [⟨1,0,y,[],[]⟩])) ?_ fun k3 hk3=>?_
refine Zj (fun _=>?_) nofun
refine Za (JJ init n (by omega)) (Za hy (Za (JJ init n (by omega)) (Zd ?_)))
exact fQ init n _ (by omega)
refine Zb (fun hlt=>?_) fun hge=>absurd (by simp) hge
refine Za (JJ init n (by omega)) ?_
rw [Yh hk]
exact hk3
exact new (.inr ⟨init,n,rfl,hk⟩)}
theorem fS {p l:Q3 Q4} {n:Nat} (h:p.isPrefixOf (l.take n)=true):p.isPrefixOf l=true:=
 YN.2 ((YN.1 h).trans (aG _ _))
theorem NW {p l:Q3 Q4} (h:p.isPrefixOf l=true):l.take p.length=p:=by
 obtain ⟨r,rfl⟩:=YN.1 h
 simp
theorem fT (p:Q3 Q4):p.isPrefixOf p=true:=YN.2 (List.prefix_refl _)
theorem fU (pfx l:Q3 Q4) (h:0<(AF pfx l).2):AF pfx (l.take (AF pfx l).2.toNat)=AF pfx l/\(l.take (AF pfx l).2.toNat).length=(AF pfx l).2.toNat:=by{
have hl:=WU pfx l
refine ⟨?_,?_⟩
unfold AF at h ⊢
split
rename_i h1
simp only [DH]
rw [if_pos (by rw [NW h1];exact fT _)]
rename_i h1
rw [if_neg h1] at h
split
rename_i h2
simp only [DH]
rw [if_neg (fun h3=>h1 (fS h3)),if_pos (by rw [NW h2];exact fT _)]
rename_i h2
rw [if_neg h2] at h
split
rename_i h3
simp only [DH]
rw [if_neg (fun h4=>h1 (fS h4)),if_neg (fun h4=>h2 (fS h4)),if_pos (by rw [NW h3];exact fT _)]
rename_i h3
rw [if_neg h3] at h
cases h
rw [YE]
rcases hl with hl | hl
rw [hl] at h;cases h
omega}
theorem qU {L:Q3 Q4} {k:Int} {a b:Nat} (h:a<=b) (h2:b<=L.length):H8 (bs L) ⟨k,(a:Int),(b:Int)⟩=some (bs ((L.take b).drop a)):=by{
have z:(bs L).size=L.length:=rfl
refine ZK ?_
unfold H8
refine B7 (Zb (fun h=>absurd h (by dsimp only;omega)) fun _=>Zb (fun h=>absurd h (by dsimp only;omega)) fun _=>?_)
rw [Yf (show ¬ ((bs L).size:Int)<(b:Int) by omega)]
exact Za (G8 L a b h h2) (Zd rfl)}
theorem XZ {L:Q3 Q4} {k:Int} {a b:Nat} (h:a<=b) (h2:b<=L.length) (pfx:Q3 Q4) (hp:(k=11/\pfx = [60])\/(k=12/\pfx = [60,47])) :
  K8 (bs L) ⟨k,(a:Int),(b:Int)⟩=some (if (AF pfx ((L.take b).drop a)).2=(((L.take b).drop a).length:Int) then (AF pfx ((L.take b).drop a)).1 else 0):=by{
refine ZK ?_
unfold K8
have body:Tot ((H8 (bs L) ⟨k,(a:Int),(b:Int)⟩).bind fun r2=>(JA r2 (bs pfx)).bind fun r3=>if decide (r3.2=(r2.size:Int))=true then (some r3.1:Q2 Int) else some 0) fun r=>r=if (AF pfx ((L.take b).drop a)).2=(((L.take b).drop a).length:Int) then (AF pfx ((L.take b).drop a)).1 else 0:=by
 refine Za (qU h h2) ?_
 refine Za (dI pfx _ (by rcases hp with ⟨_,rfl⟩ | ⟨_,rfl⟩<;>decide)) ?_
 refine Zb (fun h3=>?_) fun h3=>?_
 rw [if_pos (show (AF pfx ((L.take b).drop a)).2=(((L.take b).drop a).length:Int) from h3)]
 exact Zd rfl
 rw [if_neg (show ¬ (AF pfx ((L.take b).drop a)).2=(((L.take b).drop a).length:Int) from h3)]
 exact Zd rfl
rcases hp with ⟨rfl,rfl⟩ | ⟨rfl,rfl⟩
exact B7 (Zb (fun _=>body) fun h=>absurd rfl h)
exact B7 (Zb nofun fun _=>Zb (fun _=>body) fun h=>absurd rfl h)}
theorem qV {L:Q3 Q4} {i:Nat} {q:Int×Int} (hi:i<=L.length) (h:PQ (L.drop i) q) (h0:¬ q.1=0):TokOK (bs L) ⟨q.1,(i:Int),(i:Int)+q.2⟩:=by{
have z:(bs L).size=L.length:=rfl
have hlen:(L.drop i).length=L.length-i:=Yx
rcases h with h | ⟨_,⟨k1,k2⟩,k10,k11⟩
exact absurd h h0
have e2:(i:Int)+q.2=((i+q.2.toNat:Nat):Int):=by omega
refine ⟨by dsimp only;omega,by dsimp only;omega,by dsimp only;omega,(fun h=>by have:=k10 h;dsimp only;omega),(fun h=>?_),(fun h=>?_)⟩
obtain ⟨t1,t2⟩:=k11 h
dsimp only at h
rw [h,e2]
refine ⟨_,XZ (by omega) (by omega) [60] (.inl ⟨rfl,rfl⟩),?_⟩
have e3:(L.take (i+q.2.toNat)).drop i=(L.drop i).take q.2.toNat:=by rw [KX];congr 1;omega
obtain ⟨u1,u2⟩:=fU [60] (L.drop i) t1
rw [<- t2] at u1 u2
rw [e3,u1,u2,if_pos (by omega)]
rcases WU [60] (L.drop i) with u3 | u3
rw [u3] at t1;cases t1
exact u3.1
dsimp only at h
rw [h,e2]
exact ⟨_,XZ (by omega) (by omega) [60,47] (.inr ⟨rfl,rfl⟩)⟩}
theorem fV {L:Q3 Q4} {a b:Nat} (h:a<=b) (h2:b<=L.length):TokOK (bs L) ⟨1,(a:Int),(b:Int)⟩:=by
 have z:(bs L).size=L.length:=rfl
 exact ⟨by dsimp only;omega,by dsimp only;omega,by dsimp only;omega,nofun,nofun,nofun⟩
theorem qW (L:Q3 Q4):∀ (f st i:Nat),st<=i->i<=L.length->(∀ t ∈ BG L f st i,TokOK (bs L) t)/\F9 (BG L f st i)<=31 * (L.length-st):=by{
have fin:∀ st,st<=L.length->(∀ t ∈ (if st<L.length then [(⟨1,(st:Int),(L.length:Int)⟩:Tok)] else []),TokOK (bs L) t)/\F9 (if st<L.length then [(⟨1,(st:Int),(L.length:Int)⟩:Tok)] else [])<=31 * (L.length-st):=fun st hst=>by
 split
 refine ⟨fun t ht=>?_,?_⟩
 rw [YG.1 ht]
 exact fV hst (Yn _)
 simp only [F9]
 omega
 exact ⟨(fun t ht=>by cases ht),YJ _⟩
intro f
induction f with
| zero=>exact fun st i h1 h2=>fin st (by omega)
| succ f ih=>
  intro st i h1 h2
  rw [BG]
  by_cases hi:i<L.length
  rw [if_pos hi]
  have hok:=PR (L.drop i)
  have hlen:(L.drop i).length=L.length-i:=Yx
  generalize hq:B0 (L.drop i)=q at hok ⊢
  by_cases h0:q.1=0
  rw [if_pos h0]
  exact ih st (i+1) (by omega) (by omega)
  rw [if_neg h0]
  have ht:=qV (Nat.le_of_lt hi) hok h0
  rcases hok with hok | ⟨_,⟨k1,k2⟩,_⟩
  exact absurd hok h0
  obtain ⟨r1,r2⟩:=ih (i+q.2.toNat) (i+q.2.toNat) (Yn _) (by omega)
  refine ⟨fun t hm=>?_,?_⟩
  rcases YD.1 hm with hm | hm
  split at hm
  rw [YG.1 hm]
  exact fV h1 (by omega)
  cases hm
  rcases Ys.1 hm with rfl | hm
  exact ht
  exact r1 t hm
  split
  simp only [Z5,F9]
  omega
  simp only [GZ,F9]
  omega
  rw [if_neg hi]
  exact fin st (by omega)}
theorem UE:∀ {l:Q3 (Q3 PV)} {w:Nat},LW false w l->∃ xs:Q3 Node,l=xs.map Node.cs
 | [],w,_=>⟨[],rfl⟩
 | x::l,w,h=>by
   obtain ⟨n,wk,wa,wl,rfl,_,_,_,hl⟩:=h.node_inv
   obtain ⟨xs,rfl⟩:=UE hl
   exact ⟨n::xs,rfl⟩
theorem qX:EW 20 ⟨0,0,0,[],none⟩:=EW.new (by decide) (by decide)
theorem Zvh (L:Q3 Q4) (h:L.length<=8192):∃ l:Q3 Node,QJ (bs L)=some (l,0)/\LW false 300000 (l.map Node.cs):=by{
obtain ⟨h1,h2⟩:=qW L L.length 0 0 (Yn _) (YJ _)
have hlen:(BG L L.length 0 0).length<=F9 (BG L L.length 0 0):=by
 generalize BG L L.length 0 0=l
 induction l with
 | nil=>exact Yn _
 | cons t l ih=>simp only [F9,Yr];omega
obtain ⟨⟨e,r⟩,q1,q2,q3,q4⟩:=qS (s:=bs L) (w:=20) (e:=⟨0,0,0,[],none⟩) (r:=[]) h1 qX rfl (by simp) (by omega)
obtain ⟨⟨z,r2⟩,p1,p2,p3,_⟩:=XV r.length q2 (Yn _) (by omega)
dsimp only at p2 p3
rw [GF] at p3
subst p3
obtain ⟨_,wl,wa,k1,k2,_⟩:=p2
obtain ⟨xs,hxs⟩:=UE k2
refine ⟨xs,?_,by rw [<- hxs];exact k2.mono (by omega)⟩
unfold QJ XE
rw [mC L h]
show (((if (0:Int)=0 then (if (BG L L.length 0 0).length<=4611686018427387904 then (KK (bs L) (BG L L.length 0 0) ⟨0,0,0,[],none⟩ []).bind fun p=>(F6 p.2.length p.1 p.2).map fun z=>(z.1.list,(0:Int)) else none) else some ([],0)):Q2 (Q3 (Q3 PV)×Int)).bind fun q=>(AV q.1).map fun l=>(l,q.2))=_
rw [if_pos rfl,if_pos (by omega),q1]
show (((F6 r.length e r).map fun z=>(z.1.list,(0:Int))).bind fun q=>(AV q.1).map fun l=>(l,q.2))=_
rw [p1]
show (AV z.list).map (fun l=>(l,(0:Int)))=_
rw [hxs,FO]
rfl}
structure Rel (e:El) (x:Elt):Prop where
 kind:x.kind=e.kind
 tag:e.kind=2->x.tag=e.tag/\1<=e.tag/\e.tag<=3
 count:x.count=e.count
 list:e.list=x.list.map Node.cs
 bl:x.list.length<=1759218604441
 tl:∀ n ∈ x.list,NG n
 args:x.args=e.argL
 ba:e.argL.length<=1000001
 ta:∀ a ∈ e.argL,AG a
 ka:e.args≠none->e.kind=3
def RS:El->Q3 El->Q3 Elt->Prop | e,[],S=>∃ x,S = [x]/\Rel e x/\e.kind=0 | e,e2::r,S=>∃ S' x,S=S' ++ [x]/\Rel e x/\(1<=e.kind/\e.kind<=3)/\RS e2 r S'
theorem RS.len:∀ {r:Q3 El} {e:El} {S:Q3 Elt},RS e r S->S.length=r.length+1
 | [],e,S,⟨x,h,_⟩=>by rw [h];rfl
 | e2::r,e,S,⟨S',x,h,_,_,h2⟩=>by rw [h,Yb,h2.len];rfl
theorem RS.top {r:Q3 El} {e:El} {S:Q3 Elt} (h:RS e r S):∃ S' x,S=S' ++ [x]/\Rel e x/\S'.length=r.length/\∀ e' x',Rel e' x'->e'.kind=e.kind->RS e' r (S' ++ [x']):=by{
cases r with
| nil=>
  obtain ⟨x,rfl,h1,h2⟩:=h
  exact ⟨[],x,rfl,h1,rfl,fun e' x' h3 h4=>⟨x',rfl,h3,h4.trans h2⟩⟩
| cons e2 r=>
  obtain ⟨S',x,rfl,h1,h2,h3⟩:=h
  exact ⟨S',x,rfl,h1,h3.len,fun e' x' h4 h5=>⟨S',x',rfl,h4,by rw [h5];exact h2,h3⟩⟩}
def NX (e:El) (n:Node):Q2 El:=if n.kind=1 then AM e n.text else EG e n
theorem ZyE (e:El):e.setCur e.cur=e:=by{
obtain ⟨kind,tag,count,list,args⟩:=e
cases args with
| none=>rfl
| some q=>
  obtain ⟨pre,a⟩:=q
  by_cases hk:kind=3
  unfold El.setCur El.cur
  dsimp only
  rw [if_pos hk,if_pos hk]
  unfold El.setCur El.cur
  dsimp only
  rw [if_neg hk,if_neg hk]}
theorem qY {e e':El} {n:Node} (h:NX e n=some e'):∃ l',R3 e.cur n=some l'/\e'=e.setCur l':=by{
unfold NX at h
unfold R3
by_cases hk:n.kind=1
rw [if_pos hk] at h ⊢
unfold AM at h
by_cases hs:n.text=⟨#[]⟩
rw [if_pos hs] at h ⊢
injection h with h
exact ⟨_,rfl,by rw [ZyE,h]⟩
rw [if_neg hs] at h ⊢
let ⟨l',h1,h2⟩:=Ye.1 h
exact ⟨l',h1,h2.symm⟩
rw [if_neg hk] at h ⊢
let ⟨l',h1,h2⟩:=Ye.1 h
exact ⟨l',h1,h2.symm⟩}
theorem qZ {e e':El} {n:Node} (h:NX e n=some e'):alike e e':=by
 obtain ⟨l',_,rfl⟩:=qY h
 exact fM e l'
theorem UF {e e':El} {s:Q1} (h:AM e s=some e'):alike e e':=qZ (n:=⟨1,0,s,[],[]⟩) h
theorem Y0:∀ {l:Q3 (Q3 PV)} {e e':El},FR e l=some e'->alike e e'
 | [],e,e',h=>by injection h with h;subst h;exact alike.refl e
 | x::l,e,e',h=>by
   let ⟨n,_,h⟩:=Ya.1 h
   let ⟨e1,h1,h2⟩:=Ya.1 h
   exact (qZ (n:=n) h1).trans (Y0 h2)
theorem UG {l:Q3 (Q3 PV)} {e e':El} (h:DP e l=some e'):FR e l=some e':=by{
unfold DP at h
split at h
exact h
cases h}
theorem rA {e e':El} {a:Arg} (h:M6 e a=some e'):∃ b d,AM e ⟨#[124]⟩=some b/\(if a.named=true then (DP b a.name).bind fun c=>AM c ⟨#[61]⟩ else some b)=some d/\FR d a.value=some e':=by{
unfold M6 at h
let ⟨b,h1,h⟩:=Ya.1 h
let ⟨d,h2,h⟩:=Ya.1 h
exact ⟨b,d,h1,h2,UG h⟩}
theorem Zsr {e e':El} {a:Arg} (h:M6 e a=some e'):alike e e':=by{
let ⟨b,d,h1,h2,h3⟩:=rA h
refine (UF h1).trans (alike.trans ?_ (Y0 h3))
split at h2
let ⟨c,h4,h5⟩:=Ya.1 h2
exact (Y0 (UG h4)).trans (UF h5)
injection h2 with h2;subst h2;exact alike.refl b}
theorem rB:∀ {l:Q3 Arg} {e e':El},IK e l=some e'->alike e e'
 | [],e,e',h=>by injection h with h;subst h;exact alike.refl e
 | a::l,e,e',h=>by
   let ⟨e1,h1,h2⟩:=Ya.1 h
   exact (Zsr h1).trans (rB h2)
theorem Zqe {e e2 a:El} (h:JC e e2=some a):alike e2 a:=by{
unfold JC at h
split at h
exact UF h
split at h
let ⟨s,_,h⟩:=Ya.1 h
exact UF h
split at h
let ⟨s,_,h⟩:=Ya.1 h
exact UF h
injection h with h;subst h;exact alike.refl _}
theorem rC {e e2 e3:El} (h:JD e e2=some e3):∃ a b,JC e e2=some a/\FR a e.list=some b/\IK b e.argL=some e3:=by{
unfold JD at h
let ⟨a,h1,h⟩:=Ya.1 h
let ⟨b,h2,h⟩:=Ya.1 h
split at h
exact ⟨a,b,h1,UG h2,h⟩
cases h}
theorem Zqf {e e2 e3:El} (h:JD e e2=some e3):alike e2 e3:=by
 let ⟨a,b,h1,h2,h3⟩:=rC h
 exact (Zqe h1).trans ((Y0 h2).trans (rB h3))
theorem Y3:∀ (n:Nat) {e:El} {r:Q3 El} {q:El×Q3 El},F6 n e r=some q->n<=r.length/\q.2=r.drop n/\∃ y,(e::r)[n]? = some y/\alike y q.1
 | 0,e,r,q,h=>by injection h with h;subst h;exact ⟨YJ _,rfl,e,rfl,alike.refl e⟩
 | n+1,e,[],q,h=>by cases h
 | n+1,e,e2::r,q,h=>by
   let ⟨e3,h1,h2⟩:=Ya.1 h
   let ⟨k1,k2,y,k3,k4⟩:=Y3 n h2
   refine ⟨by simp;omega,k2,?_⟩
   cases n with
   | zero=>
     cases k3
     exact ⟨e2,rfl,(Zqf h1).trans k4⟩
   | succ n=>exact ⟨y,k3,k4⟩
theorem R4 {p:Pst} {e e':El} {r:Q3 El} {n:Node} (h:RS e r p.stack) (hr:r.length<=1000) (hn:NG n) (hp:NX e n=some e'):Tot (I0 p n) fun q=>RS e' r q.stack:=by{
obtain ⟨S⟩:=p
obtain ⟨S',x,hS,hx,hl,hnew⟩:=h.top
dsimp only at hS
subst hS
obtain ⟨l',hl',rfl⟩:=qY hp
unfold I0
refine Za (R0 S' x (by omega)) ?_
obtain ⟨kind,tag,count,list,args⟩:=e
cases args with
| none=>
  have ha:x.args = []:=hx.args
  have hc:R3 (x.list.map Node.cs) n=some l':=by rw [<- hx.list];exact hl'
  obtain ⟨ys,rfl,hj,hg,hb⟩:=qT x.list n hn hx.tl hx.bl l' hc
  have fin:RS (El.setCur ⟨kind,tag,count,list,none⟩ (ys.map Node.cs)) r (S' ++ [⟨x.kind,x.tag,x.count,ys,x.args⟩]):=hnew _ _ ⟨hx.kind,hx.tag,hx.count,rfl,hb,hg,hx.args,hx.ba,hx.ta,hx.ka⟩ rfl
  refine Zt (fun q=>Tot (q false) fun q=>RS (El.setCur ⟨kind,tag,count,list,none⟩ (ys.map Node.cs)) r q.stack) ?_ fun k1 hk=>?_
  refine Zt (fun q=>Tot (q ys x.args) fun q=>RS (El.setCur ⟨kind,tag,count,list,none⟩ (ys.map Node.cs)) r q.stack) ?_ fun k2 hk2=>Zj nofun fun _=>Za hj hk2
  exact Za (XX S' x _ (by omega)) (Zd fin)
  refine Zb (fun _=>?_) fun _=>hk
  show Tot (k1 (decide (0<(x.args.length:Int)))) _
  rw [ha]
  exact hk
| some q=>
  obtain ⟨pre,a⟩:=q
  obtain rfl:kind=3:=hx.ka (by simp)
  have ha:x.args=pre ++ [a]:=hx.args
  have hA:AG a:=hx.ta a (by show a ∈ pre ++ [a];simp)
  have hpre:∀ b ∈ pre,AG b:=fun b hb=>hx.ta b (by show b ∈ pre ++ [a];simp [hb])
  obtain ⟨xs,hv,hg⟩:=hA.v.nodes
  have hpl:pre.length<=1000000:=by
   have:(pre ++ [a]).length<=1000001:=hx.ba
   simp at this
   omega
  have hc:R3 (xs.map Node.cs) n=some l':=by rw [<- hv];exact hl'
  have hxl:xs.length<=1759218604441:=by have:=hA.h2;rw [hv,Yv] at this;exact this
  obtain ⟨ys,rfl,hj,hg2,hb⟩:=qT xs n hn hg hxl l' hc
  have he:El.setCur ⟨3,tag,count,list,some (pre,a)⟩ (ys.map Node.cs)=⟨3,tag,count,list,some (pre,⟨a.named,a.name,ys.map Node.cs⟩)⟩:=rfl
  rw [he]
  have fin:RS ⟨3,tag,count,list,some (pre,⟨a.named,a.name,ys.map Node.cs⟩)⟩ r (S' ++ [⟨x.kind,x.tag,x.count,x.list,pre ++ [⟨a.named,a.name,ys.map Node.cs⟩]⟩]):=by
   refine hnew _ _ ⟨hx.kind,hx.tag,hx.count,hx.list,hx.bl,hx.tl,rfl,?_,?_,fun _=>rfl⟩ rfl
   show (pre ++ [_]).length<=_
   simp
   omega
   exact R2 hpre ⟨hA.h1,by simpa using hb,hA.n,TG.of hg2⟩
  refine Zt (fun q=>Tot (q true) fun q=>RS ⟨3,tag,count,list,some (pre,⟨a.named,a.name,ys.map Node.cs⟩)⟩ r q.stack) ?_ fun k1 hk=>?_
  refine Zt (fun q=>Tot (q x.list (pre ++ [⟨a.named,a.name,ys.map Node.cs⟩])) fun q=>RS ⟨3,tag,count,list,some (pre,⟨a.named,a.name,ys.map Node.cs⟩)⟩ r q.stack) ?_ fun k2 hk2=>Zj (fun _=>?_) nofun
  exact Za (XX S' x _ (by omega)) (Zd fin)
  refine Za (v:=pre ++ [a]) (by show AA 56 [] x.args=_;rw [ha];exact IS 56 _ (by decide) (by simp;omega)) (Za (JJ pre a (by omega)) ?_)
  refine Za (v:=xs) (by rw [hv];exact FO xs) (Za hj (Za (JJ pre a (by omega)) ?_))
  rw [fQ pre a _ (by omega)]
  exact hk2
  refine Zb (fun _=>?_) fun h=>absurd hx.kind h
  show Tot (k1 (decide (0<(x.args.length:Int)))) _
  rw [ha,Yh (by rw [Yb,YC];omega)]
  exact hk}
theorem FV {p:Pst} {e e':El} {r:Q3 El} {s:Q1} (h:RS e r p.stack) (hr:r.length<=1000) (hp:AM e s=some e'):Tot (ZA p s) fun q=>RS e' r q.stack:=by
 unfold ZA
 exact ZC (R4 (n:=⟨1,0,s,[],[]⟩) h hr (fR s) hp) fun q hq=>Zd hq
theorem R5 {p:Pst} {e e':El} {r:Q3 El} {xs:Q3 Node} (h:RS e r p.stack) (hr:r.length<=1000) (hx:∀ n ∈ xs,NG n) (hl:xs.length<=1759218604441) (hp:FR e (xs.map Node.cs)=some e'):Tot (IR p xs) fun q=>RS e' r q.stack:=by{
unfold IR
refine ZF (fun y=>∃ (n:Nat) (e1:El),y.1=(n:Int)/\n<=xs.length/\RS e1 r y.2/\FR e1 ((xs.drop n).map Node.cs)=some e') (fun y=>xs.length-y.1.toNat) ⟨0,e,rfl,Nat.zero_le _,h,hp⟩ (by dsimp only;omega) ?_
rintro ⟨i,S⟩ rec ⟨n,e1,hi,hn,h1,h2⟩ ih
dsimp only at hi h1 ih ⊢
subst hi
by_cases hlt:n<xs.length
refine Zb (fun _=>?_) fun h=>absurd (by omega) h
have hd:xs.drop n=xs[n]::xs.drop (n+1):=Yt hlt
rw [hd] at h2
have h3:((NX e1 xs[n]).bind fun e'=>FR e' ((xs.drop (n+1)).map Node.cs))=some e':=h2
let ⟨e2,h4,h5⟩:=Ya.1 h3
refine Za (HU (Yc hlt)) (ZC (R4 (p:=⟨S⟩) h1 hr (hx _ (JL hlt)) h4) fun q hq=>?_)
rw [ZH]
exact ih _ ⟨n+1,e2,by dsimp only;omega,hlt,hq,h5⟩ (by dsimp only;omega)
refine Zb (fun h=>absurd h (by omega)) fun _=>Zd ?_
rw [YI (by omega)] at h2
cases h2
exact h1}
theorem rD (b:Q4):∀ n,Lib.repeatL [b] n ++ [b]=Lib.repeatL [b] (n+1)
 | 0=>rfl
 | n+1=>by
   have ih:=rD b n
   show b::(Lib.repeatL [b] n ++ [b])=b::Lib.repeatL [b] (n+1)
   rw [ih]
theorem rE {b:Q4} {c:Int} {s:Q1} (h:strings_Repeat ⟨#[b]⟩ c=some s):NR c ⟨#[b]⟩=some s:=by{
unfold strings_Repeat at h
split at h
rotate_left
cases h
rename_i hc
injection h with h
have z:(⟨#[b]⟩:Q1).size=1:=rfl
rw [z] at hc
refine rtot ?_
unfold NR
refine ZF (fun y=>∃ n:Nat,y.2=(n:Int)/\(n:Int)<=c/\y.1=bs (Lib.repeatL [b] n)) (fun y=>c.toNat-y.2.toNat) ⟨0,rfl,hc.1,rfl⟩ (by dsimp only;omega) ?_
rintro ⟨a,i⟩ rec ⟨n,hi,hn,ha⟩ ih
dsimp only at hi ha ih ⊢
subst hi ha
by_cases hlt:(n:Int)<c
refine Zb (fun _=>?_) fun h=>absurd hlt h
refine Za (LR (Lib.repeatL [b] n) [b] (by rw [Lib.repeatL_length];simp;omega)) ?_
rw [ZH,rD]
exact ih _ ⟨n+1,by dsimp only;omega,by omega,rfl⟩ (by dsimp only;omega)
refine Zb (fun h=>absurd h hlt) fun _=>Zd ?_
rw [<- h,show c.toNat=n by omega]
rfl}
theorem ZuC {t:Int} {s:Q1} (h1:1<=t) (h3:t<=3) (h:LQ t=some s):EB t false=some s:=by{
rw [<- h]
have:t=1\/t=2\/t=3:=by omega
have e1:EB 1 false=LQ 1:=by kernel_rfl
have e2:EB 2 false=LQ 2:=by kernel_rfl
have e3:EB 3 false=LQ 3:=by kernel_rfl
rcases this with rfl | rfl | rfl
exact e1
exact e2
exact e3}
theorem ZuD {p:Pst} {e e2 e3:El} {r:Q3 El} (h:RS e (e2::r) p.stack) (hr:r.length<=999) (hp:JD e e2=some e3):Tot (U9 p) fun q=>RS e3 r q.stack:=by{
obtain ⟨S⟩:=p
obtain ⟨S',x,hS,hx,hk,h2⟩:=h
dsimp only at hS
subst hS
have hl:=h2.len
unfold U9
refine Za (XY S' x (by omega)) ?_
let ⟨a,b,ha,hb,hp⟩:=rC hp
rw [hx.list] at hb
have noargs:¬ e.kind=3->b=e3:=fun h=>by
 have:e.argL = []:=by
  obtain ⟨kind,tag,count,list,args⟩:=e
  cases args with
  | none=>rfl
  | some q=>exact absurd (hx.ka (by simp)) h
 rw [this] at hp
 exact D7 hp
unfold JC at ha
by_cases k1:e.kind=1
rw [if_pos k1] at ha
obtain rfl:=noargs (by omega)
refine Zb (fun _=>?_) fun h=>absurd (hx.kind.trans k1) h
exact ZC (FV (p:=⟨S'⟩) h2 (by omega) ha) fun q hq=>ZC (R5 hq (by omega) hx.tl hx.bl hb) fun q2 hq2=>Zd hq2
rw [if_neg k1] at ha
refine Zb (fun h=>absurd (hx.kind.symm.trans h) k1) fun _=>?_
by_cases k2:e.kind=2
rw [if_pos k2] at ha
obtain rfl:=noargs (by omega)
let ⟨t1,t2,t3⟩:=hx.tag k2
let ⟨s,hs,ha⟩:=Ya.1 ha
refine Zb (fun _=>?_) fun h=>absurd (hx.kind.trans k2) h
refine Za (v:=s) (by show EB x.tag false=_;rw [t1];exact ZuC t2 t3 hs) ?_
exact ZC (FV (p:=⟨S'⟩) h2 (by omega) ha) fun q hq=>ZC (R5 hq (by omega) hx.tl hx.bl hb) fun q2 hq2=>Zd hq2
have k3:e.kind=3:=by omega
rw [if_neg k2,if_pos k3] at ha
let ⟨s,hs,ha⟩:=Ya.1 ha
refine Zb (fun h=>absurd (hx.kind.symm.trans h) k2) fun _=>Zb (fun _=>?_) fun h=>absurd (hx.kind.trans k3) h
refine Za (v:=s) (by show NR x.count _=_;rw [hx.count];exact rE hs) ?_
refine ZC (FV (p:=⟨S'⟩) h2 (by omega) ha) fun q hq=>ZC (R5 hq (by omega) hx.tl hx.bl hb) fun q2 hq2=>?_
dsimp only
rw [hx.args]
have hba:=hx.ba
have hta:=hx.ta
generalize e.argL=A at hp hba hta ⊢
refine ZF (fun y=>∃ (n:Nat) (e1:El),y.1=(n:Int)/\n<=A.length/\RS e1 r y.2/\IK e1 (A.drop n)=some e3) (fun y=>A.length-y.1.toNat) ⟨0,b,rfl,Nat.zero_le _,hq2,hp⟩ (by dsimp only;omega) ?_
rintro ⟨i,S1⟩ rec ⟨n,e1,hi,hn,h1,h5⟩ ih
dsimp only at hi h1 ih ⊢
subst hi
by_cases hlt:n<A.length
refine Zb (fun _=>?_) fun h=>absurd (by omega) h
let ⟨c,hc,hd⟩:=KQ hlt
have hat:=HU hc
have hcg:AG c:=hta c (Yj hc)
rw [hd] at h5
let ⟨e4,h6,h7⟩:=Ya.1 h5
let ⟨t1,d,u1,u2,u3⟩:=rA h6
obtain ⟨vs,hvs,gvs⟩:=hcg.v.nodes
obtain ⟨ns,hns,gns⟩:=hcg.n.nodes
have lv:=hcg.h2
have ln:=hcg.h1
rw [hvs,Yv] at lv
rw [hns,Yv] at ln
rw [hvs] at u3
refine ZC (FV (p:=⟨S1⟩) h1 (by omega) u1) fun q5 hq5=>Za hat ?_
refine Zt (fun k=>∀ L,RS d r L->Tot (k L) fun q=>RS e3 r q.stack) (fun L hL=>?_) fun k7 hk7=>?_
refine Za hat (Za (v:=vs) (by rw [hvs];exact FO vs) (ZC (R5 (p:=⟨L⟩) hL (by omega) gvs lv u3) fun q6 hq6=>?_))
rw [ZH]
exact ih _ ⟨n+1,e4,by dsimp only;omega,hlt,hq6,h7⟩ (by dsimp only;omega)
refine Zj (fun hn=>?_) fun hn=>?_
rw [if_pos hn,hns] at u2
let ⟨c2,u4,u5⟩:=Ya.1 u2
exact Za hat (Za (v:=ns) (by rw [hns];exact FO ns) (ZC (R5 hq5 (by omega) gns ln (UG u4)) fun q6 hq6=>ZC (FV hq6 (by omega) u5) fun q7 hq7=>hk7 _ hq7))
rw [if_neg (by rw [hn];decide)] at u2
cases u2
exact hk7 _ hq5
refine Zb (fun h=>absurd h (by omega)) fun _=>Zd ?_
rw [YI (by omega)] at h5
cases h5
exact h1}
theorem fW {p:Pst} {e:El} {r:Q3 El} {n at_:Nat} {q:El×Q3 El} (h:RS e r p.stack) (hr:r.length<=999) (hp:F6 n e r=some q) (ha:at_+n=r.length):Tot (MC p (at_:Int)) fun p'=>RS q.1 q.2 p'.stack:=by{
unfold MC
refine ZF (fun S=>∃ (n:Nat) (e:El) (r:Q3 El),RS e r S/\r.length<=999/\F6 n e r=some q/\at_+n=r.length) (fun S=>S.length) ⟨n,e,r,h,hr,hp,ha⟩ (by have:=h.len;omega) ?_
rintro S rec ⟨n,e,r,h,hr,hp,ha⟩ ih
have hl:=h.len
rw [ZH]
cases n with
| zero=>
  refine Zb (fun h=>absurd h (by omega)) fun _=>Zd ?_
  cases hp
  exact h
| succ n=>
  cases r with
  | nil=>simp at ha
  | cons e2 r=>
    let ⟨e3,h3,h4⟩:=Ya.1 hp
    simp only [Yr] at hl hr ha
    refine Zb (fun _=>?_) fun h=>absurd (by omega) h
    exact ZC (ZuD (p:=⟨S⟩) h (by omega) h3) fun p' hp'=>ih _ ⟨n,e3,r,hp',by omega,h4,by omega⟩ (by have:=hp'.len;omega)}
theorem rF {S T:Q3 Elt} {x:Elt} {n:Nat} (h:S.length=n):atI (S ++ [x]++T) (n:Int)=some x:=by
 refine HU ?_
 rw [YM,YP (by omega),h,E4]
 rfl
theorem ZuO {p:Pst} {e:El} {r:Q3 El} (k:Int) (h:RS e r p.stack) (hr:r.length<=1000):QY p k=some ((BQ k e r:Int),p):=by{
refine rtot ?_
unfold QY
have hl:=h.len
refine ZF (fun i=>∃ (e1:El) (r1:Q3 El) (S1 T:Q3 Elt),p.stack=S1++T/\RS e1 r1 S1/\i=(r1.length:Int)/\r1.length<=1000/\BQ k e r=BQ k e1 r1) (fun i=>i.toNat) ⟨e,r,p.stack,[],by simp,h,by rw [ZH];omega,hr,rfl⟩ (by rw [ZH];omega) ?_
rintro i rec ⟨e1,r1,S1,T,hS,h1,rfl,hr1,hk⟩ ih
cases r1 with
| nil=>exact Zb (fun h=>absurd h (by simp)) fun _=>Zd (by rw [hk];rfl)
| cons e2 r1=>
  obtain ⟨S2,x,rfl,hx,hkk,h2⟩:=h1
  have l2:=h2.len
  simp only [Yr] at hr1 ih ⊢
  have hat:atI p.stack ((r1.length+1:Nat):Int)=some x:=by rw [hS];exact rF l2
  refine Zb (fun _=>?_) fun h=>absurd (by omega) h
  have hc:BQ k e1 (e2::r1)=if e1.kind=2/\e1.tag=k then r1.length+1 else BQ k e2 r1:=rfl
  rw [hc] at hk
  refine Zt (fun q=>((e1.kind=2/\e1.tag=k)->Tot (q true) fun z=>z=((BQ k e r:Int),p))/\(¬(e1.kind=2/\e1.tag=k)->Tot (q false) fun z=>z=((BQ k e r:Int),p))) ⟨fun hc1=>Zj (fun _=>Zd (by rw [hk,if_pos hc1])) nofun,fun hc1=>Zj nofun fun _=>?_⟩ fun k14 hk14=>?_
  rw [ZH]
  exact ih _ ⟨e2,r1,S2,[x]++T,by rw [hS];simp,h2,by omega,by omega,by rw [hk,if_neg hc1]⟩ (by omega)
  refine Za hat (Zb (fun h=>Za hat ?_) fun h=>hk14.2 fun h3=>h (hx.kind.trans h3.1))
  have he2:e1.kind=2:=hx.kind.symm.trans h
  have ht:=(hx.tag he2).1
  by_cases htk:x.tag=k
  rw [Yh htk]
  exact hk14.1 ⟨he2,ht.symm.trans htk⟩
  rw [Yf htk]
  exact hk14.2 fun h3=>htk (ht.trans h3.2)}
theorem Zql {p:Pst} {e:El} {r:Q3 El} (h:RS e r p.stack) (hr:r.length<=1000):UA p=some ((ZU e r:Int),p):=by{
refine rtot ?_
unfold UA
have hl:=h.len
refine ZF (fun i=>∃ (e1:El) (r1:Q3 El) (S1 T:Q3 Elt),p.stack=S1++T/\RS e1 r1 S1/\i=(r1.length:Int)/\r1.length<=1000/\ZU e r=ZU e1 r1) (fun i=>i.toNat) ⟨e,r,p.stack,[],by simp,h,by rw [ZH];omega,hr,rfl⟩ (by rw [ZH];omega) ?_
rintro i rec ⟨e1,r1,S1,T,hS,h1,rfl,hr1,hk⟩ ih
cases r1 with
| nil=>
  have fin:((0:Int),p)=((ZU e r:Int),p):=by rw [hk];rfl
  refine Zt (fun q=>Tot (q false) fun z=>z=((ZU e r:Int),p)) (Zj nofun fun _=>Zd fin) fun q hq=>Zb (fun h=>absurd h (by simp)) fun _=>hq
| cons e2 r1=>
  obtain ⟨S2,x,rfl,hx,hkk,h2⟩:=h1
  have l2:=h2.len
  simp only [Yr] at hr1 ih ⊢
  have hat:atI p.stack ((r1.length+1:Nat):Int)=some x:=by rw [hS];exact rF l2
  have hc:ZU e1 (e2::r1)=if e1.kind=2 then 0 else if e1.kind=3 then r1.length+1 else ZU e2 r1:=rfl
  rw [hc] at hk
  refine Zt (fun q=>(¬ e1.kind=2->Tot (q true) fun z=>z=((ZU e r:Int),p))/\(e1.kind=2->Tot (q false) fun z=>z=((ZU e r:Int),p))) ⟨fun hc1=>Zj (fun _=>?_) nofun,fun hc1=>Zj nofun fun _=>Zd (by rw [hk,if_pos hc1];rfl)⟩ fun k8 hk8=>?_
  rw [if_neg hc1] at hk
  refine Za hat (Zb (fun h=>Zd ?_) fun h=>?_)
  rw [hk,if_pos (hx.kind.symm.trans h)]
  rw [ZH]
  exact ih _ ⟨e2,r1,S2,[x]++T,by rw [hS];simp,h2,by omega,by omega,by rw [hk,if_neg fun h3=>h (hx.kind.trans h3)]⟩ (by omega)
  refine Zb (fun _=>Za hat ?_) fun h=>absurd (by omega) h
  by_cases h3:x.kind=2
  rw [Yh h3]
  exact hk8.2 (hx.kind.symm.trans h3)
  rw [Yf h3]
  exact hk8.1 fun h4=>h3 (hx.kind.trans h4)}
theorem rG:∀ {e:El} {r:Q3 El} {n:Nat},ZU e r=n+1->n+1<=r.length/\∃ y,(e::r)[r.length-(n+1)]? = some y/\y.kind=3
 | e,[],n,h=>by cases h
 | e,e2::r,n,h=>by
   have hc:ZU e (e2::r)=if e.kind=2 then 0 else if e.kind=3 then r.length+1 else ZU e2 r:=rfl
   rw [hc] at h
   split at h
   cases h
   split at h
   rename_i h3
   cases h
   exact ⟨by simp,e,by simp,h3⟩
   let ⟨h1,y,h2,h3⟩:=rG h
   refine ⟨by simp;omega,y,?_,h3⟩
   rw [Yr,show r.length+1-(n+1)=(r.length-(n+1))+1 by omega]
   exact h2
theorem rH {k:Int}:∀ {e:El} {r:Q3 El} {n:Nat},BQ k e r=n+1->n+1<=r.length/\∃ y,(e::r)[r.length-(n+1)]? = some y/\y.kind=2/\y.tag=k
 | e,[],n,h=>by cases h
 | e,e2::r,n,h=>by
   have hc:BQ k e (e2::r)=if e.kind=2/\e.tag=k then r.length+1 else BQ k e2 r:=rfl
   rw [hc] at h
   split at h
   rename_i h3
   cases h
   exact ⟨by simp,e,by simp,h3⟩
   let ⟨h1,y,h2,h3⟩:=rH h
   refine ⟨by simp;omega,y,?_,h3⟩
   rw [Yr,show r.length+1-(n+1)=(r.length-(n+1))+1 by omega]
   exact h2
theorem ZwO {c:Int} {e:El} {x:Elt} (h:Rel e x):NG (DQ c e):=by{
have k:(DQ c e).kind=5\/(DQ c e).kind=4:=by
 show (if 3<=c/\3<=e.count then (5:Int) else 4)=5\/_=(4:Int)
 split
 exact .inl rfl
 exact .inr (by rename_i h;show (if 3<=c/\3<=e.count then (5:Int) else 4)=4;rw [if_neg h])
refine ⟨fun h=>by omega,fun h=>by omega,?_,TG.ofA h.ta⟩
show TG false e.list
rw [h.list]
exact TG.of h.tl}
theorem ZuP {p:Pst} {e:El} {r:Q3 El} {c:Int} {f:Nat} {q:El×Q3 El} (h:RS e r p.stack) (hr:r.length<=20) (h0:0<=c) (hc:c<=1000000) (hp:FT f c e r=some q):Tot (UB p c) fun p'=>RS q.1 q.2 p'.stack:=by{
unfold UB
refine Zt (fun k=>∀ (c:Int) (e:El) (r:Q3 El) (S:Q3 Elt),RS e r S->r.length<=20->M7 c e r=some q->Tot (k c S) fun p'=>RS q.1 q.2 p'.stack) (fun c e r S h hr hp=>?_) fun k11 hk=>?_
unfold M7 at hp
let ⟨s,h1,hp⟩:=Ya.1 hp
obtain ⟨e',h2,rfl⟩:=Ye.1 hp
exact Za (rE h1) (ZC (FV (p:=⟨S⟩) h (by omega) h2) fun q hq=>Zd hq)
refine ZF (fun y=>∃ (f:Nat) (e:El) (r:Q3 El),RS e r y.2/\r.length<=20/\0<=y.1/\y.1<=1000000/\FT f y.1 e r=some q) (fun y=>y.1.toNat) ⟨f,e,r,h,hr,h0,hc,hp⟩ (by dsimp only;omega) ?_
rintro ⟨c,S⟩ rec ⟨f,e,r,h,hr,h0,hc,hp⟩ ih
dsimp only at h h0 hc hp ih ⊢
cases f with
| zero=>cases hp
| succ f=>
unfold FT at hp
by_cases h2:2<=c
rotate_left
rw [if_neg h2] at hp
exact Zb (fun h=>absurd h h2) fun _=>hk c e r S h hr hp
rw [if_pos h2] at hp
refine Zb (fun _=>Za (Zql (p:=⟨S⟩) h (by omega)) ?_) fun h=>absurd h2 h
cases hb:ZU e r with
| zero=>
  rw [if_pos hb] at hp
  exact Zb (fun _=>hk c e r S h hr hp) fun h=>absurd rfl h
| succ b=>
rw [if_neg (by omega),hb] at hp
let ⟨b1,y,b2,b3⟩:=rG hb
refine Zb (fun h=>absurd h (by dsimp only;omega)) fun _=>?_
let ⟨⟨x,r1⟩,f1,hp⟩:=Ya.1 hp
let ⟨d1,d2,y',d3,d4⟩:=Y3 _ f1
rw [b2] at d3
cases d3
have kx:x.kind=3:=d4.1.trans b3
dsimp only at d2 hp
have hl1:r1.length=b+1:=by rw [d2,Yx];omega
refine ZC (fW (p:=⟨S⟩) (n:=r.length-(b+1)) h (by omega) f1 (by omega)) fun p1 hp1=>?_
cases r1 with
| nil=>simp at hl1
| cons e2 r2=>
obtain ⟨S1⟩:=p1
obtain ⟨S2,z,hS,hz,hkz,hrest⟩:=hp1
dsimp only at hS hz hrest
subst hS
have hl2:=hrest.len
simp only [Yr] at hl1
refine Za (XY S2 z (by omega)) ?_
split at hp
rotate_left
cases hp
rename_i hcc
dsimp only
rw [hz.count]
have hN:∀ kd:Int,kd=(if 3<=c/\3<=x.count then 5 else 4)->(⟨kd,0,⟨#[]⟩,z.list.map Node.cs,z.args.map Arg.cs⟩:Node)=DQ c x:=fun kd hkd=>by
 unfold DQ
 rw [hkd,hz.list,hz.args]
have main:Tot ((fun (x83:Int) (x84:Int)=>
    if (decide (2<=(w64 (x.count-x83)))) then
     (AA 72 [] S2).bind fun l87=>
     (AA 72 l87 [(⟨3,0,(w64 (x.count-x83)),[(⟨x84,0,(⟨#[]⟩:Q1),(List.map Node.cs z.list),(List.map Arg.cs z.args)⟩:Node)],[]⟩:Elt)]).bind fun l88=>
     rec ((w64 (c-x83)),l88)
    else
    letk (fun (x90:Q3 Elt)=>
     (I0 (⟨x90⟩:Pst) (⟨x84,0,(⟨#[]⟩:Q1),(List.map Node.cs z.list),(List.map Arg.cs z.args)⟩:Node)).bind fun r91=>
     rec ((w64 (c-x83)),r91.stack)) fun k21=>
    if (decide ((w64 (x.count-x83))=1)) then
     (ZA ⟨S2⟩ (⟨#[123]⟩:Q1)).bind fun r92=>
     k21 r92.stack
    else
    k21 S2) (BJ c x.count) (if 3<=c/\3<=x.count then 5 else 4)) fun p'=>RS q.1 q.2 p'.stack:=by
 dsimp only
 rw [hN _ rfl]
 have hK:2<=BJ c x.count/\BJ c x.count<=3/\BJ c x.count<=c:=by unfold BJ;split<;>omega
 rw [ZH (n:=x.count-BJ c x.count),ZH (n:=c-BJ c x.count)]
 have hng:=ZwO (c:=c) hz
 refine Zb (fun hm=>?_) fun hm=>?_
 rw [if_pos hm] at hp
 refine Za (IS 72 S2 (by decide) (by omega)) (Za (R1 72 S2 _ (by decide) (by omega)) ?_)
 refine ih _ ⟨f,_,_,?_,?_,?_,?_,hp⟩ (by dsimp only;omega)
 refine ⟨S2,_,rfl,⟨kx.symm,fun h=>?_,rfl,rfl,by simp,fun n hn=>?_,rfl,Nat.zero_le _,(fun a ha=>by cases ha),fun h=>absurd rfl h⟩,by dsimp only;omega,hrest⟩
 dsimp only at h;omega
 rw [YG.1 hn];exact hng
 simp only [Yr];omega
 dsimp only;omega
 dsimp only;omega
 rw [if_neg hm] at hp
 let ⟨e4,h4,hp⟩:=Ya.1 hp
 unfold QI at h4
 let ⟨e3,h3,h4⟩:=Ya.1 h4
 have hst:NX e3 (DQ c x)=some e4:=by
  unfold NX
  rw [if_neg]
  exact h4
  intro h1
  have:(DQ c x).kind=if 3<=c/\3<=x.count then 5 else 4:=rfl
  rw [this] at h1
  split at h1<;>omega
 refine Zt (fun k=>∀ S,RS e3 r2 S->Tot (k S) fun p'=>RS q.1 q.2 p'.stack) (fun S3 h3=>?_) fun k21 hk21=>?_
 refine ZC (R4 (p:=⟨S3⟩) h3 (by omega) hng hst) fun p4 hp4=>ih _ ⟨f,e4,r2,hp4,by omega,by dsimp only;omega,by dsimp only;omega,hp⟩ (by dsimp only;omega)
 refine Zb (fun h1=>?_) fun h1=>?_
 rw [if_pos h1] at h3
 exact ZC (FV (p:=⟨S2⟩) hrest (by omega) h3) fun p5 hp5=>hk21 _ hp5
 rw [if_neg h1] at h3
 cases h3
 exact hk21 _ hrest
refine Zt (fun k=>(¬ (3<=c/\3<=x.count)->Tot (k false) fun p'=>RS q.1 q.2 p'.stack)/\((3<=c/\3<=x.count)->Tot (k true) fun p'=>RS q.1 q.2 p'.stack)) ⟨fun hh=>?_,fun hh=>?_⟩ fun k19 hk19=>?_
refine B7 (Zj nofun fun _=>?_)
unfold BJ at main
rw [if_neg hh,if_neg hh] at main
exact main
refine B7 (Zj (fun _=>?_) nofun)
unfold BJ at main
rw [if_pos hh,if_pos hh] at main
exact main
refine Zb (fun h3=>?_) fun h3=>hk19.1 fun h=>h3 h.1
by_cases h4:3<=x.count
rw [Yh h4]
exact hk19.2 ⟨h3,h4⟩
rw [Yf h4]
exact hk19.1 fun h=>h4 h.2}
theorem ZzI:A9=(4611686018427387900+1+1+1)+1:=rfl
def DR (t:Nat):Q3 Q4:=[60]++(if t=1 then nm1 else if t=2 then nm2 else nm3) ++ [62]
def DG (t:Nat):Q3 Q4:=[60,47]++(if t=1 then nm1 else if t=2 then nm2 else nm3) ++ [62]
theorem NY (t:Nat) (h:t=1\/t=2\/t=3):EB (t:Int) false=some (bs (DR t))/\EB (t:Int) true=some (bs (DG t)):=by
 rcases h with rfl | rfl | rfl<;>exact ⟨by kernel_rfl,by kernel_rfl⟩
def spR (i:Nat) (q:Int×Int):Int×Int:=if q.1=0 then (0,0) else (q.1,(i:Int)+q.2)
theorem rI (l:Q3 Q4) (p:Q3 Q4):∀ (b1 b2 b3:Bool),(p++nm1 ++ [62]).isPrefixOf l=b1->(p++nm2 ++ [62]).isPrefixOf l=b2->(p++nm3 ++ [62]).isPrefixOf l=b3->
  (AF p l).2=if b1=true then ((p++nm1 ++ [62]).length:Int) else if b2=true then ((p++nm2 ++ [62]).length:Int) else if b3=true then ((p++nm3 ++ [62]).length:Int) else 0:=by{
intro b1 b2 b3 h1 h2 h3
unfold AF
rw [h1,h2,h3]
cases b1<;>cases b2<;>cases b3<;>rfl}
theorem Zmq (l:Q3 Q4) (t u:Nat) (ht:t=1\/t=2\/t=3) (hu:u=1\/u=2\/u=3) (h:(DG t).isPrefixOf l=true):(DR u).isPrefixOf l=false:=by
 have h1:([60,47]:Q3 Q4).isPrefixOf l=true:=YN.2 (List.IsPrefix.trans (by unfold DG;rw [YM];exact List.prefix_append _ _) (YN.1 h))
 obtain ⟨r,rfl⟩:=YN.1 h1
 rcases hu with rfl | rfl | rfl<;>rfl
theorem UH {c d:Q4} {p l:Q3 Q4} (h:c≠d):(d::p).isPrefixOf (c::l)=false:=by
 show (d == c&&_)=false
 rw [show (d == c)=false from by rw [YL];exact fun e=>h e.symm]
 rfl
theorem rJ (c d:Q4) (l:Q3 Q4):([c,c]:Q3 Q4).isPrefixOf (d::l)=decide (2<=BO c (d::l)):=by{
by_cases hd:d=c
subst hd
rw [TE rfl]
cases l with
| nil=>
  rw [show BO d []=0 from rfl]
  simp
| cons e l=>
  by_cases he:e=d
  subst he
  rw [TE rfl,Yh (by omega)]
  simp
  rw [PP he,Yf (by omega)]
  show (d == d&&(d == e&&List.isPrefixOf [] l))=false
  rw [show (d == e)=false from by rw [YL];exact fun h=>he h.symm]
  simp
rw [UH hd,PP hd]
rfl}
theorem Zyu (c d:Q4) (l:Q3 Q4):([c]:Q3 Q4).isPrefixOf (d::l)=decide (d=c):=by
 by_cases hd:d=c
 subst hd;simp
 rw [UH hd,Yf hd]
theorem Zsk (L:Q3 Q4) (i:Nat) (hi:i<L.length) (hL:L.length<=8192):TB (bs L) (i:Int)=some (spR i (B0 (L.drop i))):=by{
have z:(bs L).size=L.length:=rfl
have hlen:(L.drop i).length=L.length-i:=Yx
have at':∀ p:Q3 Q4,BE (bs L) (i:Int) (bs p)=some (p.isPrefixOf (L.drop i)):=fun p=>PT L p i (by omega) (by omega)
obtain ⟨c,l,hcl⟩:∃ c l,L.drop i=c::l:=⟨_,_,Yt hi⟩
have hk:=PR (L.drop i)
refine ZK ?_
unfold TB
refine Za (at' cmt) ?_
cases hc:cmt.isPrefixOf (L.drop i) with
| true=>
  refine Zj (fun _=>?_) nofun
  have h4:4<=(L.drop i).length:=(YN.1 hc).length_le
  have hc60:c=60:=by
   rw [hcl] at hc
   by_cases h:c=60
   exact h
   rw [show cmt=60::[33,45,45] from rfl,UH h] at hc;cases hc
  have ef:B0 (L.drop i)=if 0<=Lib.index ((L.drop i).drop 4) cmtE then (9,4+Lib.index ((L.drop i).drop 4) cmtE+3) else (9,((L.drop i).length:Int)):=by
   have e1:B0 (L.drop i)=DN (L.drop i):=by
    rw [hcl]
    show CW c (c::l)=_
    unfold CW
    rw [if_pos hc60]
   rw [e1]
   unfold DN
   rw [if_pos hc]
  rw [ef,show w64 ((i:Int)+4)=((i+4:Nat):Int) from by rw [ZH];omega]
  refine Za (WV L cmtE (i+4) (by decide) (by decide) (by omega) (by omega)) ?_
  have ed:L.drop (i+4)=(L.drop i).drop 4:=by rw [JN]
  have hx:K9 L cmtE (i+4)=if Lib.index ((L.drop i).drop 4) cmtE<0 then -1 else ((i+4:Nat):Int)+Lib.index ((L.drop i).drop 4) cmtE:=by unfold K9;rw [ed]
  have hr:=Lib.index_room ((L.drop i).drop 4) cmtE
  rw [Yx] at hr
  have e3:cmtE.length=3:=rfl
  by_cases h0:0<=Lib.index ((L.drop i).drop 4) cmtE
  rw [if_neg (by omega)] at hx
  rw [hx,if_pos h0]
  have:=hr h0
  refine Zb (fun _=>Zd ?_) fun h=>absurd (by omega) h
  rw [ZH]
  unfold spR;dsimp only
  rw [if_neg (by decide)]
  exact Prod.ext rfl (by dsimp only;omega)
  rw [if_pos (by omega)] at hx
  rw [hx,if_neg h0]
  refine Zb (fun h=>absurd h (by decide)) fun _=>Zd ?_
  unfold spR;dsimp only
  rw [if_neg (by decide)]
  exact Prod.ext rfl (by dsimp only;omega)
| false=>
  refine Zj nofun fun _=>Za (at' nwk) ?_
  have rest:¬ (nwk.isPrefixOf (L.drop i)=true/\0<=Lib.index ((L.drop i).drop 8) nwkE)->Tot (A4 A9 (fun f3 (x39:Int)=>
   if (decide (x39<=3)) then
    (EB x39 false).bind fun r52=>
    (BE (bs L) (i:Int) r52).bind fun r53=>
    if r53 then
     (some (11,(w64 ((i:Int)+(r52.size:Int)))):Q2 (Int×Int))
    else
    (EB x39 true).bind fun r54=>
    (BE (bs L) (i:Int) r54).bind fun r55=>
    if r55 then
     (some (12,(w64 ((i:Int)+(r54.size:Int)))):Q2 (Int×Int))
    else
    f3 (w64 (x39+1))
   else
   (BE (bs L) (i:Int) (⟨#[123,123]⟩:Q1)).bind fun r65=>
   if r65 then
    (K7 (bs L) (i:Int) 123).bind fun r66=>
    (some (3,r66):Q2 (Int×Int))
   else
   (BE (bs L) (i:Int) (⟨#[125,125]⟩:Q1)).bind fun r67=>
   if r67 then
    (K7 (bs L) (i:Int) 125).bind fun r68=>
    (some (4,r68):Q2 (Int×Int))
   else
   (BE (bs L) (i:Int) (⟨#[91,91]⟩:Q1)).bind fun r69=>
   if r69 then
    (some (5,(w64 ((i:Int)+2))):Q2 (Int×Int))
   else
   (BE (bs L) (i:Int) (⟨#[93,93]⟩:Q1)).bind fun r70=>
   if r70 then
    (some (6,(w64 ((i:Int)+2))):Q2 (Int×Int))
   else
   (BE (bs L) (i:Int) (⟨#[124]⟩:Q1)).bind fun r71=>
   if r71 then
    (some (7,(w64 ((i:Int)+1))):Q2 (Int×Int))
   else
   (BE (bs L) (i:Int) (⟨#[61]⟩:Q1)).bind fun r72=>
   if r72 then
    (some (8,(w64 ((i:Int)+1))):Q2 (Int×Int))
   else
   (BE (bs L) (i:Int) (⟨#[10]⟩:Q1)).bind fun r73=>
   if r73 then
    (some (2,(w64 ((i:Int)+1))):Q2 (Int×Int))
   else
   (some (0,0):Q2 (Int×Int))) 1) (fun r=>r=spR i (B0 (L.drop i))):=fun hnw=>by
   have len1:(DR 1).length=11:=rfl
   have len2:(DR 2).length=13:=rfl
   have len3:(DR 3).length=13:=rfl
   have elen1:(DG 1).length=12:=rfl
   have elen2:(DG 2).length=14:=rfl
   have elen3:(DG 3).length=14:=rfl
   have f60:∀ p:Q3 Q4,(60::p).isPrefixOf (L.drop i)=true->B0 (L.drop i)=if 0<(AF [60] (L.drop i)).2 then (11,(AF [60] (L.drop i)).2) else if 0<(AF [60,47] (L.drop i)).2 then (12,(AF [60,47] (L.drop i)).2) else (0,0):=fun p hp=>by
    have hc60:c=60:=by
     rw [hcl] at hp
     by_cases h:c=60
     exact h
     rw [UH h] at hp;cases hp
    have e1:B0 (L.drop i)=DN (L.drop i):=by
     rw [hcl]
     show CW c (c::l)=_
     unfold CW
     rw [if_pos hc60]
    rw [e1]
    unfold DN
    rw [if_neg (by rw [hc];decide),if_neg hnw]
   have O:=rI (L.drop i) [60] _ _ _ rfl rfl rfl
   have E:=rI (L.drop i) [60,47] _ _ _ rfl rfl rfl
   have nO:∀ t u:Nat,(t=1\/t=2\/t=3)->(u=1\/u=2\/u=3)->(DG t).isPrefixOf (L.drop i)=true->(DR u).isPrefixOf (L.drop i)=false:=fun t u=>Zmq (L.drop i) t u
   have go:∀ (n:Int),0<=n->n<=100->w64 ((i:Int)+n)=(i:Int)+n:=fun n h0 h1=>ZH
   have O1:([60]++nm1 ++ [62]:Q3 Q4)=DR 1:=rfl
   have O2:([60]++nm2 ++ [62]:Q3 Q4)=DR 2:=rfl
   have O3:([60]++nm3 ++ [62]:Q3 Q4)=DR 3:=rfl
   have E1:([60,47]++nm1 ++ [62]:Q3 Q4)=DG 1:=rfl
   have E2:([60,47]++nm2 ++ [62]:Q3 Q4)=DG 2:=rfl
   have E3:([60,47]++nm3 ++ [62]:Q3 Q4)=DG 3:=rfl
   rw [O1,O2,O3,len1,len2,len3] at O
   rw [E1,E2,E3,elen1,elen2,elen3] at E
   have hitO:∀ (t:Nat) (n:Int),(t=1\/t=2\/t=3)->(DR t).isPrefixOf (L.drop i)=true->(AF [60] (L.drop i)).2=n->0<n->n<=100->((11:Int),w64 ((i:Int)+n))=spR i (B0 (L.drop i)):=fun t n ht hb hn h0 h1=>by
    rw [f60 _ hb,hn,if_pos h0,go n (by omega) h1]
    rfl
   have hitE:∀ (t:Nat) (n:Int),(t=1\/t=2\/t=3)->(DG t).isPrefixOf (L.drop i)=true->(AF [60,47] (L.drop i)).2=n->0<n->n<=100->((12:Int),w64 ((i:Int)+n))=spR i (B0 (L.drop i)):=fun t n ht hb hn h0 h1=>by
    have o1:=nO t 1 ht (.inl rfl) hb
    have o2:=nO t 2 ht (.inr (.inl rfl)) hb
    have o3:=nO t 3 ht (.inr (.inr rfl)) hb
    rw [o1,o2,o3] at O
    have O':(AF [60] (L.drop i)).2=0:=O
    rw [f60 _ hb,O',if_neg (by decide),hn,if_pos h0,go n (by omega) h1]
    rfl
   refine H9 ZzI (Zb (fun _=>?_) fun h=>absurd (by decide) h)
   refine Za (NY 1 (.inl rfl)).1 (Za (at' (DR 1)) ?_)
   cases b1:(DR 1).isPrefixOf (L.drop i) with
   | true=>exact Zj (fun _=>Zd (hitO 1 11 (.inl rfl) b1 (by rw [O,b1];rfl) (by decide) (by decide))) nofun
   | false=>
   refine Zj nofun fun _=>Za (NY 1 (.inl rfl)).2 (Za (at' (DG 1)) ?_)
   cases c1:(DG 1).isPrefixOf (L.drop i) with
   | true=>exact Zj (fun _=>Zd (hitE 1 12 (.inl rfl) c1 (by rw [E,c1];rfl) (by decide) (by decide))) nofun
   | false=>
   refine Zj nofun fun _=>?_
   rw [show w64 (1+1)=((2:Nat):Int) from by decide]
   refine H9 (n:=4611686018427387902) rfl (Zb (fun _=>?_) fun h=>absurd (by decide) h)
   refine Za (NY 2 (.inr (.inl rfl))).1 (Za (at' (DR 2)) ?_)
   cases b2:(DR 2).isPrefixOf (L.drop i) with
   | true=>exact Zj (fun _=>Zd (hitO 2 13 (.inr (.inl rfl)) b2 (by rw [O,b1,b2];rfl) (by decide) (by decide))) nofun
   | false=>
   refine Zj nofun fun _=>Za (NY 2 (.inr (.inl rfl))).2 (Za (at' (DG 2)) ?_)
   cases c2:(DG 2).isPrefixOf (L.drop i) with
   | true=>exact Zj (fun _=>Zd (hitE 2 14 (.inr (.inl rfl)) c2 (by rw [E,c1,c2];rfl) (by decide) (by decide))) nofun
   | false=>
   refine Zj nofun fun _=>?_
   rw [show w64 (((2:Nat):Int)+1)=((3:Nat):Int) from by decide]
   refine H9 (n:=4611686018427387901) rfl (Zb (fun _=>?_) fun h=>absurd (by decide) h)
   refine Za (NY 3 (.inr (.inr rfl))).1 (Za (at' (DR 3)) ?_)
   cases b3:(DR 3).isPrefixOf (L.drop i) with
   | true=>exact Zj (fun _=>Zd (hitO 3 13 (.inr (.inr rfl)) b3 (by rw [O,b1,b2,b3];rfl) (by decide) (by decide))) nofun
   | false=>
   refine Zj nofun fun _=>Za (NY 3 (.inr (.inr rfl))).2 (Za (at' (DG 3)) ?_)
   cases c3:(DG 3).isPrefixOf (L.drop i) with
   | true=>exact Zj (fun _=>Zd (hitE 3 14 (.inr (.inr rfl)) c3 (by rw [E,c1,c2,c3];rfl) (by decide) (by decide))) nofun
   | false=>
   refine Zj nofun fun _=>?_
   rw [show w64 (((3:Nat):Int)+1)=((4:Nat):Int) from by decide]
   refine H9 (n:=4611686018427387900) rfl (Zb (fun h=>absurd h (by decide)) fun _=>?_)
   rw [b1,b2,b3] at O
   rw [c1,c2,c3] at E
   have O':(AF [60] (L.drop i)).2=0:=O
   have E':(AF [60,47] (L.drop i)).2=0:=E
   rw [show B0 (L.drop i)=CW c (c::l) from by rw [hcl];rfl]
   have two:∀ d:Q4,BE (bs L) (i:Int) (bs [d,d])=some (decide (2<=BO d (c::l))):=fun d=>by rw [at',hcl,rJ]
   have one:∀ d:Q4,BE (bs L) (i:Int) (bs [d])=some (decide (c=d)):=fun d=>by rw [at',hcl,Zyu]
   have runs:∀ d:Q4,K7 (bs L) (i:Int) (d.toNat:Int)=some ((i:Int)+(BO d (c::l):Int)):=fun d=>by rw [Zzu L d i (by omega) (by omega),hcl]
   have miss:∀ d:Q4,c≠d->¬ 2<=BO d (c::l):=fun d h=>by rw [PP h];omega
   refine Za (two 123) (Zb (fun h=>?_) fun n1=>?_)
   have hc1:c=123:=UP fun e=>miss 123 e h
   refine Za (runs 123) (Zd ?_)
   unfold CW
   rw [if_neg (by rw [hc1];decide),if_pos hc1,if_pos h]
   rfl
   refine Za (two 125) (Zb (fun h=>?_) fun n2=>?_)
   have hc1:c=125:=UP fun e=>miss 125 e h
   refine Za (runs 125) (Zd ?_)
   unfold CW
   rw [if_neg (by rw [hc1];decide),if_neg (by rw [hc1];decide),if_pos hc1,if_pos h]
   rfl
   refine Za (two 91) (Zb (fun h=>?_) fun n3=>?_)
   have hc1:c=91:=UP fun e=>miss 91 e h
   refine Zd ?_
   unfold CW
   rw [if_neg (by rw [hc1];decide),if_neg (by rw [hc1];decide),if_neg (by rw [hc1];decide),if_pos hc1,if_pos h,go 2 (by decide) (by decide)]
   rfl
   refine Za (two 93) (Zb (fun h=>?_) fun n4=>?_)
   have hc1:c=93:=UP fun e=>miss 93 e h
   refine Zd ?_
   unfold CW
   rw [if_neg (by rw [hc1];decide),if_neg (by rw [hc1];decide),if_neg (by rw [hc1];decide),if_neg (by rw [hc1];decide),if_pos hc1,if_pos h,go 2 (by decide) (by decide)]
   rfl
   refine Za (one 124) (Zb (fun hc1=>?_) fun n5=>?_)
   refine Zd ?_
   unfold CW
   rw [if_neg (by rw [hc1];decide),if_neg (by rw [hc1];decide),if_neg (by rw [hc1];decide),if_neg (by rw [hc1];decide),if_neg (by rw [hc1];decide),if_pos hc1,go 1 (by decide) (by decide)]
   rfl
   refine Za (one 61) (Zb (fun hc1=>?_) fun n6=>?_)
   refine Zd ?_
   unfold CW
   rw [if_neg (by rw [hc1];decide),if_neg (by rw [hc1];decide),if_neg (by rw [hc1];decide),if_neg (by rw [hc1];decide),if_neg (by rw [hc1];decide),if_neg (by rw [hc1];decide),if_pos hc1,go 1 (by decide) (by decide)]
   rfl
   refine Za (one 10) (Zb (fun hc1=>?_) fun n7=>?_)
   refine Zd ?_
   unfold CW
   rw [if_neg (by rw [hc1];decide),if_neg (by rw [hc1];decide),if_neg (by rw [hc1];decide),if_neg (by rw [hc1];decide),if_neg (by rw [hc1];decide),if_neg (by rw [hc1];decide),if_neg (by rw [hc1];decide),if_pos hc1,go 1 (by decide) (by decide)]
   rfl
   refine Zd ?_
   unfold CW
   by_cases h60:c=60
   rw [if_pos h60]
   unfold DN
   rw [<- hcl,if_neg (by rw [hc];decide),if_neg hnw,O',E']
   rfl
   rw [if_neg h60,if_neg n1,if_neg n2,if_neg n3,if_neg n4,if_neg n5,if_neg n6,if_neg n7]
   split<;>(try split)<;>(try split)<;>(try split)<;>rfl
  refine Zt (fun q=>¬ (nwk.isPrefixOf (L.drop i)=true/\0<=Lib.index ((L.drop i).drop 8) nwkE)->Tot (q ()) (fun r=>r=spR i (B0 (L.drop i)))) rest fun k1 hk1=>?_
  cases hn:nwk.isPrefixOf (L.drop i) with
  | false=>exact Zj nofun fun _=>hk1 fun h=>by rw [hn] at h;cases h.1
  | true=>
    refine Zj (fun _=>?_) nofun
    have h8:8<=(L.drop i).length:=(YN.1 hn).length_le
    rw [show w64 ((i:Int)+8)=((i+8:Nat):Int) from by rw [ZH];omega]
    refine Za (WV L nwkE (i+8) (by decide) (by decide) (by omega) (by omega)) ?_
    have ed:L.drop (i+8)=(L.drop i).drop 8:=by rw [JN]
    have hx:K9 L nwkE (i+8)=if Lib.index ((L.drop i).drop 8) nwkE<0 then -1 else ((i+8:Nat):Int)+Lib.index ((L.drop i).drop 8) nwkE:=by unfold K9;rw [ed]
    have hr:=Lib.index_room ((L.drop i).drop 8) nwkE
    rw [Yx] at hr
    have e9:nwkE.length=9:=rfl
    by_cases h0:0<=Lib.index ((L.drop i).drop 8) nwkE
    rw [if_neg (by omega)] at hx
    rw [hx]
    have:=hr h0
    refine Zb (fun _=>Zd ?_) fun h=>absurd (by omega) h
    have hc60:c=60:=by
     rw [hcl] at hn
     by_cases h:c=60
     exact h
     rw [show nwk=60::[110,111,119,105,107,105,62] from rfl,UH h] at hn;cases hn
    have e1:B0 (L.drop i)=(10,8+Lib.index ((L.drop i).drop 8) nwkE+9):=by
     have e2:B0 (L.drop i)=DN (L.drop i):=by
      rw [hcl]
      show CW c (c::l)=_
      unfold CW
      rw [if_pos hc60]
     rw [e2]
     unfold DN
     rw [if_neg (by rw [hc];decide),if_pos ⟨hn,h0⟩]
    rw [e1,ZH]
    unfold spR;dsimp only
    rw [if_neg (by decide)]
    exact Prod.ext rfl (by dsimp only;omega)
    rw [if_pos (by omega)] at hx
    rw [hx]
    exact Zb (fun h=>absurd h (by decide)) fun _=>hk1 fun h=>h0 h.2}
structure TK (s:ByteArray) (t:Tok):Prop where
 ok:TokOK s t
 lo:1<=t.kind
 hi:t.kind<=12
 bar:t.kind=7->H8 s t=some ⟨#[124]⟩
 lc:t.kind=6->H8 s t=some ⟨#[93,93]⟩
 tg:t.kind=11\/t.kind=12->∃ k:Nat,K8 s t=some (k:Int)/\NN s t=some (k:Int)
theorem Zw3 {k n:Nat} (hk:k=1\/k=2\/k=3) (hn:n=1\/n=2\/n=3):(DR k=DR n->k=n)/\(DG k=DG n->k=n):=by
 rcases hk with rfl | rfl | rfl<;>rcases hn with rfl | rfl | rfl<;>decide
theorem rK {s:Q1} {t:Tok} {k:Nat} (hk:k=1\/k=2\/k=3) (h:(t.kind=11/\KM s t=some (bs (DR k)))\/(t.kind=12/\KM s t=some (bs (DG k)))):NN s t=some (k:Int):=by{
refine rtot ?_
unfold NN
refine ZF (fun x=>∃ n:Nat,x=(n:Int)/\1<=n/\n<=k) (fun x=>4-x.toNat) ⟨1,rfl,Yn _,by omega⟩ (by decide) ?_
rintro _ rec ⟨n,rfl,h1,h2⟩ ih
refine Zb (fun _=>?_) fun h=>absurd (by omega) h
refine Zt (fun q=>(n=k->Tot (q true) fun z=>z=(k:Int))/\(¬ n=k->Tot (q false) fun z=>z=(k:Int))) ⟨fun h=>Zj (fun _=>Zd (by rw [h])) nofun,fun h=>Zj nofun fun _=>?_⟩ fun k14 hk14=>?_
rw [ZH]
exact ih _ ⟨n+1,by omega,by omega,by omega⟩ (by omega)
let ⟨o1,o2⟩:=NY n (by omega)
let ⟨i1,i2⟩:=Zw3 hk (n:=n) (by omega)
rcases h with ⟨hk1,hT⟩ | ⟨hk1,hT⟩
refine Zb (fun _=>?_) fun h=>absurd hk1 h
refine Za hT (Za o1 (Zb (fun he=>hk14.1 (i1 (J9 he)).symm) fun he=>Zb (fun h=>by omega) fun _=>hk14.2 fun e=>he (by rw [e])))
refine Zb (fun h=>by omega) fun _=>Zb (fun _=>?_) fun h=>absurd hk1 h
refine Za hT (Za o2 ?_)
by_cases e:n=k
subst e
rw [Yh rfl]
exact hk14.1 rfl
rw [Yf fun he=>e (i2 (J9 he)).symm]
exact hk14.2 e}
theorem rL {pfx l:Q3 Q4} (h:0<(AF pfx l).2):∃ k:Nat,(k=1\/k=2\/k=3)/\(AF pfx l).1=(k:Int)/\l.take (AF pfx l).2.toNat=pfx++(if k=1 then nm1 else if k=2 then nm2 else nm3) ++ [62]:=by{
unfold AF at h ⊢
split
rename_i h1
refine ⟨1,.inl rfl,rfl,?_⟩
simp only [DH]
exact NW h1
rename_i h1
rw [if_neg h1] at h
split
rename_i h2
refine ⟨2,.inr (.inl rfl),rfl,?_⟩
simp only [DH]
exact NW h2
rename_i h2
rw [if_neg h2] at h
split
rename_i h3
refine ⟨3,.inr (.inr rfl),rfl,?_⟩
simp only [DH]
exact NW h3
rename_i h3
rw [if_neg h3] at h
cases h}
theorem Zvc (l:Q3 Q4):(DN l).1≠7/\(DN l).1≠6/\((DN l).1=11->0<(AF [60] l).2/\(DN l).2=(AF [60] l).2)/\((DN l).1=12->0<(AF [60,47] l).2/\(DN l).2=(AF [60,47] l).2):=by{
unfold DN
split
split<;>exact ⟨nofun,nofun,nofun,nofun⟩
split
exact ⟨nofun,nofun,nofun,nofun⟩
split
rename_i h;exact ⟨nofun,nofun,(fun _=>⟨h,rfl⟩),nofun⟩
split
rename_i h;exact ⟨nofun,nofun,nofun,fun _=>⟨h,rfl⟩⟩
exact ⟨nofun,nofun,nofun,nofun⟩}
theorem Zvd (l:Q3 Q4):((B0 l).1=7->l.take (B0 l).2.toNat = [124])/\((B0 l).1=6->l.take (B0 l).2.toNat = [93,93])/\((B0 l).1=11->0<(AF [60] l).2/\(B0 l).2=(AF [60] l).2)/\((B0 l).1=12->0<(AF [60,47] l).2/\(B0 l).2=(AF [60,47] l).2):=by{
cases l with
| nil=>exact ⟨nofun,nofun,nofun,nofun⟩
| cons c l=>
  rw [show B0 (c::l)=CW c (c::l) from rfl]
  unfold CW
  by_cases h0:c=60
  rw [if_pos h0]
  let ⟨a1,a2,a3,a4⟩:=Zvc (c::l)
  exact ⟨fun h=>absurd h a1,fun h=>absurd h a2,a3,a4⟩
  rw [if_neg h0]
  by_cases h1:c=123
  rw [if_pos h1]
  split<;>exact ⟨nofun,nofun,nofun,nofun⟩
  rw [if_neg h1]
  by_cases h2:c=125
  rw [if_pos h2]
  split<;>exact ⟨nofun,nofun,nofun,nofun⟩
  rw [if_neg h2]
  by_cases h3:c=91
  rw [if_pos h3]
  split<;>exact ⟨nofun,nofun,nofun,nofun⟩
  rw [if_neg h3]
  by_cases h4:c=93
  rw [if_pos h4]
  split
  rename_i h5
  refine ⟨nofun,(fun _=>?_),nofun,nofun⟩
  subst h4
  have h6:([93,93]:Q3 Q4).isPrefixOf (93::l)=true:=by rw [rJ,Yh h5]
  exact NW h6
  exact ⟨nofun,nofun,nofun,nofun⟩
  rw [if_neg h4]
  by_cases h5:c=124
  rw [if_pos h5,h5]
  exact ⟨(fun _=>rfl),nofun,nofun,nofun⟩
  rw [if_neg h5]
  split
  exact ⟨nofun,nofun,nofun,nofun⟩
  split<;>exact ⟨nofun,nofun,nofun,nofun⟩}
theorem Zz0 {L:Q3 Q4} {i:Nat} (hi:i<=L.length) (h0:¬ (B0 (L.drop i)).1=0):TK (bs L) ⟨(B0 (L.drop i)).1,(i:Int),(i:Int)+(B0 (L.drop i)).2⟩:=by{
have hok:=PR (L.drop i)
have htk:=qV hi hok h0
let ⟨v7,v6,v11,v12⟩:=Zvd (L.drop i)
have hlen:(L.drop i).length=L.length-i:=Yx
generalize hq:B0 (L.drop i)=q at hok htk v7 v6 v11 v12 h0 ⊢
rcases hok with hok | ⟨⟨b1,b2⟩,⟨k1,k2⟩,_⟩
exact absurd hok h0
have e2:(i:Int)+q.2=((i+q.2.toNat:Nat):Int):=by omega
have e3:(L.take (i+q.2.toNat)).drop i=(L.drop i).take q.2.toNat:=by rw [KX];congr 1;omega
have tx:∀ k,H8 (bs L) ⟨k,(i:Int),(i:Int)+q.2⟩=some (bs ((L.drop i).take q.2.toNat)):=fun k=>by
 rw [e2,qU (by omega) (by omega),e3]
refine ⟨htk,by dsimp only;omega,by dsimp only;omega,fun h=>?_,fun h=>?_,fun h=>?_⟩
rw [tx,v7 h];rfl
rw [tx,v6 h];rfl
dsimp only at h
rcases h with h | h
let ⟨t1,t2⟩:=v11 h
let ⟨k,g1,g2,g3⟩:=rL t1
let ⟨u1,u2⟩:=fU [60] (L.drop i) t1
rw [<- t2] at u1 u2 g3
refine ⟨k,?_,rK g1 (.inl ⟨h,(tx _).trans (by rw [g3];rfl)⟩)⟩
rw [h,e2,XZ (by omega) (by omega) [60] (.inl ⟨rfl,rfl⟩),e3,u1,u2,if_pos (by omega),g2]
let ⟨t1,t2⟩:=v12 h
let ⟨k,g1,g2,g3⟩:=rL t1
let ⟨u1,u2⟩:=fU [60,47] (L.drop i) t1
rw [<- t2] at u1 u2 g3
refine ⟨k,?_,rK g1 (.inr ⟨h,(tx _).trans (by rw [g3];rfl)⟩)⟩
rw [h,e2,XZ (by omega) (by omega) [60,47] (.inr ⟨rfl,rfl⟩),e3,u1,u2,if_pos (by omega),g2]}
theorem rM {L:Q3 Q4} {a b:Nat} (h:a<=b) (h2:b<=L.length):TK (bs L) ⟨1,(a:Int),(b:Int)⟩:=
 ⟨fV h h2,Int.le_refl _,(by show (1:Int)<=12;decide),nofun,nofun,fun h=>by rcases h with h | h<;>cases h⟩
theorem ZyR (L:Q3 Q4):∀ (f st i:Nat),st<=i->i<=L.length->∀ t ∈ BG L f st i,TK (bs L) t:=by{
have fin:∀ st,st<=L.length->∀ t ∈ (if st<L.length then [(⟨1,(st:Int),(L.length:Int)⟩:Tok)] else []),TK (bs L) t:=fun st hst t ht=>by
 split at ht
 rw [YG.1 ht]
 exact rM hst (Yn _)
 cases ht
intro f
induction f with
| zero=>exact fun st i h1 h2=>fin st (by omega)
| succ f ih=>
  intro st i h1 h2
  rw [BG]
  by_cases hi:i<L.length
  rw [if_pos hi]
  by_cases h0:(B0 (L.drop i)).1=0
  rw [if_pos h0]
  exact ih st (i+1) (by omega) (by omega)
  rw [if_neg h0]
  have ht:=Zz0 (Nat.le_of_lt hi) h0
  have hlen:(L.drop i).length=L.length-i:=Yx
  rcases PR (L.drop i) with hok | ⟨_,⟨k1,k2⟩,_⟩
  exact absurd hok h0
  intro t hm
  rcases YD.1 hm with hm | hm
  split at hm
  rw [YG.1 hm]
  exact rM h1 (by omega)
  cases hm
  rcases Ys.1 hm with rfl | hm
  exact ht
  exact ih _ _ (Yn _) (by omega) t hm
  rw [if_neg hi]
  exact fin st (by omega)}
theorem Zwd (L:Q3 Q4) (h:L.length<=8192):TV (bs L)=some (BG L L.length 0 0,0):=by{
have z:(bs L).size=L.length:=rfl
refine ZK ?_
unfold TV
refine Zb (fun h2=>absurd h2 (by omega)) fun _=>?_
refine ZF (fun a:Int×Int×Q3 Tok=>∃ st i f:Nat,a.1=(st:Int)/\a.2.1=(i:Int)/\st<=i/\i<=L.length/\L.length<=i+f/\a.2.2.length<=2 * i/\a.2.2++BG L f st i=BG L L.length 0 0)
 (fun a=>L.length-a.2.1.toNat) ⟨0,0,L.length,rfl,rfl,by omega,by omega,by omega,by simp,rfl⟩ (by dsimp only;omega) ?_
rintro ⟨x,y,acc⟩ rec ⟨st,i,f,hx,hy,h1,h3,h4,h5,h6⟩ ih
dsimp only at hx hy h5 h6
subst hx hy
dsimp only at ih ⊢
refine Zb (fun hi=>?_) fun hi=>?_
have hi':i<L.length:=by omega
obtain ⟨f,rfl⟩:∃ f',f=f'+1:=⟨f-1,by omega⟩
have hlen:(L.drop i).length=L.length-i:=Yx
refine Za (Zsk L i hi' h) ?_
have hok:=PR (L.drop i)
rw [BG,if_pos hi'] at h6
generalize hq:B0 (L.drop i)=q at hok h6 ⊢
unfold spR
by_cases h0:q.1=0
rw [if_pos h0] at h6 ⊢
refine Zb (fun _=>?_) fun h=>absurd rfl h
rw [ZH]
exact ih (st,((i:Int)+1),acc) ⟨st,i+1,f,rfl,by simp,by omega,by omega,by omega,by dsimp only;omega,h6⟩ (by dsimp only;omega)
rw [if_neg h0] at h6 ⊢
refine Zb (fun h=>absurd h h0) fun _=>?_
rcases hok with hok | hok
exact absurd hok h0
obtain ⟨_,⟨k1,k2⟩,_⟩:=hok
have e2:(i:Int)+q.2=((i+q.2.toNat:Nat):Int):=by omega
refine Zt (fun K=>∀ l':Q3 Tok,l'.length<=2 * i+1->l'++⟨q.1,(i:Int),(i:Int)+q.2⟩::BG L f (i+q.2.toNat) (i+q.2.toNat)=BG L L.length 0 0->Tot (K l') fun r=>r=(BG L L.length 0 0,0)) (fun l' hl he=>?_) fun K hK=>?_
refine Za (PS l' [⟨q.1,(i:Int),(i:Int)+q.2⟩] (by simp;omega)) ?_
refine ih ((i:Int)+q.2,(i:Int)+q.2,l' ++ [⟨q.1,(i:Int),(i:Int)+q.2⟩]) ⟨i+q.2.toNat,i+q.2.toNat,f,e2,e2,Nat.le_refl _,by omega,by omega,by simp;omega,?_⟩ (by dsimp only;omega)
rw [YM]
exact he
refine Zb (fun h7=>?_) fun h7=>?_
rw [if_pos (by omega)] at h6
refine Za (PS acc [⟨1,(st:Int),(i:Int)⟩] (by simp;omega)) ?_
refine hK _ (by simp;omega) ?_
rw [YM]
exact h6
rw [if_neg (by omega)] at h6
exact hK acc (by omega) h6
rw [mB (by omega)] at h6
refine B7 (Zb (fun h7=>?_) fun h7=>?_)
rw [if_pos (by omega)] at h6
refine Za (PS acc [⟨1,(st:Int),((bs L).size:Int)⟩] (by simp;omega)) ?_
refine Zd ?_
rw [<- h6]
rfl
rw [if_neg (by omega)] at h6
refine Zd ?_
rw [<- h6,YB]}
theorem rN {k t c:Int} (ht:k=2->1<=t/\t<=3):Rel ⟨k,t,c,[],none⟩ ⟨k,t,c,[],[]⟩:=
 ⟨rfl,fun h=>⟨rfl,ht h⟩,rfl,rfl,by simp,(fun n h=>by cases h),rfl,YJ _,(fun a h=>by cases h),fun h=>absurd rfl h⟩
theorem fX {p:Pst} {e:El} {r:Q3 El} {q:El×Q3 El} {k t c:Int} {s:Q1} (h:RS e r p.stack) (hr:r.length<=20) (hk:1<=k/\k<=3) (ht:k=2->1<=t/\t<=3) (hp:IL k t c s e r=some q):Tot (NS p ⟨k,t,c,[],[]⟩ s) fun p'=>RS q.1 q.2 p'.stack:=by{
unfold IL at hp
unfold NS
have hl:=h.len
rw [ZH]
refine Zb (fun h1=>?_) fun h1=>?_
rw [if_pos (by omega)] at hp
obtain ⟨e',h2,rfl⟩:=Ye.1 hp
exact ZC (FV h (by omega) h2) fun q hq=>Zd hq
rw [if_neg (by omega)] at hp
cases hp
exact Za (IS 72 p.stack (by decide) (by omega)) (Za (R1 72 p.stack _ (by decide) (by omega)) (Zd ⟨p.stack,_,rfl,rN ht,hk,h⟩))}
theorem Zya {p:Pst} {e e':El} {r:Q3 El} (h:RS e r p.stack) (hr:r.length<=1000) (hp:KF e=some e'):Tot (UC p) fun q=>RS e' r q.stack:=by{
have tx:AM e ⟨#[61]⟩=some e'->Tot ((ZA p ⟨#[61]⟩).bind fun r5=>(some r5:Q2 Pst)) fun q=>RS e' r q.stack:=fun h2=>ZC (FV h hr h2) fun q hq=>Zd hq
obtain ⟨S⟩:=p
obtain ⟨S',x,hS,hx,hl,hnew⟩:=h.top
dsimp only at hS
subst hS
unfold UC
refine Za (R0 S' x (by omega)) ?_
obtain ⟨kind,tag,count,list,args⟩:=e
cases args with
| none=>
  have ha:x.args = []:=hx.args
  refine Zt (fun q=>Tot (q true) fun q=>RS e' r q.stack) (Zj (fun _=>tx hp) nofun) fun k1 hk=>?_
  refine CK (fun _=>hk) fun _=>Zb (fun _=>hk) fun h=>absurd ?_ h
  show (x.args.length:Int)=0
  rw [ha]
  rfl
| some q=>
  obtain ⟨pre,a⟩:=q
  obtain rfl:kind=3:=hx.ka (by simp)
  have ha:x.args=pre ++ [a]:=hx.args
  have hba:(pre ++ [a]).length<=1000001:=hx.ba
  have hA:AG a:=hx.ta a (by show a ∈ pre ++ [a];simp)
  have hpre:∀ b ∈ pre,AG b:=fun b hb=>hx.ta b (by show b ∈ pre ++ [a];simp [hb])
  have hc:KF ⟨3,tag,count,list,some (pre,a)⟩=if (3:Int)=3/\a.named=false then some ⟨3,tag,count,list,some (pre,⟨true,a.value,[]⟩)⟩ else AM ⟨3,tag,count,list,some (pre,a)⟩ ⟨#[61]⟩:=rfl
  rw [hc] at hp
  have hb:=hba
  rw [Yb,YC] at hb
  refine Zt (fun q=>(a.named=true->Tot (q true) fun q=>RS e' r q.stack)/\(a.named=false->Tot (q false) fun q=>RS e' r q.stack)) ⟨fun hn=>Zj (fun _=>tx ?_) nofun,fun hn=>Zj nofun fun _=>?_⟩ fun k1 hk=>?_
  rw [if_neg (fun h=>by rw [hn] at h;cases h.2)] at hp
  exact hp
  rw [if_pos ⟨rfl,hn⟩] at hp
  cases hp
  refine Za (v:=pre ++ [a]) (by show AA 56 [] x.args=_;rw [ha];exact IS 56 _ (by decide) (by omega)) (Za (JJ pre a (by omega)) (Za (JJ pre a (by omega)) ?_))
  rw [fQ pre a _ (by omega)]
  refine Za (XX S' x _ (by omega)) (Zd (hnew _ _ ⟨hx.kind,hx.tag,hx.count,hx.list,hx.bl,hx.tl,rfl,?_,R2 hpre ⟨hA.h2,YJ _,hA.v,.nil _⟩,fun _=>rfl⟩ rfl))
  show (pre ++ [_]).length<=_
  rw [Yb,YC]
  exact hb
  refine CK (fun h=>absurd hx.kind h) fun _=>Zb (fun h=>?_) fun _=>?_
  have h:(x.args.length:Int)=0:=h
  rw [ha,Yb,YC] at h
  omega
  refine Za (v:=a) (by show atI x.args (w64 ((x.args.length:Int)-1))=_;rw [ha];exact JJ pre a (by omega)) ?_
  cases hn:a.named with
  | true=>exact hk.1 hn
  | false=>exact hk.2 hn}
theorem ZAn {p:Pst} {e e':El} {r:Q3 El} (h:RS e r p.stack) (hr:r.length<=1000) (hp:KJ e=some e'):Tot ((HY p).bind fun r9=>
  if (decide (r9.1.kind=3)) then
   (AA 56 [] r9.1.args).bind fun l13=>
   (AA 56 l13 [(⟨false,[],[]⟩:Arg)]).bind fun l14=>
   (KR r9.2 (⟨r9.1.kind,r9.1.tag,r9.1.count,r9.1.list,l14⟩:Elt)).bind fun r15=>
   (some r15:Q2 Pst)
  else
  (ZA r9.2 ⟨#[124]⟩).bind fun r16=>
  (some r16:Q2 Pst)) fun q=>RS e' r q.stack:=by{
have tx:AM e ⟨#[124]⟩=some e'->Tot ((ZA p ⟨#[124]⟩).bind fun r5=>(some r5:Q2 Pst)) fun q=>RS e' r q.stack:=fun h2=>ZC (FV h hr h2) fun q hq=>Zd hq
obtain ⟨S⟩:=p
obtain ⟨S',x,hS,hx,hl,hnew⟩:=h.top
dsimp only at hS
subst hS
refine Za (R0 S' x (by omega)) ?_
unfold KJ at hp
have hba:=hx.ba
have arg0:AG ⟨false,[],[]⟩:=⟨YJ _,YJ _,.nil _,.nil _⟩
refine Zb (fun h3=>?_) fun h3=>?_
·have hk:e.kind=3:=hx.kind.symm.trans h3
 rw [if_pos hk] at hp
 have fin:∀ e'',e''.kind=e.kind->e''.tag=e.tag->e''.count=e.count->e''.list=e.list->e''.argL=e.argL ++ [⟨false,[],[]⟩]->e.argL.length+1<=1000001->RS e'' r (S' ++ [⟨x.kind,x.tag,x.count,x.list,x.args ++ [⟨false,[],[]⟩]⟩]):=fun e'' k1 k2 k3 k4 k5 k6=>by
  refine hnew _ _ ⟨hx.kind.trans k1.symm,(fun h=>by rw [k1,hk] at h;cases h),hx.count.trans k3.symm,k4.trans hx.list,hx.bl,hx.tl,?_,?_,?_,fun _=>k1.trans hk⟩ k1
  rw [k5,<- hx.args]
  rw [k5,Yb,YC];exact k6
  rw [k5];exact R2 hx.ta arg0
 have go:e.argL.length+1<=1000001->Tot ((AA 56 [] x.args).bind fun l13=>(AA 56 l13 [(⟨false,[],[]⟩:Arg)]).bind fun l14=>(KR ⟨S' ++ [x]⟩ (⟨x.kind,x.tag,x.count,x.list,l14⟩:Elt)).bind fun r15=>(some r15:Q2 Pst)) fun q=>q.stack=S' ++ [⟨x.kind,x.tag,x.count,x.list,x.args ++ [⟨false,[],[]⟩]⟩]:=fun hb=>by
  rw [<- hx.args] at hb
  exact Za (IS 56 _ (by decide) (by omega)) (Za (R1 56 _ _ (by decide) (by omega)) (Za (XX S' x _ (by omega)) (Zd rfl)))
 obtain ⟨kind,tag,count,list,args⟩:=e
 cases args with
 | none=>
   cases hp
   let ⟨v,h1,h2⟩:=go (by show ([]:Q3 Arg).length+1<=_;simp)
   exact ⟨v,h1,by dsimp only;rw [h2];exact fin _ rfl rfl rfl rfl rfl (by show ([]:Q3 Arg).length+1<=_;simp)⟩
 | some q=>
   obtain ⟨pre,a⟩:=q
   dsimp only at hp
   split at hp
   rotate_left
   cases hp
   rename_i hl1
   cases hp
   have hb:(pre ++ [a]).length+1<=1000001:=by rw [Yb,YC];omega
   let ⟨v,h1,h2⟩:=go hb
   exact ⟨v,h1,by dsimp only;rw [h2];exact fin _ rfl rfl rfl rfl rfl hb⟩
rw [if_neg fun h=>h3 (hx.kind.trans h)] at hp
exact tx hp}
theorem ZpW {p:Pst} {e:El} {r:Q3 El} {q:El×Q3 El} (h:RS e r p.stack) (hr:r.length<=999) (hp:KH e r=some q):Tot ((HY p).bind fun r18=>
  if (!decide (r18.1.kind=1)) then
   (ZA r18.2 ⟨#[93,93]⟩).bind fun r20=>
   (some r20:Q2 Pst)
  else
  (JG r18.2).bind fun r21=>
  (ZA r21.2 (⟨#[91,91]⟩:Q1)).bind fun r22=>
  (IR r22 r21.1.list).bind fun r23=>
  (ZA r23 (⟨#[93,93]⟩:Q1)).bind fun r24=>
  (some r24:Q2 Pst)) fun p'=>RS q.1 q.2 p'.stack:=by{
unfold KH at hp
have h0:=h
obtain ⟨S⟩:=p
obtain ⟨S',x,hS,hx,hl,hnew⟩:=h.top
dsimp only at hS h0
subst hS
refine Za (R0 S' x (by omega)) (CK (fun h1=>?_) fun h1=>?_)
rw [if_neg fun h=>h1 (hx.kind.trans h)] at hp
obtain ⟨c,c1,rfl⟩:=Ye.1 hp
exact ZC (FV h0 (by omega) c1) fun q hq=>Zd hq
have hk:e.kind=1:=hx.kind.symm.trans h1
rw [if_pos hk] at hp
cases r with
| nil=>cases hp
| cons e2 r=>
  dsimp only at hp
  obtain ⟨S2,y,hS2,hy,_,h2⟩:=h0
  obtain ⟨rfl,hxy⟩:=List.append_inj' hS2 rfl
  cases hxy
  let ⟨a,a1,hp⟩:=Ya.1 hp
  let ⟨b,b1,hp⟩:=Ya.1 hp
  obtain ⟨c,c1,rfl⟩:=Ye.1 hp
  have b2:=UG b1
  rw [hx.list] at b2
  simp only [Yr] at hr hl
  refine Za (XY S' x (by omega)) (ZC (FV (p:=⟨S'⟩) h2 (by omega) a1) fun q1 hq1=>?_)
  exact ZC (R5 hq1 (by omega) hx.tl hx.bl b2) fun q2 hq2=>ZC (FV hq2 (by omega) c1) fun q3 hq3=>Zd hq3}
theorem Zr0 {p:Pst} {e:El} {r:Q3 El} {q:El×Q3 El} {k:Int} {s:Q1} (h:RS e r p.stack) (hr:r.length<=999) (hp:KI k s e r=some q):Tot ((QY p k).bind fun r26=>
  if (decide (r26.1=0)) then
   (ZA r26.2 s).bind fun r28=>
   (some r28:Q2 Pst)
  else
  (MC r26.2 r26.1).bind fun r29=>
  (JG r29).bind fun r30=>
  (I0 r30.2 (⟨6,r30.1.tag,(⟨#[]⟩:Q1),(List.map Node.cs r30.1.list),[]⟩:Node)).bind fun r31=>
  (some r31:Q2 Pst)) fun p'=>RS q.1 q.2 p'.stack:=by{
unfold KI at hp
refine Za (ZuO k h (by omega)) ?_
cases hb:BQ k e r with
| zero=>
  rw [if_pos hb] at hp
  obtain ⟨c,c1,rfl⟩:=Ye.1 hp
  exact Zb (fun _=>ZC (FV h (by omega) c1) fun q hq=>Zd hq) fun h=>absurd rfl h
| succ b=>
  rw [if_neg (by omega),hb] at hp
  let ⟨b1,y,b2,b3,b4⟩:=rH hb
  refine Zb (fun h=>absurd h (by dsimp only;omega)) fun _=>?_
  let ⟨⟨x,r1⟩,f1,hp⟩:=Ya.1 hp
  let ⟨d1,d2,y',d3,d4⟩:=Y3 _ f1
  rw [b2] at d3
  cases d3
  have kx:x.kind=2:=d4.1.trans b3
  have kt:x.tag=k:=d4.2.1.trans b4
  dsimp only at d2 hp
  have hl1:r1.length=b+1:=by rw [d2,Yx];omega
  refine ZC (fW (n:=r.length-(b+1)) h hr f1 (by omega)) fun p1 hp1=>?_
  cases r1 with
  | nil=>simp at hl1
  | cons e2 r2=>
    obtain ⟨S1⟩:=p1
    obtain ⟨S2,z,hS,hz,hkz,hrest⟩:=hp1
    dsimp only at hS hz hrest hp
    subst hS
    have hl2:=hrest.len
    simp only [Yr] at hl1
    refine Za (XY S2 z (by omega)) ?_
    obtain ⟨e3,n1,rfl⟩:=Ye.1 hp
    let ⟨t1,t2,t3⟩:=hz.tag kx
    have e6:(⟨6,z.tag,⟨#[]⟩,z.list.map Node.cs,[]⟩:Node)=⟨6,k,⟨#[]⟩,x.list,[]⟩:=by rw [t1,kt,hz.list]
    dsimp only
    rw [e6]
    have hng:NG ⟨6,k,⟨#[]⟩,x.list,[]⟩:=⟨nofun,(fun _=>by rw [<- kt];exact ⟨t2,t3⟩),(by show TG false x.list;rw [hz.list];exact TG.of hz.tl),.nil _⟩
    exact ZC (R4 (p:=⟨S2⟩) (n:=⟨6,k,⟨#[]⟩,x.list,[]⟩) hrest (by omega) hng n1) fun q hq=>Zd hq}
theorem Zyb {s:Q1} {t:Tok} {p:Pst} {e:El} {r:Q3 El} {q:El×Q3 El} (ht:TK s t) (hs:s.size<=1000000) (h:RS e r p.stack) (hr:r.length<=20) (hp:M8 s t e r=some q):Tot (UD p s t) fun p'=>RS q.1 q.2 p'.stack:=by{
let ⟨x,hx,hz,_⟩:=qQ ht.ok
have o1:=ht.ok.lo
have o2:=ht.ok.hi
unfold M8 at hp
rw [hx] at hp
replace hp:(if t.kind=1\/t.kind=2 then (AM e x).map fun e'=>(e',r) else _)=some q:=hp
unfold UD
have hx2:KM s t=some x:=hx
refine Za hx2 ?_
have one:∀ {o:Q2 El} {w:Q2 Pst},(o.map fun e'=>(e',r))=some q->(∀ e',o=some e'->Tot w fun p'=>RS e' r p'.stack)->Tot (w.bind fun r2=>(some r2:Q2 Pst)) fun p'=>RS q.1 q.2 p'.stack:=fun h1 h2=>by
 obtain ⟨e',h3,rfl⟩:=Ye.1 h1
 exact ZC (h2 e' h3) fun q hq=>Zd hq
by_cases k1:t.kind=1\/t.kind=2
rw [if_pos k1] at hp
refine Zb (fun h=>by omega) fun _=>Zb (fun h=>by omega) fun _=>Zb (fun h=>by omega) fun _=>Zb (fun h=>by omega) fun _=>Zb (fun h=>by omega) fun _=>Zb (fun h=>by omega) fun _=>Zb (fun h=>by omega) fun _=>Zb (fun h=>by omega) fun _=>Zb (fun h=>by omega) fun _=>Zb (fun h=>by omega) fun _=>?_
exact one hp fun e' h1=>FV h (by omega) h1
rw [if_neg k1] at hp
by_cases k9:t.kind=9
rw [if_pos k9] at hp
refine Zb (fun _=>?_) fun h=>absurd k9 h
exact one hp fun e' h1=>R4 (n:=⟨2,0,x,[],[]⟩) h (by omega) ⟨nofun,nofun,.nil _,.nil _⟩ h1
rw [if_neg k9] at hp
refine Zb (fun h=>absurd h k9) fun _=>?_
by_cases k10:t.kind=10
rw [if_pos k10] at hp
refine Zb (fun _=>?_) fun h=>absurd k10 h
let ⟨y,hy,hp⟩:=Ya.1 hp
exact Za hy (one hp fun e' h1=>R4 (n:=⟨3,0,y,[],[]⟩) h (by omega) ⟨nofun,nofun,.nil _,.nil _⟩ h1)
rw [if_neg k10] at hp
refine Zb (fun h=>absurd h k10) fun _=>?_
by_cases k3:t.kind=3
rw [if_pos k3] at hp
refine Zb (fun _=>?_) fun h=>absurd k3 h
exact ZC (fX h hr (by decide) nofun hp) fun q hq=>Zd hq
rw [if_neg k3] at hp
refine Zb (fun h=>absurd h k3) fun _=>?_
by_cases k5:t.kind=5
rw [if_pos k5] at hp
refine Zb (fun _=>?_) fun h=>absurd k5 h
exact ZC (fX h hr (by decide) nofun hp) fun q hq=>Zd hq
rw [if_neg k5] at hp
refine Zb (fun h=>absurd h k5) fun _=>?_
by_cases k11:t.kind=11
rw [if_pos k11] at hp
refine Zb (fun _=>?_) fun h=>absurd k11 h
let ⟨k,g1,g2⟩:=ht.tg (.inl k11)
let ⟨k',g3,g4⟩:=ht.ok.tago k11
rw [g1] at g3 hp
cases g3
exact Za g2 (ZC (fX h hr (by decide) (fun _=>g4) hp) fun q hq=>Zd hq)
rw [if_neg k11] at hp
refine Zb (fun h=>absurd h k11) fun _=>?_
by_cases k7:t.kind=7
rw [if_pos k7] at hp
refine Zb (fun _=>?_) fun h=>absurd k7 h
have:=ht.bar k7
rw [hx] at this
cases this
obtain ⟨e',h3,rfl⟩:=Ye.1 hp
exact ZAn (r:=r) h (by omega) h3
rw [if_neg k7] at hp
refine Zb (fun h=>absurd h k7) fun _=>?_
by_cases k8:t.kind=8
rw [if_pos k8] at hp
refine Zb (fun _=>?_) fun h=>absurd k8 h
exact one hp fun e' h1=>Zya h (by omega) h1
rw [if_neg k8] at hp
refine Zb (fun h=>absurd h k8) fun _=>?_
by_cases k6:t.kind=6
rw [if_pos k6] at hp
refine Zb (fun _=>?_) fun h=>absurd k6 h
have:=ht.lc k6
rw [hx] at this
cases this
exact ZpW h (by omega) hp
rw [if_neg k6] at hp
refine Zb (fun h=>absurd h k6) fun _=>?_
by_cases k12:t.kind=12
rw [if_pos k12] at hp
refine Zb (fun _=>?_) fun h=>absurd k12 h
let ⟨k,g1,g2⟩:=ht.tg (.inr k12)
rw [g1] at hp
exact Za g2 (Zr0 h (by omega) hp)
rw [if_neg k12] at hp
refine Zb (fun h=>absurd h k12) fun _=>?_
have k4:t.kind=4:=by
 have:=ht.lo
 have:=ht.hi
 omega
rw [if_pos k4] at hp
refine Zb (fun _=>?_) fun h=>absurd k4 h
exact ZC (ZuP h hr (by omega) (by omega) hp) fun q hq=>Zd hq}
theorem ZtF (L:Q3 Q4) (h:L.length<=8192):∃ l:Q3 Node,QJ (bs L)=some (l,0)/\QZ (bs L)=some (l,0)/\LW false 300000 (l.map Node.cs)/\∀ n ∈ l,NG n:=by{
let ⟨h1,h2⟩:=qW L L.length 0 0 (Yn _) (YJ _)
have htk:=ZyR L L.length 0 0 (Yn _) (YJ _)
have hscan:=Zwd L h
have hp:=Zvh L h
obtain ⟨l,hp,hw⟩:=hp
have hp2:=hp
unfold QJ XE at hp2
rw [mC L h] at hp2
let ⟨⟨l',z'⟩,hp2,hp3⟩:=Ya.1 hp2
have hp2:(if (0:Int)=0 then (if (BG L L.length 0 0).length<=4611686018427387904 then (KK (bs L) (BG L L.length 0 0) ⟨0,0,0,[],none⟩ []).bind fun p=>(F6 p.2.length p.1 p.2).map fun z=>(z.1.list,(0:Int)) else none) else some ([],0))=some (l',z'):=hp2
rw [if_pos rfl] at hp2
have hlen:(BG L L.length 0 0).length<=F9 (BG L L.length 0 0):=by
 generalize BG L L.length 0 0=l
 induction l with
 | nil=>exact Yn _
 | cons t l ih=>simp only [F9,Yr];omega
rw [if_pos (by omega)] at hp2
let ⟨Q,hq,hp2⟩:=Ya.1 hp2
let ⟨z,hz,hz2⟩:=Ye.1 hp2
injection hz2 with hz3 hz4
subst hz3 hz4
have goal:Tot (QZ (bs L)) fun y=>z.1.list=y.1.map Node.cs/\y.2=0/\∀ n ∈ y.1,NG n:=by
 unfold QZ
 refine Za hscan (CK (fun h=>absurd rfl h) fun _=>?_)
 dsimp only
 have zs:(bs L).size=L.length:=rfl
 generalize BG L L.length 0 0=T at h1 h2 htk hlen hq ⊢
 refine ZF (fun y=>∃ (n w:Nat) (e:El) (r:Q3 El),y.1=(n:Int)/\n<=T.length/\RS e r y.2/\SW w e r/\bot e r/\r.length<=20/\w+F9 (T.drop n)<=1000000/\KK (bs L) (T.drop n) e r=some Q) (fun y=>T.length-y.1.toNat) ⟨0,20,⟨0,0,0,[],none⟩,[],rfl,Nat.zero_le _,⟨_,rfl,rN nofun,rfl⟩,qX,rfl,by simp,by rw [List.drop_zero];omega,hq⟩ (by dsimp only;omega) ?_
 rintro ⟨i,S⟩ rec ⟨n,w,e,r,hi,hn,hrs,hsw,hbot,hr,hw2,htake⟩ ih
 dsimp only at hi hrs ih ⊢
 subst hi
 by_cases hlt:n<T.length
 refine Zb (fun _=>?_) fun h=>absurd (by omega) h
 let ⟨t,ht,hd⟩:=KQ hlt
 have htm:=Yj ht
 rw [hd] at hw2 htake
 simp only [F9] at hw2
 let ⟨q',t1,t2,t3,t4⟩:=qR (h1 t htm) hsw hbot hr (by omega)
 let ⟨q2,t5,t6⟩:=Ya.1 htake
 rw [t1] at t5
 injection t5 with t5
 subst t5
 refine Za (HU ht) (ZC (Zyb (p:=⟨S⟩) (htk t htm) (by omega) hrs hr t1) fun p' hp'=>?_)
 rw [ZH]
 exact ih _ ⟨n+1,_,q'.1,q'.2,by dsimp only;omega,hlt,hp',t2,t3,t4,by omega,t6⟩ (by dsimp only;omega)
 refine Zb (fun h=>absurd h (by omega)) fun _=>?_
 rw [YI (by omega)] at htake
 injection htake with htake
 subst htake
 refine ZC (fW (p:=⟨S⟩) (at_:=0) hrs (by omega) hz (by dsimp only;omega)) fun p' hp'=>?_
 let ⟨d1,d2,_⟩:=Y3 _ hz
 rw [GF] at d2
 obtain ⟨ze,zr⟩:=z
 dsimp only at d2 hp' ⊢
 subst d2
 obtain ⟨S2⟩:=p'
 obtain ⟨x,hS,hx,_⟩:=hp'
 dsimp only at hS
 subst hS
 exact Za (R0 [] x (by simp)) (Zd ⟨hx.list,rfl,hx.tl⟩)
obtain ⟨⟨y1,y2⟩,g1,g2,g3,g4⟩:=goal
dsimp only at g2 g3 g4 hp3
subst g3
rw [g2,FO] at hp3
injection hp3 with hp3
injection hp3 with hp3
subst hp3
exact ⟨y1,hp,g1,hw,g4⟩}
theorem fY:∀ (l:Q3 Node) (w:Nat) (acc:Q3 Q4),LW false w (l.map Node.cs)->acc.length+w<=1000000->Tot (GR acc l) fun r=>∀ t,r=some t->t.length<=acc.length+w
 | [],w,acc,_,_=>Zd fun t ht=>by injection ht with ht;rw [<- ht];omega
 | x::l,w,acc,h,hb=>by
   let ⟨n,wk,wa,wl,e,h1,hk,ha,hl⟩:=LW.node_inv (show LW false w (x.cs::l.map Node.cs) from h)
   obtain rfl:=XT e
   unfold GR
   split
   rw [if_pos (by omega)]
   have e:x.text.data.toList.length=x.text.size:=rfl
   refine (fY l wl _ hl (by rw [Yb];omega)).mono fun r hr t ht=>?_
   have:=hr t ht
   rw [Yb] at this
   omega
   split
   exact (fY l wl _ hl (by omega)).mono fun r hr t ht=>by have:=hr t ht;omega
   exact Zd fun t ht=>by cases ht
theorem rO:∀ {l:Q3 (Q3 PV)} {w:Nat},LW true w l->∃ xs:Q3 Arg,l=xs.map Arg.cs
 | [],w,_=>⟨[],rfl⟩
 | x::l,w,h=>by
   obtain ⟨n,wk,wa,wl,rfl,_,_,_,hl⟩:=h.arg_inv
   obtain ⟨xs,rfl⟩:=rO hl
   exact ⟨n::xs,rfl⟩
theorem R6 {α β:Type} {step:β->α->Q2 β}:∀ {A B:Q3 α} {c d e:β},AR step A c=some d->AR step B d=some e->AR step (A++B) c=some e
 | [],B,c,d,e,h1,h2=>by
   cases h1
   exact h2
 | x::A,B,c,d,e,h1,h2=>by
   let ⟨c',h3,h4⟩:=Ya.1 h1
   show ((step c x).bind fun c'=>AR step (A++B) c')=some e
   rw [h3]
   exact R6 h4 h2
theorem FW {α β:Type} {step:β->α->Q2 β} {x:α} {A:Q3 α} {c d e:β} (h1:step c x=some d) (h2:AR step A d=some e):AR step (x::A) c=some e:=by
 show ((step c x).bind fun c'=>AR step A c')=some e
 rw [h1]
 exact h2
def NZ (m:Nat) (acc:Q3 Node) (n:Node):Q2 (Q3 Node):=(AA 80 acc [n]).bind fun a=>if n.kind=6/\(n.tag=1\/n.tag=3) then (AV n.kids).bind fun k=>(IM m k).bind fun r=>AA 80 a r else some a
def O0 (q:Q3 Link×Q3 Memb) (n:Node):Q2 (Q3 Link×Q3 Memb):=if n.kind=1 then QM n.text q.1 q.2 else some q
theorem rP {m:Nat} {l r:Q3 Node} (hl:l.length<=1000000) (h:AR (NZ m) l []=some r):IM (m+1) l=some r:=by{
refine ZK ?_
unfold IM
refine ZF (fun x=>∃ n:Nat,x.1=(n:Int)/\n<=l.length/\AR (NZ m) (l.drop n) x.2=some r) (fun x=>l.length-x.1.toNat) ⟨0,rfl,Nat.zero_le _,h⟩ (by dsimp only;omega) ?_
rintro ⟨i,acc⟩ rec ⟨n,hi,hn,h2⟩ ih
dsimp only at hi h2 ih ⊢
subst hi
by_cases hlt:n<l.length
refine Zb (fun _=>?_) fun h=>absurd (by omega) h
let ⟨e,he,hd⟩:=KQ hlt
have hat:=HU he
rw [hd] at h2
let ⟨acc',h3,h4⟩:=Ya.1 h2
unfold NZ at h3
let ⟨a,h5,h6⟩:=Ya.1 h3
refine Zt (fun q=>Tot (q acc') fun z=>z=r) ?_ fun k19 hk19=>?_
rw [ZH]
exact ih _ ⟨n+1,by dsimp only;omega,hlt,h4⟩ (by dsimp only;omega)
refine Za hat (Za h5 ?_)
refine Zt (fun q=>((e.kind=6/\(e.tag=1\/e.tag=3))->Tot (q true) fun z=>z=r)/\(¬ (e.kind=6/\(e.tag=1\/e.tag=3))->Tot (q false) fun z=>z=r)) ⟨fun hc=>Zj (fun _=>?_) nofun,fun hc=>Zj nofun fun _=>?_⟩ fun k20 hk20=>?_
rw [if_pos hc] at h6
let ⟨k,h7,h8⟩:=Ya.1 h6
let ⟨r2,h9,h10⟩:=Ya.1 h8
exact Za hat (Za h7 (Za h9 (Za h10 hk19)))
rw [if_neg hc] at h6
cases h6
exact hk19
refine Za hat (Zb (fun h6=>Za hat (Zb (fun h1=>hk20.1 ⟨h6,.inl h1⟩) fun h1=>Za hat ?_)) fun h6=>hk20.2 fun h=>h6 h.1)
by_cases h3:e.tag=3
rw [Yh h3]
exact hk20.1 ⟨h6,.inr h3⟩
rw [Yf h3]
exact hk20.2 fun h=>h.2.elim h1 h3
refine Zb (fun h=>absurd h (by omega)) fun _=>Zd ?_
rw [YI (by omega)] at h2
exact D7 h2}
structure OwnX (m:Nat) (l:List Node) (w:Nat) (E:List (Link ⊕ Memb)) (N:List Node):Prop where
 le:E.length<=w
 ln:N.length<=w
 p:∀ f:Finder,f.links.length+w<=600000->f.members.length+w<=600000->AR (QT m) l f=some ⟨f.links++lks E,f.members++mbs E⟩
 n:∀ acc:List Node,acc.length+w<=600000->AR (NZ m) l acc=some (acc++N)
 r:∀ q:List Link×List Memb,q.1.length+w<=600000->q.2.length+w<=600000->AR O0 N q=some (E.foldl D6 q)
theorem Zwh (E:Q3 (Link ⊕ Memb)) (q:Q3 Link×Q3 Memb):(E.foldl D6 q).1.length<=q.1.length+E.length/\(E.foldl D6 q).2.length<=q.2.length+E.length:=by{
rw [U7]
have p1:((lks E).foldl B8 q.1).length<=q.1.length+(lks E).length:=QP (c:=D5) (key:=fun x:Link=>x) (lks E) q.1
have p2:((mbs E).foldl JF q.2).length<=q.2.length+(mbs E).length:=QP (c:=Title.cmp) (key:=Memb.category) (mbs E) q.2
have:=U5 E
have:=U6 E
dsimp only
omega}
theorem Y4 {A B:Q3 Node} (h:A.length+B.length<=1000000):AA 80 A B=some (A++B):=J5 1000000 h (by decide) (by decide)
theorem OwnX.cons {m w1 w2 w:Nat} {x:Node} {l:Q3 Node} {E1 E2:Q3 (Link ⊕ Memb)} {N1 N2:Q3 Node} (h1:OwnX m [x] w1 E1 N1) (h2:OwnX m l w2 E2 N2) (hw:w1+w2<=w):OwnX m (x::l) w (E1++E2) (N1++N2):=by{
have a1:=h1.le
have a2:=h2.le
have b1:=h1.ln
have b2:=h2.ln
have c1:=U5 E1
have c2:=U6 E1
refine ⟨by rw [Yb];omega,by rw [Yb];omega,fun f k1 k2=>?_,fun acc k=>?_,fun q k1 k2=>?_⟩
have:=R6 (h1.p f (by omega) (by omega)) (h2.p _ (by rw [Yb];omega) (by rw [Yb];omega))
rw [q9,qA,<- YM,<- YM]
exact this
have:=R6 (h1.n acc (by omega)) (h2.n _ (by rw [Yb];omega))
rw [<- YM]
exact this
let ⟨d1,d2⟩:=Zwh E1 q
have:=R6 (h1.r q (by omega) (by omega)) (h2.r _ (by omega) (by omega))
rw [FZ]
exact this}
theorem rR {m W:Nat} (hs:∀ (x:Node) (w:Nat),LW false w [x.cs]->w<=W->NG x->∃ E N,OwnX m [x] w E N):∀ (l:Q3 Node) (w:Nat),LW false w (l.map Node.cs)->w<=W->(∀ n ∈ l,NG n)->∃ E N,OwnX m l w E N
 | [],w,_,_,_=>⟨[],[],YJ _,YJ _,fun f _ _=>by simp [AR,lks,mbs],fun acc _=>by simp [AR],fun q _ _=>rfl⟩
 | x::l,w,h,hw,hg=>by
   rw [YO] at h
   obtain ⟨n,wk,wa,wl,e,h1,hk,ha,hl⟩:=h.node_inv
   obtain rfl:=XT e
   let ⟨E1,N1,o1⟩:=hs x (x.text.size+1+wk+wa) (.node x [] _ wk wa 0 (by omega) hk ha (.nil _ _)) (by omega) (hg x (Yi ..))
   let ⟨E2,N2,o2⟩:=rR hs l wl hl (by omega) fun n hn=>hg n (Yg _ hn)
   exact ⟨_,_,o1.cons o2 (by omega)⟩
theorem rS:∀ (m:Nat) (l:Q3 Node) (w:Nat),LW false w (l.map Node.cs)->(∀ n ∈ l,NG n)->w<m+1->w<=300000->∃ E N,OwnX m l w E N
 | 0,l,w,h,hg,hm,hb=>by
   have:=h.len
   rw [Yv] at this
   have:l = []:=Yl (by omega)
   subst this
   exact ⟨[],[],YJ _,YJ _,fun f _ _=>by simp [AR,lks,mbs],fun acc _=>by simp [AR],fun q _ _=>rfl⟩
 | m+1,l,w,h,hg,hm,hb=>by
   refine rR (W:=w) (fun x w' hx hw' gx=>?_) l w h (Yn _) hg
   obtain ⟨wk,wa,h1,hk,ha⟩:=hx.node1
   by_cases k1:x.kind=1
   have gl:=Zv3 x.text.data.toList
   have hsz:x.text.data.toList.length=x.text.size:=rfl
   refine ⟨gath AU x.text.data.toList,[x],by omega,by simp;omega,fun f b1 b2=>?_,fun acc b=>?_,fun q b1 b2=>?_⟩
   refine FW (d:=⟨f.links++lks (gath AU x.text.data.toList),f.members++mbs (gath AU x.text.data.toList)⟩) ?_ rfl
   unfold QT
   rw [if_pos k1]
   exact ZAl f x.text.data.toList (by omega) (by omega) (by omega)
   refine FW (d:=acc ++ [x]) ?_ rfl
   unfold NZ
   rw [Y4 (by simp;omega)]
   show (if x.kind=6/\_ then _ else some (acc ++ [x]))=_
   rw [if_neg fun h=>by omega]
   refine FW (d:=(gath AU x.text.data.toList).foldl D6 q) ?_ rfl
   unfold O0
   rw [if_pos k1]
   exact ZAm x.text.data.toList q.1 q.2 (by omega) (by omega) (by omega)
   by_cases k6:x.kind=6/\¬ x.tag=2
   obtain ⟨xs,hxs,gxs⟩:=gx.k.nodes
   rw [hxs] at hk
   let ⟨E,N,o⟩:=rS m xs wk hk gxs (by omega) (by omega)
   have ht:=gx.g k6.1
   have hlen:=hk.len
   rw [Yv] at hlen
   have oe:=o.le
   have on:=o.ln
   refine ⟨E,x::N,by omega,by rw [Yr];omega,fun f b1 b2=>?_,fun acc b=>?_,fun q b1 b2=>?_⟩
   refine FW (d:=⟨f.links++lks E,f.members++mbs E⟩) ?_ rfl
   unfold QT
   rw [if_neg k1,if_pos k6,hxs,FO]
   show KL (m+1) f xs=_
   rw [qG m f xs (by omega)]
   exact o.p f (by omega) (by omega)
   refine FW (d:=acc++x::N) ?_ rfl
   have hr:IM (m+1) xs=some N:=rP (by omega) (o.n [] (by simp;omega))
   unfold NZ
   rw [Y4 (by simp;omega)]
   show (if x.kind=6/\(x.tag=1\/x.tag=3) then (AV x.kids).bind fun k=>(IM (m+1) k).bind fun r=>AA 80 (acc ++ [x]) r else some (acc ++ [x]))=_
   rw [if_pos ⟨k6.1,by omega⟩,hxs,FO]
   show ((IM (m+1) xs).bind fun r=>AA 80 (acc ++ [x]) r)=_
   rw [hr]
   show AA 80 (acc ++ [x]) N=_
   rw [Y4 (by simp;omega)]
   simp
   refine FW (d:=q) ?_ (o.r q (by omega) (by omega))
   unfold O0
   rw [if_neg k1]
   refine ⟨[],[x],YJ _,by simp;omega,fun f b1 b2=>?_,fun acc b=>?_,fun q b1 b2=>?_⟩
   refine FW (d:=f) ?_ (by simp [AR,lks,mbs])
   unfold QT
   rw [if_neg k1,if_neg k6]
   refine FW (d:=acc ++ [x]) ?_ rfl
   unfold NZ
   rw [Y4 (by simp;omega)]
   show (if x.kind=6/\_ then _ else some (acc ++ [x]))=_
   rw [if_neg fun h=>k6 ⟨h.1,fun e=>by omega⟩]
   refine FW (d:=q) ?_ rfl
   unfold O0
   rw [if_neg k1]
theorem ZtQ (t:Q3 Q4):(DX t).length<=t.length:=by{
unfold DX
refine YX (UT _).length_le ?_
rw [<- S0,List.length_reverse]
refine YX (UT _).length_le ?_
rw [List.length_reverse]
exact Yn _}
theorem ZtR:(BI (BB [])).2=1:=by kernel_rfl
def plO (o:Q2 (Q3 Q4)):Q1×Bool:=match o with | some t=>(bs t,true) | none=>(⟨#[]⟩,false)
theorem Zyj {l:Q3 Node} {o:Q2 (Q3 Q4)} (hl:l.length<=1000000) (h:GR [] l=some o):MA l=some (plO o):=by{
refine ZK ?_
unfold MA
refine ZF (fun x=>∃ (acc:Q3 Q4) (n:Nat),x.1=bs acc/\x.2=(n:Int)/\n<=l.length/\GR acc (l.drop n)=some o) (fun x=>l.length-x.2.toNat) ⟨[],0,rfl,rfl,Nat.zero_le _,h⟩ (by dsimp only;omega) ?_
rintro ⟨s,i⟩ rec ⟨acc,n,hs,hi,hn,h2⟩ ih
dsimp only at hs hi ih ⊢
subst hs hi
by_cases hlt:n<l.length
refine Zb (fun _=>?_) fun h=>absurd (by omega) h
let ⟨e,he,hd⟩:=KQ hlt
have hat:=HU he
rw [hd] at h2
unfold GR at h2
refine Zt (fun q=>∀ acc',GR acc' (l.drop (n+1))=some o->Tot (q (bs acc')) fun z=>z=plO o) (fun acc' h'=>?_) fun k19 hk19=>Za hat ?_
rw [ZH]
exact ih (bs acc',(n:Int)+1) ⟨acc',n+1,rfl,by dsimp only;omega,hlt,h'⟩ (by dsimp only;omega)
refine Zt (fun q=>((e.kind=1\/e.kind=3)->Tot (q true) fun z=>z=plO o)/\(¬ (e.kind=1\/e.kind=3)->Tot (q false) fun z=>z=plO o)) ⟨fun hc=>Zj (fun _=>Za hat ?_) nofun,fun hc=>Zj nofun fun _=>?_⟩ fun k20 hk20=>?_
rw [if_pos hc] at h2
split at h2
refine Za (v:=bs (acc++e.text.data.toList)) ?_ (hk19 _ h2)
exact LR acc e.text.data.toList (by have:e.text.data.toList.length=e.text.size:=rfl;omega)
cases h2
rw [if_neg hc] at h2
refine Zb (fun h3=>?_) fun h3=>Zd ?_
rw [if_pos h3] at h2
exact hk19 _ h2
rw [if_neg h3] at h2
cases h2
rfl
refine Zb (fun h1=>?_) fun h1=>?_
rw [Yh h1]
exact hk20.1 (.inl h1)
by_cases h3:e.kind=3
rw [Yh h3]
exact hk20.1 (.inr h3)
rw [Yf h3]
exact hk20.2 fun h=>h.elim h1 h3
refine Zb (fun h=>absurd h (by omega)) fun _=>Zd ?_
rw [YI (by omega)] at h2
cases h2
rfl}
theorem fZ (c d:Q4) (l:Q3 Q4):([c]:Q3 Q4).isPrefixOf (d::l)=decide (d=c):=by
 show ((c == d)&&true)=_
 rw [MO,JR]
theorem rT {c:Q4} {l:Q3 Q4}:¬ bs (c::l)=⟨#[]⟩:=fun h=>by
 have:=CC ByteArray.size h
 have z:(bs (c::l)).size=l.length+1:=rfl
 rw [z] at this
 cases this
theorem Zzz (l:Q3 Node) (w:Nat) (h:LW false w (l.map Node.cs)) (hb:w<=300000):∃ (s:Q1) (ok:Bool) (c:Title×Bool),MA l=some (s,ok)/\GS l=some c/\(ok=true->D3 s=some c)/\(ok=false->c.2=false):=by{
have hlen:=h.len
rw [Yv] at hlen
let ⟨o,ho,hsz⟩:=fY l w [] h (by simp;omega)
have hr:=Zyj (by omega) ho
have zero:Tot (GS l) (fun c=>o=none->c=(⟨0,⟨#[]⟩⟩,false))/\∀ t,o=some t->∃ c,GS l=some c/\D3 (bs t)=some c:=by
 cases o with
 | none=>
   refine ⟨?_,fun t h=>by cases h⟩
   have hp:NM l=some (bs [],false):=by unfold NM;rw [ho];rfl
   unfold GS
   refine Za hp (Za (eX [] (by simp)) ?_)
   refine Zt (fun q=>Tot (q true) fun c=>(none:Q2 (Q3 Q4))=none->c=(⟨0,⟨#[]⟩⟩,false)) (Zj (fun _=>Zd fun _=>rfl) nofun) fun k1 hk=>Zj (fun _=>hk) nofun
 | some t=>
   have ht:t.length<=300000:=by have:=hsz t rfl;simp at this;omega
   have hp:NM l=some (bs t,true):=by unfold NM;rw [ho];rfl
   have tw:=ZtQ t
   have main:Tot (GS l) fun c=>D3 (bs t)=some c:=by
    unfold GS
    refine Za hp (Za (eX t (by omega)) ?_)
    have hcall:∀ c,Tot (D3 (bs t)) (fun z=>z=c)->D3 (bs t)=some c:=fun c h=>ZK h
    have htr:=pJ t (by omega)
    generalize DX t=u at htr tw ⊢
    have hun:∀ c:Title×Bool,Tot (letk (fun (x4:Bool)=>
      if x4 then
       (some ((⟨0,(⟨#[]⟩:Q1)⟩:Title),false):Q2 (Title×Bool))
      else
      (JE (bs u) (⟨#[35]⟩:Q1)).bind fun r5=>
      (J8 r5).bind fun r6=>
      if (!decide (r6.2=0)) then
       (some ((⟨0,(⟨#[]⟩:Q1)⟩:Title),false):Q2 (Title×Bool))
      else
      letk (fun (x8:Bool)=>
       letk (fun (x9:Int)=>
        (some ((⟨x9,r6.1.name⟩:Title),true):Q2 (Title×Bool))) fun k3=>
       if x8 then
        k3 3
       else
       k3 r6.1.space) fun k2=>
      if (decide (r6.1.space=0)) then
       (atS (bs u) 0).bind fun c10=>
       k2 (!decide (c10=58))
      else
      k2 false) fun k1=>
     if (decide (bs u=(⟨#[]⟩:Q1))) then
      k1 true
     else
     (atS (bs u) 0).bind fun c11=>
     if (decide (c11=35)) then
      k1 true
     else
     (atS (bs u) 0).bind fun c12=>
     k1 (decide (c12=47))) (fun z=>z=c)->D3 (bs t)=some c:=fun c h=>hcall c (by
      unfold D3
      exact Za htr h)
    cases u with
    | nil=>
      refine Zt (fun q=>Tot (q false) fun c=>D3 (bs t)=some c) ?_ fun k1 hk=>?_
      refine Zj nofun fun _=>Za (XJ [] (by simp)) (CK (fun _=>Zd (hun _ ?_)) fun h=>?_)
      exact Zt (fun q=>Tot (q true) fun z=>z=(⟨0,⟨#[]⟩⟩,false)) (Zj (fun _=>Zd rfl) nofun) fun k1 hk=>Zb (fun _=>hk) fun h=>absurd rfl h
      rw [ZtR] at h
      cases h
      refine Zj nofun fun _=>Za (IJ [] [35]) (Zj nofun fun _=>Za (IJ [] [47]) hk)
    | cons d v=>
      have hat:atS (bs (d::v)) 0=some (d.toNat:Int):=BF (L:=d::v) (n:=0) rfl
      have bad:(d=35\/d=47)->D3 (bs t)=some (⟨0,⟨#[]⟩⟩,false):=fun hd=>hun _ (by
       refine Zt (fun q=>Tot (q true) fun z=>z=(⟨0,⟨#[]⟩⟩,false)) (Zj (fun _=>Zd rfl) nofun) fun k1 hk=>Zb (fun h=>absurd h rT) fun _=>Za hat (Zb (fun _=>hk) fun h35=>Za hat ?_)
       rcases hd with hd | hd
       exact absurd ((u8i (k:=35) (n:=35) rfl).2 hd) h35
       rw [Yh ((u8i (k:=47) (n:=47) rfl).2 hd)]
       exact hk)
      refine Zt (fun q=>((d=35\/d=47)->Tot (q true) fun c=>D3 (bs t)=some c)/\(¬ (d=35\/d=47)->Tot (q false) fun c=>D3 (bs t)=some c)) ⟨fun hd=>Zj (fun _=>Zd (bad hd)) nofun,fun hd=>Zj nofun fun _=>?_⟩ fun k1 hk=>?_
      have hcl:=XI (d::v)
      have ref:∀ c:Title×Bool,(¬ (BI (BB (d::v))).2=0->c=(⟨0,⟨#[]⟩⟩,false))->((BI (BB (d::v))).2=0->c=(⟨if (BI (BB (d::v))).1.space=0/\¬ d=58 then 3 else (BI (BB (d::v))).1.space,(BI (BB (d::v))).1.name⟩,true))->D3 (bs t)=some c:=fun c c1 c2=>hun c (by
       refine Zt (fun q=>Tot (q false) fun z=>z=c) ?_ fun k1 hk=>Zb (fun h=>absurd h rT) fun _=>Za hat (Zb (fun h=>absurd (.inl ((u8i (k:=35) (n:=35) rfl).1 h)) hd) fun h35=>Za hat ?_)
       refine Zj nofun fun _=>Za (eW (d::v) (by omega)) (Za (dR _ (by omega)) (CK (fun he=>Zd (c1 he).symm) fun he=>?_))
       have c2:=c2 he
       refine Zt (fun q=>(((BI (BB (d::v))).1.space=0/\¬ d=58)->Tot (q true) fun z=>z=c)/\(¬ ((BI (BB (d::v))).1.space=0/\¬ d=58)->Tot (q false) fun z=>z=c)) ⟨fun hc=>?_,fun hc=>?_⟩ fun k2 hk2=>?_
       exact B7 (Zj (fun _=>Zd (by rw [c2,if_pos hc])) nofun)
       exact B7 (Zj nofun fun _=>Zd (by rw [c2,if_neg hc]))
       refine Zb (fun h0=>Za hat ?_) fun h0=>hk2.2 fun h=>h0 h.1
       by_cases h58:d=58
       rw [Yh ((u8i (k:=58) (n:=58) rfl).2 h58)]
       exact hk2.2 fun h=>h.2 h58
       rw [Yf fun h=>h58 ((u8i (k:=58) (n:=58) rfl).1 h)]
       exact hk2.1 ⟨h0,h58⟩
       rw [Yf fun h=>hd (.inr ((u8i (k:=47) (n:=47) rfl).1 h))]
       exact hk)
      refine Za (XJ (d::v) (by omega)) (CK (fun he=>Zd (ref _ (fun _=>rfl) fun h=>absurd h he)) fun he=>?_)
      refine Zt (fun q=>(((BI (BB (d::v))).1.space=0/\¬ d=58)->Tot (q true) fun c=>D3 (bs t)=some c)/\(¬ ((BI (BB (d::v))).1.space=0/\¬ d=58)->Tot (q false) fun c=>D3 (bs t)=some c)) ⟨fun hc=>?_,fun hc=>?_⟩ fun k2 hk2=>?_
      exact B7 (Zj (fun _=>Zd (ref _ (fun h=>absurd he h) fun _=>by rw [if_pos hc])) nofun)
      exact B7 (Zj nofun fun _=>Zd (ref _ (fun h=>absurd he h) fun _=>by rw [if_neg hc]))
      refine Zb (fun h0=>Za (IJ (d::v) [58]) ?_) fun h0=>hk2.2 fun h=>h0 h.1
      rw [fZ]
      by_cases h58:d=58
      rw [Yh h58]
      exact hk2.2 fun h=>h.2 h58
      rw [Yf h58]
      exact hk2.1 ⟨h0,h58⟩
      refine Zj nofun fun _=>Za (IJ (d::v) [35]) ?_
      rw [fZ]
      by_cases h35:d=35
      rw [Yh h35]
      exact Zj (fun _=>hk.1 (.inl h35)) nofun
      rw [Yf h35]
      refine Zj nofun fun _=>Za (IJ (d::v) [47]) ?_
      rw [fZ]
      by_cases h47:d=47
      rw [Yh h47]
      exact hk.1 (.inr h47)
      rw [Yf h47]
      exact hk.2 fun h=>h.elim h35 h47
   obtain ⟨c,c1,c2⟩:=main
   refine ⟨⟨c,c1,nofun⟩,fun t' ht'=>?_⟩
   injection ht' with ht'
   subst ht'
   exact ⟨c,c1,c2⟩
obtain ⟨⟨c,c1,c2⟩,z2⟩:=zero
cases o with
| none=>exact ⟨_,_,c,hr,c1,nofun,fun _=>by rw [c2 rfl]⟩
| some t=>
  let ⟨c',d1,d2⟩:=z2 t rfl
  rw [d1] at c1
  exact ⟨_,_,c',hr,d1,(fun _=>d2),nofun⟩}
def JK (m:Nat) (L:Q3 Link) (a:Arg):Q2 (Q3 Link):=(AV a.name).bind fun l=>(ZS m l L).bind fun L=>(AV a.value).bind fun l=>ZS m l L
def O4 (L:Q3 Link) (n:Node) (r:Q1×Bool):Q2 (Q3 Link):=if r.2=true/\n.kind=4 then (D3 r.1).bind fun c=>if c.2=true then GT L ⟨2,c.1⟩ else some L else some L
def R7 (m:Nat) (L:Q3 Link) (n:Node):Q2 (Q3 Link):=if n.kind=6/\n.tag=2 then some L else (AV n.kids).bind fun l=>(MA l).bind fun r=>(O4 L n r).bind fun L1=>(ZS m l L1).bind fun L2=>(DM n.args).bind fun ag=>if ag.length<=1000000 then AR (JK m) ag L2 else none
theorem rU {m:Nat} {l:Q3 Node} {L r:Q3 Link} (hl:l.length<=1000000) (h:AR (R7 m) l L=some r):ZS (m+1) l L=some r:=by{
refine ZK ?_
unfold ZS
refine ZF (fun x=>∃ n:Nat,x.2=(n:Int)/\n<=l.length/\AR (R7 m) (l.drop n) x.1=some r) (fun x=>l.length-x.2.toNat) ⟨0,rfl,Nat.zero_le _,h⟩ (by dsimp only;omega) ?_
rintro ⟨L,i⟩ rec ⟨n,hi,hn,h2⟩ ih
dsimp only at hi h2 ih ⊢
subst hi
by_cases hlt:n<l.length
rotate_left
refine Zb (fun h=>absurd h (by omega)) fun _=>Zd ?_
rw [YI (by omega)] at h2
exact D7 h2
refine Zb (fun _=>?_) fun h=>absurd (by omega) h
let ⟨e,he,hd⟩:=KQ hlt
have hat:=HU he
rw [hd] at h2
let ⟨L',h3,h4⟩:=Ya.1 h2
refine Zt (fun q=>Tot (q L') fun z=>z=r) ?_ fun k52 hk52=>Za hat ?_
rw [ZH]
exact ih (L',(n:Int)+1) ⟨n+1,by dsimp only;omega,hlt,h4⟩ (by dsimp only;omega)
unfold R7 at h3
refine Zt (fun q=>((e.kind=6/\e.tag=2)->Tot (q true) fun z=>z=r)/\(¬ (e.kind=6/\e.tag=2)->Tot (q false) fun z=>z=r)) ⟨fun hc=>Zj (fun _=>?_) nofun,fun hc=>Zj nofun fun _=>?_⟩ fun k53 hk53=>?_
rw [if_pos hc] at h3
cases h3
exact hk52
·rw [if_neg hc] at h3
 let ⟨ks,d1,h3⟩:=Ya.1 h3
 let ⟨pr,d2,h3⟩:=Ya.1 h3
 let ⟨L1,d3,h3⟩:=Ya.1 h3
 let ⟨L2,d4,h3⟩:=Ya.1 h3
 let ⟨ag,d5,h3⟩:=Ya.1 h3
 split at h3
 rotate_left
 cases h3
 rename_i hal
 refine Za d1 (Za d2 ?_)
 unfold O4 at d3
 refine Zt (fun q=>((pr.2=true/\e.kind=4)->Tot (q true) fun z=>z=r)/\(¬ (pr.2=true/\e.kind=4)->Tot (q false) fun z=>z=r)) ?_ fun k54 hk54=>?_
 have body:∀ k55:Q3 Link->Q2 (Q3 Link),Tot (k55 L1) (fun z=>z=r)->((pr.2=true/\e.kind=4)->Tot ((D3 pr.1).bind fun r789=>if r789.2=true then (GT L (⟨2,r789.1⟩:Link)).bind fun r790=>k55 r790 else k55 L) fun z=>z=r)/\(¬ (pr.2=true/\e.kind=4)->Tot (k55 L) fun z=>z=r):=fun k55 hk=>⟨fun hc=>by
   rw [if_pos hc] at d3
   let ⟨c,d6,d7⟩:=Ya.1 d3
   refine Za d6 (Zj (fun hb=>?_) fun hb=>?_)
   rw [if_pos hb] at d7
   exact Za d7 hk
   rw [if_neg (by rw [hb];decide)] at d7
   cases d7
   exact hk,fun hc=>by
   rw [if_neg hc] at d3
   cases d3
   exact hk⟩
 have rest:Tot ((AV e.kids).bind fun l734=>
    (ZS m l734 L1).bind fun r735=>
    A4 A9 (fun f56 ((x753,x754):(Q3 Link)×Int)=>
     (DM e.args).bind fun l772=>
     if (decide (x754<(l772.length:Int))) then
      (DM e.args).bind fun l781=>
      (atI l781 x754).bind fun e782=>
      (DM e.args).bind fun l783=>
      (atI l783 x754).bind fun e784=>
      (AV e784.name).bind fun l785=>
      (ZS m l785 x753).bind fun r786=>
      (AV e782.value).bind fun l787=>
      (ZS m l787 r786).bind fun r788=>
      f56 (r788,(w64 (x754+1)))
     else
     k52 x753) (r735,0)) fun z=>z=r:=by
  refine Za d1 (Za d4 ?_)
  refine ZF (fun x=>∃ n:Nat,x.2=(n:Int)/\n<=ag.length/\AR (JK m) (ag.drop n) x.1=some L') (fun x=>ag.length-x.2.toNat) ⟨0,rfl,Nat.zero_le _,h3⟩ (by dsimp only;omega) ?_
  rintro ⟨L5,i⟩ rec5 ⟨n5,hi5,hn5,h5⟩ ih5
  dsimp only at hi5 h5 ih5 ⊢
  subst hi5
  refine Za d5 ?_
  by_cases hlt5:n5<ag.length
  refine Zb (fun _=>?_) fun h=>absurd (by omega) h
  let ⟨a,ha,hda⟩:=KQ hlt5
  have hata:=HU ha
  rw [hda] at h5
  let ⟨L6,g1,g2⟩:=Ya.1 h5
  unfold JK at g1
  let ⟨ns,u1,g1⟩:=Ya.1 g1
  let ⟨L7,u2,g1⟩:=Ya.1 g1
  let ⟨vs,u3,g1⟩:=Ya.1 g1
  refine Za d5 (Za hata (Za d5 (Za hata (Za u1 (Za u2 (Za u3 (Za g1 ?_)))))))
  rw [ZH]
  exact ih5 (L6,(n5:Int)+1) ⟨n5+1,by dsimp only;omega,hlt5,g2⟩ (by dsimp only;omega)
  refine Zb (fun h=>absurd h (by omega)) fun _=>?_
  rw [YI (by omega)] at h5
  cases h5
  exact hk52
 refine ⟨fun hc=>?_,fun hc=>?_⟩
 refine Zt (fun q=>Tot (q L1) fun z=>z=r) rest fun k55 hk55=>Zj (fun _=>(body k55 hk55).1 hc) nofun
 refine Zt (fun q=>Tot (q L1) fun z=>z=r) rest fun k55 hk55=>Zj nofun fun _=>(body k55 hk55).2 hc
 cases hp:pr.2 with
 | true=>
   refine Zj (fun _=>?_) nofun
   by_cases h4:e.kind=4
   rw [Yh h4]
   exact hk54.1 ⟨hp,h4⟩
   rw [Yf h4]
   exact hk54.2 fun h=>h4 h.2
 | false=>exact Zj nofun fun _=>hk54.2 fun h=>by rw [hp] at h;cases h.1
refine Zb (fun h6=>?_) fun h6=>hk53.2 fun h=>h6 h.1
by_cases h2:e.tag=2
rw [Yh h2]
exact hk53.1 ⟨h6,h2⟩
rw [Yf h2]
exact hk53.2 fun h=>h2 h.2}
structure TmpX {α:Type} (sp:Finder->α->Option Finder) (sr:List Link->α->Option (List Link)) (l:List α) (w:Nat) (C:List Link):Prop where
 le:C.length<=w
 p:∀ f:Finder,f.links.length+w<=600000->AR sp l f=some ⟨f.links++C,f.members⟩
 r:∀ L:List Link,L.length+w<=600000->AR sr l L=some (C.foldl B8 L)
theorem R8 (C L:Q3 Link):(C.foldl B8 L).length<=L.length+C.length:=QP (c:=D5) (key:=fun x:Link=>x) C L
theorem TmpX.app {α:Type} {sp:Finder->α->Q2 Finder} {sr:Q3 Link->α->Q2 (Q3 Link)} {A B:Q3 α} {w1 w2 w:Nat} {C1 C2:Q3 Link} (h1:TmpX sp sr A w1 C1) (h2:TmpX sp sr B w2 C2) (hw:w1+w2<=w):TmpX sp sr (A++B) w (C1++C2):=by{
have a1:=h1.le
have a2:=h2.le
refine ⟨by rw [Yb];omega,fun f k=>?_,fun L k=>?_⟩
have:=R6 (h1.p f (by omega)) (h2.p ⟨f.links++C1,f.members⟩ (by rw [Yb];omega))
rw [<- YM]
exact this
have:=R8 C1 L
have:=R6 (h1.r L (by omega)) (h2.r _ (by omega))
rw [FZ]
exact this}
theorem TmpX.nil {α:Type} {sp:Finder->α->Q2 Finder} {sr:Q3 Link->α->Q2 (Q3 Link)} (w:Nat):TmpX sp sr ([]:Q3 α) w []:=⟨YJ _,fun f _=>by simp [AR],fun L _=>rfl⟩
theorem rV {sp:Finder->Node->Q2 Finder} {sr:Q3 Link->Node->Q2 (Q3 Link)} {W:Nat} (hs:∀ (x:Node) (w:Nat),LW false w [x.cs]->w<=W->∃ C,TmpX sp sr [x] w C):∀ (l:Q3 Node) (w:Nat),LW false w (l.map Node.cs)->w<=W->∃ C,TmpX sp sr l w C
 | [],w,_,_=>⟨[],.nil w⟩
 | x::l,w,h,hw=>by
   rw [YO] at h
   obtain ⟨n,wk,wa,wl,e,h1,hk,ha,hl⟩:=h.node_inv
   obtain rfl:=XT e
   let ⟨C1,o1⟩:=hs x (x.text.size+1+wk+wa) (.node x [] _ wk wa 0 (by omega) hk ha (.nil _ _)) (by omega)
   let ⟨C2,o2⟩:=rV hs l wl hl (by omega)
   exact ⟨_,o1.app o2 (by omega)⟩
theorem rW {sp:Finder->Arg->Q2 Finder} {sr:Q3 Link->Arg->Q2 (Q3 Link)} {W:Nat} (hs:∀ (x:Arg) (w:Nat),LW true w [x.cs]->w<=W->∃ C,TmpX sp sr [x] w C):∀ (l:Q3 Arg) (w:Nat),LW true w (l.map Arg.cs)->w<=W->∃ C,TmpX sp sr l w C
 | [],w,_,_=>⟨[],.nil w⟩
 | x::l,w,h,hw=>by
   rw [YO] at h
   obtain ⟨n,wn,wv,wl,e,h1,hn,hv,hl⟩:=h.arg_inv
   obtain rfl:=fL e
   let ⟨C1,o1⟩:=hs x (4+wn+wv) (.arg x [] _ wn wv 0 (by omega) hn hv (.nil _ _)) (by omega)
   let ⟨C2,o2⟩:=rW hs l wl hl (by omega)
   exact ⟨_,o1.app o2 (by omega)⟩
theorem rX:∀ (m:Nat) (l:Q3 Node) (w:Nat),LW false w (l.map Node.cs)->w<m+1->w<=300000->∃ C,TmpX (QU m) (R7 m) l w C
 | 0,l,w,h,hm,hb=>by
   have:=h.len
   rw [Yv] at this
   have:l = []:=Yl (by omega)
   subst this
   exact ⟨[],.nil w⟩
 | m+1,l,w,h,hm,hb=>by
   have sub:∀ (ks:Q3 Node) (wk:Nat),LW false wk (ks.map Node.cs)->wk<m+1->wk<=300000->∃ C:Q3 Link,C.length<=wk/\(∀ f:Finder,f.links.length+wk<=600000->Zo (m+1) f ks=some ⟨f.links++C,f.members⟩)/\∀ L:Q3 Link,L.length+wk<=600000->ZS (m+1) ks L=some (C.foldl B8 L):=fun ks wk hk hw hb=>by
    let ⟨C,o⟩:=rX m ks wk hk hw hb
    have hlen:=hk.len
    rw [Yv] at hlen
    exact ⟨C,o.le,fun f hf=>qH (by omega) (o.p f hf),fun L hL=>rU (by omega) (o.r L hL)⟩
   refine rV (W:=w) (fun x w' hx hw'=>?_) l w h (Yn _)
   obtain ⟨wk,wa,h1,hk,ha⟩:=hx.node1
   by_cases hc:x.kind=6/\x.tag=2
   ·refine ⟨[],YJ _,fun f _=>FW (d:=f) ?_ (by simp [AR]),fun L _=>FW (d:=L) ?_ rfl⟩
    ·unfold QU
     rw [if_pos hc]
    ·unfold R7
     rw [if_pos hc]
   let ⟨xs,hxs⟩:=UE hk
   let ⟨aa,haa⟩:=rO ha
   rw [hxs] at hk
   rw [haa] at ha
   have hla:=ha.len
   rw [Yv] at hla
   let ⟨s,ok,c,p1,p2,p3,p4⟩:=Zzz xs wk hk (by omega)
   let ⟨C2,c1,c2,c3⟩:=sub xs wk hk (by omega) (by omega)
   obtain ⟨C3,o3⟩:=rW (sp:=KP (m+1)) (sr:=JK (m+1)) (W:=wa) (fun y wy hy hwy=>by
    obtain ⟨wn,wv,k1,kn,kv⟩:=hy.arg1
    let ⟨ns,hns⟩:=UE kn
    let ⟨vs,hvs⟩:=UE kv
    rw [hns] at kn
    rw [hvs] at kv
    let ⟨D1,d1,d2,d3⟩:=sub ns wn kn (by omega) (by omega)
    let ⟨D2,e1,e2,e3⟩:=sub vs wv kv (by omega) (by omega)
    refine ⟨D1++D2,by rw [Yb];omega,fun f hf=>FW (d:=⟨f.links++(D1++D2),f.members⟩) ?_ rfl,fun L hL=>FW (d:=(D1++D2).foldl B8 L) ?_ rfl⟩
    ·unfold KP
     rw [hns,hvs,FO]
     show ((Zo (m+1) f ns).bind fun f=>(AV (vs.map Node.cs)).bind fun l=>Zo (m+1) f l)=_
     rw [d2 f (by omega),FO]
     show Zo (m+1) ⟨f.links++D1,f.members⟩ vs=_
     rw [e2 _ (by rw [Yb];omega),YM]
    ·unfold JK
     rw [hns,hvs,FO]
     show ((ZS (m+1) ns L).bind fun L=>(AV (vs.map Node.cs)).bind fun l=>ZS (m+1) l L)=_
     rw [d3 L (by omega),FO]
     show ZS (m+1) vs (D1.foldl B8 L)=_
     have:=R8 D1 L
     rw [e3 _ (by omega),FZ]) aa wa ha (Yn _)
   have o3l:=o3.le
   have C1:∃ C1:Q3 Link,C1.length<=1/\(∀ f:Finder,f.links.length<=600000->U8 f x=some ⟨f.links++C1,f.members⟩)/\∀ L:Q3 Link,L.length<=600000->O4 L x (s,ok)=some (C1.foldl B8 L):=by
    by_cases h4:x.kind=4/\c.2=true
    ·have hok:ok=true:=by
      cases ok with
      | true=>rfl
      | false=>rw [p4 rfl] at h4;cases h4.2
     refine ⟨[⟨2,c.1⟩],Yn _,fun f hf=>?_,fun L hL=>?_⟩
     ·unfold U8
      rw [if_pos h4.1,hxs,FO]
      show ((GS xs).bind fun r=>if r.2=true then (AA 32 f.links [(⟨2,r.1⟩:Link)]).map fun l=>⟨l,f.members⟩ else some f)=_
      rw [p2]
      show (if c.2=true then (AA 32 f.links [(⟨2,c.1⟩:Link)]).map fun l=>⟨l,f.members⟩ else some f)=_
      rw [if_pos h4.2,J5 1000000 (by simp;omega) (by decide) (by decide)]
      rfl
     ·unfold O4
      rw [if_pos ⟨hok,h4.1⟩]
      show ((D3 s).bind fun c=>if c.2=true then GT L ⟨2,c.1⟩ else some L)=_
      rw [p3 hok]
      show (if c.2=true then GT L ⟨2,c.1⟩ else some L)=_
      rw [if_pos h4.2,fH L _ (by omega)]
      rfl
    ·refine ⟨[],YJ _,fun f hf=>?_,fun L hL=>?_⟩
     ·unfold U8
      split
      ·rename_i k4
       rw [hxs,FO]
       show ((GS xs).bind fun r=>if r.2=true then (AA 32 f.links [(⟨2,r.1⟩:Link)]).map fun l=>⟨l,f.members⟩ else some f)=_
       rw [p2]
       show (if c.2=true then (AA 32 f.links [(⟨2,c.1⟩:Link)]).map fun l=>⟨l,f.members⟩ else some f)=_
       rw [if_neg fun h=>h4 ⟨k4,h⟩]
       simp
      ·simp
     ·unfold O4
      split
      ·rename_i k4
       show ((D3 s).bind fun c=>if c.2=true then GT L ⟨2,c.1⟩ else some L)=_
       rw [p3 k4.1]
       show (if c.2=true then GT L ⟨2,c.1⟩ else some L)=_
       rw [if_neg fun h=>h4 ⟨k4.2,h⟩]
       rfl
      ·rfl
   obtain ⟨C1,a1,a2,a3⟩:=C1
   refine ⟨C1++(C2++C3),by rw [Yb,Yb];omega,fun f hf=>FW (d:=⟨f.links++(C1++(C2++C3)),f.members⟩) ?_ rfl,fun L hL=>FW (d:=(C1++(C2++C3)).foldl B8 L) ?_ rfl⟩
   ·unfold QU
    rw [if_neg hc,a2 f (by omega)]
    show ((AV x.kids).bind fun l=>(Zo (m+1) ⟨f.links++C1,f.members⟩ l).bind fun f=>(DM x.args).bind fun l=>if l.length<=4611686018427387900 then AR (KP (m+1)) l f else none)=_
    rw [hxs,FO]
    show ((Zo (m+1) ⟨f.links++C1,f.members⟩ xs).bind fun f=>(DM x.args).bind fun l=>if l.length<=4611686018427387900 then AR (KP (m+1)) l f else none)=_
    rw [c2 _ (by rw [Yb];omega)]
    show ((DM x.args).bind fun l=>if l.length<=4611686018427387900 then AR (KP (m+1)) l ⟨f.links++C1++C2,f.members⟩ else none)=_
    rw [haa,kL]
    show (if aa.length<=4611686018427387900 then AR (KP (m+1)) aa ⟨f.links++C1++C2,f.members⟩ else none)=_
    rw [if_pos (by omega),o3.p _ (by rw [Yb,Yb];omega)]
    simp
   ·have q1:=R8 C1 L
    have q2:=R8 C2 (C1.foldl B8 L)
    unfold R7
    rw [if_neg hc,hxs,FO]
    show ((MA xs).bind fun r=>(O4 L x r).bind fun L1=>(ZS (m+1) xs L1).bind fun L2=>(DM x.args).bind fun ag=>if ag.length<=1000000 then AR (JK (m+1)) ag L2 else none)=_
    rw [p1]
    show ((O4 L x (s,ok)).bind fun L1=>(ZS (m+1) xs L1).bind fun L2=>(DM x.args).bind fun ag=>if ag.length<=1000000 then AR (JK (m+1)) ag L2 else none)=_
    rw [a3 L (by omega)]
    show ((ZS (m+1) xs (C1.foldl B8 L)).bind fun L2=>(DM x.args).bind fun ag=>if ag.length<=1000000 then AR (JK (m+1)) ag L2 else none)=_
    rw [c3 _ (by omega)]
    show ((DM x.args).bind fun ag=>if ag.length<=1000000 then AR (JK (m+1)) ag (C2.foldl B8 (C1.foldl B8 L)) else none)=_
    rw [haa,kL]
    show (if aa.length<=1000000 then AR (JK (m+1)) aa (C2.foldl B8 (C1.foldl B8 L)) else none)=_
    rw [if_pos (by omega),o3.r _ (by omega),FZ,FZ]
theorem cpx (l p:Q3 Q4):LX (bs l) (bs p)=some (if p.isPrefixOf l=true then (bs (l.drop p.length),true) else (bs l,false)):=by{
refine ZK ?_
unfold LX WY
refine ZC (Q:=fun r=>r=if p.isPrefixOf l=true then (bs (l.drop p.length),true) else (bs l,false)) (Za (WQ l p) (Zj (fun h=>?_) fun h=>?_)) fun r hr=>Zd (by rw [<- hr])
have h:p.isPrefixOf l=false:=by cases hb:p.isPrefixOf l<;>simp_all
rw [if_neg (by rw [h];decide)]
exact Zd rfl
have h:p.isPrefixOf l=true:=by cases hb:p.isPrefixOf l<;>simp_all
rw [if_pos h]
have hl:p.length<=l.length:=(YN.1 h).length_le
exact Za (EV l p.length hl) (Zd rfl)}
theorem rY (s:Q3 Q4) (h:s.length<=300000):∃ q,LY (bs s)=some q/\F7 (bs s)=some q:=by{
have z:(bs s).size=s.length:=rfl
have at0:=PT s [35,82,69,68,73,82,69,67,84] 0 (YJ _) (by omega)
rw [MM] at at0
have cp0:LX (bs s) (bs [35,82,69,68,73,82,69,67,84])=some (if ([35,82,69,68,73,82,69,67,84]:Q3 Q4).isPrefixOf s=true then (bs (s.drop 9),true) else (bs s,false)):=cpx s _
suffices hh:Tot (LY (bs s)) fun q=>F7 (bs s)=some q by
 obtain ⟨q,h1,h2⟩:=hh
 exact ⟨q,h1,h2⟩
by_cases hp:([35,82,69,68,73,82,69,67,84]:Q3 Q4).isPrefixOf s=true
rotate_left
rw [if_neg hp] at cp0
unfold LY
refine Za cp0 (Zj (fun _=>Zd (ZK ?_)) nofun)
unfold F7
refine Za at0 ?_
rw [Bool.eq_false_iff.2 hp]
exact Zj (fun _=>Zd rfl) nofun
rw [if_pos hp] at cp0
have h9:9<=s.length:=(YN.1 hp).length_le
have hu:((s.drop 9).dropWhile cutB.contains).length<=(s.drop 9).length:=(UT _).length_le
rw [Yx] at hu
have ref:∀ c:Title×Bool,(∀ i:Nat,i<=s.length->s.drop i=(s.drop 9).dropWhile cutB.contains->Tot ((BE (bs s) (i:Int) (⟨#[91,91]⟩:Q1)).bind fun r32=>
  if (!r32) then
   (some ((⟨0,(⟨#[]⟩:Q1)⟩:Title),false):Q2 (Title×Bool))
  else
  (NO (bs s) (w64 ((i:Int)+2))).bind fun r33=>
  if (!r33.2.2) then
   (some ((⟨0,(⟨#[]⟩:Q1)⟩:Title),false):Q2 (Title×Bool))
  else
  (JE r33.1 (⟨#[35]⟩:Q1)).bind fun r34=>
  (J8 r34).bind fun r35=>
  (some (r35.1,(decide (r35.2=0))):Q2 (Title×Bool))) fun q=>q=c)->F7 (bs s)=some c:=fun c hc=>by
 refine ZK ?_
 unfold F7
 refine Za at0 ?_
 rw [hp]
 refine Zj nofun fun _=>?_
 refine ZF (fun x=>∃ n:Nat,x=(n:Int)/\n<=s.length/\(s.drop n).dropWhile cutB.contains=(s.drop 9).dropWhile cutB.contains) (fun x=>s.length-x.toNat) ⟨9,rfl,h9,rfl⟩ (by omega) ?_
 rintro x rec ⟨n,rfl,hn,he⟩ ih
 refine Zt (fun q=>((∃ d l,s.drop n=d::l/\(d=9\/d=32))->Tot (q true) fun q=>q=c)/\((s.drop n).dropWhile cutB.contains=s.drop n->Tot (q false) fun q=>q=c)) ⟨fun ⟨d,l,h1,h2⟩=>Zj (fun _=>?_) nofun,fun h1=>Zj nofun fun _=>hc n hn (by rw [<- he,h1])⟩ fun k8 hk8=>?_
 have hlt:n<s.length:=by
  have:(s.drop n).length=l.length+1:=by rw [h1];rfl
  rw [Yx] at this
  omega
 rw [ZH]
 refine ih _ ⟨n+1,by omega,hlt,?_⟩ (by omega)
 rw [<- he,h1,O8 (by rcases h2 with rfl | rfl<;>rfl),<- JN,h1]
 rfl
 by_cases hlt:n<s.length
 let ⟨d,hd1,hd2,_⟩:=KN hlt
 refine Zb (fun _=>Za (BF hd1) (Zb (fun h=>hk8.1 ⟨d,_,hd2,.inl ((u8i (k:=9) (n:=9) rfl).1 h)⟩) fun h9=>Za (BF hd1) ?_)) fun h=>absurd (by omega) h
 by_cases h32:d=32
 rw [Yh ((u8i (k:=32) (n:=32) rfl).2 h32)]
 exact hk8.1 ⟨d,_,hd2,.inr h32⟩
 rw [Yf fun h=>h32 ((u8i (k:=32) (n:=32) rfl).1 h)]
 refine hk8.2 ?_
 rw [hd2,O9]
 intro hh
 have:d=32\/d=9:=by
  unfold cutB at hh
  simpa using hh
 rcases this with h | h
 exact h32 h
 exact h9 ((u8i (k:=9) (n:=9) rfl).2 h)
 refine Zb (fun h=>absurd h (by omega)) fun _=>hk8.2 ?_
 rw [YI (by omega)]
 rfl
have tl:LV (bs (s.drop 9)) ⟨#[32,9]⟩=some (bs ((s.drop 9).dropWhile cutB.contains)):=by
 unfold LV
 rw [if_pos rfl]
 rfl
unfold LY
refine Za cp0 (Zj nofun fun _=>Za tl ?_)
generalize (s.drop 9).dropWhile cutB.contains=u at hu ref ⊢
have cp1:LX (bs u) (bs [91,91])=some (if ([91,91]:Q3 Q4).isPrefixOf u=true then (bs (u.drop 2),true) else (bs u,false)):=cpx u _
have atr:∀ i:Nat,i<=s.length->s.drop i=u->BE (bs s) (i:Int) ⟨#[91,91]⟩=some (([91,91]:Q3 Q4).isPrefixOf u):=fun i hi he=>by
 have:=PT s [91,91] i hi (by omega)
 rw [he] at this
 exact this
by_cases hq:([91,91]:Q3 Q4).isPrefixOf u=true
rotate_left
rw [if_neg hq] at cp1
refine Za cp1 (Za (eV u (by omega)) ?_)
have fin:F7 (bs s)=some (⟨0,⟨#[]⟩⟩,false):=ref _ fun i hi he=>by
 refine Za (atr i hi he) ?_
 rw [Bool.eq_false_iff.2 hq]
 exact Zj (fun _=>Zd rfl) nofun
exact Zt (fun q=>Tot (q true) fun q=>F7 (bs s)=some q) (Zj (fun _=>Zd fin) nofun) fun k1 hk=>Zj (fun _=>hk) nofun
rw [if_pos hq] at cp1
have h2:2<=u.length:=(YN.1 hq).length_le
have hR:(u.drop 2).length=u.length-2:=Yx
refine Za cp1 (Za (eV (u.drop 2) (by omega)) ?_)
have ref2:∀ c:Title×Bool,(∀ i:Nat,i+2<=s.length->s.drop (i+2)=u.drop 2->Tot (
  if (!(F8 s (i+2)).2.2) then
   (some ((⟨0,(⟨#[]⟩:Q1)⟩:Title),false):Q2 (Title×Bool))
  else
  (JE (F8 s (i+2)).1 (⟨#[35]⟩:Q1)).bind fun r34=>
  (J8 r34).bind fun r35=>
  (some (r35.1,(decide (r35.2=0))):Q2 (Title×Bool))) fun q=>q=c)->F7 (bs s)=some c:=fun c hc=>ref c fun i hi he=>by
 have hi2:i+2<=s.length:=by
  have:(s.drop i).length=u.length:=by rw [he]
  rw [Yx] at this
  omega
 refine Za (atr i hi he) ?_
 rw [hq]
 refine Zj nofun fun _=>?_
 rw [show w64 ((i:Int)+2)=((i+2:Nat):Int) by rw [ZH];omega]
 refine Za (pF s (i+2) hi2 (by omega)) (hc i hi2 ?_)
 rw [<- he,JN]
generalize hRR:u.drop 2=R at hR ref2 ⊢
cases hE:BH R with
| none=>
  have fin:F7 (bs s)=some (⟨0,⟨#[]⟩⟩,false):=ref2 _ fun i hi he=>by
   rw [qC (by rw [he];exact hE)]
   exact Zj (fun _=>Zd rfl) nofun
  exact Zt (fun q=>Tot (q true) fun q=>F7 (bs s)=some q) (Zj (fun _=>Zd fin) nofun) fun k1 hk=>Zj nofun fun _=>Zb (fun _=>hk) fun h=>absurd (by decide) h
| some n=>
  have hn:=V3 hE
  have tlen:(R.take n).length<=300000:=by rw [YE];omega
  have hsub:AJ (bs R) 0 (QN (some n))=some (bs (R.take n)):=by
   have:=G8 R 0 n (YJ _) (by omega)
   rw [MM] at this
   exact this
  refine Zt (fun q=>(bad (R.take n)=true->Tot (q true) fun q=>F7 (bs s)=some q)/\(¬ bad (R.take n)=true->Tot (q false) fun q=>F7 (bs s)=some q)) ⟨fun hb=>Zj (fun _=>Zd (ref2 _ fun i hi he=>?_)) nofun,fun hb=>Zj nofun fun _=>?_⟩ fun k1 hk=>?_
  rw [qD (by rw [he];exact hE) (by rw [he];exact hb)]
  exact Zj (fun _=>Zd rfl) nofun
  refine Za hsub (Za (XJ _ tlen) (Zd (ref2 _ fun i hi he=>?_)))
  rw [qE (by rw [he];exact hE) (by rw [he];exact hb),he]
  refine Zj nofun fun _=>Za (eW _ (by omega)) (Za (dR _ (YX (XI _) tlen)) (Zd rfl))
  have hbad:bad (R.take n)=(Lib.contains (R.take n) [91,91]||Lib.contains (R.take n) [10]):=rfl
  refine Zj nofun fun _=>Zb (fun h=>absurd (show ((n:Nat):Int)<0 from h) (by omega)) fun _=>?_
  refine Za hsub (Za (XR (R.take n) [91,91] (by omega)) (Zj (fun h=>hk.1 (by rw [hbad,h];rfl)) fun h=>?_))
  rw [h,Bool.false_or] at hbad
  refine Za hsub (Za (XR (R.take n) [10] (by omega)) ?_)
  cases hc:Lib.contains (R.take n) [10] with
  | true=>exact hk.1 (hbad.trans hc)
  | false=>exact hk.2 (by rw [hbad,hc];decide)}
def R9 (p0:Q3 Link):Q2 (Q3 Link):=if decide ((p0.length:Int)<2) then some p0 else A4 A9 (fun f82 (x570:Int)=>if decide (x570<(p0.length:Int)) then (atI p0 x570).bind fun e784=>(atI p0 (w64 (x570-1))).bind fun e785=>if decide (e784=e785) then (H7 p0 x570).bind fun _=>A4 A9 (fun f97 ((x830,x831,x832):Int×Int×(Q3 Link))=>if decide (x831<(PH x832 x570)) then letk (fun (x847:Int) (x848:Q3 Link)=>f97 (x847,(w64 (x831+1)),x848)) fun k98=>(atQ x832 x570 x831).bind fun e849=>(atQ x832 x570 (w64 (x831-1))).bind fun e850=>if (!decide (e849=e850)) then (atQ x832 x570 x831).bind fun e851=>(atI x832 x830).bind fun e852=>k98 (w64 (x830+1)) (AQ x832 x830 e851) else k98 x830 x832 else (H7 x832 x830).bind fun _=>(CJ (NA x832 x830 (⟨0,(⟨0,(⟨#[]⟩:Q1)⟩:Title)⟩:Link)) 0 x830).bind fun l854=>some l854) (x570,1,p0) else f82 (w64 (x570+1)) else some p0) 1
theorem Zg9 (p0:Q3 Link) (r:Q3 Link) (h:R9 p0=some r):ContractS Q7 41 [] 42 3 (List.map Link.cs p0) (List.map Link.cs r):=by{
refine lZ (O:=fun r=>(Q8 Link.cs r)) h mix Tryz.func41 (by kernel_rfl) rfl (by kernel_rfl) fun r h=>?_
unfold R9 at h
refine Zi ?_
refine rg ?_
refine rg ?_
refine lM Link.cs p0 ?_
refine cS h rfl (fun h=>?_) fun h=>?_
refine rg ?_
cases h
exact PG rfl rfl
refine rg ?_
refine bl ?_
refine Zy h fun f82 mf82 hf82 h=>?_
refine Zu (α:=Nat×Int) (fun a _=>mkS [(0,.row 0 (0,0)),(3,Q5 a.2)] [(0,some ((0,0),.row 42 3 false (Q8 Link.cs p0)))] 2) (fun a=>A4 a.1 f82 a.2=some r) (fun a=>a.1) (mf82,1) 2 h (sR []) (fun a _ h=>?_)
obtain ⟨mf82,x570⟩:=a
obtain ⟨mf82,rfl,h⟩:=Zz hf82 h
dsimp only at h ⊢
refine Zi ?_
refine rg ?_
refine lM Link.cs p0 ?_
refine cS h rfl (fun h=>?_) fun h=>?_
refine bl ?_
refine rg ?_
let ⟨e784,h584,h⟩:=bnd h
refine ZT rfl h584 rfl rfl rfl (Zi ?_)
refine B9 rfl h584 rfl rfl rfl (Zi ?_)
let ⟨e785,h585,h⟩:=bnd h
refine ZT rfl h585 rfl rfl rfl (Zi ?_)
refine B9 rfl h585 rfl rfl rfl (Zi ?_)
refine LF (.inl rfl) rfl rfl rfl rfl rfl (fun W=>p6 e784 e785 W) (Zi ?_)
refine cS h rfl (fun h=>?_) fun h=>?_
refine rg ?_
let ⟨_,h586,h⟩:=bnd h
refine WK rfl h586 rfl rfl rfl (Zi ?_)
refine rg ?_
refine bl ?_
refine Zy h fun f97 mf97 hf97 h=>?_
refine Zu (α:=Nat×(Int×Int×(Q3 Link))) (fun a _=>mkS [(0,.row 0 (0,0)),(3,Q5 a.2.1),(4,.suf 0 (0,0) (x570).toNat 3),(5,Q5 a.2.2.1)] [(0,some ((0,0),.row 42 3 false (Q8 Link.cs a.2.2.2)))] 2) (fun a=>A4 a.1 f97 a.2=some r) (fun a=>a.1) (mf97,x570,1,p0) 2 h (sR []) (fun a _ h=>?_)
obtain ⟨mf97,x830,x831,x832⟩:=a
obtain ⟨mf97,rfl,h⟩:=Zz hf97 h
dsimp only at h ⊢
refine Zi ?_
refine rg ?_
refine lS (M:=x832) (f:=Link.cs) rfl rfl rfl (Zi ?_)
refine cS h rfl (fun h=>?_) fun h=>?_
refine ER h fun k98 hk98 h=>?_
refine DA (α:=Int×(Q3 Link)) (fun a _=>mkS [(0,.row 0 (0,0)),(3,Q5 a.1),(4,.suf 0 (0,0) (x570).toNat 3),(5,Q5 x831)] [(0,some ((0,0),.row 42 3 false (Q8 Link.cs a.2)))] 2) (fun a=>k98 a.1 a.2=some r) (Zi ?_) (fun a _ h=>?_)
refine bl ?_
refine rg ?_
let ⟨e849,h631,h⟩:=bnd h
refine PI rfl h631 rfl rfl rfl (Zi ?_)
refine B9 rfl (NB h631) rfl rfl rfl (Zi ?_)
let ⟨e850,h632,h⟩:=bnd h
refine PI rfl h632 rfl rfl rfl (Zi ?_)
refine B9 rfl (NB h632) rfl rfl rfl (Zi ?_)
refine LF (.inr rfl) rfl rfl rfl rfl rfl (fun W=>p7 e849 e850 W) (Zi ?_)
refine cS h rfl (fun h=>?_) fun h=>?_
refine rg ?_
let ⟨e851,h633,h⟩:=bnd h
refine PI rfl h633 rfl rfl rfl (Zi ?_)
refine B9 rfl (NB h633) rfl rfl rfl (Zi ?_)
let ⟨e852,h634,h⟩:=bnd h
refine ZT rfl h634 rfl rfl rfl (Zi ?_)
refine FM (e':=e851) rfl h634 rfl rfl rfl rfl rfl rfl (Yk rfl) rfl rfl (Zi ?_)
refine rg ?_
exact jn ((w64 (x830+1)),(AQ x832 x830 e851)) h (sR [])
exact jn (x830,x832) h (sR [])
obtain ⟨x847,x848⟩:=a
subst hk98
dsimp only at h ⊢
refine Zi ?_
refine rg ?_
exact rn (mf97,x847,(w64 (x831+1)),x848) h (sR [])
refine rg ?_
let ⟨_,h635,h⟩:=bnd h
refine WK rfl h635 rfl rfl rfl (Zi ?_)
refine lT (M:=x832) (f:=Link.cs) (zr:=(⟨0,(⟨0,(⟨#[]⟩:Q1)⟩:Title)⟩:Link)) rfl rfl rfl rfl rfl (Zi ?_)
refine rg ?_
let ⟨l854,h636,h⟩:=bnd h
refine lW rfl h636 rfl rfl rfl (Zi ?_)
cases h
exact PG rfl rfl
refine rg ?_
exact rn (mf82,(w64 (x570+1))) h (sR [])
refine rg ?_
cases h
exact PG rfl rfl}
def RA (p0:Q1):Q2 ((Q3 Link)×(Q3 Memb)×Int):=(QJ p0).bind fun r1=>if (!decide (r1.2=0)) then some ([],[],r1.2) else (KL 300001 (⟨([]:Q3 Link),([]:Q3 Memb)⟩:Finder) r1.1).bind fun r2=>(Zo 300001 r2 r1.1).bind fun r3=>(LY p0).bind fun r4=>letk (fun (x6:Q3 Link)=>(U4 x6).bind fun r7=>(ZY r3.members).bind fun r8=>(QQ r8).bind fun r9=>(R9 r7).bind fun r10=>(some (r10,r9,0):Q2 ((Q3 Link)×(Q3 Memb)×Int))) fun k1=>if r4.2 then (AA 32 r3.links [(⟨4,r4.1⟩:Link)]).bind fun l11=>k1 l11 else k1 r3.links
theorem rZ (p0:Q1) (r:(Q3 Link)×(Q3 Memb)×Int) (h:RA p0=some r):Zg Q7 11 [.str p0] (.tup [.sl (List.map Link.cs r.1),.sl (List.map Memb.cs r.2.1),.int .i64 r.2.2]):=by{
refine cF (fun r=>.tup [.sl (Q8 Link.cs r.1),.sl (Q8 Memb.cs r.2.1),.int .i64 r.2.2]) h mix Tryz.func11 fun r h=>?_
unfold RA at h
refine Zi ?_
refine rg ?_
refine rg ?_
refine aC h (Zny _) fun r1 h=>?_
refine rg ?_
refine cS h rfl (fun h=>?_) fun h=>?_
refine rg ?_
cases h
exact rQ
refine rg ?_
refine CU (H4 20 3000 0 42 3 rfl rfl rfl) (Zi ?_) (CY _ _)
refine CU (H4 20 3001 1 45 3 rfl rfl rfl) (Zi ?_) (CY _ _)
refine rg ?_
let ⟨r2,h2,h⟩:=bnd h
refine N6 (Zji 300001 _ _ _ h2) rfl rfl rfl rfl rfl rfl rfl rfl (Zi ?_)
refine rg ?_
let ⟨r3,h3,h⟩:=bnd h
refine N6 (Zgd 300001 _ _ _ h3) rfl rfl rfl rfl rfl rfl rfl rfl (Zi ?_)
refine rg ?_
refine aC h (nJ _) fun r4 h=>?_
refine rg ?_
refine jL h (fun x6=>mkS [(7,.ptr 20 (1,20) 0)] [(20,some ((1,20),.box [.row 3000 (1,3000),.row 3001 (1,3001)])),(3000,some ((1,3000),.row 42 3 false (Q8 Link.cs x6))),(3001,some ((1,3001),.row 45 3 false (Q8 Memb.cs r3.members)))] 2) (fun k1 h=>?_) fun x6 h=>?_
refine cS h rfl (fun h=>?_) fun h=>?_
refine rg ?_
refine CR (M:=([(⟨4,r4.1⟩:Link)]:Q3 Link)) (f:=Link.cs) rfl rfl rfl rfl (Yk rfl) rfl (Zi ?_)
refine pR Link.cs h fun l11 h=>?_
exact jn l11 h (sR [(20,4,1),(3000,11,8),(3001,8,2000002)])
exact jn r3.links h (sR [(20,4,1),(3000,8,1000002),(3001,8,2000002)])
refine rg ?_
let ⟨r7,h6,h⟩:=bnd h
refine GO (ZgS _ _ h6) rfl rfl rfl rfl rfl (Zi ?_)
refine rg ?_
let ⟨r8,h7,h⟩:=bnd h
refine GO (Zdl _ _ h7) rfl rfl rfl rfl rfl (Zi ?_)
refine rg ?_
let ⟨r9,h8,h⟩:=bnd h
refine lQ (ZdW _ _ h8) rfl rfl rfl rfl (Zi ?_)
refine rg ?_
let ⟨r10,h9,h⟩:=bnd h
refine lQ (Zg9 _ _ h9) rfl rfl rfl rfl (Zi ?_)
cases h
exact rQ}
end
end Go.Proofs.YtmgfammllddkhaaGreatDoor
