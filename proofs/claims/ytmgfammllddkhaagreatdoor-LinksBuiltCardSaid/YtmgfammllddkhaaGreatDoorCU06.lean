/- Functions of -/
import Derived.Test.YtmgfammllddkhaaGreatDoorCU05
set_option linter.unusedSimpArgs false
set_option linter.unusedVariables false
set_option maxHeartbeats 4000000
set_option maxRecDepth 100000
namespace Go.Proofs.YtmgfammllddkhaaGreatDoor
section
open VL
def LO (p0:Q1) (p1:Q1) (p2:Int):Q2 Int:=A4 A9 (fun f2 (x10:Int)=>if decide ((w64 (x10+(p1.size:Int)))<=(p0.size:Int)) then (AJ p0 x10 (w64 (x10+(p1.size:Int)))).bind fun l14=>if decide (l14=p1) then some x10 else f2 (w64 (x10+1)) else some (-1)) p2
theorem WP (p0:Q1) (p1:Q1) (p2:Int) (r:Int) (h:LO p0 p1 p2=some r):Zg Q7 93 [.str p0,.str p1,.int .i64 p2] (.int .i64 r):=by{
refine cF (fun r=>.int .i64 r) h mix Tryz.func93 fun r h=>?_
unfold LO at h
refine Zi ?_
refine rg ?_
refine rg ?_
refine bl ?_
refine Zy h fun f2 mf2 hf2 h=>?_
refine Zu (α:=Nat×Int) (fun a _=>mkS [(0,.str p0),(1,.str p1),(7,Q5 a.2)] [] 2) (fun a=>A4 a.1 f2 a.2=some r) (fun a=>a.1) (mf2,p2) 2 h (sR []) (fun a _ h=>?_)
obtain ⟨mf2,x10⟩:=a
obtain ⟨mf2,rfl,h⟩:=Zz hf2 h
dsimp only at h ⊢
refine Zi ?_
refine rg ?_
refine cS h rfl (fun h=>?_) fun h=>?_
refine bl ?_
refine rg ?_
refine sS h fun l14 h=>?_
refine cS h rfl (fun h=>?_) fun h=>?_
refine rg ?_
cases h
exact rQ
refine rg ?_
exact rn (mf2,(w64 (x10+1))) h (sR [])
refine rg ?_
cases h
exact rQ}
def TA (p0:Q1):Q2 Q1:=A4 A9 (fun f27 ((x55,x56):Q1×Int)=>if decide (x56<(p0.size:Int)) then letk (fun (x76:Q1)=>f27 (x76,(w64 (x56+1)))) fun k30=>(AJ p0 x56 (w64 (x56+1))).bind fun l77=>letk (fun (x78:Q1)=>letk (fun (x80:Bool)=>if x80 then k30 x55 else (A7 x55 x78).bind fun s81=>k30 s81) fun k32=>if decide (x78=(⟨#[32]⟩:Q1)) then if decide (x55=(⟨#[]⟩:Q1)) then k32 true else (atS x55 (w64 ((x55.size:Int)-1))).bind fun c82=>k32 (decide (c82=32)) else k32 false) fun k31=>if decide (l77=(⟨#[95]⟩:Q1)) then k31 ⟨#[32]⟩ else k31 l77 else letk (fun (x84:Bool)=>letk (fun (x86:Q1)=>some x86) fun k34=>if x84 then (AJ x55 0 (w64 ((x55.size:Int)-1))).bind fun l87=>k34 l87 else k34 x55) fun k33=>if decide (0<(x55.size:Int)) then (atS x55 (w64 ((x55.size:Int)-1))).bind fun c88=>k33 (decide (c88=32)) else k33 false) ((⟨#[]⟩:Q1),0)
theorem ZpN (p0:Q1) (r:Q1) (h:TA p0=some r):Zg Q7 90 [.str p0] (.str r):=by{
refine cF (fun r=>.str r) h mix Tryz.func90 fun r h=>?_
unfold TA at h
refine Zi ?_
refine rg ?_
refine rg ?_
refine rg ?_
refine bl ?_
refine Zy h fun f27 mf27 hf27 h=>?_
refine Zu (α:=Nat×(Q1×Int)) (fun a _=>mkS [(0,.str p0),(3,.str a.2.1),(4,Q5 a.2.2)] [] 2) (fun a=>A4 a.1 f27 a.2=some r) (fun a=>a.1) (mf27,⟨#[]⟩,0) 2 h (sR []) (fun a _ h=>?_)
obtain ⟨mf27,x55,x56⟩:=a
obtain ⟨mf27,rfl,h⟩:=Zz hf27 h
dsimp only at h ⊢
refine Zi ?_
refine rg ?_
refine cS h rfl (fun h=>?_) fun h=>?_
refine jL h (fun x76=>mkS [(0,.str p0),(3,.str x76),(4,Q5 x56)] [] 2) (fun k30 h=>?_) fun x76 h=>?_
refine bl ?_
refine rg ?_
refine sS h fun l77 h=>?_
refine rg ?_
refine jL h (fun x78=>mkS [(0,.str p0),(3,.str x55),(4,Q5 x56),(5,.str x78)] [] 2) (fun k31 h=>?_) fun x78 h=>?_
refine cS h rfl (fun h=>?_) fun h=>?_
refine rg ?_
exact jn ⟨#[32]⟩ h (sR [])
exact jn l77 h (sR [])
refine jL h (fun x80=>mkS [(0,.str p0),(3,.str x55),(4,Q5 x56),(5,.str x78),(32,.bool x80)] [] 2) (fun k32 h=>?_) fun x80 h=>?_
refine rg ?_
refine kS 21 h rfl (fun h=>?_) fun h=>?_
refine kS 24 h rfl (fun h=>?_) fun h=>?_
iterate 6 refine Zw rfl (Zi ?_)
exact jn true h (sR [])
refine aS h fun c82 h=>?_
exact jn (decide (c82=32)) h (sR [])
iterate 10 refine Zw rfl (Zi ?_)
exact jn false h (sR [])
refine cS h rfl (fun h=>?_) fun h=>?_
exact jn x55 h (sR [])
refine rg ?_
refine sT h fun s81 h=>?_
exact jn s81 h (sR [])
refine rg ?_
exact rn (mf27,x76,(w64 (x56+1))) h (sR [])
refine jL h (fun x84=>mkS [(3,.str x55),(46,.bool x84)] [] 2) (fun k33 h=>?_) fun x84 h=>?_
refine rg ?_
refine kS 39 h rfl (fun h=>?_) fun h=>?_
refine aS h fun c88 h=>?_
exact jn (decide (c88=32)) h (sR [])
iterate 6 refine Zw rfl (Zi ?_)
exact jn false h (sR [])
refine jL h (fun x86=>mkS [(3,.str x86)] [] 2) (fun k34 h=>?_) fun x86 h=>?_
refine cS h rfl (fun h=>?_) fun h=>?_
refine rg ?_
refine sS h fun l87 h=>?_
exact jn l87 h (sR [])
exact jn x55 h (sR [])
refine rg ?_
cases h
exact rQ}
def NC (p0:Q1) (p1:Int):Q2 Q1:=(AJ p0 p1 (p0.size:Int)).bind fun l1=>letk (fun (x3:Bool)=>letk (fun (x5:Q1)=>some x5) fun k2=>if x3 then (AJ l1 1 (l1.size:Int)).bind fun l6=>k2 l6 else k2 l1) fun k1=>if decide (0<(l1.size:Int)) then (atS l1 0).bind fun c7=>k1 (decide (c7=32)) else k1 false
theorem m4 (p0:Q1) (p1:Int) (r:Q1) (h:NC p0 p1=some r):Zg Q7 91 [.str p0,.int .i64 p1] (.str r):=by{
refine cF (fun r=>.str r) h mix Tryz.func91 fun r h=>?_
unfold NC at h
refine Zi ?_
refine rg ?_
refine rg ?_
refine sS h fun l1 h=>?_
refine jL h (fun x3=>mkS [(0,.str l1),(15,.bool x3)] [] 2) (fun k1 h=>?_) fun x3 h=>?_
refine rg ?_
refine kS 11 h rfl (fun h=>?_) fun h=>?_
refine aS h fun c7 h=>?_
exact jn (decide (c7=32)) h (sR [])
iterate 3 refine Zw rfl (Zi ?_)
exact jn false h (sR [])
refine jL h (fun x5=>mkS [(0,.str x5)] [] 2) (fun k2 h=>?_) fun x5 h=>?_
refine cS h rfl (fun h=>?_) fun h=>?_
refine rg ?_
refine sS h fun l6 h=>?_
exact jn l6 h (sR [])
exact jn l1 h (sR [])
refine rg ?_
cases h
exact rQ}
def J8 (p0:Q1):Q2 (Title×Int):=(TA p0).bind fun r1=>letk (fun (x3:Bool)=>letk (fun (x5:Q1)=>(WO x5).bind fun r6=>letk (fun (x8:Q1)=>A4 A9 (fun f20 ((x87,x88):Q1×Int)=>if decide (x88<(x8.size:Int)) then letk (fun (x123:Q1)=>f20 (x123,(w64 (x88+1)))) fun k22=>letk (fun (x128:Bool)=>if x128 then k22 x87 else (AJ x8 x88 (w64 (x88+1))).bind fun l129=>(A7 x87 l129).bind fun s130=>k22 s130) fun k23=>(atS x8 x88).bind fun c131=>if decide (c131=32) then if decide (0<x88) then (atS x8 (w64 (x88-1))).bind fun c132=>if decide (c132=47) then k23 true else if decide ((w64 (x88+1))<(x8.size:Int)) then (atS x8 (w64 (x88+1))).bind fun c133=>k23 (decide (c133=47)) else k23 false else if decide ((w64 (x88+1))<(x8.size:Int)) then (atS x8 (w64 (x88+1))).bind fun c134=>k23 (decide (c134=47)) else k23 false else k23 false else letk (fun (x137:Bool)=>letk (fun (x141:Q1)=>if decide (100<(x141.size:Int)) then (some ((⟨0,(⟨#[]⟩:Q1)⟩:Title),3):Q2 (Title×Int)) else (d8 (⟨r6.1,x141⟩:Title)).bind fun r142=>if (!r142) then (some ((⟨0,(⟨#[]⟩:Q1)⟩:Title),1):Q2 (Title×Int)) else (some ((⟨r6.1,x141⟩:Title),0):Q2 (Title×Int))) fun k25=>if x137 then (atS x87 0).bind fun c143=>(AJ x87 1 (x87.size:Int)).bind fun l144=>(A7 (strOfNums [(IntKind.wrap .u8 (c143-32))]) l144).bind fun s145=>k25 s145 else k25 x87) fun k24=>if decide (0<(x87.size:Int)) then (atS x87 0).bind fun c146=>if decide (97<=c146) then (atS x87 0).bind fun c147=>k24 (decide (c147<=122)) else k24 false else k24 false) ((⟨#[]⟩:Q1),0)) fun k3=>if decide (0<r6.1) then (NC x5 (w64 (r6.2+1))).bind fun r148=>k3 r148 else k3 x5) fun k2=>if x3 then (NC r1 1).bind fun r149=>k2 r149 else k2 r1) fun k1=>if decide (0<(r1.size:Int)) then (atS r1 0).bind fun c150=>k1 (decide (c150=58)) else k1 false
theorem dF (p0:Q1) (r:Title×Int) (h:J8 p0=some r):Zg Q7 53 [.str p0] (.tup [r.1.pv,.int .i64 r.2]):=by{
refine cF (fun r=>.tup [r.1.pv,.int .i64 r.2]) h mix Tryz.func53 fun r h=>?_
unfold J8 at h
refine Zi ?_
refine rg ?_
refine rg ?_
refine aC h (ZpN _) fun r1 h=>?_
refine jL h (fun x3=>mkS [(0,.str r1),(2,.ptr 2 (1,2) 0),(18,.bool x3)] [(2,some ((1,2),.box [Q5 0,.str ⟨#[]⟩]))] 2) (fun k1 h=>?_) fun x3 h=>?_
refine rg ?_
refine kS 14 h rfl (fun h=>?_) fun h=>?_
refine aS h fun c150 h=>?_
exact jn (decide (c150=58)) h (sR [(2,1,0)])
iterate 3 refine Zw rfl (Zi ?_)
exact jn false h (sR [(2,1,0)])
refine jL h (fun x5=>mkS [(0,.str x5),(2,.ptr 2 (1,2) 0)] [(2,some ((1,2),.box [Q5 0,.str ⟨#[]⟩]))] 2) (fun k2 h=>?_) fun x5 h=>?_
refine cS h rfl (fun h=>?_) fun h=>?_
refine rg ?_
refine aC h (m4 _ _) fun r149 h=>?_
exact jn r149 h (sR [(2,1,2)])
exact jn r1 h (sR [(2,1,2)])
refine rg ?_
refine aC h (Zns _) fun r6 h=>?_
refine rg ?_
refine jL h (fun x8=>mkS [(0,.str x8),(2,.ptr 2 (1,2) 0),(4,Q5 r6.1)] [(2,some ((1,2),.box [Q5 0,.str ⟨#[]⟩]))] 2) (fun k3 h=>?_) fun x8 h=>?_
refine cS h rfl (fun h=>?_) fun h=>?_
refine rg ?_
refine aC h (m4 _ _) fun r148 h=>?_
exact jn r148 h (sR [(2,1,2)])
exact jn x5 h (sR [(2,1,2)])
refine rg ?_
refine rg ?_
refine bl ?_
refine Zy h fun f20 mf20 hf20 h=>?_
refine Zu (α:=Nat×(Q1×Int)) (fun a _=>mkS [(0,.str x8),(2,.ptr 2 (1,2) 0),(4,Q5 r6.1),(6,.str a.2.1),(7,Q5 a.2.2)] [(2,some ((1,2),.box [Q5 0,.str ⟨#[]⟩]))] 2) (fun a=>A4 a.1 f20 a.2=some r) (fun a=>a.1) (mf20,⟨#[]⟩,0) 2 h (sR [(2,1,2)]) (fun a _ h=>?_)
obtain ⟨mf20,x87,x88⟩:=a
obtain ⟨mf20,rfl,h⟩:=Zz hf20 h
dsimp only at h ⊢
refine Zi ?_
refine rg ?_
refine cS h rfl (fun h=>?_) fun h=>?_
refine jL h (fun x123=>mkS [(0,.str x8),(2,.ptr 2 (1,2) 0),(4,Q5 r6.1),(6,.str x123),(7,Q5 x88)] [(2,some ((1,2),.box [Q5 0,.str ⟨#[]⟩]))] 2) (fun k22 h=>?_) fun x123 h=>?_
refine bl ?_
refine jL h (fun x128=>mkS [(0,.str x8),(2,.ptr 2 (1,2) 0),(4,Q5 r6.1),(6,.str x87),(7,Q5 x88),(66,.bool x128)] [(2,some ((1,2),.box [Q5 0,.str ⟨#[]⟩]))] 2) (fun k23 h=>?_) fun x128 h=>?_
refine rg ?_
refine aS h fun c131 h=>?_
refine kS 42 h rfl (fun h=>?_) fun h=>?_
refine kS 45 h rfl (fun h=>?_) fun h=>?_
refine aS h fun c132 h=>?_
refine kS 52 h rfl (fun h=>?_) fun h=>?_
iterate 12 refine Zw rfl (Zi ?_)
exact jn true h (sR [(2,1,2)])
refine kS 58 h rfl (fun h=>?_) fun h=>?_
refine aS h fun c133 h=>?_
exact jn (decide (c133=47)) h (sR [(2,1,2)])
iterate 5 refine Zw rfl (Zi ?_)
exact jn false h (sR [(2,1,2)])
iterate 5 refine Zw rfl (Zi ?_)
refine kS 58 h rfl (fun h=>?_) fun h=>?_
refine aS h fun c134 h=>?_
exact jn (decide (c134=47)) h (sR [(2,1,2)])
iterate 5 refine Zw rfl (Zi ?_)
exact jn false h (sR [(2,1,2)])
iterate 23 refine Zw rfl (Zi ?_)
exact jn false h (sR [(2,1,2)])
refine cS h rfl (fun h=>?_) fun h=>?_
exact jn x87 h (sR [(2,1,2)])
refine rg ?_
refine sS h fun l129 h=>?_
refine sT h fun s130 h=>?_
exact jn s130 h (sR [(2,1,2)])
refine rg ?_
exact rn (mf20,x123,(w64 (x88+1))) h (sR [(2,1,2)])
refine jL h (fun x137=>mkS [(2,.ptr 2 (1,2) 0),(4,Q5 r6.1),(6,.str x87),(86,.bool x137)] [(2,some ((1,2),.box [Q5 0,.str ⟨#[]⟩]))] 2) (fun k24 h=>?_) fun x137 h=>?_
refine rg ?_
refine kS 77 h rfl (fun h=>?_) fun h=>?_
refine aS h fun c146 h=>?_
refine kS 82 h rfl (fun h=>?_) fun h=>?_
refine aS h fun c147 h=>?_
exact jn (decide (c147<=122)) h (sR [(2,1,2)])
iterate 3 refine Zw rfl (Zi ?_)
exact jn false h (sR [(2,1,2)])
iterate 6 refine Zw rfl (Zi ?_)
exact jn false h (sR [(2,1,2)])
refine jL h (fun x141=>mkS [(2,.ptr 2 (1,2) 0),(4,Q5 r6.1),(6,.str x141)] [(2,some ((1,2),.box [Q5 0,.str ⟨#[]⟩]))] 2) (fun k25 h=>?_) fun x141 h=>?_
refine cS h rfl (fun h=>?_) fun h=>?_
refine rg ?_
refine aS h fun c143 h=>?_
refine bM csB ([(IntKind.wrap .u8 (c143-32))]:Q3 Int) ?_
refine cK (l:=[(IntKind.wrap .u8 (c143-32))]) rfl rfl (Zi ?_)
refine sS h fun l144 h=>?_
refine sT h fun s145 h=>?_
exact jn s145 h (sR [(2,1,2)])
exact jn x87 h (sR [(2,1,2)])
refine rg ?_
refine cS h rfl (fun h=>?_) fun h=>?_
refine rg ?_
cases h
exact rQ
refine rg ?_
refine rg ?_
refine aC h (Zsi _) fun r142 h=>?_
refine cS h rfl (fun h=>?_) fun h=>?_
refine rg ?_
cases h
exact rQ
refine rg ?_
cases h
exact rQ}
def PK (p0:Q1) (p1:Bool):Q2 Int:=A4 A9 (fun f7 (x30:Int)=>letk (fun (x41:Bool)=>if x41 then f7 (w64 (x30+1)) else some x30) fun k8=>if decide (x30<(p0.size:Int)) then (atS p0 x30).bind fun c42=>if decide (c42=32) then k8 true else (atS p0 x30).bind fun c43=>if decide (c43=95) then k8 true else if p1 then (atS p0 x30).bind fun c44=>k8 (decide (c44=9)) else k8 false else k8 false) 0
theorem Ztn (p0:Q1) (p1:Bool) (r:Int) (h:PK p0 p1=some r):Zg Q7 146 [.str p0,.bool p1] (.int .i64 r):=by{
refine cF (fun r=>.int .i64 r) h mix Tryz.func146 fun r h=>?_
unfold PK at h
refine Zi ?_
refine rg ?_
refine rg ?_
refine bl ?_
refine Zy h fun f7 mf7 hf7 h=>?_
refine Zu (α:=Nat×Int) (fun a _=>mkS [(0,.str p0),(1,.bool p1),(5,Q5 a.2)] [] 2) (fun a=>A4 a.1 f7 a.2=some r) (fun a=>a.1) (mf7,0) 2 h (sR []) (fun a _ h=>?_)
obtain ⟨mf7,x30⟩:=a
obtain ⟨mf7,rfl,h⟩:=Zz hf7 h
dsimp only at h ⊢
refine Zi ?_
refine jL h (fun x41=>mkS [(0,.str p0),(1,.bool p1),(5,Q5 x30),(30,.bool x41)] [] 2) (fun k8 h=>?_) fun x41 h=>?_
refine rg ?_
refine kS 10 h rfl (fun h=>?_) fun h=>?_
refine aS h fun c42 h=>?_
refine kS 15 h rfl (fun h=>?_) fun h=>?_
iterate 11 refine Zw rfl (Zi ?_)
exact jn true h (sR [])
refine aS h fun c43 h=>?_
refine kS 21 h rfl (fun h=>?_) fun h=>?_
iterate 7 refine Zw rfl (Zi ?_)
exact jn true h (sR [])
refine kS 23 h rfl (fun h=>?_) fun h=>?_
refine aS h fun c44 h=>?_
exact jn (decide (c44=9)) h (sR [])
iterate 4 refine Zw rfl (Zi ?_)
exact jn false h (sR [])
iterate 19 refine Zw rfl (Zi ?_)
exact jn false h (sR [])
refine cS h rfl (fun h=>?_) fun h=>?_
refine bl ?_
refine rg ?_
exact rn (mf7,(w64 (x30+1))) h (sR [])
refine rg ?_
cases h
exact rQ}
def BE (p0:Q1) (p1:Int) (p2:Q1):Q2 Bool:=letk (fun (x2:Bool)=>some x2) fun k1=>if decide (0<=p1) then if decide (p1<=(p0.size:Int)) then if decide ((p2.size:Int)<=(w64 ((p0.size:Int)-p1))) then (AJ p0 p1 (w64 (p1+(p2.size:Int)))).bind fun l3=>k1 (decide (l3=p2)) else k1 false else k1 false else k1 false
theorem EU (p0:Q1) (p1:Int) (p2:Q1) (r:Bool) (h:BE p0 p1 p2=some r):Zg Q7 51 [.str p0,.int .i64 p1,.str p2] (.bool r):=by{
refine cF (fun r=>.bool r) h mix Tryz.func51 fun r h=>?_
unfold BE at h
refine Zi ?_
refine rg ?_
refine jL h (fun x2=>mkS [(6,.bool x2)] [] 2) (fun k1 h=>?_) fun x2 h=>?_
refine rg ?_
refine kS 9 h rfl (fun h=>?_) fun h=>?_
refine kS 15 h rfl (fun h=>?_) fun h=>?_
refine kS 24 h rfl (fun h=>?_) fun h=>?_
refine sS h fun l3 h=>?_
exact jn (decide (l3=p2)) h (sR [])
iterate 9 refine Zw rfl (Zi ?_)
exact jn false h (sR [])
iterate 16 refine Zw rfl (Zi ?_)
exact jn false h (sR [])
iterate 20 refine Zw rfl (Zi ?_)
exact jn false h (sR [])
cases h
exact rQ}
def EB (p0:Int) (p1:Bool):Q2 Q1:=letk (fun (x1:Bool)=>if x1 then (some (⟨#[]⟩:Q1):Q2 Q1) else if p1 then (atI [⟨#[]⟩,⟨#[110,111,105,110,99,108,117,100,101,62]⟩,⟨#[105,110,99,108,117,100,101,111,110,108,121,62]⟩,⟨#[111,110,108,121,105,110,99,108,117,100,101,62]⟩] p0).bind fun e4=>(A7 ⟨#[60,47]⟩ e4).bind fun s5=>some s5 else (atI [⟨#[]⟩,⟨#[110,111,105,110,99,108,117,100,101,62]⟩,⟨#[105,110,99,108,117,100,101,111,110,108,121,62]⟩,⟨#[111,110,108,121,105,110,99,108,117,100,101,62]⟩] p0).bind fun e6=>(A7 ⟨#[60]⟩ e6).bind fun s7=>some s7) fun k1=>if decide (p0<1) then k1 true else k1 (decide (3<p0))
theorem PL (p0:Int) (p1:Bool) (r:Q1) (h:EB p0 p1=some r):Zg Q7 185 [.int .i64 p0,.bool p1] (.str r):=by{
refine cF (fun r=>.str r) h mix Tryz.func185 fun r h=>?_
unfold EB at h
refine Zi ?_
refine rg ?_
refine rg ?_
refine bM csS ([⟨#[]⟩,⟨#[110,111,105,110,99,108,117,100,101,62]⟩,⟨#[105,110,99,108,117,100,101,111,110,108,121,62]⟩,⟨#[111,110,108,121,105,110,99,108,117,100,101,62]⟩]:Q3 Q1) ?_
refine jL h (fun x1=>mkS [(0,Q5 p0),(1,.bool p1),(5,.row 6 (1,6)),(12,.bool x1)] [(6,some ((1,6),.row 9 1 false (Q8 csS [⟨#[]⟩,⟨#[110,111,105,110,99,108,117,100,101,62]⟩,⟨#[105,110,99,108,117,100,101,111,110,108,121,62]⟩,⟨#[111,110,108,121,105,110,99,108,117,100,101,62]⟩])))] 2) (fun k1 h=>?_) fun x1 h=>?_
refine rg ?_
refine kS 9 h rfl (fun h=>?_) fun h=>?_
iterate 2 refine Zw rfl (Zi ?_)
exact jn true h (sR [(6,2,0)])
exact jn (decide (3<p0)) h (sR [(6,2,0)])
refine cS h rfl (fun h=>?_) fun h=>?_
refine rg ?_
cases h
exact rQ
refine rg ?_
refine cS h rfl (fun h=>?_) fun h=>?_
refine rg ?_
let ⟨e4,h3,h⟩:=bnd h
refine ZT rfl h3 rfl rfl rfl (Zi ?_)
refine B9 rfl h3 rfl rfl rfl (Zi ?_)
refine sT h fun s5 h=>?_
cases h
exact rQ
refine rg ?_
let ⟨e6,h5,h⟩:=bnd h
refine ZT rfl h5 rfl rfl rfl (Zi ?_)
refine B9 rfl h5 rfl rfl rfl (Zi ?_)
refine sT h fun s7 h=>?_
cases h
exact rQ}
def K7 (p0:Q1) (p1:Int) (p2:Int):Q2 Int:=A4 A9 (fun f7 (x14:Int)=>letk (fun (x19:Bool)=>if x19 then f7 (w64 (x14+1)) else some x14) fun k8=>if decide (x14<(p0.size:Int)) then (atS p0 x14).bind fun c20=>k8 (decide (c20=p2)) else k8 false) p1
theorem m5 (p0:Q1) (p1:Int) (p2:Int) (r:Int) (h:K7 p0 p1 p2=some r):Zg Q7 186 [.str p0,.int .i64 p1,.int .u8 p2] (.int .i64 r):=by{
refine cF (fun r=>.int .i64 r) h mix Tryz.func186 fun r h=>?_
unfold K7 at h
refine Zi ?_
refine rg ?_
refine bl ?_
refine Zy h fun f7 mf7 hf7 h=>?_
refine Zu (α:=Nat×Int) (fun a _=>mkS [(0,.str p0),(1,Q5 a.2),(2,.int .u8 p2)] [] 2) (fun a=>A4 a.1 f7 a.2=some r) (fun a=>a.1) (mf7,p1) 2 h (sR []) (fun a _ h=>?_)
obtain ⟨mf7,x14⟩:=a
obtain ⟨mf7,rfl,h⟩:=Zz hf7 h
dsimp only at h ⊢
refine Zi ?_
refine jL h (fun x19=>mkS [(0,.str p0),(1,Q5 x14),(2,.int .u8 p2),(17,.bool x19)] [] 2) (fun k8 h=>?_) fun x19 h=>?_
refine rg ?_
refine kS 11 h rfl (fun h=>?_) fun h=>?_
refine aS h fun c20 h=>?_
exact jn (decide (c20=p2)) h (sR [])
iterate 5 refine Zw rfl (Zi ?_)
exact jn false h (sR [])
refine cS h rfl (fun h=>?_) fun h=>?_
refine bl ?_
refine rg ?_
exact rn (mf7,(w64 (x14+1))) h (sR [])
refine rg ?_
cases h
exact rQ}
def TB (p0:Q1) (p1:Int):Q2 (Int×Int):=(BE p0 p1 ⟨#[60,33,45,45]⟩).bind fun r1=>if r1 then (LO p0 ⟨#[45,45,62]⟩ (w64 (p1+4))).bind fun r3=>if decide (0<=r3) then some (9,(w64 (r3+3))) else some (9,(p0.size:Int)) else (BE p0 p1 ⟨#[60,110,111,119,105,107,105,62]⟩).bind fun r4=>letk (fun (_:Unit)=>A4 A9 (fun f3 (x39:Int)=>if decide (x39<=3) then (EB x39 false).bind fun r52=>(BE p0 p1 r52).bind fun r53=>if r53 then (some (11,(w64 (p1+(r52.size:Int)))):Q2 (Int×Int)) else (EB x39 true).bind fun r54=>(BE p0 p1 r54).bind fun r55=>if r55 then (some (12,(w64 (p1+(r54.size:Int)))):Q2 (Int×Int)) else f3 (w64 (x39+1)) else (BE p0 p1 ⟨#[123,123]⟩).bind fun r65=>if r65 then (K7 p0 p1 123).bind fun r66=>(some (3,r66):Q2 (Int×Int)) else (BE p0 p1 ⟨#[125,125]⟩).bind fun r67=>if r67 then (K7 p0 p1 125).bind fun r68=>(some (4,r68):Q2 (Int×Int)) else (BE p0 p1 ⟨#[91,91]⟩).bind fun r69=>if r69 then (some (5,(w64 (p1+2))):Q2 (Int×Int)) else (BE p0 p1 ⟨#[93,93]⟩).bind fun r70=>if r70 then (some (6,(w64 (p1+2))):Q2 (Int×Int)) else (BE p0 p1 ⟨#[124]⟩).bind fun r71=>if r71 then (some (7,(w64 (p1+1))):Q2 (Int×Int)) else (BE p0 p1 ⟨#[61]⟩).bind fun r72=>if r72 then (some (8,(w64 (p1+1))):Q2 (Int×Int)) else (BE p0 p1 ⟨#[10]⟩).bind fun r73=>if r73 then (some (2,(w64 (p1+1))):Q2 (Int×Int)) else (some (0,0):Q2 (Int×Int))) 1) fun k1=>if r4 then (LO p0 ⟨#[60,47,110,111,119,105,107,105,62]⟩ (w64 (p1+8))).bind fun r74=>if decide (0<=r74) then some (10,(w64 (r74+9))) else k1 () else k1 ()
theorem Zos (p0:Q1) (p1:Int) (r:Int×Int) (h:TB p0 p1=some r):Zg Q7 132 [.str p0,.int .i64 p1] (.tup [.int .i64 r.1,.int .i64 r.2]):=by{
refine cF (fun r=>.tup [.int .i64 r.1,.int .i64 r.2]) h mix Tryz.func132 fun r h=>?_
unfold TB at h
refine Zi ?_
refine rg ?_
refine rg ?_
refine aC h (EU _ _ _) fun r1 h=>?_
refine cS h rfl (fun h=>?_) fun h=>?_
refine rg ?_
refine aC h (WP _ _ _) fun r3 h=>?_
refine rg ?_
refine cS h rfl (fun h=>?_) fun h=>?_
refine rg ?_
cases h
exact rQ
refine rg ?_
cases h
exact rQ
refine rg ?_
refine aC h (EU _ _ _) fun r4 h=>?_
refine ER h fun k1 hk1 h=>?_
refine DA (α:=Unit) (fun _ _=>mkS [(0,.str p0),(1,Q5 p1)] [] 2) (fun _=>k1 ()=some r) (Zi ?_) (fun a _ h=>?_)
refine cS h rfl (fun h=>?_) fun h=>?_
refine rg ?_
refine aC h (WP _ _ _) fun r74 h=>?_
refine rg ?_
refine cS h rfl (fun h=>?_) fun h=>?_
refine rg ?_
cases h
exact rQ
exact jn () h (sR [])
exact jn () h (sR [])
subst hk1
dsimp only at h ⊢
refine Zi ?_
refine rg ?_
refine bl ?_
refine Zy h fun f3 mf3 hf3 h=>?_
refine Zu (α:=Nat×Int) (fun a _=>mkS [(0,.str p0),(1,Q5 p1),(8,Q5 a.2)] [] 2) (fun a=>A4 a.1 f3 a.2=some r) (fun a=>a.1) (mf3,1) 2 h (sR []) (fun a _ h=>?_)
obtain ⟨mf3,x39⟩:=a
obtain ⟨mf3,rfl,h⟩:=Zz hf3 h
dsimp only at h ⊢
refine Zi ?_
refine rg ?_
refine cS h rfl (fun h=>?_) fun h=>?_
refine bl ?_
refine rg ?_
refine aC h (PL _ _) fun r52 h=>?_
refine rg ?_
refine aC h (EU _ _ _) fun r53 h=>?_
refine cS h rfl (fun h=>?_) fun h=>?_
refine rg ?_
cases h
exact rQ
refine rg ?_
refine aC h (PL _ _) fun r54 h=>?_
refine rg ?_
refine aC h (EU _ _ _) fun r55 h=>?_
refine cS h rfl (fun h=>?_) fun h=>?_
refine rg ?_
cases h
exact rQ
refine rg ?_
exact rn (mf3,(w64 (x39+1))) h (sR [])
refine bl ?_
refine rg ?_
refine aC h (EU _ _ _) fun r65 h=>?_
refine cS h rfl (fun h=>?_) fun h=>?_
refine rg ?_
refine aC h (m5 _ _ _) fun r66 h=>?_
cases h
exact rQ
refine rg ?_
refine aC h (EU _ _ _) fun r67 h=>?_
refine cS h rfl (fun h=>?_) fun h=>?_
refine rg ?_
refine aC h (m5 _ _ _) fun r68 h=>?_
cases h
exact rQ
refine rg ?_
refine aC h (EU _ _ _) fun r69 h=>?_
refine cS h rfl (fun h=>?_) fun h=>?_
refine rg ?_
cases h
exact rQ
refine rg ?_
refine aC h (EU _ _ _) fun r70 h=>?_
refine cS h rfl (fun h=>?_) fun h=>?_
refine rg ?_
cases h
exact rQ
refine rg ?_
refine aC h (EU _ _ _) fun r71 h=>?_
refine cS h rfl (fun h=>?_) fun h=>?_
refine rg ?_
cases h
exact rQ
refine rg ?_
refine aC h (EU _ _ _) fun r72 h=>?_
refine cS h rfl (fun h=>?_) fun h=>?_
refine rg ?_
cases h
exact rQ
refine rg ?_
refine aC h (EU _ _ _) fun r73 h=>?_
refine cS h rfl (fun h=>?_) fun h=>?_
refine rg ?_
cases h
exact rQ
refine rg ?_
cases h
exact rQ}
def PM (p0:Int):Q2 Bool:=letk (fun (x1:Bool)=>some x1) fun k1=>if decide (p0=9) then k1 true else if decide (p0=10) then k1 true else if decide (p0=13) then k1 true else k1 (decide (p0=32))
theorem m6 (p0:Int) (r:Bool) (h:PM p0=some r):Zg Q7 190 [.int .u8 p0] (.bool r):=by{
refine cF (fun r=>.bool r) h mix Tryz.func190 fun r h=>?_
unfold PM at h
refine Zi ?_
refine rg ?_
refine jL h (fun x1=>mkS [(2,.bool x1)] [] 2) (fun k1 h=>?_) fun x1 h=>?_
refine rg ?_
refine kS 5 h rfl (fun h=>?_) fun h=>?_
iterate 6 refine Zw rfl (Zi ?_)
exact jn true h (sR [])
refine kS 9 h rfl (fun h=>?_) fun h=>?_
iterate 4 refine Zw rfl (Zi ?_)
exact jn true h (sR [])
refine kS 13 h rfl (fun h=>?_) fun h=>?_
iterate 2 refine Zw rfl (Zi ?_)
exact jn true h (sR [])
exact jn (decide (p0=32)) h (sR [])
cases h
exact rQ}
def PN (p0:Q1):Q2 Q1:=A4 A9 (fun f7 (x26:Q1)=>letk (fun (x35:Bool)=>if x35 then (AJ x26 1 (x26.size:Int)).bind fun l36=>f7 l36 else A4 A9 (fun f15 (x62:Q1)=>letk (fun (x71:Bool)=>if x71 then (AJ x62 0 (w64 ((x62.size:Int)-1))).bind fun l72=>f15 l72 else some x62) fun k16=>if decide (0<(x62.size:Int)) then (atS x62 (w64 ((x62.size:Int)-1))).bind fun c73=>(PM c73).bind fun r74=>k16 r74 else k16 false) x26) fun k8=>if decide (0<(x26.size:Int)) then (atS x26 0).bind fun c75=>(PM c75).bind fun r76=>k8 r76 else k8 false) p0
theorem m7 (p0:Q1) (r:Q1) (h:PN p0=some r):Zg Q7 145 [.str p0] (.str r):=by{
refine cF (fun r=>.str r) h mix Tryz.func145 fun r h=>?_
unfold PN at h
refine Zi ?_
refine rg ?_
refine bl ?_
refine Zy h fun f7 mf7 hf7 h=>?_
refine Zu (α:=Nat×Q1) (fun a _=>mkS [(0,.str a.2)] [] 2) (fun a=>A4 a.1 f7 a.2=some r) (fun a=>a.1) (mf7,p0) 2 h (sR []) (fun a _ h=>?_)
obtain ⟨mf7,x26⟩:=a
obtain ⟨mf7,rfl,h⟩:=Zz hf7 h
dsimp only at h ⊢
refine Zi ?_
refine jL h (fun x35=>mkS [(0,.str x26),(10,.bool x35)] [] 2) (fun k8 h=>?_) fun x35 h=>?_
refine rg ?_
refine kS 6 h rfl (fun h=>?_) fun h=>?_
refine aS h fun c75 h=>?_
refine aC h (m6 _) fun r76 h=>?_
exact jn r76 h (sR [])
iterate 3 refine Zw rfl (Zi ?_)
exact jn false h (sR [])
refine cS h rfl (fun h=>?_) fun h=>?_
refine bl ?_
refine rg ?_
refine sS h fun l36 h=>?_
exact rn (mf7,l36) h (sR [])
refine bl ?_
refine Zy h fun f15 mf15 hf15 h=>?_
refine Zu (α:=Nat×Q1) (fun a _=>mkS [(0,.str a.2)] [] 2) (fun a=>A4 a.1 f15 a.2=some r) (fun a=>a.1) (mf15,x26) 2 h (sR []) (fun a _ h=>?_)
obtain ⟨mf15,x62⟩:=a
obtain ⟨mf15,rfl,h⟩:=Zz hf15 h
dsimp only at h ⊢
refine Zi ?_
refine jL h (fun x71=>mkS [(0,.str x62),(23,.bool x71)] [] 2) (fun k16 h=>?_) fun x71 h=>?_
refine rg ?_
refine kS 16 h rfl (fun h=>?_) fun h=>?_
refine aS h fun c73 h=>?_
refine aC h (m6 _) fun r74 h=>?_
exact jn r74 h (sR [])
iterate 6 refine Zw rfl (Zi ?_)
exact jn false h (sR [])
refine cS h rfl (fun h=>?_) fun h=>?_
refine bl ?_
refine rg ?_
refine sS h fun l72 h=>?_
exact rn (mf15,l72) h (sR [])
refine rg ?_
cases h
exact rQ}
end
section
open VL Go.RowKit
def bs (l:Q3 Q4):Q1:=⟨l.toArray⟩
theorem ZyS (l:Q3 Q4):(bs l).size=l.length:=rfl
theorem dG (a b:Q3 Q4):bs a++bs b=bs (a++b):=by
 apply OF
 rw [ByteArray.data_append]
 simp [bs]
theorem ZsF (a b:Q3 Q4):(bs (a++b)).extract 0 a.length=bs a:=by
 apply OF
 rw [US]
 simp [bs]
theorem ZK {α:Type} {x:Q2 α} {v:α} (h:Tot x (fun r=>r=v)):x=some v:=by
 obtain ⟨w,h1,h2⟩:=h
 rw [h1,h2]
theorem Zz1 (p r:Q3 Q4):ZB (bs (p++r)) (bs p)=some true:=by{
have z1:(bs p).size=p.length:=rfl
have z2:(bs (p++r)).size=p.length+r.length:=by rw [ZyS,Yb]
refine ZK ?_
unfold ZB
refine B7 (Zb (fun _=>?_) fun h=>absurd (by omega) h)
refine bY (by omega) (by omega) (by omega) fun m hm _=>?_
have e:m=bs p:=hm.trans (ZsF p r)
refine Zd ?_
rw [e]
simp}
theorem BF {L:Q3 Q4} {n:Nat} {c:Q4} (h:L[n]? = some c):atS (bs L) (n:Int)=some (c.toNat:Int):=by{
obtain ⟨hl,he⟩:=Yd.1 h
rw [y4 (show n<(bs L).size from hl)]
subst he
rfl}
theorem ZyT (l:Q3 Q4) (n:Nat):(bs l).extract 0 n=bs (l.take n):=by
 apply OF
 rw [US]
 simp [bs]
theorem J9 {a b:Q3 Q4} (h:bs a=bs b):a=b:=CC (fun s:Q1=>s.data.toList) h
theorem EV (l:Q3 Q4) (n:Nat) (h:n<=l.length):AJ (bs l) (n:Int) ((bs l).size:Int)=some (bs (l.drop n)):=by{
have z:(bs l).size=l.length:=rfl
unfold AJ
rw [if_pos ⟨by omega,by omega,by omega⟩]
have e:(((bs l).size:Int)).toNat=l.length:=by omega
rw [e]
congr 1
apply OF
rw [US]
simp [bs]
rw [GW (by simp)]}
theorem G8 (l:Q3 Q4) (a b:Nat) (h:a<=b) (h2:b<=l.length):AJ (bs l) (a:Int) (b:Int)=some (bs ((l.take b).drop a)):=by{
have z:(bs l).size=l.length:=rfl
unfold AJ
rw [if_pos ⟨by omega,by omega,by omega⟩]
congr 1
apply OF
rw [US]
simp [bs,KX]}
theorem WQ (l p:Q3 Q4):ZB (bs l) (bs p)=some (p.isPrefixOf l):=by{
cases h:p.isPrefixOf l with
| true=>
  obtain ⟨r,rfl⟩:=YN.1 h
  exact Zz1 p r
| false=>
  have z1:(bs p).size=p.length:=rfl
  have z2:(bs l).size=l.length:=rfl
  refine ZK ?_
  unfold ZB
  refine B7 (Zb (fun hl=>?_) fun _=>Zd rfl)
  refine bY (by omega) (by omega) (by omega) fun m hm _=>?_
  refine Zd (Yf fun he=>?_)
  have hq:(((bs p).size:Int)).toNat=p.length:=by omega
  rw [hq] at hm
  have h2:l.take p.length=p:=J9 ((ZyT l p.length).symm.trans (hm.symm.trans he))
  have h3:p.isPrefixOf l=true:=YN.2 (by rw [<- h2];exact aG _ _)
  rw [h] at h3
  cases h3}
theorem IJ (l p:Q3 Q4):ZV (bs l) (bs p)=some (p.isPrefixOf l):=by
 unfold ZV
 rw [WQ]
 rfl
end
section
open VL
structure Str3 where
 a:ByteArray
 b:ByteArray
 c:ByteArray
def Str3.cs (x:Str3):Q3 PV:=[.str x.a,.str x.b,.str x.c]
def Str3.pv (x:Str3):PV:=.agg x.cs
end
end Go.Proofs.YtmgfammllddkhaaGreatDoor
