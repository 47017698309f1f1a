/- Functions of -/
import Derived.Test.YtmgfammllddkhaaGreatDoorCU06
set_option linter.unusedSimpArgs false
set_option linter.unusedVariables false
set_option maxHeartbeats 4000000
set_option maxRecDepth 1000000
namespace Go.Proofs.YtmgfammllddkhaaGreatDoor
section
open VL
def WR:Q2 Str3:=some ⟨⟨#[110,111,105,110,99,108,117,100,101]⟩,⟨#[105,110,99,108,117,100,101,111,110,108,121]⟩,⟨#[111,110,108,121,105,110,99,108,117,100,101]⟩⟩
theorem Znu  (r:Str3) (h:WR=some r):Zg Q7 204 [] (r.pv):=by{
refine cF (fun r=>r.pv) h mix Tryz.func204 fun r h=>?_
unfold WR at h
refine Zi ?_
refine rg ?_
refine rg ?_
cases h
exact rQ}
def JA (p0:Q1) (p1:Q1):Q2 (Int×Int):=(WR).bind fun r1=>A4 A9 (fun f2 (x35:Int)=>if decide (x35<3) then (atI ([r1.a,r1.b,r1.c]:Q3 Q1) x35).bind fun c48=>(A7 p1 c48).bind fun s49=>(A7 s49 ⟨#[62]⟩).bind fun s50=>(ZV p0 s50).bind fun r51=>if r51 then some ((w64 (x35+1)),(s50.size:Int)) else f2 (w64 (x35+1)) else some (0,0)) 0
theorem dH (p0:Q1) (p1:Q1) (r:Int×Int) (h:JA p0 p1=some r):Zg Q7 170 [.str p0,.str p1] (.tup [.int .i64 r.1,.int .i64 r.2]):=by{
refine cF (fun r=>.tup [.int .i64 r.1,.int .i64 r.2]) h mix Tryz.func170 fun r h=>?_
unfold JA at h
refine Zi ?_
refine rg ?_
refine rg ?_
refine aC h Znu fun r1 h=>?_
refine bl ?_
refine Zy h fun f2 mf2 hf2 h=>?_
refine Zu (α:=Nat×Int) (fun a _=>mkS [(0,.str p0),(1,.str p1),(9,.agg [.str r1.a,.str r1.b,.str r1.c]),(10,Q5 a.2)] [] 2) (fun a=>A4 a.1 f2 a.2=some r) (fun a=>a.1) (mf2,0) 2 h (sR []) (fun a _ h=>?_)
obtain ⟨mf2,x35⟩:=a
obtain ⟨mf2,rfl,h⟩:=Zz hf2 h
dsimp only at h ⊢
refine Zi ?_
refine rg ?_
refine cS h rfl (fun h=>?_) fun h=>?_
refine bl ?_
refine rg ?_
let ⟨c48,h46,h⟩:=bnd h
refine jW (p:=PV.str) rfl h46 rfl rfl rfl rfl rfl (Zi ?_)
refine rg ?_
refine sT h fun s49 h=>?_
refine sT h fun s50 h=>?_
refine rg ?_
refine aC h (LN _ _) fun r51 h=>?_
refine cS h rfl (fun h=>?_) fun h=>?_
refine rg ?_
cases h
exact rQ
refine rg ?_
exact rn (mf2,(w64 (x35+1))) h (sR [])
refine rg ?_
cases h
exact rQ}
def TC (p0:Q1):Q2 (Int×Int):=(ZV p0 ⟨#[60,33,45,45]⟩).bind fun r1=>if r1 then (AJ p0 4 (p0.size:Int)).bind fun l4=>(strings_Index l4 ⟨#[45,45,62]⟩).bind fun r5=>if decide (0<=r5) then some (9,(w64 ((w64 (4+r5))+3))) else some (9,(p0.size:Int)) else (ZV p0 ⟨#[60,110,111,119,105,107,105,62]⟩).bind fun r6=>letk (fun (_:Unit)=>(JA p0 ⟨#[60]⟩).bind fun r9=>if decide (0<r9.2) then (some (11,r9.2):Q2 (Int×Int)) else (JA p0 ⟨#[60,47]⟩).bind fun r10=>if decide (0<r10.2) then (some (12,r10.2):Q2 (Int×Int)) else (some (0,0):Q2 (Int×Int))) fun k1=>if r6 then (AJ p0 8 (p0.size:Int)).bind fun l11=>(strings_Index l11 ⟨#[60,47,110,111,119,105,107,105,62]⟩).bind fun r12=>if decide (0<=r12) then some (10,(w64 ((w64 (8+r12))+9))) else k1 () else k1 ()
theorem Znv (p0:Q1) (r:Int×Int) (h:TC p0=some r):Zg Q7 167 [.str p0] (.tup [.int .i64 r.1,.int .i64 r.2]):=by{
refine cF (fun r=>.tup [.int .i64 r.1,.int .i64 r.2]) h mix Tryz.func167 fun r h=>?_
unfold TC at h
refine Zi ?_
refine rg ?_
refine rg ?_
refine aC h (LN _ _) fun r1 h=>?_
refine cS h rfl (fun h=>?_) fun h=>?_
refine rg ?_
refine sS h fun l4 h=>?_
refine aC h (dB _ _) fun r5 h=>?_
refine rg ?_
refine cS h rfl (fun h=>?_) fun h=>?_
refine rg ?_
cases h
exact rQ
refine rg ?_
cases h
exact rQ
refine rg ?_
refine aC h (LN _ _) fun r6 h=>?_
refine ER h fun k1 hk1 h=>?_
refine DA (α:=Unit) (fun _ _=>mkS [(0,.str p0)] [] 2) (fun _=>k1 ()=some r) (Zi ?_) (fun a _ h=>?_)
refine cS h rfl (fun h=>?_) fun h=>?_
refine rg ?_
refine sS h fun l11 h=>?_
refine aC h (dB _ _) fun r12 h=>?_
refine rg ?_
refine cS h rfl (fun h=>?_) fun h=>?_
refine rg ?_
cases h
exact rQ
exact jn () h (sR [])
exact jn () h (sR [])
subst hk1
dsimp only at h ⊢
refine Zi ?_
refine rg ?_
refine aC h (dH _ _) fun r9 h=>?_
refine rg ?_
refine cS h rfl (fun h=>?_) fun h=>?_
refine rg ?_
cases h
exact rQ
refine rg ?_
refine aC h (dH _ _) fun r10 h=>?_
refine rg ?_
refine cS h rfl (fun h=>?_) fun h=>?_
refine rg ?_
cases h
exact rQ
refine rg ?_
cases h
exact rQ}
def LP (p0:Q1) (p1:Int):Q2 Int:=A4 A9 (fun f7 (x14:Int)=>letk (fun (x19:Bool)=>if x19 then f7 (w64 (x14+1)) else some x14) fun k8=>if decide (x14<(p0.size:Int)) then (atS p0 x14).bind fun c20=>k8 (decide (c20=p1)) else k8 false) 0
theorem WS (p0:Q1) (p1:Int) (r:Int) (h:LP p0 p1=some r):Zg Q7 168 [.str p0,.int .u8 p1] (.int .i64 r):=by{
refine cF (fun r=>.int .i64 r) h mix Tryz.func168 fun r h=>?_
unfold LP at h
refine Zi ?_
refine rg ?_
refine rg ?_
refine bl ?_
refine Zy h fun f7 mf7 hf7 h=>?_
refine Zu (α:=Nat×Int) (fun a _=>mkS [(0,.str p0),(1,.int .u8 p1),(5,Q5 a.2)] [] 2) (fun a=>A4 a.1 f7 a.2=some r) (fun a=>a.1) (mf7,0) 2 h (sR []) (fun a _ h=>?_)
obtain ⟨mf7,x14⟩:=a
obtain ⟨mf7,rfl,h⟩:=Zz hf7 h
dsimp only at h ⊢
refine Zi ?_
refine jL h (fun x19=>mkS [(0,.str p0),(1,.int .u8 p1),(5,Q5 x14),(16,.bool x19)] [] 2) (fun k8 h=>?_) fun x19 h=>?_
refine rg ?_
refine kS 10 h rfl (fun h=>?_) fun h=>?_
refine aS h fun c20 h=>?_
exact jn (decide (c20=p1)) h (sR [])
iterate 5 refine Zw rfl (Zi ?_)
exact jn false h (sR [])
refine cS h rfl (fun h=>?_) fun h=>?_
refine bl ?_
refine rg ?_
exact rn (mf7,(w64 (x14+1))) h (sR [])
refine rg ?_
cases h
exact rQ}
def PO (p0:Q1):Q2 (Int×Int):=(atS p0 0).bind fun c1=>letk (fun (_:Unit)=>(some (0,0):Q2 (Int×Int))) fun k1=>if decide (c1=60) then (TC p0).bind fun r7=>some (r7.1,r7.2) else if decide (c1=123) then (LP p0 123).bind fun r8=>if decide (2<=r8) then some (3,r8) else k1 () else if decide (c1=125) then (LP p0 125).bind fun r9=>if decide (2<=r9) then some (4,r9) else k1 () else if decide (c1=91) then (LP p0 91).bind fun r10=>if decide (2<=r10) then some (5,2) else k1 () else if decide (c1=93) then (LP p0 93).bind fun r11=>if decide (2<=r11) then some (6,2) else k1 () else if decide (c1=124) then some (7,1) else if decide (c1=61) then some (8,1) else if decide (c1=10) then some (2,1) else k1 ()
theorem Znw (p0:Q1) (r:Int×Int) (h:PO p0=some r):Zg Q7 100 [.str p0] (.tup [.int .i64 r.1,.int .i64 r.2]):=by{
refine cF (fun r=>.tup [.int .i64 r.1,.int .i64 r.2]) h mix Tryz.func100 fun r h=>?_
unfold PO at h
refine Zi ?_
refine rg ?_
refine rg ?_
refine aS h fun c1 h=>?_
refine ER h fun k1 hk1 h=>?_
refine DA (α:=Unit) (fun _ _=>mkS [] [] 2) (fun _=>k1 ()=some r) (Zi ?_) (fun a _ h=>?_)
refine bl ?_
refine rg ?_
refine cS h rfl (fun h=>?_) fun h=>?_
refine rg ?_
refine aC h (Znv _) fun r7 h=>?_
cases h
exact rQ
refine rg ?_
refine cS h rfl (fun h=>?_) fun h=>?_
refine rg ?_
refine aC h (WS _ _) fun r8 h=>?_
refine rg ?_
refine cS h rfl (fun h=>?_) fun h=>?_
refine rg ?_
cases h
exact rQ
exact jn () h (sR [])
refine rg ?_
refine cS h rfl (fun h=>?_) fun h=>?_
refine rg ?_
refine aC h (WS _ _) fun r9 h=>?_
refine rg ?_
refine cS h rfl (fun h=>?_) fun h=>?_
refine rg ?_
cases h
exact rQ
exact jn () h (sR [])
refine rg ?_
refine cS h rfl (fun h=>?_) fun h=>?_
refine rg ?_
refine aC h (WS _ _) fun r10 h=>?_
refine cS h rfl (fun h=>?_) fun h=>?_
refine rg ?_
cases h
exact rQ
exact jn () h (sR [])
refine rg ?_
refine cS h rfl (fun h=>?_) fun h=>?_
refine rg ?_
refine aC h (WS _ _) fun r11 h=>?_
refine cS h rfl (fun h=>?_) fun h=>?_
refine rg ?_
cases h
exact rQ
exact jn () h (sR [])
refine rg ?_
refine cS h rfl (fun h=>?_) fun h=>?_
refine rg ?_
cases h
exact rQ
refine rg ?_
refine cS h rfl (fun h=>?_) fun h=>?_
refine rg ?_
cases h
exact rQ
refine rg ?_
refine cS h rfl (fun h=>?_) fun h=>?_
refine rg ?_
cases h
exact rQ
exact jn () h (sR [])
subst hk1
dsimp only at h ⊢
refine Zi ?_
refine rg ?_
cases h
exact rQ}
def TD (p0:Q1):Q2 ((Q3 Tok)×Int):=if decide (8192<(p0.size:Int)) then some ([],3) else A4 A9 (fun f5 ((x22,x23,x24):Int×Int×(Q3 Tok))=>if decide (x23<(p0.size:Int)) then (AJ p0 x23 (p0.size:Int)).bind fun l31=>(PO l31).bind fun r32=>if decide (r32.1=0) then f5 (x22,(w64 (x23+1)),x24) else letk (fun (x34:Q3 Tok)=>(AA 24 x34 [(⟨r32.1,x23,(w64 (x23+r32.2))⟩:Tok)]).bind fun l35=>f5 ((w64 (x23+r32.2)),(w64 (x23+r32.2)),l35)) fun k6=>if decide (x22<x23) then (AA 24 x24 [(⟨1,x22,x23⟩:Tok)]).bind fun l36=>k6 l36 else k6 x24 else letk (fun (x38:Q3 Tok)=>(some (x38,0):Q2 ((Q3 Tok)×Int))) fun k7=>if decide (x22<(p0.size:Int)) then (AA 24 x24 [(⟨1,x22,(p0.size:Int)⟩:Tok)]).bind fun l39=>k7 l39 else k7 x24) (0,0,([]:Q3 Tok))
theorem Zoq (p0:Q1) (r:(Q3 Tok)×Int) (h:TD p0=some r):Zg Q7 62 [.str p0] (.tup [.sl (List.map Tok.cs r.1),.int .i64 r.2]):=by{
refine cF (fun r=>.tup [.sl (Q8 Tok.cs r.1),.int .i64 r.2]) h mix Tryz.func62 fun r h=>?_
unfold TD at h
refine Zi ?_
refine rg ?_
refine rg ?_
refine cS h rfl (fun h=>?_) fun h=>?_
refine rg ?_
cases h
exact rQ
refine rg ?_
refine rg ?_
refine rg ?_
refine bl ?_
refine Zy h fun f5 mf5 hf5 h=>?_
refine Zu (α:=Nat×(Int×Int×(Q3 Tok))) (fun a _=>mkS [(0,.str p0),(4,.row 4 (1,4)),(5,Q5 a.2.1),(6,Q5 a.2.2.1)] [(4,some ((1,4),.row 105 3 false (Q8 Tok.cs a.2.2.2)))] 2) (fun a=>A4 a.1 f5 a.2=some r) (fun a=>a.1) (mf5,0,0,([]:Q3 Tok)) 2 h (bI [] 4 105 3 rfl ⟨rfl,rfl,rfl,rfl,trivial⟩ ⟨⟨rfl,rfl⟩,trivial⟩ rfl) (fun a _ h=>?_)
obtain ⟨mf5,x22,x23,x24⟩:=a
obtain ⟨mf5,rfl,h⟩:=Zz hf5 h
dsimp only at h ⊢
refine Zi ?_
refine rg ?_
refine cS h rfl (fun h=>?_) fun h=>?_
refine bl ?_
refine rg ?_
refine sS h fun l31 h=>?_
refine aC h (Znw _) fun r32 h=>?_
refine rg ?_
refine cS h rfl (fun h=>?_) fun h=>?_
refine rg ?_
exact rn (mf5,x22,(w64 (x23+1)),x24) h (sR [(4,1,4)])
refine rg ?_
refine jL h (fun x34=>mkS [(0,.str p0),(4,.row 4 (1,4)),(6,Q5 x23),(7,Q5 r32.1),(8,Q5 r32.2)] [(4,some ((1,4),.row 105 3 false (Q8 Tok.cs x34)))] 2) (fun k6 h=>?_) fun x34 h=>?_
refine cS h rfl (fun h=>?_) fun h=>?_
refine rg ?_
refine CR (M:=([(⟨1,x22,x23⟩:Tok)]:Q3 Tok)) (f:=Tok.cs) rfl rfl rfl rfl (Yk rfl) rfl (Zi ?_)
refine pR Tok.cs h fun l36 h=>?_
exact jn l36 h (sR [(4,6,5)])
exact jn x24 h (sR [(4,1,4)])
refine rg ?_
refine CR (M:=([(⟨r32.1,x23,(w64 (x23+r32.2))⟩:Tok)]:Q3 Tok)) (f:=Tok.cs) rfl rfl rfl rfl (Yk rfl) rfl (Zi ?_)
refine pR Tok.cs h fun l35 h=>?_
refine rg ?_
refine rg ?_
exact rn (mf5,(w64 (x23+r32.2)),(w64 (x23+r32.2)),l35) h (sR [(4,2,8)])
refine rg ?_
refine jL h (fun x38=>mkS [(4,.row 4 (1,4))] [(4,some ((1,4),.row 105 3 false (Q8 Tok.cs x38)))] 2) (fun k7 h=>?_) fun x38 h=>?_
refine cS h rfl (fun h=>?_) fun h=>?_
refine rg ?_
refine CR (M:=([(⟨1,x22,(p0.size:Int)⟩:Tok)]:Q3 Tok)) (f:=Tok.cs) rfl rfl rfl rfl (Yk rfl) rfl (Zi ?_)
refine pR Tok.cs h fun l39 h=>?_
exact jn l39 h (sR [(4,4,6)])
exact jn x24 h (sR [(4,1,4)])
refine rg ?_
cases h
exact rQ}
def H8 (p0:Q1) (p1:Tok):Q2 Q1:=letk (fun (x1:Bool)=>if x1 then (some (⟨#[]⟩:Q1):Q2 Q1) else (AJ p0 p1.from_ p1.to_).bind fun l2=>some l2) fun k1=>if decide (p1.from_<0) then k1 true else if decide (p1.to_<p1.from_) then k1 true else k1 (decide ((p0.size:Int)<p1.to_))
theorem m8 (p0:Q1) (p1:Tok) (r:Q1) (h:H8 p0 p1=some r):Zg Q7 101 [.str p0,p1.pv] (.str r):=by{
refine cF (fun r=>.str r) h mix Tryz.func101 fun r h=>?_
unfold H8 at h
refine Zi ?_
refine rg ?_
refine jL h (fun x1=>mkS [(0,.str p0),(3,.ptr 3 (1,3) 0),(21,.bool x1)] [(3,some ((1,3),.box (Tok.cs p1)))] 2) (fun k1 h=>?_) fun x1 h=>?_
refine rg ?_
refine kS 8 h rfl (fun h=>?_) fun h=>?_
iterate 10 refine Zw rfl (Zi ?_)
exact jn true h (sR [(3,1,0)])
refine kS 15 h rfl (fun h=>?_) fun h=>?_
iterate 5 refine Zw rfl (Zi ?_)
exact jn true h (sR [(3,1,0)])
exact jn (decide ((p0.size:Int)<p1.to_)) h (sR [(3,1,0)])
refine cS h rfl (fun h=>?_) fun h=>?_
refine rg ?_
cases h
exact rQ
refine rg ?_
refine sS h fun l2 h=>?_
cases h
exact rQ}
def K8 (p0:Q1) (p1:Tok):Q2 Int:=letk (fun (x1:Q1)=>(H8 p0 p1).bind fun r2=>(JA r2 x1).bind fun r3=>if decide (r3.2=(r2.size:Int)) then some r3.1 else (some 0:Q2 Int)) fun k1=>if decide (p1.kind=11) then k1 ⟨#[60]⟩ else if decide (p1.kind=12) then k1 ⟨#[60,47]⟩ else some 0
theorem m9 (p0:Q1) (p1:Tok) (r:Int) (h:K8 p0 p1=some r):Zg Q7 105 [.str p0,p1.pv] (.int .i64 r):=by{
refine cF (fun r=>.int .i64 r) h mix Tryz.func105 fun r h=>?_
unfold K8 at h
refine Zi ?_
refine rg ?_
refine rg ?_
refine rg ?_
refine jL h (fun x1=>mkS [(0,.str p0),(3,.ptr 3 (1,3) 0),(5,.str x1)] [(3,some ((1,3),.box (Tok.cs p1)))] 2) (fun k1 h=>?_) fun x1 h=>?_
refine bl ?_
refine rg ?_
refine cS h rfl (fun h=>?_) fun h=>?_
exact jn ⟨#[60]⟩ h (sR [(3,1,0)])
refine rg ?_
refine cS h rfl (fun h=>?_) fun h=>?_
refine rg ?_
exact jn ⟨#[60,47]⟩ h (sR [(3,1,0)])
refine rg ?_
cases h
exact rQ
refine rg ?_
refine aC h (m8 _ _) fun r2 h=>?_
refine rg ?_
refine aC h (dH _ _) fun r3 h=>?_
refine rg ?_
refine cS h rfl (fun h=>?_) fun h=>?_
refine rg ?_
cases h
exact rQ
refine rg ?_
cases h
exact rQ}
def LQ (p0:Int):Q2 Q1:=(atI ([⟨#[110,111,105,110,99,108,117,100,101]⟩,⟨#[105,110,99,108,117,100,101,111,110,108,121]⟩,⟨#[111,110,108,121,105,110,99,108,117,100,101]⟩]:Q3 Q1) (w64 (p0-1))).bind fun c1=>(A7 ⟨#[60]⟩ c1).bind fun s2=>(A7 s2 ⟨#[62]⟩).bind fun s3=>some s3
theorem Zk7 (p0:Int) (r:Q1) (h:LQ p0=some r):Zg Q7 112 [.int .i64 p0] (.str r):=by{
refine cF (fun r=>.str r) h mix Tryz.func112 fun r h=>?_
unfold LQ at h
refine Zi ?_
refine rg ?_
refine rg ?_
let ⟨c1,h1,h⟩:=bnd h
refine jW (p:=PV.str) rfl h1 rfl rfl rfl rfl rfl (Zi ?_)
refine sT h fun s2 h=>?_
refine sT h fun s3 h=>?_
cases h
exact rQ}
def nm1:Q3 Q4:=[110,111,105,110,99,108,117,100,101]
def nm2:Q3 Q4:=[105,110,99,108,117,100,101,111,110,108,121]
def nm3:Q3 Q4:=[111,110,108,121,105,110,99,108,117,100,101]
def AF (pfx l:Q3 Q4):Int×Int:=if (pfx++nm1 ++ [62]).isPrefixOf l then (1,((pfx++nm1 ++ [62]).length:Int)) else if (pfx++nm2 ++ [62]).isPrefixOf l then (2,((pfx++nm2 ++ [62]).length:Int)) else if (pfx++nm3 ++ [62]).isPrefixOf l then (3,((pfx++nm3 ++ [62]).length:Int)) else (0,0)
theorem H9 {α β:Type} {n m:Nat} {F:(α->Q2 β)->α->Q2 β} {a:α} {R:β->Prop} (e:m=n+1) (h:Tot (F (A4 n F) a) R):Tot (A4 m F a) R:=by
 subst e
 exact h
theorem LR (a b:Q3 Q4) (h:a.length+b.length<=9223372036854775807):A7 (bs a) (bs b)=some (bs (a++b)):=by
 rw [VU (show (bs a).size+(bs b).size<=_ from h),dG]
theorem dI (pfx l:Q3 Q4) (h:pfx.length<=10):JA (bs l) (bs pfx)=some (AF pfx l):=by{
have n1:nm1.length=9:=rfl
have n2:nm2.length=11:=rfl
have n3:nm3.length=11:=rfl
have z:([62]:Q3 Q4).length=1:=rfl
have l1:(pfx++nm1).length=pfx.length+9:=by rw [Yb,n1]
have l2:(pfx++nm2).length=pfx.length+11:=by rw [Yb,n2]
have l3:(pfx++nm3).length=pfx.length+11:=by rw [Yb,n3]
refine ZK ?_
unfold JA WR
refine Za rfl ?_
refine H9 (n:=4611686018427387903) rfl (Zb (fun _=>?_) fun h=>absurd (by decide) h)
refine Za (v:=bs nm1) rfl ?_
refine Za (LR pfx nm1 (by omega)) ?_
refine Za (LR (pfx++nm1) [62] (by omega)) ?_
refine Za (IJ l (pfx++nm1 ++ [62])) ?_
unfold AF
refine Zj (fun h1=>?_) fun h1=>?_
rw [if_pos h1]
exact Zd rfl
rw [if_neg (by rw [h1];decide)]
refine H9 (n:=4611686018427387902) rfl (Zb (fun _=>?_) fun h=>absurd (by decide) h)
refine Za (v:=bs nm2) rfl ?_
refine Za (LR pfx nm2 (by omega)) ?_
refine Za (LR (pfx++nm2) [62] (by omega)) ?_
refine Za (IJ l (pfx++nm2 ++ [62])) ?_
refine Zj (fun h2=>?_) fun h2=>?_
rw [if_pos h2]
exact Zd rfl
rw [if_neg (by rw [h2];decide)]
refine H9 (n:=4611686018427387901) rfl (Zb (fun _=>?_) fun h=>absurd (by decide) h)
refine Za (v:=bs nm3) rfl ?_
refine Za (LR pfx nm3 (by omega)) ?_
refine Za (LR (pfx++nm3) [62] (by omega)) ?_
refine Za (IJ l (pfx++nm3 ++ [62])) ?_
refine Zj (fun h3=>?_) fun h3=>?_
rw [if_pos h3]
exact Zd rfl
rw [if_neg (by rw [h3];decide)]
exact H9 (n:=4611686018427387900) rfl (Zd rfl)}
def BO (c:Q4):Q3 Q4->Nat | []=>0 | x::l=>if x=c then BO c l+1 else 0
theorem TE {c x:Q4} {l:Q3 Q4} (h:x=c):BO c (x::l)=BO c l+1:=by rw [BO,if_pos h]
theorem PP {c x:Q4} {l:Q3 Q4} (h:¬ x=c):BO c (x::l)=0:=by rw [BO,if_neg h]
theorem dJ (c:Q4):∀ l:Q3 Q4,BO c l<=l.length
 | []=>Yn _
 | x::l=>by
   have:=dJ c l
   unfold BO
   split
   simp;omega
   exact YJ _
theorem mA (c:Q4):∀ (l:Q3 Q4) (i:Nat),i<=BO c l->i+BO c (l.drop i)=BO c l
 | l,0,_=>by simp
 | [],i+1,h=>by simp [BO] at h
 | x::l,i+1,h=>by
   by_cases hx:x=c
   rw [TE hx] at h ⊢
   have:=mA c l i (by omega)
   simp only [List.drop_succ_cons]
   omega
   rw [PP hx] at h
   omega
theorem WT (c:Q4) (l:Q3 Q4) (h:l.length<=1000000):LP (bs l) (c.toNat:Int)=some (BO c l:Int):=by{
have z:(bs l).size=l.length:=rfl
refine ZK ?_
unfold LP
refine ZF (fun i=>0<=i/\i<=(BO c l:Int)) (fun i=>l.length-i.toNat) ⟨Int.le_refl _,by omega⟩ (by omega) fun i rec hJ ih=>?_
obtain ⟨h0,h1⟩:=hJ
obtain ⟨n,rfl⟩:∃ n:Nat,i=(n:Int):=⟨i.toNat,by omega⟩
have hle:=dJ c l
have hd:=mA c l n (by omega)
refine B7 (Zb (fun hl=>?_) fun hl=>?_)
have hn:n<l.length:=by omega
have e:l[n]? = some l[n]:=Yc hn
refine Za (BF e) ?_
rw [Yt hn] at hd
refine Zb (fun hc=>?_) fun hc=>?_
have hx:l[n]=c:=GG.1 (by omega)
rw [TE hx] at hd
rw [ZH]
exact ih _ ⟨by omega,by omega⟩ (by omega)
have hx:¬ l[n]=c:=fun hx=>hc (by rw [hx])
rw [PP hx] at hd
exact Zd (by omega)
exact Zd (by omega)}
def cmt:Q3 Q4:=[60,33,45,45]
def cmtE:Q3 Q4:=[45,45,62]
def nwk:Q3 Q4:=[60,110,111,119,105,107,105,62]
def nwkE:Q3 Q4:=[60,47,110,111,119,105,107,105,62]
def DN (l:Q3 Q4):Int×Int:=if cmt.isPrefixOf l=true then (if 0<=Lib.index (l.drop 4) cmtE then (9,4+Lib.index (l.drop 4) cmtE+3) else (9,(l.length:Int))) else if nwk.isPrefixOf l=true/\0<=Lib.index (l.drop 8) nwkE then (10,8+Lib.index (l.drop 8) nwkE+9) else if 0<(AF [60] l).2 then (11,(AF [60] l).2) else if 0<(AF [60,47] l).2 then (12,(AF [60,47] l).2) else (0,0)
theorem dK (l p:Q3 Q4) (h:l.length<=1000000):strings_Index (bs l) (bs p)=some (Lib.index l p):=by
 unfold strings_Index
 rw [if_pos (show (bs l).size<4294967281 from by have:(bs l).size=l.length:=rfl;omega)]
 rfl
theorem ND {p l:Q3 Q4} (h:p.isPrefixOf l=true):p.length<=l.length:=(YN.1 h).length_le
theorem Zmv (l:Q3 Q4) (h:l.length<=1000000):TC (bs l)=some (DN l):=by{
have z:(bs l).size=l.length:=rfl
refine ZK ?_
unfold TC DN
refine Za (IJ l cmt) ?_
refine Zj (fun h1=>?_) fun h1=>?_
rw [if_pos h1]
have h4:4<=l.length:=ND h1
refine Za (EV l 4 h4) ?_
refine Za (dK (l.drop 4) cmtE (by simp;omega)) ?_
have hx:=Lib.index_le (l.drop 4) cmtE
simp only [Yx] at hx
refine Zb (fun h2=>?_) fun h2=>?_
rw [if_pos h2]
have e1:w64 (4+Lib.index (l.drop 4) cmtE)=4+Lib.index (l.drop 4) cmtE:=ZH
rw [e1,ZH]
exact Zd rfl
rw [if_neg h2]
exact Zd rfl
rw [if_neg (by rw [h1];decide)]
refine Za (IJ l nwk) ?_
have tags:Tot ((JA (bs l) ⟨#[60]⟩).bind fun r9=>if decide (0<r9.2)=true then (some (11,r9.2):Q2 (Int×Int)) else (JA (bs l) ⟨#[60,47]⟩).bind fun r10=>if decide (0<r10.2)=true then some (12,r10.2) else some (0,0)) fun r=>r=if 0<(AF [60] l).2 then (11,(AF [60] l).2) else if 0<(AF [60,47] l).2 then (12,(AF [60,47] l).2) else (0,0):=by
 refine Za (dI [60] l (by decide)) ?_
 refine Zb (fun h2=>?_) fun h2=>?_
 rw [if_pos h2]
 exact Zd rfl
 rw [if_neg h2]
 refine Za (dI [60,47] l (by decide)) ?_
 refine Zb (fun h3=>?_) fun h3=>?_
 rw [if_pos h3]
 exact Zd rfl
 rw [if_neg h3]
 exact Zd rfl
refine B7 (Zj (fun h2=>?_) fun h2=>?_)
have h8:8<=l.length:=ND h2
refine Za (EV l 8 h8) ?_
refine Za (dK (l.drop 8) nwkE (by simp;omega)) ?_
have hx:=Lib.index_le (l.drop 8) nwkE
simp only [Yx] at hx
refine Zb (fun h3=>?_) fun h3=>?_
rw [if_pos ⟨h2,h3⟩]
have e1:w64 (8+Lib.index (l.drop 8) nwkE)=8+Lib.index (l.drop 8) nwkE:=ZH
rw [e1,ZH]
exact Zd rfl
rw [if_neg (fun h=>h3 h.2)]
exact tags
rw [if_neg (fun h=>by rw [h2] at h;cases h.1)]
exact tags}
def CW (c:Q4) (l:Q3 Q4):Int×Int:=if c=60 then DN l else if c=123 then (if 2<=BO 123 l then (3,(BO 123 l:Int)) else (0,0)) else if c=125 then (if 2<=BO 125 l then (4,(BO 125 l:Int)) else (0,0)) else if c=91 then (if 2<=BO 91 l then (5,2) else (0,0)) else if c=93 then (if 2<=BO 93 l then (6,2) else (0,0)) else if c=124 then (7,1) else if c=61 then (8,1) else if c=10 then (2,1) else (0,0)
def B0:Q3 Q4->Int×Int | []=>(0,0) | c::l=>CW c (c::l)
theorem u8c {c k:Q4}:((c.toNat:Int)=(k.toNat:Int))↔c=k:=
 ⟨fun h=>GG.1 (by omega),fun h=>by rw [h]⟩
theorem Zmw (c:Q4) (l:Q3 Q4) (h:(c::l).length<=1000000):PO (bs (c::l))=some (B0 (c::l)):=by{
refine ZK ?_
rw [show B0 (c::l)=CW c (c::l) from rfl]
unfold PO CW
refine Za (BF (L:=c::l) (n:=0) rfl) ?_
refine B7 ?_
refine Zb (fun h1=>?_) fun h1=>?_
rw [if_pos ((u8c (k:=60)).1 h1)]
exact Za (Zmv _ h) (Zd rfl)
rw [if_neg fun e=>h1 ((u8c (k:=60)).2 e)]
refine Zb (fun h2=>?_) fun h2=>?_
rw [if_pos ((u8c (k:=123)).1 h2)]
refine Za (WT 123 _ h) (Zb (fun h3=>?_) fun h3=>?_)
rw [if_pos (by omega)];exact Zd rfl
rw [if_neg (by omega)];exact Zd rfl
rw [if_neg fun e=>h2 ((u8c (k:=123)).2 e)]
refine Zb (fun h3=>?_) fun h3=>?_
rw [if_pos ((u8c (k:=125)).1 h3)]
refine Za (WT 125 _ h) (Zb (fun h3=>?_) fun h3=>?_)
rw [if_pos (by omega)];exact Zd rfl
rw [if_neg (by omega)];exact Zd rfl
rw [if_neg fun e=>h3 ((u8c (k:=125)).2 e)]
refine Zb (fun h4=>?_) fun h4=>?_
rw [if_pos ((u8c (k:=91)).1 h4)]
refine Za (WT 91 _ h) (Zb (fun h3=>?_) fun h3=>?_)
rw [if_pos (by omega)];exact Zd rfl
rw [if_neg (by omega)];exact Zd rfl
rw [if_neg fun e=>h4 ((u8c (k:=91)).2 e)]
refine Zb (fun h5=>?_) fun h5=>?_
rw [if_pos ((u8c (k:=93)).1 h5)]
refine Za (WT 93 _ h) (Zb (fun h3=>?_) fun h3=>?_)
rw [if_pos (by omega)];exact Zd rfl
rw [if_neg (by omega)];exact Zd rfl
rw [if_neg fun e=>h5 ((u8c (k:=93)).2 e)]
refine Zb (fun h6=>?_) fun h6=>?_
rw [if_pos ((u8c (k:=124)).1 h6)]
exact Zd rfl
rw [if_neg fun e=>h6 ((u8c (k:=124)).2 e)]
refine Zb (fun h7=>?_) fun h7=>?_
rw [if_pos ((u8c (k:=61)).1 h7)]
exact Zd rfl
rw [if_neg fun e=>h7 ((u8c (k:=61)).2 e)]
refine Zb (fun h8=>?_) fun h8=>?_
rw [if_pos ((u8c (k:=10)).1 h8)]
exact Zd rfl
rw [if_neg fun e=>h8 ((u8c (k:=10)).2 e)]
exact Zd rfl}
def BG (L:Q3 Q4):Nat->Nat->Nat->Q3 Tok | 0,st,_=>if st<L.length then [⟨1,(st:Int),(L.length:Int)⟩] else [] | f+1,st,i=>if i<L.length then (if (B0 (L.drop i)).1=0 then BG L f st (i+1) else (if st<i then [⟨1,(st:Int),(i:Int)⟩] else [])++⟨(B0 (L.drop i)).1,(i:Int),(i:Int)+(B0 (L.drop i)).2⟩::BG L f (i+(B0 (L.drop i)).2.toNat) (i+(B0 (L.drop i)).2.toNat)) else if st<L.length then [⟨1,(st:Int),(L.length:Int)⟩] else []
theorem mB {L:Q3 Q4} {st i:Nat} (h:¬ i<L.length):∀ f,BG L f st i=if st<L.length then [⟨1,(st:Int),(L.length:Int)⟩] else []
 | 0=>rfl
 | f+1=>by
   unfold BG
   rw [if_neg h]
theorem WU (pfx l:Q3 Q4):(AF pfx l=(0,0))\/((1<=(AF pfx l).1/\(AF pfx l).1<=3)/\1<=(AF pfx l).2/\(AF pfx l).2<=(l.length:Int)):=by{
have z:([62]:Q3 Q4).length=1:=rfl
unfold AF
split
rename_i h
have:=ND h
simp only [Yb] at this ⊢
exact .inr ⟨⟨by decide,by decide⟩,by omega,by omega⟩
split
rename_i h
have:=ND h
simp only [Yb] at this ⊢
exact .inr ⟨⟨by decide,by decide⟩,by omega,by omega⟩
split
rename_i h
have:=ND h
simp only [Yb] at this ⊢
exact .inr ⟨⟨by decide,by decide⟩,by omega,by omega⟩
exact .inl rfl}
def PQ (l:Q3 Q4) (q:Int×Int):Prop:=q.1=0\/((2<=q.1/\q.1<=12)/\(1<=q.2/\q.2<=(l.length:Int))/\(q.1=10->17<=q.2)/\(q.1=11->0<(AF [60] l).2/\q.2=(AF [60] l).2))
theorem fo0 {l:Q3 Q4} (n:Int):PQ l (0,n):=.inl rfl
theorem fo {l:Q3 Q4} {k n:Int} (h1:2<=k/\k<=12) (h2:1<=n/\n<=(l.length:Int)) (h3:k=10->17<=n) (h4:k=11->0<(AF [60] l).2/\n=(AF [60] l).2):PQ l (k,n):=.inr ⟨h1,h2,h3,h4⟩
theorem ZuV (l:Q3 Q4) (h:l≠[]):PQ l (DN l):=by{
have hl:1<=l.length:=List.length_pos_iff.2 h
unfold DN
split
rename_i h1
have h4:4<=l.length:=ND h1
split
rename_i h2
have:=Lib.index_room _ _ h2
have z:cmtE.length=3:=rfl
simp only [Yx] at this
exact fo ⟨by decide,by decide⟩ ⟨by omega,by omega⟩ nofun nofun
exact fo ⟨by decide,by decide⟩ ⟨by omega,by omega⟩ nofun nofun
split
rename_i h2
have h8:8<=l.length:=ND h2.1
have:=Lib.index_room _ _ h2.2
have z:nwkE.length=9:=rfl
simp only [Yx] at this
exact fo ⟨by decide,by decide⟩ ⟨by omega,by omega⟩ (fun _=>by omega) nofun
split
rename_i h3
rcases WU [60] l with h4 | h4
rw [h4] at h3;cases h3
exact fo ⟨by decide,by decide⟩ h4.2 nofun fun _=>⟨h3,rfl⟩
split
rename_i h3
rcases WU [60,47] l with h4 | h4
rw [h4] at h3;cases h3
exact fo ⟨by decide,by decide⟩ h4.2 nofun nofun
exact fo0 _}
theorem PR:∀ l:Q3 Q4,PQ l (B0 l)
 | []=>.inl rfl
 | c::l=>by
   have r (k:Q4):=dJ k (c::l)
   show PQ (c::l) (CW c (c::l))
   unfold CW
   split
   exact ZuV _ (by simp)
   have hl:1<=(c::l).length:=by simp
   have r123:=r 123
   have r125:=r 125
   have r91:=r 91
   have r93:=r 93
   repeat' split
   all_goals first
    | exact fo0 _
    | exact fo ⟨by decide,by decide⟩ ⟨by omega,by omega⟩ nofun nofun
theorem PS (a b:Q3 Tok) (h:a.length+b.length<=1000000):AA 24 a b=some (a++b):=J5 1000000 h (by decide) (by decide)
theorem mC (L:Q3 Q4) (h:L.length<=8192):TD (bs L)=some (BG L L.length 0 0,0):=by{
have z:(bs L).size=L.length:=rfl
refine ZK ?_
unfold TD
refine Zb (fun h2=>absurd h2 (by omega)) fun _=>?_
refine ZF (fun a:Int×Int×Q3 Tok=>∃ st i f:Nat,a.1=(st:Int)/\a.2.1=(i:Int)/\st<=i/\i<=L.length/\L.length<=i+f/\a.2.2.length<=2 * i/\a.2.2++BG L f st i=BG L L.length 0 0)
 (fun a=>L.length-a.2.1.toNat) ⟨0,0,L.length,rfl,rfl,by omega,by omega,by omega,by simp,rfl⟩ (by dsimp only;omega) ?_
rintro ⟨x,y,acc⟩ rec ⟨st,i,f,hx,hy,h1,h3,h4,h5,h6⟩ ih
dsimp only at hx hy h5 h6
subst hx hy
dsimp only at ih ⊢
refine Zb (fun hi=>?_) fun hi=>?_
have hi':i<L.length:=by omega
obtain ⟨f,rfl⟩:∃ f',f=f'+1:=⟨f-1,by omega⟩
have hd:L.drop i=L[i]::L.drop (i+1):=Yt hi'
have hlen:(L.drop i).length=L.length-i:=Yx
refine Za (EV L i (by omega)) ?_
have hf:PO (bs (L.drop i))=some (B0 (L.drop i)):=by
 rw [hd]
 exact Zmw _ _ (by rw [<- hd];omega)
refine Za hf ?_
have hok:=PR (L.drop i)
rw [BG,if_pos hi'] at h6
generalize hq:B0 (L.drop i)=q at hok h6 ⊢
refine Zb (fun h0=>?_) fun h0=>?_
rw [if_pos h0] at h6
rw [ZH]
exact ih (st,((i:Int)+1),acc) ⟨st,i+1,f,rfl,by simp,by omega,by omega,by omega,by dsimp only;omega,h6⟩ (by dsimp only;omega)
rw [if_neg h0] at h6
rcases hok with hok | hok
exact absurd hok h0
obtain ⟨_,⟨k1,k2⟩,_⟩:=hok
have e1:w64 ((i:Int)+q.2)=(i:Int)+q.2:=ZH
have e2:(i:Int)+q.2=((i+q.2.toNat:Nat):Int):=by omega
refine Zt (fun K=>∀ l':Q3 Tok,l'.length<=2 * i+1->l'++⟨q.1,(i:Int),(i:Int)+q.2⟩::BG L f (i+q.2.toNat) (i+q.2.toNat)=BG L L.length 0 0->Tot (K l') fun r=>r=(BG L L.length 0 0,0)) (fun l' hl he=>?_) fun K hK=>?_
rw [e1]
refine Za (PS l' [⟨q.1,(i:Int),(i:Int)+q.2⟩] (by simp;omega)) ?_
refine ih ((i:Int)+q.2,(i:Int)+q.2,l' ++ [⟨q.1,(i:Int),(i:Int)+q.2⟩]) ⟨i+q.2.toNat,i+q.2.toNat,f,e2,e2,Nat.le_refl _,by omega,by omega,by simp;omega,?_⟩ (by dsimp only;omega)
rw [YM]
exact he
refine Zb (fun h7=>?_) fun h7=>?_
rw [if_pos (by omega)] at h6
refine Za (PS acc [⟨1,(st:Int),(i:Int)⟩] (by simp;omega)) ?_
refine hK _ (by simp;omega) ?_
rw [YM]
exact h6
rw [if_neg (by omega)] at h6
exact hK acc (by omega) h6
rw [mB (by omega)] at h6
refine B7 (Zb (fun h7=>?_) fun h7=>?_)
rw [if_pos (by omega)] at h6
refine Za (PS acc [⟨1,(st:Int),((bs L).size:Int)⟩] (by simp;omega)) ?_
refine Zd ?_
rw [<- h6]
rfl
rw [if_neg (by omega)] at h6
refine Zd ?_
rw [<- h6,YB]}
theorem mD {p l:Q3 Q4} (h:p.length<=l.length):decide (bs (l.take p.length)=bs p)=p.isPrefixOf l:=by{
cases hb:p.isPrefixOf l with
| true=>
  obtain ⟨r,rfl⟩:=YN.1 hb
  rw [MN]
  exact Yh rfl
| false=>
  refine Yf fun he=>?_
  have e:=J9 he
  have:p.isPrefixOf l=true:=YN.2 (by rw [<- e];exact aG _ _)
  rw [hb] at this
  cases this}
theorem ZtK {p l:Q3 Q4} (h:l.length<p.length):p.isPrefixOf l=false:=by{
cases hb:p.isPrefixOf l with
| false=>rfl
| true=>
  have:=(YN.1 hb).length_le
  omega}
theorem PT (L p:Q3 Q4) (i:Nat) (h:i<=L.length) (hL:L.length<=1000000):BE (bs L) (i:Int) (bs p)=some (p.isPrefixOf (L.drop i)):=by{
have z:(bs L).size=L.length:=rfl
have zp:(bs p).size=p.length:=rfl
have hd:(L.drop i).length=L.length-i:=Yx
refine ZK ?_
unfold BE
refine B7 (Zb (fun _=>?_) fun h=>absurd (by omega) h)
refine Zb (fun _=>?_) fun h=>absurd (by omega) h
rw [ZH (n:=((bs L).size:Int)-(i:Int))]
refine Zb (fun hl=>?_) fun hl=>?_
have e:w64 ((i:Int)+((bs p).size:Int))=((i+p.length:Nat):Int):=by rw [ZH];omega
rw [e]
refine Za (G8 L i (i+p.length) (by omega) (by omega)) (Zd ?_)
have e2:(L.take (i+p.length)).drop i=(L.drop i).take p.length:=by rw [KX];congr 1;omega
rw [e2]
exact mD (by omega)
exact Zd (ZtK (by omega)).symm}
def K9 (L p:Q3 Q4) (i:Nat):Int:=if Lib.index (L.drop i) p<0 then -1 else (i:Int)+Lib.index (L.drop i) p
theorem WV (L p:Q3 Q4) (i:Nat) (hp:p≠[]) (hpl:p.length<=1000) (h:i<=L.length) (hL:L.length<=1000000):LO (bs L) (bs p) (i:Int)=some (K9 L p i):=by{
have z:(bs L).size=L.length:=rfl
have zp:(bs p).size=p.length:=rfl
have hd:(L.drop i).length=L.length-i:=Yx
have hp1:1<=p.length:=List.length_pos_iff.2 hp
refine ZK ?_
unfold LO
refine ZF (fun x=>∃ n:Nat,x=((i+n:Nat):Int)/\n<=L.length-i/\Lib.NoOcc (L.drop i) p n) (fun x=>L.length+1-x.toNat) ⟨0,by simp,by omega,Lib.NoOcc.zero _ _⟩ (by omega) ?_
rintro x rec ⟨n,rfl,hn,hno⟩ ih
have e:w64 (((i+n:Nat):Int)+((bs p).size:Int))=((i+n+p.length:Nat):Int):=by rw [ZH];omega
rw [e]
refine Zb (fun hle=>?_) fun hgt=>?_
refine Za (G8 L (i+n) (i+n+p.length) (by omega) (by omega)) ?_
have e2:(L.take (i+n+p.length)).drop (i+n)=((L.drop i).drop n).take p.length:=by rw [KX,JN];congr 1;omega
rw [e2,mD (by rw [Yx];omega)]
cases ho:p.isPrefixOf ((L.drop i).drop n) with
| true=>
  refine Zj (fun _=>Zd ?_) nofun
  have hi:Lib.index (L.drop i) p=(n:Int):=Lib.index_first (by omega) ho hno
  unfold K9
  rw [hi,if_neg (by omega)]
  omega
| false=>
  refine Zj nofun fun _=>?_
  rw [ZH]
  refine ih _ ⟨n+1,by omega,by omega,fun j hj=>?_⟩ (by omega)
  by_cases hjn:j<n
  exact hno j hjn
  obtain rfl:j=n:=by omega
  exact ho
refine Zd ?_
unfold K9
rw [Lib.index_past hp hno (by omega),if_pos (by decide)]}
theorem Zzu (L:Q3 Q4) (c:Q4) (i:Nat) (h:i<=L.length) (hL:L.length<=1000000):K7 (bs L) (i:Int) (c.toNat:Int)=some ((i:Int)+(BO c (L.drop i):Int)):=by{
have z:(bs L).size=L.length:=rfl
refine ZK ?_
unfold K7
refine ZF (fun x=>∃ n:Nat,x=(n:Int)/\n<=L.length/\n+BO c (L.drop n)=i+BO c (L.drop i)) (fun x=>L.length-x.toNat) ⟨i,rfl,h,rfl⟩ (by omega) ?_
rintro x rec ⟨n,rfl,hn,hr⟩ ih
refine Zt (fun q=>((n<L.length/\L[n]? = some c)->Tot (q true) (fun r=>r=(i:Int)+(BO c (L.drop i):Int)))/\(BO c (L.drop n)=0->Tot (q false) (fun r=>r=(i:Int)+(BO c (L.drop i):Int)))) ⟨fun ⟨h1,h2⟩=>?_,fun h0=>?_⟩ fun k hk=>?_
refine Zj (fun _=>?_) nofun
rw [ZH]
have hd:L.drop n=L[n]::L.drop (n+1):=Yt h1
have hc:L[n]=c:=by rw [Yc h1] at h2;exact D7 h2
rw [hd,TE hc] at hr
exact ih _ ⟨n+1,by omega,by omega,by omega⟩ (by omega)
exact Zj nofun fun _=>Zd (by omega)
refine Zb (fun hlt=>?_) fun hge=>?_
have h1:n<L.length:=by omega
have hc:L[n]? = some L[n]:=Yc h1
have hd:L.drop n=L[n]::L.drop (n+1):=Yt h1
refine Za (BF hc) ?_
by_cases he:L[n]=c
rw [Yh (u8c.2 he)]
exact hk.1 ⟨h1,by rw [hc,he]⟩
rw [Yf (fun hh=>he (u8c.1 hh))]
exact hk.2 (by rw [hd,PP he])
refine hk.2 ?_
rw [YI (by omega)]
rfl}
theorem Zp9 {s:Q3 Q4} {n:Int} {r:Q3 Q4} (h:BV s=some (n,r)):r.length<=s.length:=by{
unfold BV at h
split at h
have e:=(Prod.mk.inj (D7 h)).2
rw [<- e]
unfold Lib.cut
split
simp only [Yx];omega
simp
cases h}
def spU (c:Q4):Q4:=if c=95 then 32 else c
def BL (out:Q3 Q4) (c:Q4):Q3 Q4:=if c=32/\(out = []\/out.getLast? = some 32) then out else out ++ [c]
def EC (out:Q3 Q4):Q3 Q4:=if out.getLast? = some 32 then out.dropLast else out
def blL (s:Q3 Q4):Q3 Q4:=EC ((s.map spU).foldl BL [])
theorem ZxZ (l:Q3 Q4):strOfNums (l.map fun b=>(b.toNat:Int))=bs l:=by{
unfold strOfNums bs
congr 2
rw [I8]
conv=>rhs;rw [<- RY l]
refine DY fun b _=>?_
show UInt8.ofNat ((b.toNat:Int)).toNat=b
rw [DH,UInt8.ofNat_toNat]}
theorem dL (l:Q3 Q4):∀ out,(l.foldl BL out).length<=out.length+l.length:=by{
induction l with
| nil=>intro out;exact Yn _
| cons c l ih=>
  intro out
  refine YX (ih (BL out c)) ?_
  unfold BL
  split
  simp
  simp;omega}
theorem mG {l:Q3 Q4} {n:Nat} {c:Q4} (h:l[n]? = some c) (f:Q4->Q4):((l.take (n+1)).map f).foldl BL []=BL (((l.take n).map f).foldl BL []) (f c):=by
 let ⟨hl,he⟩:=Yd.1 h
 rw [RH hl,he,YR,FZ]
 rfl
theorem dM (out:Q3 Q4) (h:0<out.length):∃ e,out.getLast? = some e/\(out.map fun b=>(b.toNat:Int))[((out.length:Int)-1).toNat]? = some (e.toNat:Int)/\atS (bs out) ((out.length:Int)-1)=some (e.toNat:Int):=by{
rcases MG out with rfl | ⟨init,e,hc⟩
simp at h
obtain rfl:out=init ++ [e]:=by rw [hc];simp
refine ⟨e,by simp,?_,?_⟩
rw [show (((init ++ [e]).length:Int)-1).toNat=init.length by simp]
simp
have e2:((init ++ [e]).length:Int)-1=((init.length:Nat):Int):=by simp
rw [e2]
exact BF (by simp)}
theorem e32 {e:Q4}:((e.toNat:Int)=32)↔e=32:=⟨fun h=>GG.1 (show e.toNat=32 by omega),fun h=>by rw [h];rfl⟩
theorem ZrX (l:Q3 Q4) (h:l.length<=1000000):strings_TrimSuffix (bs l) ⟨#[32]⟩=some (bs (EC l)):=by{
refine ZK ?_
unfold strings_TrimSuffix WM WL
have z:(bs l).size=l.length:=rfl
have z1:(⟨#[32]⟩:Q1).size=1:=rfl
refine ZC (Q:=fun r=>r=bs (EC l)) ?_ fun r hr=>Zd hr
refine ZC (Q:=fun b=>b=decide (l.getLast? = some 32)) ?_ fun b hb=>?_
refine B7 (Zb (fun hl=>?_) fun hl=>Zd ?_)
rcases MG l with rfl | ⟨init,e,hc⟩
exact absurd hl (by decide)
obtain rfl:l=init ++ [e]:=by rw [hc];simp
rw [ZH]
have e1:((bs (init ++ [e])).size:Int)-((⟨#[32]⟩:Q1).size:Int)=((init.length:Nat):Int):=by rw [z,z1];simp
rw [e1]
refine Za (EV (init ++ [e]) init.length (by simp)) (Zd ?_)
rw [List.drop_left,Z9]
by_cases he:e=32
subst he;rfl
rw [Yf (fun h=>he (by have:=J9 (b:=[32]) h;simpa using this)),Yf (fun h=>he (D7 h))]
have:l = []:=Yl (by omega)
subst this
rfl
subst hb
unfold EC
refine Zb (fun hl=>?_) fun hl=>?_
rw [if_pos hl]
rcases MG l with rfl | ⟨init,e,hc⟩
cases hl
obtain rfl:l=init ++ [e]:=by rw [hc];simp
rw [ZH]
have e1:((bs (init ++ [e])).size:Int)-((⟨#[32]⟩:Q1).size:Int)=((init.length:Nat):Int):=by rw [z,z1];simp
rw [e1]
refine Za (G8 (init ++ [e]) 0 init.length (by omega) (by simp)) (Zd ?_)
simp
rw [if_neg hl]
exact Zd rfl}
theorem Ztt (t:Q3 Q4) (h:t.length<=600000):T3 (bs t)=some (bs (EC (t.foldl BL []))):=by{
refine ZK ?_
unfold T3
have z:(bs t).size=t.length:=rfl
refine Za (v:=()) (by unfold WA;rw [if_pos ⟨by omega,by omega,by omega⟩]) ?_
refine ZF (fun x=>∃ n:Nat,x.1=(n:Int)/\n<=t.length/\x.2=((((t.take n).map id).foldl BL []).map fun b=>(b.toNat:Int))) (fun x=>t.length-x.1.toNat) ⟨0,rfl,Nat.zero_le _,rfl⟩ (by dsimp only;omega) ?_
rintro ⟨i,l⟩ rec ⟨n,hi,hn,hl⟩ ih
dsimp only at hi hl ih ⊢
subst hi hl
have hlen:=dL ((t.take n).map id) []
simp only [DI,Yv,YE] at hlen
generalize hout:((t.take n).map id).foldl BL []=out at hlen ⊢
refine Zb (fun hlt=>?_) fun hge=>?_
·obtain ⟨c,hc⟩:∃ c,t[n]? = some c:=⟨_,Yc (by omega)⟩
 have hstep:=mG hc id
 rw [hout] at hstep
 have next:Tot (rec (w64 ((n:Int)+1),(BL out c).map fun b=>(b.toNat:Int))) (fun r=>r=bs (EC (t.foldl BL []))):=by
  rw [ZH]
  exact ih _ ⟨n+1,by simp,by omega,by dsimp only;rw [hstep];rfl⟩ (by dsimp only;omega)
 refine Zt (fun q=>Tot (q ((BL out c).map fun b=>(b.toNat:Int))) (fun r=>r=bs (EC (t.foldl BL [])))) next fun k19 h19=>?_
 refine Zt (fun q=>(¬ (c=32/\(out = []\/out.getLast? = some 32))->Tot (q true) (fun r=>r=bs (EC (t.foldl BL []))))/\((c=32/\(out = []\/out.getLast? = some 32))->Tot (q false) (fun r=>r=bs (EC (t.foldl BL []))))) ⟨fun hx=>?_,fun hx=>?_⟩ fun k20 h20=>?_
 refine Zj (fun _=>?_) nofun
 refine Za (BF hc) ?_
 refine kA 700000 (by simp only [YC,Yv];omega) (by omega) (by omega) ?_
 have e:(out.map fun b=>(b.toNat:Int)) ++ [(c.toNat:Int)]=(BL out c).map fun b=>(b.toNat:Int):=by
  unfold BL
  rw [if_neg hx]
  simp
 rw [e]
 exact h19
 refine Zj nofun fun _=>?_
 have e:BL out c=out:=by unfold BL;rw [if_pos hx]
 rw [e] at h19
 exact h19
 refine Za (BF hc) (CK (fun hne=>h20.1 fun h=>hne (e32.2 h.1)) fun h32=>?_)
 have hc32:=e32.1 h32
 rw [Yv]
 refine Zb (fun hpos=>?_) fun hz=>h20.2 ⟨hc32,.inl (Yl (by omega))⟩
 let ⟨e,g1,g2,_⟩:=dM out (by omega)
 rw [ZH]
 refine Za (v:=(e.toNat:Int)) (by unfold atI;rw [if_pos (by omega)];exact g2) ?_
 by_cases he:e=32
 rw [Yh (e32.2 he)]
 exact h20.2 ⟨hc32,.inr (by rw [g1,he])⟩
 rw [Yf (fun h=>he (e32.1 h))]
 refine h20.1 fun h=>?_
 rcases h.2 with h | h
 subst h;simp at hpos
 rw [g1] at h;exact he (D7 h)
have hne:n=t.length:=by omega
subst hne
rw [aE,RY] at hout
rw [ZxZ]
refine Za (ZrX out (by omega)) (Zd ?_)
rw [hout]}
theorem mH {l:Q3 Q4} (h:∀ c ∈ l,c≠95):l.map spU=l:=by
 conv=>rhs;rw [<- RY l]
 exact DY fun c hc=>by unfold spU;rw [if_neg (h c hc)];rfl
theorem mI:∀ (n:Nat) (s:Q3 Q4),s.length<=n->Lib.replaceK [95] [32] (Lib.count s [95]) s=s.map spU
 | n,s,hn=>by
   rcases Lib.index_spec s [95] with ⟨h1,h2⟩ | ⟨i,h1,h2,h3,h4⟩
   ·rw [Lib.count_miss h1]
    have hno:∀ c ∈ s,c≠95:=fun c hc e=>by
     subst e
     let ⟨j,hj⟩:=YA hc
     let ⟨hl,he⟩:=Yd.1 hj
     have:=h2 j (by omega)
     unfold Lib.occAt at this
     rw [Yt hl,he] at this
     simp at this
    rw [mH hno]
    rfl
   ·have hr:=Lib.index_room s [95] (by omega)
    simp only [YC] at hr
    rw [Lib.count_hit (by decide) h1,Nat.add_comm,Lib.replaceK_hit _ _ _ _ _ h1]
    have hi:i<s.length:=by omega
    match n,hn with
    | n+1,hn=>
      rw [mI n (s.drop (i+([95]:Q3 Q4).length)) (by rw [Yx,YC];omega)]
      have h95:s[i]=95:=by
       have h5:([95]:Q3 Q4).isPrefixOf (s[i]::s.drop (i+1))=true:=by rw [<- Yt hi];exact h3
       have h6:(95 == s[i]&&List.isPrefixOf [] (s.drop (i+1)))=true:=h5
       rw [YH] at h6
       exact (D8.1 h6.1).symm
      have hno:∀ c ∈ s.take i,c≠95:=fun c hc e=>by
       subst e
       let ⟨j,hj⟩:=YA hc
       rw [FB] at hj
       split at hj
       ·rename_i hji
        let ⟨hl,he⟩:=Yd.1 hj
        have:=h4 j hji
        unfold Lib.occAt at this
        rw [Yt hl,he] at this
        simp at this
       ·cases hj
      have hs:s=s.take i++95::s.drop (i+1):=by
       rw [<- h95,<- Yt hi,YQ]
      conv=>rhs;rw [hs,YR,YO,mH hno]
      rw [YM]
      rfl
    | 0,hn=>omega
theorem Zsp (s:Q3 Q4) (h:s.length<=300000):T1 (bs s) ⟨#[95]⟩ ⟨#[32]⟩=some (bs (s.map spU)):=by{
have z:(bs s).size=s.length:=rfl
have hc:Lib.countB (bs s) ⟨#[95]⟩<=(bs s).size:=by
 have h:=Lib.countB_mul_le ⟨#[95]⟩ (by decide) (bs s).size (bs s) (Yn _)
 have e:(⟨#[95]⟩:Q1).size=1:=rfl
 rw [e] at h
 omega
have e1:(⟨#[32]⟩:Q1).size=1:=rfl
have e2:(⟨#[95]⟩:Q1).size=1:=rfl
unfold T1
rw [if_pos ⟨⟨by omega,by omega⟩,by rw [e1];omega⟩]
show some (bs (Lib.replaceK [95] [32] (Lib.count s [95]) s))=_
rw [mI s.length s (Yn _)]}
theorem WW {c d:Q4}:bs [c]=bs [d]↔c=d:=⟨fun h=>by simpa using J9 h,fun h=>by rw [h]⟩
theorem ZuA (s:Q3 Q4) (h:s.length<=300000):TA (bs s)=some (bs (blL s)):=by{
refine ZK ?_
unfold TA
have z:(bs s).size=s.length:=rfl
refine ZF (fun x=>∃ n:Nat,x.2=(n:Int)/\n<=s.length/\x.1=bs (((s.take n).map spU).foldl BL [])) (fun x=>s.length-x.2.toNat) ⟨0,rfl,Nat.zero_le _,rfl⟩ (by dsimp only;omega) ?_
rintro ⟨o,i⟩ rec ⟨n,hi,hn,ho⟩ ih
dsimp only at hi ho ih ⊢
subst hi ho
have hlen:=dL ((s.take n).map spU) []
simp only [DI,Yv,YE] at hlen
generalize hout:((s.take n).map spU).foldl BL []=out at hlen ⊢
have zo:(bs out).size=out.length:=rfl
refine Zb (fun hlt=>?_) fun hge=>?_
obtain ⟨c,hc⟩:∃ c,s[n]? = some c:=⟨_,Yc (by omega)⟩
have hstep:=mG hc spU
rw [hout] at hstep
refine Zt (fun q=>Tot (q (bs (BL out (spU c)))) (fun r=>r=bs (blL s))) ?_ fun k30 h30=>?_
rw [ZH]
exact ih _ ⟨n+1,by simp,by omega,by dsimp only;rw [hstep]⟩ (by dsimp only;omega)
have e1:w64 ((n:Int)+1)=((n+1:Nat):Int):=by rw [ZH];rfl
rw [e1]
have e2:(s.take (n+1)).drop n = [c]:=by
 let ⟨hl,he⟩:=Yd.1 hc
 rw [RH hl,Z2 (by rw [YE];omega),YI (by rw [YE];omega),he]
 rfl
refine Za (G8 s n (n+1) (by omega) (by omega)) ?_
rw [e2]
refine Zt (fun q=>Tot (q (bs [spU c])) (fun r=>r=bs (blL s))) ?_ fun k31 h31=>?_
generalize spU c=d at h30 ⊢
refine Zt (fun q=>((d=32/\(out = []\/out.getLast? = some 32))->Tot (q true) (fun r=>r=bs (blL s)))/\(¬ (d=32/\(out = []\/out.getLast? = some 32))->Tot (q false) (fun r=>r=bs (blL s)))) ⟨fun hx=>?_,fun hx=>?_⟩ fun k32 h32=>?_
refine Zj (fun _=>?_) nofun
have e:BL out d=out:=by unfold BL;rw [if_pos hx]
rw [e] at h30
exact h30
refine Zj nofun fun _=>?_
have e:BL out d=out ++ [d]:=by unfold BL;rw [if_neg hx]
rw [e,<- dG] at h30
refine K2 (by have:(bs [d]).size=1:=rfl;omega) fun _=>h30
refine Zb (fun hd=>?_) fun hd=>h32.2 fun h=>hd (WW.2 h.1)
have hd32:=WW.1 hd
refine Zb (fun he=>h32.1 ⟨hd32,.inl (J9 (b:=[]) he)⟩) fun hne=>?_
have hpos:0<out.length:=Nat.pos_of_ne_zero fun h0=>hne (by rw [Yl h0];rfl)
let ⟨e,g1,_,g3⟩:=dM out hpos
rw [zo,ZH]
refine Za g3 ?_
by_cases he:e=32
rw [Yh (e32.2 he)]
exact h32.1 ⟨hd32,.inr (by rw [g1,he])⟩
rw [Yf (fun h=>he (e32.1 h))]
refine h32.2 fun h=>?_
rcases h.2 with h | h
exact hne (by rw [h];rfl)
rw [g1] at h;exact he (D7 h)
refine Zb (fun h95=>?_) fun h95=>?_
have:spU c=32:=by unfold spU;rw [if_pos (WW.1 h95)]
rw [this] at h31
exact h31
have:spU c=c:=by unfold spU;rw [if_neg (fun h=>h95 (WW.2 h))]
rw [this] at h31
exact h31
have hne:n=s.length:=by omega
subst hne
rw [aE] at hout
have hbl:blL s=EC out:=by unfold blL;rw [hout]
rw [hbl]
refine Zt (fun q=>(out.getLast? = some 32->Tot (q true) (fun r=>r=bs (EC out)))/\(¬ out.getLast? = some 32->Tot (q false) (fun r=>r=bs (EC out)))) ⟨fun hx=>?_,fun hx=>?_⟩ fun k33 h33=>?_
refine B7 (Zj (fun _=>?_) nofun)
rcases MG out with he | ⟨init,e,hcc⟩
rw [he] at hx;cases hx
have hcc:out=init ++ [e]:=by rw [hcc];simp
rw [hcc] at hx hlen ⊢
simp only [Yb,YC] at hlen
rw [ZH (by have:(bs (init ++ [e])).size=init.length+1:=(by show (init ++ [e]).length=_;simp);omega) (by have:(bs (init ++ [e])).size=init.length+1:=(by show (init ++ [e]).length=_;simp);omega)]
have e1:((bs (init ++ [e])).size:Int)-1=((init.length:Nat):Int):=by show ((init ++ [e]).length:Int)-1=_;simp
rw [e1]
refine Za (G8 (init ++ [e]) 0 init.length (by omega) (by simp)) (Zd ?_)
unfold EC
rw [if_pos hx]
simp
refine B7 (Zj nofun fun _=>Zd ?_)
unfold EC
rw [if_neg hx]
refine Zb (fun hpos=>?_) fun hz=>?_
let ⟨e,g1,_,g3⟩:=dM out (by omega)
rw [zo,ZH]
refine Za g3 ?_
by_cases he:e=32
rw [Yh (e32.2 he)]
exact h33.1 (by rw [g1,he])
rw [Yf (fun h=>he (e32.1 h))]
exact h33.2 fun h=>by rw [g1] at h;exact he (D7 h)
have:out = []:=Yl (by omega)
exact h33.2 (by rw [this];intro h;cases h)}
def sgl:Q3 Q4->Bool | []=>true | a::l=>!(decide (a=32)&&decide (l.head? = some 32))&&sgl l
def filt:Bool->Q3 Q4->Q3 Q4 | _,[]=>[] | p,c::l=>if c=32/\(p=true\/l.head? = some 47) then filt false l else c::filt (decide (c=47)) l
theorem PU (b:Bool) (c:Q4) (l:Q3 Q4):filt b (c::l)=if c=32/\(b=true\/l.head? = some 47) then filt false l else c::filt (decide (c=47)) l:=rfl
def tlB (p:Q3 Q4):Q3 Q4:=p.dropWhile (fun c=>decide (c=32))
def trB (p:Q3 Q4):Q3 Q4:=(p.reverse.dropWhile (fun c=>decide (c=32))).reverse
def TF:Bool->Q3 (Q3 Q4)->Q3 Q4 | _,[]=>[] | b,[p]=>if b=true then tlB p else p | b,p::q::ps=>trB (if b=true then tlB p else p)++47::TF true (q::ps)
theorem LS {c:Q4} {l:Q3 Q4} (h:sgl (c::l)=true):sgl l=true:=by
 unfold sgl at h
 rw [YH] at h
 exact h.2
theorem dN {c:Q4} {l:Q3 Q4} (h:sgl (c::l)=true) (hc:c=32):l.head?≠some 32:=fun e=>by
 unfold sgl at h
 rw [Yh hc,Yh e] at h
 cases h
theorem dO:∀ {a b:Q3 Q4},sgl (a++b)=true->sgl b=true
 | [],b,h=>h
 | c::a,b,h=>dO (a:=a) (LS h)
theorem mJ {l:Q3 Q4} (h:sgl (32::l)=true):tlB (32::l)=l:=by{
unfold tlB
rw [I4,if_pos (by decide)]
cases l with
| nil=>rfl
| cons d l=>
  have:=dN h rfl
  rw [I4,if_neg]
  intro e
  exact this (by rw [FE e];rfl)}
theorem dP {c:Q4} {l:Q3 Q4} (h:¬ c=32):tlB (c::l)=c::l:=by
 unfold tlB
 rw [I4,if_neg (by simpa using h)]
theorem ZxP (c:Q4):trB [c]=if c=32 then [] else [c]:=by{
unfold trB
rw [List.reverse_singleton,I4]
by_cases h:c=32
rw [if_pos (by simpa using h),if_pos h];rfl
rw [if_neg (by simpa using h),if_neg h];rfl}
theorem Zma (q:Q4->Bool) (l:Q3 Q4) (c:Q4):(l ++ [c]).dropWhile q=if l.dropWhile q = [] then (if q c=true then [] else [c]) else l.dropWhile q ++ [c]:=by{
induction l with
| nil=>
  show [c].dropWhile q=if ([]:Q3 Q4) = [] then (if q c=true then [] else [c]) else [] ++ [c]
  rw [if_pos rfl,I4]
  rfl
| cons d l ih=>
  show (d::(l ++ [c])).dropWhile q=if (d::l).dropWhile q = [] then (if q c=true then [] else [c]) else (d::l).dropWhile q ++ [c]
  rw [I4,I4]
  cases q d with
  | true=>exact ih
  | false=>simp}
theorem mK (c:Q4) (l:Q3 Q4):trB (c::l)=if trB l = [] then (if c=32 then [] else [c]) else c::trB l:=by{
unfold trB
rw [RQ,Zma]
by_cases h:l.reverse.dropWhile (fun c=>decide (c=32)) = []
rw [if_pos h,h]
simp only [UZ,if_true,YT]
split<;>rfl
rw [if_neg h,if_neg (fun e=>h (List.reverse_eq_nil_iff.1 e))]
simp}
theorem Zzh {d:Q4} {l:Q3 Q4} (h:¬ d=32):trB (d::l)≠[]:=by{
rw [mK]
by_cases ht:trB l = []
rw [if_pos ht,if_neg h];simp
rw [if_neg ht];simp}
theorem mL:∀ (p:Q3 Q4) (b:Bool),(∀ c ∈ p,c≠47)->sgl p=true->filt b p=if b=true then tlB p else p
 | [],b,_,_=>by cases b<;>rfl
 | c::l,b,h,hs=>by
   have hl:∀ d ∈ l,d≠47:=fun d hd=>h d (Yg _ hd)
   have h47:¬ c=47:=h c Yi
   have hh:l.head?≠some 47:=fun e=>by
    cases l with
    | nil=>cases e
    | cons d l=>exact hl d Yi (by injection e)
   have ih:=mL l false hl (LS hs)
   have ih:filt false l=l:=ih
   rw [PU]
   by_cases hc:c=32/\(b=true\/l.head? = some 47)
   rw [if_pos hc,ih]
   have hb:b=true:=hc.2.resolve_right hh
   obtain ⟨rfl,_⟩:=hc
   rw [if_pos hb,mJ hs]
   rw [if_neg hc,Yf h47,ih]
   cases b with
   | false=>rfl
   | true=>
     have:¬ c=32:=fun e=>hc ⟨e,.inl rfl⟩
     rw [if_pos rfl,dP this]
theorem mM:∀ (p:Q3 Q4) (b:Bool) (w:Q3 Q4),(∀ c ∈ p,c≠47)->sgl (p++47::w)=true->filt b (p++47::w)=trB (if b=true then tlB p else p)++47::filt true w
 | [],b,w,_,_=>by
   show filt b (47::w)=_
   rw [PU,if_neg (fun h=>by cases h.1),Yh rfl]
   cases b<;>rfl
 | c::l,b,w,h,hs=>by
   have hl:∀ d ∈ l,d≠47:=fun d hd=>h d (Yg _ hd)
   have h47:¬ c=47:=h c Yi
   have hs:sgl (c::(l++47::w))=true:=hs
   have ih:=mM l false w hl (LS hs)
   have ih:filt false (l++47::w)=trB l++47::filt true w:=ih
   show filt b (c::(l++47::w))=_
   rw [PU]
   have hsl:c=32->sgl (c::l)=true:=fun hc=>by
    subst hc
    have h2:=dN hs rfl
    unfold sgl
    cases l with
    | nil=>rfl
    | cons d l=>
      have hd:¬ d=32:=fun e=>h2 (by rw [e];rfl)
      have:∀ (l:Q3 Q4) (w:Q3 Q4),sgl (l++47::w)=true->sgl l=true:=by
       intro l
       induction l with
       | nil=>intro w _;rfl
       | cons e l ih=>
         intro w hw
         have t:=ih w (LS hw)
         unfold sgl
         rw [t,MO]
         cases l with
         | nil=>simp
         | cons f l=>
           have hw:sgl (e::f::(l++47::w))=true:=hw
           unfold sgl at hw
           rw [YH] at hw
           exact hw.1
      rw [this (d::l) w (LS hs),MO,Yf (show ¬ (d::l).head? = some 32 from fun e=>hd (by injection e)),Bool.and_false]
      rfl
   by_cases hc:c=32/\(b=true\/(l++47::w).head? = some 47)
   ·rw [if_pos hc,ih]
    obtain ⟨rfl,hc2⟩:=hc
    cases b with
    | true=>rw [if_pos rfl,mJ (hsl rfl)]
    | false=>
      have h2:(l++47::w).head? = some 47:=hc2.resolve_left (by decide)
      cases l with
      | nil=>
        show trB []++47::filt true w=trB [32]++_
        rw [ZxP,if_pos rfl]
        rfl
      | cons d l=>exact absurd (show d=47 by injection h2) (hl d Yi)
   ·rw [if_neg hc,Yf h47,ih]
    have hk:(if b=true then tlB (c::l) else c::l)=c::l:=by
     cases b with
     | false=>rfl
     | true=>rw [if_pos rfl,dP (fun e=>hc ⟨e,.inl rfl⟩)]
    rw [hk,mK]
    by_cases ht:trB l = []
    ·rw [if_pos ht,ht]
     by_cases hc32:c=32
     ·exfalso
      subst hc32
      cases l with
      | nil=>exact hc ⟨rfl,.inr rfl⟩
      | cons d l=>
        have hd:¬ d=32:=fun e=>dN (hsl rfl) rfl (by rw [e];rfl)
        exact Zzh hd ht
     ·rw [if_neg hc32]
      rfl
    ·rw [if_neg ht]
     rfl
theorem mN:∀ (p a w:Q3 Q4),(∀ c ∈ p,c≠47)->C9 a (p++47::w)=(a++p)::C9 [] w
 | [],a,w,_=>by
   show C9 a (47::w)=_
   rw [C9,if_pos (by decide),YB]
 | c::p,a,w,h=>by
   have h0:¬ c.toNat=47:=fun e=>h c Yi (GG.1 e)
   show C9 a (c::(p++47::w))=_
   rw [C9,if_neg h0,mN p (a ++ [c]) w fun d hd=>h d (Yg _ hd),YM]
   rfl
theorem mO:∀ (p a:Q3 Q4),(∀ c ∈ p,c≠47)->C9 a p = [a++p]
 | [],a,_=>by rw [C9,YB]
 | c::p,a,h=>by
   have h0:¬ c.toNat=47:=fun e=>h c Yi (GG.1 e)
   rw [C9,if_neg h0,mO p (a ++ [c]) fun d hd=>h d (Yg _ hd),YM]
   rfl
theorem ZsX (w:Q3 Q4):∀ a,∃ q ps,C9 a w=q::ps:=by{
induction w with
| nil=>intro a;exact ⟨a,[],by rw [C9]⟩
| cons c w ih=>
  intro a
  rw [C9]
  split
  exact ⟨a,_,rfl⟩
  exact ih _}
theorem ZAe (w:Q3 Q4):(∀ c ∈ w,c≠47)\/∃ p r,w=p++47::r/\∀ c ∈ p,c≠47:=by{
induction w with
| nil=>exact .inl fun c h=>by cases h
| cons c w ih=>
  by_cases hc:c=47
  exact .inr ⟨[],w,by rw [hc];rfl,fun c h=>by cases h⟩
  rcases ih with h | ⟨p,r,rfl,h⟩
  refine .inl fun d hd=>?_
  rcases Ys.1 hd with rfl | hd
  exact hc
  exact h d hd
  refine .inr ⟨c::p,r,rfl,fun d hd=>?_⟩
  rcases Ys.1 hd with rfl | hd
  exact hc
  exact h d hd}
theorem ZsY:∀ (n:Nat) (w:Q3 Q4) (b:Bool),w.length<=n->sgl w=true->TF b (C9 [] w)=filt b w:=by{
intro n
induction n with
| zero=>
  intro w b hn hs
  have:w = []:=Yl (by omega)
  subst this
  cases b<;>rfl
| succ n ih=>
  intro w b hn hs
  rcases ZAe w with h | ⟨p,r,rfl,h⟩
  rw [mO w [] h,mL w b h hs]
  rfl
  rw [mN p [] r h,mM p b r h hs]
  let ⟨q,ps,hq⟩:=ZsX r []
  have hr:=ih r true (by simp at hn;omega) (by have:=dO (a:=p) hs;exact LS this)
  rw [hq] at hr ⊢
  show trB (if b=true then tlB ([]++p) else []++p)++47::TF true (q::ps)=_
  rw [hr]
  rfl}
theorem Zyv (p:Q3 Q4) (h:p.length<=1000000):T5 (bs p) ⟨#[32]⟩=some (bs (tlB p)):=by{
have core:T4 (bs p) 32=some (bs (tlB p)):=by
 refine ZK ?_
 unfold T4
 refine ZF (fun x=>∃ q,x=bs q/\q.length<=p.length/\tlB q=tlB p) (fun x=>x.size) ⟨p,rfl,Yn _,rfl⟩ (by show p.length<=_;omega) ?_
 rintro x rec ⟨q,rfl,hq,ht⟩ ih
 cases q with
 | nil=>
   refine B7 (Zb (fun h=>absurd h (by decide)) fun _=>?_)
   exact Zj nofun fun _=>Zd (by rw [<- ht];rfl)
 | cons c q=>
   have z:(bs (c::q)).size=q.length+1:=rfl
   simp only [Yr] at hq
   refine Zt (fun k=>(c=32->Tot (k true) (fun r=>r=bs (tlB p)))/\(¬ c=32->Tot (k false) (fun r=>r=bs (tlB p)))) ⟨fun hc=>?_,fun hc=>?_⟩ fun k hk=>?_
   refine Zj (fun _=>?_) nofun
   refine Za (EV (c::q) 1 (by simp)) (ih _ ⟨q,rfl,by omega,?_⟩ (by show q.length<q.length+1;omega))
   rw [<- ht]
   unfold tlB
   rw [I4,if_pos (by simpa using hc)]
   refine Zj nofun fun _=>Zd ?_
   rw [<- ht,dP hc]
   refine Zb (fun _=>?_) fun h=>absurd (by omega) h
   refine Za (BF (L:=c::q) (n:=0) rfl) ?_
   by_cases hc:c=32
   rw [Yh (e32.2 hc)]
   exact hk.1 hc
   rw [Yf (fun h=>hc (e32.1 h))]
   exact hk.2 hc
refine ZK ?_
unfold T5
refine Zt (fun k=>((p = [])->Tot (k true) (fun r=>r=bs (tlB p)))/\Tot (k false) (fun r=>r=bs (tlB p))) ⟨fun hp=>?_,?_⟩ fun k hk=>?_
refine Zj (fun _=>Zd ?_) nofun
rw [hp];rfl
refine Zj nofun fun _=>B7 (Zb (fun _=>?_) fun h=>absurd rfl h)
refine Za (v:=32) rfl (Zj (fun _=>?_) nofun)
exact Za (v:=32) rfl (Za core (Zd rfl))
refine Zb (fun h=>hk.1 (J9 (b:=[]) h)) fun _=>?_
rw [Yf (by decide)]
exact hk.2}
theorem mP (q:Q3 Q4) (c:Q4):trB (q ++ [c])=if c=32 then trB q else q ++ [c]:=by{
unfold trB
rw [OB]
show ((c::q.reverse).dropWhile _).reverse=_
rw [I4]
by_cases hc:c=32
rw [if_pos (by simpa using hc),if_pos hc]
rw [if_neg (by simpa using hc),if_neg hc]
simp}
theorem ZwC (p:Q3 Q4) (h:p.length<=1000000):T7 (bs p) ⟨#[32]⟩=some (bs (trB p)):=by{
have core:T6 (bs p) 32=some (bs (trB p)):=by
 refine ZK ?_
 unfold T6
 refine ZF (fun x=>∃ q,x=bs q/\q.length<=p.length/\trB q=trB p) (fun x=>x.size) ⟨p,rfl,Yn _,rfl⟩ (by show p.length<=_;omega) ?_
 rintro x rec ⟨q,rfl,hq,ht⟩ ih
 rcases MG q with rfl | ⟨init,c,hc0⟩
 refine B7 (Zb (fun h=>absurd h (by decide)) fun _=>?_)
 exact Zj nofun fun _=>Zd (by rw [<- ht];rfl)
 obtain rfl:q=init ++ [c]:=by rw [hc0];simp
 have z:(bs (init ++ [c])).size=init.length+1:=by show (init ++ [c]).length=_;simp
 simp only [Yb,YC] at hq
 have e1:w64 (((bs (init ++ [c])).size:Int)-1)=((init.length:Nat):Int):=by rw [ZH];omega
 refine Zt (fun k=>(c=32->Tot (k true) (fun r=>r=bs (trB p)))/\(¬ c=32->Tot (k false) (fun r=>r=bs (trB p)))) ⟨fun hc=>?_,fun hc=>?_⟩ fun k hk=>?_
 refine Zj (fun _=>?_) nofun
 rw [e1]
 refine Za (G8 (init ++ [c]) 0 init.length (by omega) (by simp)) ?_
 rw [MM,MN]
 refine ih _ ⟨init,rfl,by omega,?_⟩ (by rw [z];show init.length<_;omega)
 rw [<- ht,mP,if_pos hc]
 refine Zj nofun fun _=>Zd ?_
 rw [<- ht,mP,if_neg hc]
 refine Zb (fun _=>?_) fun h=>absurd (by omega) h
 rw [e1]
 refine Za (BF (L:=init ++ [c]) (n:=init.length) (c:=c) (by simp)) ?_
 by_cases hc:c=32
 rw [Yh (e32.2 hc)]
 exact hk.1 hc
 rw [Yf (fun h=>hc (e32.1 h))]
 exact hk.2 hc
refine ZK ?_
unfold T7
refine Zt (fun k=>((p = [])->Tot (k true) (fun r=>r=bs (trB p)))/\Tot (k false) (fun r=>r=bs (trB p))) ⟨fun hp=>?_,?_⟩ fun k hk=>?_
refine Zj (fun _=>Zd ?_) nofun
rw [hp];rfl
refine Zj nofun fun _=>B7 (Zb (fun _=>?_) fun h=>absurd rfl h)
refine Za (v:=32) rfl (Zj (fun _=>?_) nofun)
exact Za (v:=32) rfl (Za core (Zd rfl))
refine Zb (fun h=>hk.1 (J9 (b:=[]) h)) fun _=>?_
rw [Yf (by decide)]
exact hk.2}
def CS:Bool->Q3 (Q3 Q4)->Q3 (Q3 Q4) | _,[]=>[] | b,[p]=>[if b=true then tlB p else p] | b,p::q::ps=>trB (if b=true then tlB p else p)::CS true (q::ps)
theorem dQ:∀ (b:Bool) (P:Q3 (Q3 Q4)),(CS b P).length=P.length
 | _,[]=>rfl
 | _,[_]=>rfl
 | b,p::q::ps=>by
   show (CS true (q::ps)).length+1=_
   rw [dQ true (q::ps)]
   rfl
theorem mQ:∀ (P:Q3 (Q3 Q4)) (b:Bool) (i:Nat) (p:Q3 Q4),P[i]? = some p->(CS b P)[i]? = some (if i+1<P.length then trB (if b=true\/0<i then tlB p else p) else (if b=true\/0<i then tlB p else p))
 | [],b,i,p,h=>by simp at h
 | [q],b,0,p,h=>by
   cases h
   rw [if_neg (by simp)]
   show some (if b=true then tlB q else q)=_
   cases b<;>simp
 | [q],b,i+1,p,h=>by simp at h
 | q::r::ps,b,0,p,h=>by
   cases h
   rw [if_pos (by simp)]
   show some (trB (if b=true then tlB q else q))=_
   cases b<;>simp
 | q::r::ps,b,i+1,p,h=>by
   have h:(r::ps)[i]? = some p:=h
   show (CS true (r::ps))[i]? = _
   rw [mQ (r::ps) true i p h,if_pos (Or.inl rfl:(true=true\/0<i)),if_pos (Or.inr (RX i):(b=true\/0<i+1))]
   simp only [Yr]
   by_cases hl:i+1<ps.length+1
   rw [if_pos hl,if_pos (by omega)]
   rw [if_neg hl,if_neg (by omega)]
theorem mR:∀ (b:Bool) (P:Q3 (Q3 Q4)),Lib.join (CS b P) [47]=TF b P
 | _,[]=>rfl
 | b,[p]=>by
   show Lib.join [if b=true then tlB p else p] [47]=if b=true then tlB p else p
   rw [Lib.join_cons]
   simp [Lib.joinTail]
 | b,p::q::ps=>by
   have ih:=mR true (q::ps)
   show Lib.join (trB (if b=true then tlB p else p)::CS true (q::ps)) [47]=trB (if b=true then tlB p else p)++47::TF true (q::ps)
   rw [<- ih,Lib.join_cons]
   obtain ⟨r,rs,hr⟩:∃ r rs,CS true (q::ps)=r::rs:=by
    cases hm:CS true (q::ps) with
    | nil=>
      have:=dQ true (q::ps)
      rw [hm] at this
      cases this
    | cons r rs=>exact ⟨r,rs,rfl⟩
   rw [hr,Lib.join_cons]
   rfl
theorem ZrM (w:Q3 Q4) (h:w.length<=600000) (hs:sgl w=true):T8 (bs w)=some (bs (filt false w)):=by{
have z:(bs w).size=w.length:=rfl
have hc:=kU (bs w)
have hd:(Lib.splitB ⟨#[47]⟩ 0 (Lib.countB (bs w) ⟨#[47]⟩) (bs w)).map (·.data.toList)=C9 [] w:=cY _ (bs w) rfl
have hsz:=WE ⟨#[47]⟩ (Lib.countB (bs w) ⟨#[47]⟩) (bs w)
have hln:=Lib.splitB_all ⟨#[47]⟩ (by decide) 0 _ (bs w) rfl
refine ZK ?_
unfold T8 strings_Split
rw [if_pos ⟨⟨by omega,by decide⟩,by omega⟩]
generalize Lib.splitB ⟨#[47]⟩ 0 (Lib.countB (bs w) ⟨#[47]⟩) (bs w)=L at hd hsz hln ⊢
generalize hP:C9 [] w=P at hd
have hL:L=P.map bs:=by
 rw [<- hd,I8]
 conv=>lhs;rw [<- RY L]
 exact DY fun a _=>rfl
have hps:∀ p ∈ P,p.length<=600000:=fun p hp=>by
 rw [<- hd] at hp
 obtain ⟨a,ha,rfl⟩:=Yy.1 hp
 have:=hsz a ha
 show a.size<=_
 omega
have hPn:P.length<=600001/\0<P.length:=by rw [<- hd,Yv];omega
subst hL
have hml:=dQ false P
refine Za rfl ?_
refine ZF (fun x=>∃ i:Nat,x.1=(i:Int)/\i<=P.length/\x.2=((CS false P).take i++P.drop i).map bs) (fun x=>P.length-x.1.toNat) ⟨0,rfl,Nat.zero_le _,by simp⟩ (by dsimp only;omega) ?_
rintro ⟨i',l⟩ rec ⟨i,hi,hn,hl⟩ ih
dsimp only at hi hl ih ⊢
subst hi hl
rw [Yv]
refine Zb (fun hlt=>?_) fun hge=>?_
have hlt:i<P.length:=by omega
obtain ⟨p,hp⟩:∃ p,P[i]? = some p:=⟨_,Yc hlt⟩
have hpl:=hps p (Yj hp)
have hg:=mQ P false i p hp
have htl:((CS false P).take i).length=i:=by rw [YE,hml];omega
have hdr:P.drop i=p::P.drop (i+1):=by
 let ⟨h1,h2⟩:=Yd.1 hp
 rw [Yt h1,h2]
have ati:∀ y:Q3 Q4,atI (((CS false P).take i++y::P.drop (i+1)).map bs) (i:Int)=some (bs y):=fun y=>by
 unfold atI
 rw [if_pos (by omega),DH,Yw,YP (by omega),htl,E4]
 rfl
have seti:∀ y y2:Q3 Q4,AQ (((CS false P).take i++y::P.drop (i+1)).map bs) (i:Int) (bs y2)=((CS false P).take i++y2::P.drop (i+1)).map bs:=fun y y2=>by
 unfold AQ
 rw [DH,YR,YR,YO,YO,MF _ _ (by rw [Yv];omega),Yv,htl,E4]
 rfl
have hlen2:∀ y:Q3 Q4,((((CS false P).take i++y::P.drop (i+1)).map bs).length:Int)=(P.length:Int):=fun y=>by
 rw [Yv,Yb,htl,Yr,Yx];omega
rw [hdr]
refine Zt (fun q=>∀ y:Q3 Q4,(CS false P)[i]? = some y->Tot (q (((CS false P).take i++y::P.drop (i+1)).map bs)) (fun r=>r=bs (filt false w))) (fun y hy=>?_) fun k15 h15=>?_
rw [ZH]
refine ih _ ⟨i+1,by simp,by omega,?_⟩ (by dsimp only;omega)
let ⟨h1,h2⟩:=Yd.1 hy
dsimp only
rw [RH h1,h2,YM]
rfl
refine Zt (fun q=>Tot (q (((CS false P).take i++(if 0<i then tlB p else p)::P.drop (i+1)).map bs)) (fun r=>r=bs (filt false w))) ?_ fun k16 h16=>?_
generalize hq:(if 0<i then tlB p else p)=q
have hql:q.length<=600000:=by
 rw [<- hq]
 split
 exact YX (UT _).length_le hpl
 exact hpl
have hg2:(CS false P)[i]? = some (if i+1<P.length then trB q else q):=by
 rw [hg,<- hq]
 simp
rw [hlen2,ZH]
refine Zb (fun h2=>?_) fun h2=>?_
rw [if_pos (by omega)] at hg2
refine Za (ati q) (Za (ZwC q (by omega)) (Za (ati q) ?_))
rw [seti]
exact h15 _ hg2
rw [if_neg (by omega)] at hg2
exact h15 _ hg2
refine Zb (fun h2=>?_) fun h2=>?_
rw [if_pos (by omega)] at h16
refine Za (ati p) (Za (Zyv p (by omega)) (Za (ati p) ?_))
rw [seti]
exact h16
rw [if_neg (by omega)] at h16
exact h16
have hne:i=P.length:=by omega
subst hne
rw [GF,YB,GW (by rw [hml];exact Yn _)]
have hj:Lib.join ((CS false P).map bs |>.map (·.data.toList)) [47]=filt false w:=by
 rw [I8]
 have:(CS false P).map ((fun a:Q1=>a.data.toList)∘bs)=CS false P:=by
  conv=>rhs;rw [<- RY (CS false P)]
  exact DY fun a _=>rfl
 rw [this,mR,<- hP,ZsY w.length w false (Yn _) hs]
have hfl:∀ (w:Q3 Q4) (b:Bool),(filt b w).length<=w.length:=by
 intro w
 induction w with
 | nil=>intro b;exact Yn _
 | cons c w ih=>
   intro b
   rw [PU]
   split
   exact Nat.le_succ_of_le (ih false)
   exact Nat.succ_le_succ (ih _)
refine Za (v:=bs (filt false w)) ?_ (Zd rfl)
unfold strings_Join
have e47:(⟨#[47]⟩:Q1).data.toList = [47]:=rfl
rw [e47,hj,if_pos ⟨⟨by rw [Yv,hml];omega,by rw [Yv,hml];omega⟩,by have:=hfl w false;omega⟩]
rfl}
theorem LT (a:Q4) (l:Q3 Q4):sgl (a::l)=(!(decide (a=32)&&decide (l.head? = some 32))&&sgl l):=rfl
theorem mS:∀ (a b:Q3 Q4),sgl (a++b)=true->sgl a=true
 | [],_,_=>rfl
 | [c],b,_=>by rw [LT];simp [sgl]
 | c::d::a,b,h=>by
   have h:sgl (c::d::(a++b))=true:=h
   rw [LT,YH] at h
   rw [LT,YH]
   exact ⟨h.1,mS (d::a) b h.2⟩
theorem mT:∀ (a:Q3 Q4) (c:Q4),sgl a=true->¬ (c=32/\a.getLast? = some 32)->sgl (a ++ [c])=true
 | [],c,_,_=>by show sgl [c]=true;rw [LT];simp [sgl]
 | [d],c,_,h=>by
   show sgl [d,c]=true
   rw [LT,LT]
   have:¬ (d=32/\c=32):=fun e=>h ⟨e.2,by rw [e.1];rfl⟩
   by_cases hd:d=32
   have hc:¬ c=32:=fun e=>this ⟨hd,e⟩
   simp [sgl,hc]
   simp [sgl,hd]
 | d::e::a,c,hs,h=>by
   have ih:=mT (e::a) c (LS hs) (fun k=>h ⟨k.1,by rw [<- k.2];simp [List.getLast?_cons]⟩)
   show sgl (d::(e::a ++ [c]))=true
   rw [LT,ih,MO]
   rw [LT,YH] at hs
   exact hs.1
theorem Zx8 (l:Q3 Q4):∀ out,sgl out=true->sgl (l.foldl BL out)=true:=by{
induction l with
| nil=>intro out h;exact h
| cons c l ih=>
  intro out h
  refine ih (BL out c) ?_
  unfold BL
  split
  exact h
  rename_i hc
  exact mT out c h fun k=>hc ⟨k.1,.inr k.2⟩}
theorem Zx9 (s:Q3 Q4):sgl (blL s)=true:=by{
have h:=Zx8 (s.map spU) [] rfl
unfold blL EC
split
rename_i h2
rcases MG ((s.map spU).foldl BL []) with h3 | ⟨init,e,h3⟩
rw [h3];rfl
rw [h3] at h ⊢
have h:sgl (init ++ [e])=true:=by simpa using h
have:(init.concat e).dropLast=init:=by simp
rw [this]
exact mS init [e] h
exact h}
theorem mU (s:Q3 Q4):(blL s).length<=s.length:=by{
have h:=dL (s.map spU) []
simp only [DI,Yv,YY] at h
unfold blL EC
split
rw [List.length_dropLast];omega
exact h}
def DC (t:Q3 Q4):Q3 Q4:=if t.head? = some 32 then t.tail else t
theorem mV (t:Q3 Q4):(DC t).length<=t.length:=by{
unfold DC
split
simp
exact Yn _}
theorem mW {t:Q3 Q4} (h:sgl t=true):sgl (DC t)=true:=by{
unfold DC
split
cases t with
| nil=>rfl
| cons c t=>exact LS h
exact h}
theorem mX {t:Q3 Q4} (n:Nat) (h:sgl t=true):sgl (t.drop n)=true:=by
 have:sgl (t.take n++t.drop n)=true:=by rw [YQ];exact h
 exact dO this
theorem mY (c:Q4) (l:Q3 Q4):([c]:Q3 Q4).isPrefixOf l=decide (l.head? = some c):=by{
cases l with
| nil=>rfl
| cons d l=>
  show (c == d&&List.isPrefixOf [] l)=_
  by_cases h:d=c
  subst h;simp
  rw [show (c == d)=false from by rw [YL];exact fun e=>h e.symm,Yf (fun e=>h (by injection e))]
  rfl}
theorem mZ (t:Q3 Q4):PJ (bs t) ⟨#[32]⟩=some (bs (DC t)):=by{
refine ZK ?_
unfold PJ WN
have hp:ZB (bs t) ⟨#[32]⟩=some (decide (t.head? = some 32)):=by
 have:=WQ t [32]
 rw [mY] at this
 exact this
refine ZC (Q:=fun r=>r=bs (DC t)) (Za hp (Zb (fun h=>?_) fun h=>?_)) fun r hr=>Zd hr
unfold DC
rw [if_pos h]
cases t with
| nil=>cases h
| cons c t=>exact Za (EV (c::t) 1 (by simp)) (Zd rfl)
unfold DC
rw [if_neg h]
exact Zd rfl}
theorem n8 (t:Q3 Q4) (n:Nat) (h:n<=t.length) (hl:t.length<=1000000):NC (bs t) (n:Int)=some (bs (DC (t.drop n))):=by{
refine ZK ?_
unfold NC
refine Za (EV t n h) ?_
cases hd:t.drop n with
| nil=>
  refine B7 (Zb (fun h=>absurd h (by decide)) fun _=>?_)
  exact B7 (Zj nofun fun _=>Zd rfl)
| cons c q=>
  refine Zt (fun k=>(c=32->Tot (k true) (fun r=>r=bs (DC (c::q))))/\(¬ c=32->Tot (k false) (fun r=>r=bs (DC (c::q))))) ⟨fun hc=>?_,fun hc=>?_⟩ fun k hk=>?_
  refine B7 (Zj (fun _=>?_) nofun)
  refine Za (EV (c::q) 1 (by simp)) (Zd ?_)
  unfold DC
  rw [if_pos (by rw [hc];rfl)]
  rfl
  refine B7 (Zj nofun fun _=>Zd ?_)
  unfold DC
  rw [if_neg (fun e=>hc (by injection e))]
  have z:(bs (c::q)).size=q.length+1:=rfl
  refine Zb (fun _=>?_) fun h=>absurd (by omega) h
  refine Za (BF (L:=c::q) (n:=0) rfl) ?_
  by_cases hc:c=32
  rw [Yh (e32.2 hc)]
  exact hk.1 hc
  rw [Yf (fun h=>hc (e32.1 h))]
  exact hk.2 hc}
def PX (nm:Q3 Q4):Bool:=match nm with | []=>false | c::_=>decide (97<=c.toNat)&&decide (c.toNat<=122)
def LU (nm:Q3 Q4):Q3 Q4:=match nm with | []=>[] | c::l=>if PX (c::l)=true then UInt8.ofNat (c.toNat-32)::l else c::l
def D0 (n:Int) (nm:Q3 Q4):Title×Int:=if 100<(LU nm).length then (⟨0,⟨#[]⟩⟩,3) else if (⟨n,bs (LU nm)⟩:Title).valid=true then (⟨n,bs (LU nm)⟩,0) else (⟨0,⟨#[]⟩⟩,1)
def AS (u:Q3 Q4):Int×Q3 Q4:=match BV u with | some (n,r)=>(n,DC r) | none=>(0,u)
def BP (u:Q3 Q4):Q3 Q4:=if u.head? = some 58 then DC (u.drop 1) else u
def BI (s:Q3 Q4):Title×Int:=D0 (AS (BP (blL s))).1 (filt false (AS (BP (blL s))).2)
theorem n9 (a b:Q3 Q4) (h:a.length+b.length<=9223372036854775807):A7 (bs a) (bs b)=some (bs (a++b)):=by
 rw [VU (show (bs a).size+(bs b).size<=_ from h),dG]
theorem nA (V:Title->Q2 Bool) (hV:∀ t,V t=some t.valid) (n:Int) (nm:Q3 Q4) (hl:nm.length<=1000000) (b:Bool) (hb:b=PX nm) :
  Tot (letk (fun (x18:Q1)=>if (decide (100<(x18.size:Int))) then (some ((⟨0,(⟨#[]⟩:Q1)⟩:Title),3):Q2 (Title×Int)) else (V (⟨n,x18⟩:Title)).bind fun r19=>if (!r19) then (some ((⟨0,(⟨#[]⟩:Q1)⟩:Title),1):Q2 (Title×Int)) else (some ((⟨n,x18⟩:Title),0):Q2 (Title×Int))) fun k4=>
   if b then (atS (bs nm) 0).bind fun c20=>(AJ (bs nm) 1 ((bs nm).size:Int)).bind fun l21=>(A7 (strOfNums [(IntKind.wrap .u8 (c20-32))]) l21).bind fun s22=>k4 s22 else k4 (bs nm)) (fun r=>r=D0 n nm):=by{
refine Zt (fun q=>Tot (q (bs (LU nm))) (fun r=>r=D0 n nm)) ?_ fun k4 h4=>?_
have z:(bs (LU nm)).size=(LU nm).length:=rfl
unfold D0
refine Zb (fun h=>?_) fun h=>?_
rw [if_pos (by omega)]
exact Zd rfl
rw [if_neg (by omega)]
refine Za (hV _) ?_
cases hv:(⟨n,bs (LU nm)⟩:Title).valid with
| true=>
  rw [if_pos rfl]
  exact Zj nofun fun _=>Zd rfl
| false=>
  rw [if_neg RO]
  exact Zj (fun _=>Zd rfl) nofun
subst hb
cases nm with
| nil=>exact Zj nofun fun _=>h4
| cons c l=>
  have hcap:LU (c::l)=if PX (c::l)=true then UInt8.ofNat (c.toNat-32)::l else c::l:=rfl
  rw [hcap] at h4
  refine Zj (fun h=>?_) fun h=>?_
  rw [if_pos h] at h4
  refine Za (BF (L:=c::l) (n:=0) rfl) (Za (EV (c::l) 1 (by simp)) ?_)
  have hlow:97<=c.toNat/\c.toNat<=122:=by
   unfold PX at h
   simpa using h
  have e:strOfNums [(IntKind.wrap .u8 ((c.toNat:Int)-32))]=bs [UInt8.ofNat (c.toNat-32)]:=by
   have e1:IntKind.wrap .u8 ((c.toNat:Int)-32)=((c.toNat-32:Nat):Int):=by
    show ((c.toNat:Int)-32) % 256=_
    omega
   rw [e1]
   rfl
  rw [e]
  refine Za (n9 [UInt8.ofNat (c.toNat-32)] l (by simp at hl ⊢;omega)) ?_
  exact h4
  rw [if_neg (by rw [h];decide)] at h4
  exact h4}
theorem nB (u:Q3 Q4):(BP u).length<=u.length:=by{
unfold BP
split
exact YX (mV _) (by rw [Yx];omega)
exact Yn _}
theorem Zx6 {u:Q3 Q4} (h:sgl u=true):sgl (BP u)=true:=by{
unfold BP
split
exact mW (mX 1 h)
exact h}
theorem nC (u:Q3 Q4):(AS u).2.length<=u.length:=by{
unfold AS
cases hp:BV u with
| none=>exact Yn _
| some q=>exact YX (mV _) (Zp9 (n:=q.1) (r:=q.2) hp)}
theorem Zx7 {u:Q3 Q4} (h:sgl u=true):sgl (AS u).2=true:=by{
unfold AS
cases hp:BV u with
| none=>exact h
| some q=>
  let ⟨_,h2,_⟩:=cZ (n:=q.1) (r:=q.2) hp
  show sgl (DC q.2)=true
  rw [h2]
  exact mW (mX _ h)}
theorem Zv4:∀ (w:Q3 Q4) (b:Bool),(filt b w).length<=w.length:=by{
intro w
induction w with
| nil=>intro b;exact Yn _
| cons c w ih=>
  intro b
  rw [PU]
  split
  exact Nat.le_succ_of_le (ih false)
  exact Nat.succ_le_succ (ih _)}
theorem ZnB (s:Q3 Q4) (h:s.length<=300000):T9 (bs s)=some (BI s):=by{
have hu:=mU s
have su:=Zx9 s
have hT:BI s=D0 (AS (BP (blL s))).1 (filt false (AS (BP (blL s))).2):=rfl
rw [hT]
refine ZK ?_
unfold T9
refine Za (Zsp s h) (Za (Ztt (s.map spU) (by rw [Yv];omega)) ?_)
have hbl:EC ((s.map spU).foldl BL [])=blL s:=rfl
rw [hbl]
generalize blL s=u at hu su ⊢
have hpre:ZV (bs u) ⟨#[58]⟩=some (decide (u.head? = some 58)):=by
 unfold ZV
 have:=WQ u [58]
 rw [mY] at this
 exact CC (fun x=>Option.bind x fun r=>some r) this
refine Za hpre ?_
have hc1:=nB u
have sc:=Zx6 su
refine Zt (fun q=>Tot (q (bs (BP u))) (fun r=>r=D0 (AS (BP u)).1 (filt false (AS (BP u)).2))) ?_ fun k1 hk1=>?_
generalize BP u=v at hc1 sc ⊢
have zv:(bs v).size=v.length:=rfl
have hpl:=nC v
have sp:=Zx7 sc
have hty:T0 (bs v)=some (match BV v with | some q=>(q.1,bs q.2,true) | none=>(0,⟨#[]⟩,false)):=by
 unfold T0
 rw [if_pos (by omega)]
 show (match BV v with | some q=>some (q.1,bs q.2,true) | none=>some (0,⟨#[]⟩,false))=_
 cases BV v<;>rfl
refine Za hty ?_
refine Zt (fun q=>Tot (q (bs (AS v).2) (AS v).1) (fun r=>r=D0 (AS v).1 (filt false (AS v).2))) ?_ fun k2 hk2=>?_
refine Za (ZrM (AS v).2 (by omega) sp) ?_
have hfl:=Zv4 (AS v).2 false
generalize filt false (AS v).2=nm at hfl ⊢
refine Zt (fun q=>Tot (q (PX nm)) (fun r=>r=D0 (AS v).1 nm)) ?_ fun k3 hk3=>?_
exact nA d9 (fun _=>rfl) (AS v).1 nm (by omega) _ rfl
cases nm with
| nil=>exact CK (fun h=>absurd rfl h) fun _=>hk3
| cons c l=>
  have hk3:Tot (k3 (decide (97<=c.toNat)&&decide (c.toNat<=122))) (fun r=>r=D0 (AS v).1 (c::l)):=hk3
  refine CK (fun _=>?_) fun h=>absurd (J9 (b:=[]) h) (by simp)
  refine Za (BF (L:=c::l) (n:=0) rfl) (Zb (fun h1=>?_) fun h1=>?_)
  refine Za (BF (L:=c::l) (n:=0) rfl) ?_
  rw [Yh (show 97<=c.toNat by omega),RW] at hk3
  have e:decide ((c.toNat:Int)<=122)=decide (c.toNat<=122):=by
   by_cases h2:c.toNat<=122
   rw [Yh h2,Yh (by omega)]
   rw [Yf h2,Yf (by omega)]
  rw [e]
  exact hk3
  rw [Yf (show ¬ 97<=c.toNat by omega),Bool.false_and] at hk3
  exact hk3
cases hp:BV v with
| none=>
  have e1:AS v=(0,v):=by unfold AS;rw [hp]
  rw [e1] at hk2 ⊢
  exact Zj nofun fun _=>hk2
| some q=>
  have e1:AS v=(q.1,DC q.2):=by unfold AS;rw [hp]
  rw [e1] at hk2 ⊢
  refine Zj (fun _=>?_) nofun
  exact Za (mZ q.2) hk2
refine Zb (fun hh=>?_) fun hh=>?_
have e1:BP u=DC (u.drop 1):=by unfold BP;rw [if_pos hh]
rw [e1] at hk1 ⊢
cases u with
| nil=>cases hh
| cons c u=>
  refine Za (EV (c::u) 1 (by simp)) ?_
  exact Za (mZ _) hk1
have e1:BP u=u:=by unfold BP;rw [if_neg hh]
rw [e1] at hk1 ⊢
exact hk1}
theorem Zuf {y:Q3 Q4} {i:Nat} {c:Q4} (h:y[i]? = some c) (b:Bool):filt b (y.drop i)=if c=32/\(b=true\/y[i+1]? = some 47) then filt false (y.drop (i+1)) else c::filt (decide (c=47)) (y.drop (i+1)):=by
 let ⟨h1,h2⟩:=Yd.1 h
 rw [Yt h1,h2,PU,List.head?_drop]
theorem e47 {e:Q4}:((e.toNat:Int)=47)↔e=47:=⟨fun h=>GG.1 (show e.toNat=47 by omega),fun h=>by rw [h];rfl⟩
theorem Zsc (n:Q3 Q4):0<=CD n:=by
 unfold CD
 repeat (first | omega | split)
theorem dR (s:Q3 Q4) (h:s.length<=300000):J8 (bs s)=some (BI s):=by{
have hu:=mU s
have hT:BI s=D0 (AS (BP (blL s))).1 (filt false (AS (BP (blL s))).2):=rfl
rw [hT]
refine ZK ?_
unfold J8
refine Za (ZuA s h) ?_
generalize blL s=u at hu ⊢
have hc1:=nB u
refine Zt (fun q=>(u.head? = some 58->Tot (q true) (fun r=>r=D0 (AS (BP u)).1 (filt false (AS (BP u)).2)))/\(¬ u.head? = some 58->Tot (q false) (fun r=>r=D0 (AS (BP u)).1 (filt false (AS (BP u)).2)))) ?_ fun k1 hk1=>?_
·have main:∀ {R:Title×Int->Prop} (k2:Q1->Q2 (Title×Int)),Tot (k2 (bs (BP u))) R->(u.head? = some 58->Tot ((NC (bs u) 1).bind fun r149=>k2 r149) R)/\(¬ u.head? = some 58->Tot (k2 (bs u)) R):=fun k2 hk=>by
  refine ⟨fun hh=>?_,fun hh=>?_⟩
  have e1:BP u=DC (u.drop 1):=by unfold BP;rw [if_pos hh]
  rw [e1] at hk
  have hl:1<=u.length:=by cases u with
   | nil=>cases hh
   | cons c u=>simp
  exact Za (n8 u 1 hl (by omega)) hk
  have e1:BP u=u:=by unfold BP;rw [if_neg hh]
  rw [e1] at hk
  exact hk
 refine ⟨fun hh=>?_,fun hh=>?_⟩
 all_goals
  refine Zt (fun q=>Tot (q (bs (BP u))) (fun r=>r=D0 (AS (BP u)).1 (filt false (AS (BP u)).2))) ?_ fun k2 hk2=>?_
  generalize BP u=v at hc1 ⊢
  have zv:(bs v).size=v.length:=rfl
  have hpl:=nC v
  refine Za (v:=GN (bs v)) (by unfold WO;rw [if_pos (by omega)]) ?_
  have hr:GN (bs v)=match BV v with | some (n,_)=>(n,Lib.index v [58]) | none=>(0,0):=lF (bs v)
  have e6:(GN (bs v)).1=(AS v).1:=by
   rw [hr];unfold AS
   cases BV v<;>rfl
  rw [e6]
  refine Zt (fun q=>Tot (q (bs (AS v).2)) (fun r=>r=D0 (AS v).1 (filt false (AS v).2))) ?_ fun k3 hk3=>?_
  generalize (AS v).1=n
  generalize (AS v).2=y at hpl ⊢
  have zy:(bs y).size=y.length:=rfl
  refine ZF (fun x=>∃ (i:Nat) (acc:Q3 Q4),x.2=(i:Int)/\i<=y.length/\x.1=bs acc/\acc.length<=i/\filt false y=acc++filt (decide (0<i/\y[i-1]? = some 47)) (y.drop i)) (fun x=>y.length-x.2.toNat) ⟨0,[],rfl,Nat.zero_le _,rfl,Nat.le_refl _,rfl⟩ (by dsimp only;omega) ?_
  rintro ⟨o,i'⟩ rec ⟨i,acc,hi,hn,ho,hal,hf⟩ ih
  dsimp only at hi ho ih ⊢
  subst hi ho
  refine Zb (fun hlt=>?_) fun hge=>?_
  ·obtain ⟨c,hc⟩:∃ c,y[i]? = some c:=⟨_,Yc (by omega)⟩
   rw [Zuf hc] at hf
   have hb':decide (0<i+1/\y[i+1-1]? = some 47)=decide (c=47):=by
    rw [RP,hc]
    by_cases h:c=47
    rw [Yh h,Yh ⟨by omega,by rw [h]⟩]
    rw [Yf h,Yf (fun k=>h (D7 k.2))]
   have next:∀ a2:Q3 Q4,a2.length<=i+1->filt false y=a2++filt (decide (c=47)) (y.drop (i+1))->Tot (rec (bs a2,w64 ((i:Int)+1))) (fun r=>r=D0 n (filt false y)):=fun a2 h1 h2=>by
    rw [ZH]
    exact ih _ ⟨i+1,a2,by simp,by omega,rfl,h1,by rw [hb'];exact h2⟩ (by dsimp only;omega)
   refine Zt (fun q=>∀ a2:Q3 Q4,a2.length<=i+1->filt false y=a2++filt (decide (c=47)) (y.drop (i+1))->Tot (q (bs a2)) (fun r=>r=D0 n (filt false y))) next fun k22 h22=>?_
   refine Zt (fun q=>((c=32/\(decide (0<i/\y[i-1]? = some 47)=true\/y[i+1]? = some 47))->Tot (q true) (fun r=>r=D0 n (filt false y)))/\(¬ (c=32/\(decide (0<i/\y[i-1]? = some 47)=true\/y[i+1]? = some 47))->Tot (q false) (fun r=>r=D0 n (filt false y)))) ⟨fun hx=>?_,fun hx=>?_⟩ fun k23 h23=>?_
   refine Zj (fun _=>?_) nofun
   rw [if_pos hx] at hf
   exact h22 acc (by omega) (by rw [hf,hx.1];rfl)
   refine Zj nofun fun _=>?_
   rw [if_neg hx] at hf
   have e1:w64 ((i:Int)+1)=((i+1:Nat):Int):=by rw [ZH];rfl
   have e2:(y.take (i+1)).drop i = [c]:=by
    let ⟨hl,he⟩:=Yd.1 hc
    rw [RH hl,Z2 (by rw [YE];omega),YI (by rw [YE];omega),he]
    rfl
   rw [e1]
   refine Za (G8 y i (i+1) (by omega) (by omega)) ?_
   rw [e2]
   refine Za (n9 acc [c] (by simp;omega)) (h22 (acc ++ [c]) (by simp;omega) ?_)
   rw [hf,YM]
   rfl
   have e1:w64 ((i:Int)+1)=((i+1:Nat):Int):=by rw [ZH];rfl
   refine Za (BF hc) (Zb (fun h32=>?_) fun h32=>h23.2 fun k=>h32 (e32.2 k.1))
   have hc32:=e32.1 h32
   have nxt:¬ (decide (0<i/\y[i-1]? = some 47)=true)->Tot (if decide (w64 ((i:Int)+1)<((bs y).size:Int))=true then (atS (bs y) (w64 ((i:Int)+1))).bind fun c=>k23 (decide (c=47)) else k23 false) (fun r=>r=D0 n (filt false y)):=fun hp=>by
    rw [e1]
    refine Zb (fun hl=>?_) fun hl=>h23.2 fun k=>?_
    obtain ⟨d,hd⟩:∃ d,y[i+1]? = some d:=⟨_,Yc (by omega)⟩
    refine Za (BF hd) ?_
    by_cases h47:d=47
    rw [Yh (e47.2 h47)]
    exact h23.1 ⟨hc32,.inr (by rw [hd,h47])⟩
    rw [Yf (fun h=>h47 (e47.1 h))]
    exact h23.2 fun k=>k.2.elim hp fun k2=>h47 (by rw [hd] at k2;exact D7 k2)
    refine k.2.elim hp fun k2=>?_
    rw [YZ (by omega)] at k2
    cases k2
   refine Zb (fun hpos=>?_) fun hz=>nxt fun k=>by have:=(FE k).1;omega
   have e3:w64 ((i:Int)-1)=((i-1:Nat):Int):=by rw [ZH];omega
   obtain ⟨d,hd⟩:∃ d,y[i-1]? = some d:=⟨_,Yc (by omega)⟩
   rw [e3]
   refine Za (BF hd) (Zb (fun h47=>?_) fun h47=>nxt fun k=>?_)
   exact h23.1 ⟨hc32,.inl (Yh ⟨by omega,by rw [hd,e47.1 h47]⟩)⟩
   have:=(FE k).2
   rw [hd] at this
   exact h47 (e47.2 (D7 this))
  have hne:i=y.length:=by omega
  subst hne
  rw [GF] at hf
  have hf:filt false y=acc:=by rw [hf];exact YB _
  rw [hf]
  refine Zt (fun q=>Tot (q (PX acc)) (fun r=>r=D0 n acc)) ?_ fun k24 h24=>?_
  exact nA d8 (fun _=>rfl) n acc (by omega) _ rfl
  cases acc with
  | nil=>exact Zb (fun h=>absurd h (by decide)) fun _=>h24
  | cons c l=>
    have h24:Tot (k24 (decide (97<=c.toNat)&&decide (c.toNat<=122))) (fun r=>r=D0 n (c::l)):=h24
    have z:(bs (c::l)).size=l.length+1:=rfl
    refine Zb (fun _=>?_) fun h=>absurd (by omega) h
    refine Za (BF (L:=c::l) (n:=0) rfl) (Zb (fun h1=>?_) fun h1=>?_)
    refine Za (BF (L:=c::l) (n:=0) rfl) ?_
    rw [Yh (show 97<=c.toNat by omega),RW] at h24
    have e:decide ((c.toNat:Int)<=122)=decide (c.toNat<=122):=by
     by_cases h2:c.toNat<=122
     rw [Yh h2,Yh (by omega)]
     rw [Yf h2,Yf (by omega)]
    rw [e]
    exact h24
    rw [Yf (show ¬ 97<=c.toNat by omega),Bool.false_and] at h24
    exact h24
  cases hp:BV v with
  | none=>
    have e1:AS v=(0,v):=by unfold AS;rw [hp]
    rw [e1] at hk3 ⊢
    exact Zb (fun h=>absurd h (by dsimp only;omega)) fun _=>hk3
  | some q=>
    have e1:AS v=(q.1,DC q.2):=by unfold AS;rw [hp]
    let ⟨g1,g2,g3,g4⟩:=cZ (n:=q.1) (r:=q.2) hp
    have g5:=Zsc (AD (Lib.trimSuffix (v.take (Lib.index v [58]).toNat) [32]))
    rw [hp] at hr
    have hr2:(GN (bs v)).2=Lib.index v [58]:=by rw [hr]
    have hroom:=Lib.index_room v [58] g1
    simp only [YC] at hroom
    rw [e1] at hk3 ⊢
    refine Zb (fun _=>?_) fun h=>absurd (by dsimp only;omega) h
    rw [hr2]
    have e7:w64 (Lib.index v [58]+1)=(((Lib.index v [58]).toNat+1:Nat):Int):=by rw [ZH];omega
    rw [e7]
    refine Za (n8 v _ (by omega) (by omega)) ?_
    rw [<- g2]
    exact hk3
  first
  | exact Zj (fun _=>(main k2 hk2).1 hh) nofun
  | exact Zj nofun fun _=>(main k2 hk2).2 hh
cases u with
| nil=>exact Zb (fun h=>absurd h (by decide)) fun _=>hk1.2 (by decide)
| cons c l=>
  have z:(bs (c::l)).size=l.length+1:=rfl
  refine Zb (fun _=>?_) fun h=>absurd (by omega) h
  refine Za (BF (L:=c::l) (n:=0) rfl) ?_
  by_cases hc:c=58
  rw [Yh (show (c.toNat:Int)=58 by rw [hc];rfl)]
  exact hk1.1 (by rw [hc];rfl)
  rw [Yf (fun h=>hc (GG.1 (show c.toNat=58 by omega)))]
  exact hk1.2 fun e=>hc (by injection e)}
end
namespace VL
theorem A3 {p q:Prop} (k:q) (h:q->p:=by
 (intro k)
 (first
  | refine Zr rfl (by (conv=>lhs;whnf);try rfl) ?_
  | refine ZL rfl rfl rfl ?_
  | refine Zm rfl rfl ?_
  | refine Zs rfl (by (conv=>lhs;whnf);try rfl) ?_
  | refine MY rfl rfl rfl rfl (by (conv=>lhs;whnf);try rfl) ?_
  | refine LE rfl rfl rfl rfl (by (conv=>lhs;whnf);try rfl) ?_
  | refine iW rfl rfl ?_
  | refine iT rfl rfl ?_
  | refine iZ rfl rfl ?_
  | refine iX rfl rfl rfl rfl ?_
  | refine iY rfl rfl rfl (by decide) ?_
  | refine iQ rfl rfl ?_
  | refine iL rfl (by (conv=>lhs;whnf);try rfl) (by (conv=>lhs;whnf);try rfl) (by rfl) ?_
  | refine SK rfl rfl ?_
  | refine SL rfl rfl rfl (by (conv=>lhs;whnf);try rfl) (by (conv=>lhs;whnf);try rfl) (by rfl) (by rfl) (Yk rfl) (by (conv=>lhs;whnf);try rfl) ?_
  | refine iS rfl rfl ?_
  | refine iR rfl rfl rfl (by rfl) (by decide) (by (conv=>lhs;whnf);try rfl) ?_
  | refine SM rfl rfl rfl ?_
  | refine iU rfl rfl ?_
  | refine ID rfl rfl (by (conv=>lhs;whnf);try rfl) ?_
  | refine iP rfl rfl rfl ?_
  | refine Zf ?_
  | refine iV (by kernel_rfl) ?_
  | refine Zl ?_
  | refine Zc ?_
  | refine iI ?_
  | refine ZJ ?_
  | refine LB ?_
  | refine iE ?_
  | refine ZG ?_
  | refine iF ?_
  | refine iH ?_
  | refine iG ?_
  | refine iJ ?_
  | refine iK ?_)
 (exact k)):p:=h k
end VL
section
open VL Go.RowKit
def TH (l:Q3 Q4):Q3 Bool:=(List.range 256).map fun j=>l.contains (UInt8.ofNat j)
def BA (l:Q3 Q4):Q3 PV:=(TH l).map PV.bool
theorem WX (l:Q3 Q4):(BA l).length=256:=by simp [BA,TH]
theorem ZyQ (l:Q3 Q4) (x:Q4):(BA l)[x.toNat]? = some (.bool (l.contains x)):=by{
have hx:x.toNat<256:=x.toNat_lt
unfold BA TH
rw [Yw,Yw,UW hx]
simp}
theorem Zu5 (l:Q3 Q4) (x:Q4):JV false 1 ((BA l).drop (x.toNat * 1))=some (.bool (l.contains x)):=by
 show ((BA l).drop (x.toNat * 1))[0]? = _
 rw [FX,Nat.mul_one,DS]
 exact ZyQ l x
theorem dS {f:Nat->Q2 (Gen×VObj)} {t:Nat} {g:Gen} {l:Q3 Q4} (h:A8 f t g=some (.box (BA l))) (s:Q1):BK (frz f) [.str s,.ptr t g 0]=some [.str s,.cel (BA l)]:=by{
have e:FK f (.ptr t g 0)=some (.cel (BA l)):=by
 simp only [FK,h,MM]
 unfold BA
 rw [jQ]
 rfl
simp only [BK,frz,FJ,e]}
instance:Ar Q7 131 256 1:=⟨by kernel_rfl⟩
instance:Ze Q7 131 (List.replicate 256 (.bool false)):=⟨by kernel_rfl⟩
instance:Ld Q7 131 true 256:=⟨by kernel_rfl⟩
theorem nD (l:Q3 Q4) (x:Q4):Zg Q7 99 [.cel (BA l),.int .u8 (x.toNat:Int)] (.bool (l.contains x)):=by
 refine LD mix Tryz.func99 (by kernel_rfl) rfl (by kernel_rfl) ?_
 repeat (first | (refine jP rfl rfl ?_) | (refine xK rfl rfl rfl x.toNat_lt ?_) | (refine ZL rfl rfl (Zu5 l x) ?_) | refine A3 ?_)
 exact FI rfl rfl rfl
def DW (l:Q3 Q4) (s:Q1):Q1:=⟨(s.data.toList.dropWhile l.contains).toArray⟩
def EX (l:Q3 Q4) (s:Q1):Q1:=⟨(s.data.toList.reverse.dropWhile l.contains).reverse.toArray⟩
theorem Zu7 {l:Q3 Q4} {s:Q1} (h:¬ 0<s.size):DW l s=s:=by{
obtain ⟨⟨d⟩⟩:=s
cases d with
| nil=>rfl
| cons a r=>exact absurd (RX _) h}
theorem ZsB {l:Q3 Q4} {s:Q1} (h:0<s.size) (h1:l.contains (s[0]'h)=false):DW l s=s:=by{
obtain ⟨⟨d⟩⟩:=s
cases d with
| nil=>exact absurd h (JO 0)
| cons a r=>
  have h2:l.contains a=false:=h1
  show (⟨(List.dropWhile l.contains (a::r)).toArray⟩:Q1)=⟨(a::r).toArray⟩
  rw [I4,if_neg (by rw [h2];simp)]}
theorem ZsC {l:Q3 Q4} {s:Q1} (h:0<s.size) (h1:l.contains (s[0]'h)=true):DW l (s.extract 1 s.size)=DW l s:=by{
obtain ⟨⟨d⟩⟩:=s
cases d with
| nil=>exact absurd h (JO 0)
| cons a r=>
  have h2:l.contains a=true:=h1
  have e:(⟨(a::r).toArray⟩:Q1).extract 1 (a::r).length=⟨(((a::r).drop 1).take ((a::r).length-1)).toArray⟩:=ByteArray.extract_mk (a::r) 1 (a::r).length
  show DW l ((⟨(a::r).toArray⟩:Q1).extract 1 (a::r).length)=_
  rw [e]
  show (⟨(List.dropWhile l.contains (((a::r).drop 1).take ((a::r).length-1))).toArray⟩:Q1)=⟨(List.dropWhile l.contains (a::r)).toArray⟩
  rw [I4,if_pos h2]
  simp}
theorem Zu8 {l:Q3 Q4} {s:Q1} (h:¬ 0<s.size):EX l s=s:=by{
obtain ⟨⟨d⟩⟩:=s
cases d with
| nil=>rfl
| cons a r=>exact absurd (RX _) h}
theorem nE (s:Q1) (n:Nat) (hn:s.size=n+1):∃ r:Q3 Q4,s.data.toList=r ++ [s[n]'(by omega)]/\r.length=n/\s.extract 0 n=⟨r.toArray⟩:=by{
obtain ⟨⟨d⟩⟩:=s
have hd:d.length=n+1:=hn
refine ⟨d.take n,?_,by simp;omega,?_⟩
show d=d.take n ++ [d[n]]
rw [List.take_append_getElem,GW (by omega)]
have e:(⟨d.toArray⟩:Q1).extract 0 n=⟨((d.drop 0).take (n-0)).toArray⟩:=ByteArray.extract_mk d 0 n
show (⟨d.toArray⟩:Q1).extract 0 n=_
rw [e]
simp}
theorem ZsD {l:Q3 Q4} {s:Q1} {n:Nat} (hn:s.size=n+1) (h1:l.contains (s[n]'(by omega))=false):EX l s=s:=by{
obtain ⟨r,e1,_,_⟩:=nE s n hn
unfold EX
rw [e1,OB]
simp only [RQ,UZ,GZ,FC,List.dropWhile,h1]
rw [List.reverse_reverse,<- e1]}
theorem ZsE {l:Q3 Q4} {s:Q1} {n:Nat} (hn:s.size=n+1) (h1:l.contains (s[n]'(by omega))=true):EX l (s.extract 0 n)=EX l s:=by{
obtain ⟨r,e1,_,e3⟩:=nE s n hn
unfold EX
rw [e1,e3,OB]
simp only [RQ,UZ,GZ,FC,List.dropWhile,h1]}
theorem dT (l:Q3 Q4) (s:Q1):Zg Q7 86 [.str s,.cel (BA l)] (.str (DW l s)):=by{
refine LD mix Tryz.func86 (by kernel_rfl) rfl (by kernel_rfl) ?_
repeat refine A3 ?_
refine Zu (α:=Q1) (fun c _=>mkS [(0,.str c),(1,.cel (BA l))] [] 2) (fun c=>DW l c=DW l s) (fun c=>c.size) s 2 rfl (OU [] ⟨rfl,rfl,trivial⟩ trivial rfl) (fun c _ (hno:DW l c=DW l s)=>?_)
repeat (first | refine A3 ?_ | refine IE Tryz.underlying9 rfl rfl ?_)
by_cases hz:(0:Int)<(c.size:Int)
·refine Zv (by (conv=>lhs;whnf);try rfl) (Yh hz) ?_
 have hz':0<c.size:=by omega
 have h0:c[0]? = some (c[0]'hz'):=getElem?_pos c 0 hz'
 repeat (first | (refine bF Tryz.underlying9 rfl rfl rfl h0 ?_) | (refine N4 (nD l _) rfl rfl rfl ?_) | refine A3 ?_)
 rcases Bool.eq_false_or_eq_true (l.contains (c[0]'hz')) with hb | hb
 ·refine Zk (by (conv=>lhs;whnf);try rfl) (by rw [hb];rfl) ?_
  repeat (first | (refine bG Tryz.underlying9 rfl rfl rfl rfl (by omega) (by omega) rfl ?_) | refine A3 ?_)
  refine C7 (c.extract 1 c.size) 2 ((ZsC hz' hb).trans hno) ?_ (OU [] ⟨rfl,rfl,trivial⟩ trivial rfl)
  show (c.extract 1 c.size).size<c.size
  rw [FA]
  omega
 ·refine Zv (by (conv=>lhs;whnf);try rfl) (by rw [hb];rfl) ?_
  repeat refine A3 ?_
  exact FI rfl rfl (by rw [<- hno,ZsB hz' hb];rfl)
·refine Zk (by (conv=>lhs;whnf);try rfl) (Yf hz) ?_
 repeat refine A3 ?_
 exact FI rfl rfl (by rw [<- hno,Zu7 (by omega)];rfl)}
theorem Zpm (l:Q3 Q4) (s:Q1) (hs:s.size<=9223372036854775807):Zg Q7 210 [.str s,.cel (BA l)] (.str (EX l s)):=by{
refine LD mix Tryz.func210 (by kernel_rfl) rfl (by kernel_rfl) ?_
repeat refine A3 ?_
refine Zu (α:=Q1) (fun c _=>mkS [(0,.str c),(1,.cel (BA l))] [] 2) (fun c=>EX l c=EX l s/\c.size<=9223372036854775807) (fun c=>c.size) s 2 ⟨rfl,hs⟩ (OU [] ⟨rfl,rfl,trivial⟩ trivial rfl) (fun c _ hJ=>?_)
obtain ⟨(hno:EX l c=EX l s),(hcs:c.size<=9223372036854775807)⟩:=hJ
repeat (first | refine A3 ?_ | refine IE Tryz.underlying9 rfl rfl ?_)
by_cases hz:(0:Int)<(c.size:Int)
·refine Zv (by (conv=>lhs;whnf);try rfl) (Yh hz) ?_
 obtain ⟨n,hn⟩:∃ n,c.size=n+1:=⟨c.size-1,by omega⟩
 have e1:(c.size:Int)-1=(n:Int):=by omega
 have h0:c[n]? = some (c[n]'(by omega)):=getElem?_pos c n (by omega)
 have h2:toNat? (PV.int .i64 ((c.size:Int)-1))=some n:=by rw [e1];exact JW
 repeat (first | (refine bF Tryz.underlying9 rfl rfl (CC (PV.int .i64) e1) h0 ?_) | (refine N4 (nD l _) rfl rfl rfl ?_) | refine JX rfl rfl rfl (by omega) (by omega) ?_ | refine A3 ?_ | refine IE Tryz.underlying9 rfl rfl ?_)
 rcases Bool.eq_false_or_eq_true (l.contains (c[n]'(by omega))) with hb | hb
 ·refine Zk (by (conv=>lhs;whnf);try rfl) (by rw [hb];rfl) ?_
  repeat (first | (refine bG Tryz.underlying9 rfl rfl rfl h2 (by omega) (by omega) rfl ?_) | refine JX rfl rfl rfl (by omega) (by omega) ?_ | refine A3 ?_ | refine IE Tryz.underlying9 rfl rfl ?_)
  refine C7 (c.extract 0 n) 2 ⟨(ZsE hn hb).trans hno,?_⟩ ?_ (OU [] ⟨rfl,rfl,trivial⟩ trivial rfl)
  show (c.extract 0 n).size<=_
  rw [FA]
  omega
  show (c.extract 0 n).size<c.size
  rw [FA]
  omega
 ·refine Zv (by (conv=>lhs;whnf);try rfl) (by rw [hb];rfl) ?_
  repeat refine A3 ?_
  exact FI rfl rfl (by rw [<- hno,ZsD hn hb];rfl)
·refine Zk (by (conv=>lhs;whnf);try rfl) (Yf hz) ?_
 repeat refine A3 ?_
 exact FI rfl rfl (by rw [<- hno,Zu8 (by omega)];rfl)}
theorem Zn5 (l:Q3 Q4):(Lib.setCells l).toList=(TH l).map Value.bool:=by
 rw [Lib.setCells_eq]
 simp [TH]
theorem dU (l:Q3 Q4) (hs:l.length<4294967281) (hl:∀ (j:Nat) b,l[j]? = some b->b.toNat<128):Zg Q7 85 [.str ⟨l.toArray⟩] (.tup [.agg (BA l),.bool true]):=
 H3 (vals:=[.string ⟨l.toArray⟩]) (v:=.tuple #[.agg (Lib.setCells l),.bool true]) (by kernel_rfl) rfl (by
   show (PV.dry2 (.agg (BA l))&&(PV.dry2 (.bool true)&&true))=true
   have:(BA l).all PV.dry1=true:=by
    rw [Yq]
    intro p hp
    obtain ⟨b,_,rfl⟩:=Yy.1 hp
    rfl
   show ((BA l).all PV.dry1&&_)=true
   rw [this]
   rfl)
  (fun x=>.tup _ _ rfl fun i p v hp hv=>by
   match i,hp,hv with
   | 0,hp,hv=>
     injection hp with hp
     injection hv with hv
     subst hp hv
     refine .agg _ _ (by rw [WX,Lib.setCells_size]) fun j q w hq hw=>?_
     rw [<- GE,Zn5,Yw,Ye] at hw
     obtain ⟨b,hb,rfl⟩:=hw
     unfold BA at hq
     rw [Yw,hb] at hq
     cases hq
     exact .bool b
   | 1,hp,hv=>injection hp with hp;injection hv with hv;subst hp hv;exact .bool _
   | i+2,hp,_=>simp at hp)
  fun w _=>(Tryz.strings_makeASCIISet (fun w=>Tryz.zeroValue131 w) ⟨l.toArray⟩ w hs (fun j b h=>hl j b (by simpa using h))).mono fun e w' ⟨e1,e2⟩=>by
   have e3:(⟨l.toArray⟩:Q1).data.toList=l:=by simp
   rw [e3] at e1 e2
   exact ⟨e1,by rw [e2];exact Below.al (Below.refl _ _) _⟩
def cutW:Q3 Q4:=[9,10,13,32]
theorem ZyB (s:Q1) (hs:s.size<=9223372036854775807):Zg Q7 177 [.str s,.str ⟨#[9,10,13,32]⟩] (.str (DW cutW (EX cutW s))):=by{
have hm:=dU cutW (by decide) (fun j b h=>by
 match j,h with
 | 0,h=>injection h with h;subst h;decide
 | 1,h=>injection h with h;subst h;decide
 | 2,h=>injection h with h;subst h;decide
 | 3,h=>injection h with h;subst h;decide
 | j+4,h=>simp [cutW] at h)
have hR:=Zpm cutW s hs
have hL:=dT cutW (EX cutW s)
have ha:∀ {f:Nat->Q2 (Gen×VObj)} {t:Nat} {g:Gen},A8 f t g=some (.box (BA cutW))->∀ s,BK (frz f) [.str s,.ptr t g 0]=some [.str s,.cel (BA cutW)]:=fun h s=>dS h s
have hspc:(BA cutW).all PV.cell=true:=by
 rw [Yq]
 intro p hp
 obtain ⟨b,_,rfl⟩:=Yy.1 hp
 rfl
have hsl:(BA cutW).length=256:=WX _
have hrc:(List.replicate 256 (PV.bool false)).all PV.cell=true:=by
 rw [Yq]
 intro p hp
 rw [YW hp]
 rfl
have hrl:(List.replicate 256 (PV.bool false)).length=256:=MH
generalize BA cutW=sp at hm hR hL ha hspc hsl
generalize hz:List.replicate 256 (PV.bool false)=zp at hrc hrl
have zi:Ze Q7 131 zp:=hz ▸ inferInstance
refine LD mix Tryz.func177 (by kernel_rfl) rfl (by kernel_rfl) ?_
repeat (first | refine Zr rfl (by (conv=>lhs;whnf);try rfl) ?_ | refine Zs rfl (by (conv=>lhs;whnf);try rfl) ?_ | refine LE rfl rfl rfl rfl (by (conv=>lhs;whnf);try rfl) ?_ | refine Zf ?_ | refine Zl ?_ | refine Zc ?_)
by_cases h0:s=⟨#[]⟩
·rw [Yh h0]
 repeat (first | (refine Zw rfl ?_) | refine ID rfl rfl (by (conv=>lhs;whnf);try rfl) ?_ | refine Zf ?_)
 refine Zv (by (conv=>lhs;whnf);try rfl) rfl ?_
 repeat (first | refine Zr rfl (by (conv=>lhs;whnf);try rfl) ?_ | refine Zs rfl (by (conv=>lhs;whnf);try rfl) ?_ | refine Zf ?_ | refine Zl ?_ | refine Zc ?_ | refine LB ?_)
 exact FI rfl rfl (by rw [h0];rfl)
rw [Yf h0]
repeat (first | refine Zr rfl (by (conv=>lhs;whnf);try rfl) ?_ | refine LE rfl rfl rfl rfl (by (conv=>lhs;whnf);try rfl) ?_ | refine ID rfl rfl (by (conv=>lhs;whnf);try rfl) ?_ | refine Zf ?_)
refine Zk (by (conv=>lhs;whnf);try rfl) (by decide) ?_
repeat (first | (refine Zw rfl ?_) | (refine Zk rfl rfl ?_) | (refine DU hm rfl rfl ?_) | (refine SK (z:=zp) rfl hrc ?_) | (refine SL (ps:=sp) (cs:=zp) (cs':=sp) rfl rfl rfl rfl rfl hsl hspc (show 0+256<=zp.length by omega) (bW (show zp.length=sp.length by omega)) ?_) | (refine Zv rfl rfl ?_) | (refine N4 hR rfl (ha rfl _) rfl ?_) | (refine N4 hL rfl (ha rfl _) rfl ?_) | refine Zr rfl (by (conv=>lhs;whnf);try rfl) ?_ | refine Zs rfl (by (conv=>lhs;whnf);try rfl) ?_ | refine MY rfl rfl rfl rfl (by (conv=>lhs;whnf);try rfl) ?_ | refine IE Tryz.underlying9 rfl rfl ?_ | refine SM rfl rfl rfl ?_ | refine ID rfl rfl (by (conv=>lhs;whnf);try rfl) ?_ | refine Zf ?_ | refine Zl ?_ | refine Zc ?_ | refine ZJ ?_ | refine LB ?_)
exact FI rfl rfl rfl}
def cutB:Q3 Q4:=[32,9]
theorem ZyC (s:Q1):Zg Q7 48 [.str s,.str ⟨#[32,9]⟩] (.str (DW cutB s)):=by{
have hm:=dU cutB (by decide) (fun j b h=>by
 match j,h with
 | 0,h=>injection h with h;subst h;decide
 | 1,h=>injection h with h;subst h;decide
 | j+2,h=>simp [cutB] at h)
have hL:=dT cutB s
have ha:∀ {f:Nat->Q2 (Gen×VObj)} {t:Nat} {g:Gen},A8 f t g=some (.box (BA cutB))->∀ s,BK (frz f) [.str s,.ptr t g 0]=some [.str s,.cel (BA cutB)]:=fun h s=>dS h s
have hspc:(BA cutB).all PV.cell=true:=by
 rw [Yq]
 intro p hp
 obtain ⟨b,_,rfl⟩:=Yy.1 hp
 rfl
have hsl:(BA cutB).length=256:=WX _
have hrc:(List.replicate 256 (PV.bool false)).all PV.cell=true:=by
 rw [Yq]
 intro p hp
 rw [YW hp]
 rfl
have hrl:(List.replicate 256 (PV.bool false)).length=256:=MH
generalize BA cutB=sp at hm hL ha hspc hsl
generalize hz:List.replicate 256 (PV.bool false)=zp at hrc hrl
have zi:Ze Q7 131 zp:=hz ▸ inferInstance
refine LD mix Tryz.func48 (by kernel_rfl) rfl (by kernel_rfl) ?_
repeat (first | refine Zr rfl (by (conv=>lhs;whnf);try rfl) ?_ | refine Zs rfl (by (conv=>lhs;whnf);try rfl) ?_ | refine LE rfl rfl rfl rfl (by (conv=>lhs;whnf);try rfl) ?_ | refine Zf ?_ | refine Zl ?_ | refine Zc ?_)
by_cases h0:s=⟨#[]⟩
·rw [Yh h0]
 repeat (first | (refine Zw rfl ?_) | refine ID rfl rfl (by (conv=>lhs;whnf);try rfl) ?_ | refine Zf ?_)
 refine Zv (by (conv=>lhs;whnf);try rfl) rfl ?_
 repeat (first | refine Zr rfl (by (conv=>lhs;whnf);try rfl) ?_ | refine Zs rfl (by (conv=>lhs;whnf);try rfl) ?_ | refine Zf ?_ | refine Zl ?_ | refine Zc ?_ | refine LB ?_)
 exact FI rfl rfl (by rw [h0];rfl)
rw [Yf h0]
repeat (first | refine Zr rfl (by (conv=>lhs;whnf);try rfl) ?_ | refine LE rfl rfl rfl rfl (by (conv=>lhs;whnf);try rfl) ?_ | refine ID rfl rfl (by (conv=>lhs;whnf);try rfl) ?_ | refine Zf ?_)
refine Zk (by (conv=>lhs;whnf);try rfl) (by decide) ?_
repeat (first | (refine Zw rfl ?_) | (refine Zk rfl rfl ?_) | (refine DU hm rfl rfl ?_) | (refine SK (z:=zp) rfl hrc ?_) | (refine SL (ps:=sp) (cs:=zp) (cs':=sp) rfl rfl rfl rfl rfl hsl hspc (show 0+256<=zp.length by omega) (bW (show zp.length=sp.length by omega)) ?_) | (refine Zv rfl rfl ?_) | (refine N4 hL rfl (ha rfl _) rfl ?_) | refine Zr rfl (by (conv=>lhs;whnf);try rfl) ?_ | refine Zs rfl (by (conv=>lhs;whnf);try rfl) ?_ | refine MY rfl rfl rfl rfl (by (conv=>lhs;whnf);try rfl) ?_ | refine IE Tryz.underlying9 rfl rfl ?_ | refine SM rfl rfl rfl ?_ | refine ID rfl rfl (by (conv=>lhs;whnf);try rfl) ?_ | refine Zf ?_ | refine Zl ?_ | refine Zc ?_ | refine ZJ ?_ | refine LB ?_)
exact FI rfl rfl rfl}
def cutU:Q3 Q4:=[9,32,95]
theorem ZyD (s:Q1):Zg Q7 48 [.str s,.str ⟨#[9,32,95]⟩] (.str (DW cutU s)):=by{
have hm:=dU cutU (by decide) (fun j b h=>by
 match j,h with
 | 0,h=>injection h with h;subst h;decide
 | 1,h=>injection h with h;subst h;decide
 | 2,h=>injection h with h;subst h;decide
 | j+3,h=>simp [cutU] at h)
have hL:=dT cutU s
have ha:∀ {f:Nat->Q2 (Gen×VObj)} {t:Nat} {g:Gen},A8 f t g=some (.box (BA cutU))->∀ s,BK (frz f) [.str s,.ptr t g 0]=some [.str s,.cel (BA cutU)]:=fun h s=>dS h s
have hspc:(BA cutU).all PV.cell=true:=by
 rw [Yq]
 intro p hp
 obtain ⟨b,_,rfl⟩:=Yy.1 hp
 rfl
have hsl:(BA cutU).length=256:=WX _
have hrc:(List.replicate 256 (PV.bool false)).all PV.cell=true:=by
 rw [Yq]
 intro p hp
 rw [YW hp]
 rfl
have hrl:(List.replicate 256 (PV.bool false)).length=256:=MH
generalize BA cutU=sp at hm hL ha hspc hsl
generalize hz:List.replicate 256 (PV.bool false)=zp at hrc hrl
have zi:Ze Q7 131 zp:=hz ▸ inferInstance
refine LD mix Tryz.func48 (by kernel_rfl) rfl (by kernel_rfl) ?_
repeat (first | refine Zr rfl (by (conv=>lhs;whnf);try rfl) ?_ | refine Zs rfl (by (conv=>lhs;whnf);try rfl) ?_ | refine LE rfl rfl rfl rfl (by (conv=>lhs;whnf);try rfl) ?_ | refine Zf ?_ | refine Zl ?_ | refine Zc ?_)
by_cases h0:s=⟨#[]⟩
·rw [Yh h0]
 repeat (first | (refine Zw rfl ?_) | refine ID rfl rfl (by (conv=>lhs;whnf);try rfl) ?_ | refine Zf ?_)
 refine Zv (by (conv=>lhs;whnf);try rfl) rfl ?_
 repeat (first | refine Zr rfl (by (conv=>lhs;whnf);try rfl) ?_ | refine Zs rfl (by (conv=>lhs;whnf);try rfl) ?_ | refine Zf ?_ | refine Zl ?_ | refine Zc ?_ | refine LB ?_)
 exact FI rfl rfl (by rw [h0];rfl)
rw [Yf h0]
repeat (first | refine Zr rfl (by (conv=>lhs;whnf);try rfl) ?_ | refine LE rfl rfl rfl rfl (by (conv=>lhs;whnf);try rfl) ?_ | refine ID rfl rfl (by (conv=>lhs;whnf);try rfl) ?_ | refine Zf ?_)
refine Zk (by (conv=>lhs;whnf);try rfl) (by decide) ?_
repeat (first | (refine Zw rfl ?_) | (refine Zk rfl rfl ?_) | (refine DU hm rfl rfl ?_) | (refine SK (z:=zp) rfl hrc ?_) | (refine SL (ps:=sp) (cs:=zp) (cs':=sp) rfl rfl rfl rfl rfl hsl hspc (show 0+256<=zp.length by omega) (bW (show zp.length=sp.length by omega)) ?_) | (refine Zv rfl rfl ?_) | (refine N4 hL rfl (ha rfl _) rfl ?_) | refine Zr rfl (by (conv=>lhs;whnf);try rfl) ?_ | refine Zs rfl (by (conv=>lhs;whnf);try rfl) ?_ | refine MY rfl rfl rfl rfl (by (conv=>lhs;whnf);try rfl) ?_ | refine IE Tryz.underlying9 rfl rfl ?_ | refine SM rfl rfl rfl ?_ | refine ID rfl rfl (by (conv=>lhs;whnf);try rfl) ?_ | refine Zf ?_ | refine Zl ?_ | refine Zc ?_ | refine ZJ ?_ | refine LB ?_)
exact FI rfl rfl rfl}
def TJ (s c:Q1):Q2 Q1:=if s.size<=9223372036854775807/\c=⟨#[9,10,13,32]⟩ then some (DW cutW (EX cutW s)) else none
theorem ZlJ (s c:Q1) (r:Q1) (h:TJ s c=some r):Zg Q7 177 [.str s,.str c] (.str r):=by{
unfold TJ at h
split at h
rename_i hc
cases h
rw [hc.2]
exact ZyB s hc.1
cases h}
def LV (s c:Q1):Q2 Q1:=if c=⟨#[32,9]⟩ then some (DW cutB s) else if c=⟨#[9,32,95]⟩ then some (DW cutU s) else none
theorem nF (s c:Q1) (r:Q1) (h:LV s c=some r):Zg Q7 48 [.str s,.str c] (.str r):=by{
unfold LV at h
split at h
rename_i hc
cases h
rw [hc]
exact ZyC s
split at h
rename_i hc
cases h
rw [hc]
exact ZyD s
cases h}
end
section
open VL
def WY (p0:Q1) (p1:Q1):Q2 (Q1×Bool):=(ZB p0 p1).bind fun r1=>if (!r1) then some (p0,false) else (AJ p0 (p1.size:Int) (p0.size:Int)).bind fun l2=>some (l2,true)
theorem ZdK (p0:Q1) (p1:Q1) (r:Q1×Bool) (h:WY p0 p1=some r):Zg Q7 83 [.str p0,.str p1] (.tup [.str r.1,.bool r.2]):=by{
refine cF (fun r=>.tup [.str r.1,.bool r.2]) h mix Tryz.func83 fun r h=>?_
unfold WY at h
refine Zi ?_
refine rg ?_
refine rg ?_
refine aC h (dE _ _) fun r1 h=>?_
refine cS h rfl (fun h=>?_) fun h=>?_
refine rg ?_
cases h
exact rQ
refine rg ?_
refine sS h fun l2 h=>?_
cases h
exact rQ}
def LX (p0:Q1) (p1:Q1):Q2 (Q1×Bool):=(WY p0 p1).bind fun r1=>some (r1.1,r1.2)
theorem nG (p0:Q1) (p1:Q1) (r:Q1×Bool) (h:LX p0 p1=some r):Zg Q7 47 [.str p0,.str p1] (.tup [.str r.1,.bool r.2]):=by{
refine cF (fun r=>.tup [.str r.1,.bool r.2]) h mix Tryz.func47 fun r h=>?_
unfold LX at h
refine Zi ?_
refine rg ?_
refine rg ?_
refine aC h (ZdK _ _) fun r1 h=>?_
cases h
exact rQ}
def PY (p0:Q1):Q2 Q1:=(TJ p0 ⟨#[9,10,13,32]⟩).bind fun r1=>some r1
theorem nH (p0:Q1) (r:Q1) (h:PY p0=some r):Zg Q7 118 [.str p0] (.str r):=by{
refine cF (fun r=>.str r) h mix Tryz.func118 fun r h=>?_
unfold PY at h
refine Zi ?_
refine rg ?_
refine rg ?_
refine aC h (ZlJ _ _) fun r1 h=>?_
cases h
exact rQ}
def PZ (p0:Q1):Q2 Int:=A4 A9 (fun f12 (x58:Int)=>if decide (x58<(p0.size:Int)) then letk (fun (x83:Bool)=>if x83 then some x58 else f12 (w64 (x58+1))) fun k14=>(atS p0 x58).bind fun c84=>if decide (c84=124) then k14 true else (atS p0 x58).bind fun c85=>if decide (c85=93) then if decide ((w64 (x58+1))<(p0.size:Int)) then (atS p0 (w64 (x58+1))).bind fun c86=>k14 (decide (c86=93)) else k14 false else k14 false else some (-1)) 0
theorem nI (p0:Q1) (r:Int) (h:PZ p0=some r):Zg Q7 49 [.str p0] (.int .i64 r):=by{
refine cF (fun r=>.int .i64 r) h mix Tryz.func49 fun r h=>?_
unfold PZ at h
refine Zi ?_
refine rg ?_
refine rg ?_
refine bl ?_
refine Zy h fun f12 mf12 hf12 h=>?_
refine Zu (α:=Nat×Int) (fun a _=>mkS [(0,.str p0),(5,Q5 (p0.size:Int)),(6,Q5 a.2)] [] 2) (fun a=>A4 a.1 f12 a.2=some r) (fun a=>a.1) (mf12,0) 2 h (sR []) (fun a _ h=>?_)
obtain ⟨mf12,x58⟩:=a
obtain ⟨mf12,rfl,h⟩:=Zz hf12 h
dsimp only at h ⊢
refine Zi ?_
refine rg ?_
refine cS h rfl (fun h=>?_) fun h=>?_
refine bl ?_
refine rg ?_
refine jL h (fun x83=>mkS [(0,.str p0),(3,Q5 x58),(5,Q5 (p0.size:Int)),(6,Q5 x58),(32,.bool x83)] [] 2) (fun k14 h=>?_) fun x83 h=>?_
refine rg ?_
refine aS h fun c84 h=>?_
refine kS 13 h rfl (fun h=>?_) fun h=>?_
iterate 18 refine Zw rfl (Zi ?_)
exact jn true h (sR [])
refine aS h fun c85 h=>?_
refine kS 18 h rfl (fun h=>?_) fun h=>?_
refine kS 25 h rfl (fun h=>?_) fun h=>?_
refine aS h fun c86 h=>?_
exact jn (decide (c86=93)) h (sR [])
iterate 5 refine Zw rfl (Zi ?_)
exact jn false h (sR [])
iterate 10 refine Zw rfl (Zi ?_)
exact jn false h (sR [])
refine cS h rfl (fun h=>?_) fun h=>?_
refine rg ?_
cases h
exact rQ
refine rg ?_
exact rn (mf12,(w64 (x58+1))) h (sR [])
refine rg ?_
cases h
exact rQ}
def NE (p0:Q1):Q2 (Title×Int):=(strings_Cut p0 ⟨#[35]⟩).bind fun r1=>(T9 r1.1).bind fun r2=>some (r2.1,r2.2)
theorem dV (p0:Q1) (r:Title×Int) (h:NE p0=some r):Zg Q7 50 [.str p0] (.tup [r.1.pv,.int .i64 r.2]):=by{
refine cF (fun r=>.tup [r.1.pv,.int .i64 r.2]) h mix Tryz.func50 fun r h=>?_
unfold NE at h
refine Zi ?_
refine rg ?_
refine rg ?_
refine aC h (lK _ _) fun r1 h=>?_
refine rg ?_
refine aC h (Zoc _) fun r2 h=>?_
cases h
exact rQ}
def Q0 (p0:Q1):Q2 Q1:=(atS p0 0).bind fun c1=>if (!decide (c1=124)) then some ⟨#[]⟩ else (AJ p0 1 (p0.size:Int)).bind fun l2=>(strings_Cut l2 ⟨#[93,93]⟩).bind fun r3=>if (!r3.2.2) then some ⟨#[]⟩ else (PY r3.1).bind fun r4=>some r4
theorem Zlq (p0:Q1) (r:Q1) (h:Q0 p0=some r):Zg Q7 116 [.str p0] (.str r):=by{
refine cF (fun r=>.str r) h mix Tryz.func116 fun r h=>?_
unfold Q0 at h
refine Zi ?_
refine rg ?_
refine rg ?_
refine aS h fun c1 h=>?_
refine cS h rfl (fun h=>?_) fun h=>?_
refine rg ?_
cases h
exact rQ
refine rg ?_
refine sS h fun l2 h=>?_
refine aC h (lK _ _) fun r3 h=>?_
refine rg ?_
refine cS h rfl (fun h=>?_) fun h=>?_
refine rg ?_
cases h
exact rQ
refine rg ?_
refine aC h (nH _) fun r4 h=>?_
cases h
exact rQ}
def Q9 (p0:Finder) (p1:Q1):Q2 Finder:=A4 A9 (fun f5 ((x21,x22,x23):Q1×(Q3 Link)×(Q3 Memb))=>(strings_Index x21 ⟨#[91,91]⟩).bind fun r44=>if decide (r44<0) then some ⟨x22,x23⟩ else (AJ x21 (w64 (r44+2)) (x21.size:Int)).bind fun l45=>(AJ x21 (w64 (r44+1)) (x21.size:Int)).bind fun l46=>(PZ l45).bind fun r47=>if decide (r47<0) then some ⟨x22,x23⟩ else (AJ l45 0 r47).bind fun l48=>letk (fun (x51:Bool)=>if x51 then f5 (l46,x22,x23) else (NE l48).bind fun r52=>if (!decide (r52.2=0)) then f5 (l46,x22,x23) else letk (fun (x55:Bool)=>if x55 then (AJ l45 r47 (l45.size:Int)).bind fun l56=>(Q0 l56).bind fun r57=>(AA 40 x23 [(⟨r52.1,r57⟩:Memb)]).bind fun l58=>f5 (l46,x22,l58) else (AA 32 x22 [(⟨1,r52.1⟩:Link)]).bind fun l59=>f5 (l46,l59,x23)) fun k7=>if decide (r52.1.space=4) then (LV l48 ⟨#[9,32,95]⟩).bind fun r60=>(ZV r60 ⟨#[58]⟩).bind fun r61=>k7 (!r61) else k7 false) fun k6=>(strings_Contains l48 ⟨#[91,91]⟩).bind fun r62=>if r62 then k6 true else (strings_Contains l48 ⟨#[10]⟩).bind fun r63=>k6 r63) (p1,p0.links,p0.members)
theorem ZgQ (p0:Finder) (p1:Q1) (r:Finder) (h:Q9 p0 p1=some r):ContractP Q7 66 [.ptr 0 (0,0) 0,.str p1] 0 [.row 42 3 false (List.map Link.cs p0.links),.row 45 3 false (List.map Memb.cs p0.members)] (.tup []) [.row 42 3 false (List.map Link.cs r.links),.row 45 3 false (List.map Memb.cs r.members)]:=by{
refine bZ (R:=fun r=>.tup []) (O:=fun r=>[.row 42 3 false (Q8 Link.cs r.links),.row 45 3 false (Q8 Memb.cs r.members)]) h mix Tryz.func66 (by kernel_rfl) rfl (by kernel_rfl) rfl fun r h=>?_
unfold Q9 at h
refine Zi ?_
refine bl ?_
refine Zy h fun f5 mf5 hf5 h=>?_
refine Zu (α:=Nat×(Q1×(Q3 Link)×(Q3 Memb))) (fun a _=>mkS [(0,Q6),(1,.str a.2.1)] [(0,some ((0,0),.box [.row 1000 (1,1000),.row 1001 (1,1001)])),(1000,some ((1,1000),.row 42 3 false (Q8 Link.cs a.2.2.1))),(1001,some ((1,1001),.row 45 3 false (Q8 Memb.cs a.2.2.2)))] 2) (fun a=>A4 a.1 f5 a.2=some r) (fun a=>a.1) (mf5,p1,p0.links,p0.members) 2 h (sR [(1000,0,1000),(1001,0,1001)]) (fun a _ h=>?_)
obtain ⟨mf5,x21,x22,x23⟩:=a
obtain ⟨mf5,rfl,h⟩:=Zz hf5 h
dsimp only at h ⊢
refine Zi ?_
refine bl ?_
refine rg ?_
refine aC h (dB _ _) fun r44 h=>?_
refine rg ?_
refine cS h rfl (fun h=>?_) fun h=>?_
cases h
exact jO rfl rfl rfl rfl rfl rfl
refine rg ?_
refine sS h fun l45 h=>?_
refine rg ?_
refine sS h fun l46 h=>?_
refine rg ?_
refine aC h (nI _) fun r47 h=>?_
refine rg ?_
refine cS h rfl (fun h=>?_) fun h=>?_
cases h
exact jO rfl rfl rfl rfl rfl rfl
refine rg ?_
refine sS h fun l48 h=>?_
refine jL h (fun x51=>mkS [(0,Q6),(1,.str l46),(5,.str l45),(6,Q5 r47),(7,.str l48),(34,.bool x51)] [(0,some ((0,0),.box [.row 1000 (1,1000),.row 1001 (1,1001)])),(1000,some ((1,1000),.row 42 3 false (Q8 Link.cs x22))),(1001,some ((1,1001),.row 45 3 false (Q8 Memb.cs x23)))] 2) (fun k6 h=>?_) fun x51 h=>?_
refine rg ?_
refine aC h (WH _ _) fun r62 h=>?_
refine kS 31 h rfl (fun h=>?_) fun h=>?_
iterate 2 refine Zw rfl (Zi ?_)
exact jn true h (sR [(1000,1,1000),(1001,1,1001)])
refine aC h (WH _ _) fun r63 h=>?_
exact jn r63 h (sR [(1000,1,1000),(1001,1,1001)])
refine cS h rfl (fun h=>?_) fun h=>?_
exact rn (mf5,l46,x22,x23) h (sR [(1000,1,1000),(1001,1,1001)])
refine rg ?_
refine aC h (dV _) fun r52 h=>?_
refine rg ?_
refine cS h rfl (fun h=>?_) fun h=>?_
exact rn (mf5,l46,x22,x23) h (sR [(1000,1,1000),(1001,1,1001)])
refine jL h (fun x55=>mkS [(0,Q6),(1,.str l46),(5,.str l45),(6,Q5 r47),(8,.ptr 8 (1,8) 0),(50,.bool x55)] [(0,some ((0,0),.box [.row 1000 (1,1000),.row 1001 (1,1001)])),(8,some ((1,8),.box (Title.cs r52.1))),(1000,some ((1,1000),.row 42 3 false (Q8 Link.cs x22))),(1001,some ((1,1001),.row 45 3 false (Q8 Memb.cs x23)))] 2) (fun k7 h=>?_) fun x55 h=>?_
refine rg ?_
refine kS 45 h rfl (fun h=>?_) fun h=>?_
refine aC h (nF _ _) fun r60 h=>?_
refine aC h (LN _ _) fun r61 h=>?_
exact jn (!r61) h (sR [(8,2,5),(1000,1,1000),(1001,1,1001)])
iterate 4 refine Zw rfl (Zi ?_)
exact jn false h (sR [(8,2,5),(1000,1,1000),(1001,1,1001)])
refine cS h rfl (fun h=>?_) fun h=>?_
refine rg ?_
refine sS h fun l56 h=>?_
refine aC h (Zlq _) fun r57 h=>?_
refine CR (M:=([(⟨r52.1,r57⟩:Memb)]:Q3 Memb)) (f:=Memb.cs) rfl rfl rfl rfl (Yk rfl) rfl (Zi ?_)
refine pR Memb.cs h fun l58 h=>?_
exact rn (mf5,l46,x22,l58) h (sR [(1000,1,1000),(1001,2,12)])
refine rg ?_
refine CR (M:=([(⟨1,r52.1⟩:Link)]:Q3 Link)) (f:=Link.cs) rfl rfl rfl rfl (Yk rfl) rfl (Zi ?_)
refine pR Link.cs h fun l59 h=>?_
exact rn (mf5,l46,l59,x23) h (sR [(1000,2,8),(1001,1,1001)])}
def LY (p0:Q1):Q2 (Title×Bool):=(LX p0 ⟨#[35,82,69,68,73,82,69,67,84]⟩).bind fun r1=>if (!r1.2) then some (⟨0,⟨#[]⟩⟩,false) else (LV r1.1 ⟨#[32,9]⟩).bind fun r2=>(LX r2 ⟨#[91,91]⟩).bind fun r3=>(PZ r3.1).bind fun r4=>letk (fun (x9:Bool)=>if x9 then (some ((⟨0,(⟨#[]⟩:Q1)⟩:Title),false):Q2 (Title×Bool)) else (AJ r3.1 0 r4).bind fun l10=>(NE l10).bind fun r11=>(some (r11.1,(decide (r11.2=0))):Q2 (Title×Bool))) fun k1=>if (!r3.2) then k1 true else if decide (r4<0) then k1 true else (AJ r3.1 0 r4).bind fun l12=>(strings_Contains l12 ⟨#[91,91]⟩).bind fun r13=>if r13 then k1 true else (AJ r3.1 0 r4).bind fun l14=>(strings_Contains l14 ⟨#[10]⟩).bind fun r15=>k1 r15
theorem nJ (p0:Q1) (r:Title×Bool) (h:LY p0=some r):Zg Q7 13 [.str p0] (.tup [r.1.pv,.bool r.2]):=by{
refine cF (fun r=>.tup [r.1.pv,.bool r.2]) h mix Tryz.func13 fun r h=>?_
unfold LY at h
refine Zi ?_
refine rg ?_
refine rg ?_
refine aC h (nG _ _) fun r1 h=>?_
refine rg ?_
refine cS h rfl (fun h=>?_) fun h=>?_
refine rg ?_
cases h
exact rQ
refine rg ?_
refine aC h (nF _ _) fun r2 h=>?_
refine aC h (nG _ _) fun r3 h=>?_
refine rg ?_
refine aC h (nI _) fun r4 h=>?_
refine jL h (fun x9=>mkS [(2,.ptr 2 (1,2) 0),(4,.str r3.1),(6,Q5 r4),(42,.bool x9)] [(2,some ((1,2),.box [Q5 0,.str ⟨#[]⟩]))] 2) (fun k1 h=>?_) fun x9 h=>?_
refine rg ?_
refine kS 27 h rfl (fun h=>?_) fun h=>?_
iterate 10 refine Zw rfl (Zi ?_)
exact jn true h (sR [(2,1,0)])
refine kS 31 h rfl (fun h=>?_) fun h=>?_
iterate 8 refine Zw rfl (Zi ?_)
exact jn true h (sR [(2,1,0)])
refine sS h fun l12 h=>?_
refine aC h (WH _ _) fun r13 h=>?_
refine kS 37 h rfl (fun h=>?_) fun h=>?_
iterate 4 refine Zw rfl (Zi ?_)
exact jn true h (sR [(2,1,0)])
refine sS h fun l14 h=>?_
refine aC h (WH _ _) fun r15 h=>?_
exact jn r15 h (sR [(2,1,0)])
refine cS h rfl (fun h=>?_) fun h=>?_
refine rg ?_
cases h
exact rQ
refine rg ?_
refine sS h fun l10 h=>?_
refine aC h (dV _) fun r11 h=>?_
refine rg ?_
cases h
exact rQ}
end
namespace VL
open Go.RowKit
def νa (k:Nat):Gen:=(0,k)
def νb (k:Nat):Gen:=if k=0 then (0,0) else (1,k)
def νn (g0:Gen) (ng i k:Nat):Gen:=if k=0 then g0 else (ng,i+1000000 * (k+1))
abbrev νc (ng i:Nat):Nat->Gen:=νn (0,0) ng i
def objs (l:Q3 (Nat×Gen×VObj)):Q3 (Nat×VObj):=l.map fun q=>(q.1,q.2.2)
theorem QA {l:Q3 (Nat×Gen×VObj)} {t:Nat} {o:VObj} (h:(t,o) ∈ objs l):∃ g,(t,g,o) ∈ l:=by{
obtain ⟨⟨t',g,o'⟩,h1,e⟩:=Yy.1 h
injection e with e1 e2
subst e1 e2
exact ⟨g,h1⟩}
section
variable {NT AT ET:Nat}
theorem NF {f:Nat->Q2 (Gen×VObj)} {y:Nat} {l:Q3 Nat} (h:y ∈ l):∀ n,y ∈ CP f n l
 | 0=>h
 | _+1=>Yz _ h
theorem NH {f:Nat->Q2 (Gen×VObj)} {x y:Nat} {l:Q3 Nat} {n:Nat} (hx:x ∈ l) (h:∀ l':Q3 Nat,(∀ z ∈ EM f x,z ∈ l')->y ∈ CP f n l'):y ∈ CP f (n+1) l:=
 YK _ (h _ fun _ hz=>YS.2 ⟨x,hx,hz⟩)
theorem WZ {f:Nat->Q2 (Gen×VObj)} {t:Nat} {g:Gen} {cs:Q3 PV} (h:f t=some (g,.box cs)) {p:PV} (hp:p ∈ cs) {k:Nat} (hk:k ∈ AC p):k ∈ EM f t:=by
 unfold EM
 rw [h]
 exact YS.2 ⟨p,hp,hk⟩
theorem nK {f:Nat->Q2 (Gen×VObj)} {t:Nat} {g:Gen} {E n:Nat} {els:Q3 (Q3 PV)} (h:f t=some (g,.prow E n els)) {el:Q3 PV} (he:el ∈ els) {p:PV} (hp:p ∈ el) {k:Nat} (hk:k ∈ AC p):k ∈ EM f t:=by
 unfold EM
 rw [h]
 exact YS.2 ⟨p,FD.2 ⟨el,he,hp⟩,hk⟩
theorem nL {ob:Q3 (Nat×Q2 (Gen×VObj))} {b:Nat} {ν:Nat->Gen} {e:El} (h:Has ob (elO NT AT b ν e)) {l:Q3 Nat} (hb:b ∈ l) {t:Nat} {g:Gen} {o:VObj} (hm:(t,g,o) ∈ elO NT AT b ν e) (n:Nat):t ∈ CP (Zn ob) (n+2) l:=by{
unfold elO at h hm
rcases Ys.1 hm with q | hm'
injection q with q1 q2;subst q1;exact NF hb _
have hbox:=h _ _ _ (Yi ..)
rcases Ys.1 hm' with q | hm'
injection q with q1 q2
subst q1
exact NH hb fun l' h'=>NF (h' _ (WZ hbox (p:=.row (b+1) (ν (b+1))) (by simp) (by simp [AC]))) _
rcases Ys.1 hm' with q | hm'
injection q with q1 q2
subst q1
exact NH hb fun l' h'=>NF (h' _ (WZ hbox (p:=.row (b+2) (ν (b+2))) (by simp) (by simp [AC]))) _
have hrow:=h _ _ _ (Yg _ (Yg _ (Yi ..)))
unfold LK at hm'
split at hm'
cases hm'
rename_i pre a hl
obtain q:=YG.1 hm'
injection q with q1 q2
subst q1
refine NH hb fun l' h'=>NH (h' _ (WZ hbox (p:=.row (b+2) (ν (b+2))) (by simp) (by simp [AC]))) fun l2 h2=>NF (h2 _ (nK hrow (el:=[.bool a.named,.sl a.name,.row (b+3) (ν (b+3))]) (by rw [hl];simp [ES]) (p:=.row (b+3) (ν (b+3))) (by simp) (by simp [AC]))) _}
theorem nM {ν:Nat->Gen}:∀ {r:Q3 El} {t:Nat} {g:Gen} {o:VObj},(t,g,o) ∈ AZ NT AT ν r->∃ b e,[PV.ptr b (ν b) 0] ∈ AO ν r/\(t,g,o) ∈ elO NT AT b ν e/\∀ q ∈ elO NT AT b ν e,q ∈ AZ NT AT ν r
 | [],_,_,_,h=>by cases h
 | e::r,t,g,o,h=>by
   rcases YD.1 h with h | h
   exact ⟨A5 r,e,YK _ (YG.2 rfl),h,fun q hq=>Yz _ hq⟩
   obtain ⟨b,e',h1,h2,h3⟩:=nM h
   exact ⟨b,e',Yz _ h1,h2,fun q hq=>YK _ (h3 q hq)⟩
theorem nN {ob:Q3 (Nat×Q2 (Gen×VObj))} {ν:Nat->Gen} {e:El} {r:Q3 El} (h:Has ob (stO NT AT ET ν e r)) {t:Nat} {g:Gen} {o:VObj} (hm:(t,g,o) ∈ stO NT AT ET ν e r):t ∈ IB (Zn ob) (.ptr 0 (ν 0) 0):=by{
show t ∈ CP (Zn ob) 4 [0]
have h0:=h _ _ _ (Yi ..)
have h1:=h _ _ _ (Yg _ (Yi ..))
rcases Ys.1 hm with q | hm'
injection q with q1 q2;subst q1;exact NF (YG.2 rfl) _
have k1:∀ l':Q3 Nat,(∀ z ∈ EM (Zn ob) 0,z ∈ l')->1000 ∈ l':=fun l' h'=>h' _ (WZ h0 (p:=.row 1000 (ν 1000)) (by simp) (by simp [AC]))
rcases Ys.1 hm' with q | hm'
injection q with q1 q2
subst q1
exact NH (YG.2 rfl) fun l' h'=>NF (k1 l' h') _
have main:∃ b e',[PV.ptr b (ν b) 0] ∈ AO ν r ++ [[.ptr 1001 (ν 1001) 0]]/\(t,g,o) ∈ elO NT AT b ν e'/\∀ q ∈ elO NT AT b ν e',q ∈ stO NT AT ET ν e r:=by
 rcases YD.1 hm' with h | h
 exact ⟨1001,e,YK _ (YG.2 rfl),h,fun q hq=>Yg _ (Yg _ (Yz _ hq))⟩
 obtain ⟨b,e',w1,w2,w3⟩:=nM h
 exact ⟨b,e',Yz _ w1,w2,fun q hq=>Yg _ (Yg _ (YK _ (w3 q hq)))⟩
obtain ⟨b,e',w1,w2,w3⟩:=main
refine NH (YG.2 rfl) fun l' h'=>NH (k1 l' h') fun l2 h2=>nL (fun t g o hq=>h t g o (w3 _ hq)) (h2 _ (nK h1 w1 (YG.2 rfl) (by simp [AC]))) w2 0}
theorem X0 {σ:Gen->Q2 (Nat×Gen)} {κ:Nat->Nat} {γ:Nat->Gen} {f:Nat->Q2 (Gen×VObj)}:∀ {l l2:Q3 (Nat×Gen×VObj)},AK σ l=some l2->(∀ t g o,(t,g,o) ∈ l2->f t=some (g,o))->(∀ q ∈ l,σ q.2.1=some (κ q.1,γ q.1))->H5 σ κ γ f (objs l)
 | [],_,_,_,_=>trivial
 | (t,g,o)::r,l2,h,hf,hk=>by
  simp only [AK] at h
  split at h
  rename_i t3 g3 o3 r3 h1 h2 h3
  cases h
  have e:=hk _ (Yi ..)
  rw [h1] at e
  injection e with e
  injection e with e1 e2
  subst e1 e2
  exact ⟨⟨o3,h2,hf _ _ _ (Yi ..)⟩,X0 h3 (fun t g o hm=>hf t g o (Yg _ hm)) fun q hq=>hk q (Yg _ hq)⟩
  cases h
theorem X3 {κ:Nat->Nat} {obs:Q3 (Nat×VObj)} {obs2:Q3 (Nat×Gen×VObj)} {ob:Q3 (Nat×Q2 (Gen×VObj))} (hn:(obs2.map (·.1)).Nodup) (t:Nat) :
  Zn ((usG κ obs obs2).reverse++ob) t=if ∃ q ∈ obs2,q.1=t then Zn (somes obs2) t else if ∃ q ∈ obs,κ q.1=t then none else Zn ob t:=by{
unfold usG
rw [OB,YM]
have hrev:((obs2.reverse).map (·.1)).Nodup:=by rw [aF];exact (List.reverse_perm _).nodup_iff.2 hn
have e:(obs2.map fun q=>(q.1,some q.2)).reverse=somes obs2.reverse:=by unfold somes;rw [aF]
rw [e]
by_cases h1:∃ q ∈ obs2,q.1=t
rw [if_pos h1]
obtain ⟨⟨t',g,o⟩,hq,rfl⟩:=h1
have w:=FN [] hn hq
rw [YB] at w
rw [w]
exact FN _ hrev (V0.2 hq)
rw [if_neg h1,IH _ _ _ fun q hq hqt=>h1 (by
 obtain ⟨g,o,h2,_⟩:=W6 hq
 exact ⟨_,V0.1 h2,hqt⟩)]
by_cases h2:∃ q ∈ obs,κ q.1=t
rw [if_pos h2]
have:∀ (l:Q3 (Nat×VObj)) (b:Q3 (Nat×Q2 (Gen×VObj))),(∃ q ∈ l,κ q.1=t)->Zn ((l.map fun q=>(κ q.1,(none:Q2 (Gen×VObj))))++b) t=none:=fun l b=>by
 induction l with
 | nil=>rintro ⟨q,hq,_⟩;cases hq
 | cons q l ih=>
   rintro ⟨q',hq',e⟩
   show (if t=κ q.1 then none else Zn (_++b) t)=none
   split
   rfl
   rename_i hne
   rcases Ys.1 hq' with rfl | hq'
   exact absurd e.symm hne
   exact ih ⟨q',hq',e⟩
rw [<- aF]
obtain ⟨q,hq,e2⟩:=h2
exact this _ _ ⟨q,V0.2 hq,e2⟩
rw [if_neg h2,IH _ _ _ fun q hq hqt=>h2 (by
 obtain ⟨q',hq',rfl⟩:=Yy.1 (V0.1 hq)
 exact ⟨q',hq',hqt⟩)]}
theorem nP (b:Nat) (ν ν':Nat->Gen) (e:El):(elO NT AT b ν e).map (·.1)=(elO NT AT b ν' e).map (·.1):=by
 obtain ⟨k,t,c,l,args⟩:=e
 cases args<;>rfl
theorem dW (ν ν':Nat->Gen):∀ (r:Q3 El),(AZ NT AT ν r).map (·.1)=(AZ NT AT ν' r).map (·.1)
 | []=>rfl
 | e::r=>by unfold AZ;rw [YR,YR,nP,dW ν ν' r]
theorem TL (ν ν':Nat->Gen) (e:El) (r:Q3 El):(stO NT AT ET ν e r).map (·.1)=(stO NT AT ET ν' e r).map (·.1):=by
 unfold stO
 rw [YO,YO,YO,YO,YR,YR,nP 1001 ν ν',dW ν ν']
def κp (κx:Nat->Nat) (k:Nat):Nat:=if BN k=true then k else κx k
def γp (ν γx:Nat->Gen) (k:Nat):Gen:=if BN k=true then ν k else γx k
def no1 (k:Nat):Bool:=k == 0
def nones (κx:Nat->Nat) (xin:Q3 (Nat×VObj)):Q3 (Nat×Q2 (Gen×VObj)):=xin.map fun q=>(κx q.1,none)
end
section
variable {NT AT ET:Nat} {P:Program} [WInv P] {ops:Array Oper} {draw:Bool} {i:Nat} {L:Q3 Oper} {acc:Q3 (Q3 Nat×Q3 Nat)} {K:FS->Prop} {tm:Q3 (Nat×PV)} {ob:Q3 (Nat×Q2 (Gen×VObj))} {ng:Nat}
 {d:Q2 Tmp} {ty:TypeId} {pos:String} {after:Array Edge} {gd:Q2 (Nat×Bool)}
theorem LZ {k:Nat} (h:k=0\/1000<=k):BN k=true:=by{
unfold BN
rcases h with rfl | h
rfl
rw [Yh h,Bool.or_true]}
def dX (l:Q3 (Nat×Gen×VObj)):Bool:=decide ((l.map (·.1)).Nodup)&&l.all fun q=>decide (1100<=q.1)&&decide (q.1<2000)
def nQ (κx:Nat->Nat) (l:Q3 (Nat×VObj)):Bool:=decide ((l.map fun q=>κx q.1).Nodup)&&l.all fun q=>!BN q.1 && !BN (κx q.1)
theorem TM {ob ob':Q3 (Nat×Q2 (Gen×VObj))} (h:∀ t,Zn ob t=Zn ob' t):mkS tm ob ng=mkS tm ob' ng:=by
 unfold mkS
 rw [show Zn ob=Zn ob' from funext h]
theorem X4 {f:FuncId} {es:Array Operand} {ts:Array TypeId} {args:Q3 PV} {e e':El} {r r':Q3 El} {xin:Q3 (Nat×VObj)} {res res2:PV} {ext ext2:Q3 (Nat×Gen×VObj)} (lits:Q3 (Nat×Q2 (Gen×VObj))) (ν:Nat->Gen) (κx:Nat->Nat) (γx:Nat->Gen)
  (hc:ContractG P f args (objs (stO NT AT ET νa e r)++xin) res (stO NT AT ET νb e' r'++ext)) (hob:ob=lits++somes (stO NT AT ET ν e r)) (hl:(lits.all fun q=>!BN q.1)=true)
  (hw:Zh ops (mkS tm ob ng) ⟨d,.call ⟨.value (.func f),es,ts⟩,ty,pos,after,gd⟩=some true) (he:rnA (σ0 (κp κx) (γp ν γx)) args=some (es.toList.map (evL tm))) (h0:PV.ptr 0 (ν 0) 0 ∈ es.toList.map (evL tm))
  (hx:H5 (σ0 (κp κx) (γp ν γx)) (κp κx) (γp ν γx) (Zn ob) xin) (hxk:∀ q ∈ xin,∃ g,PV.ptr (κx q.1) g 0 ∈ es.toList.map (evL tm)) (hxn:nQ κx xin=true)
  (hres:rnP (σ1 no1 (κp κx) (γp ν γx) id ng i) res=some res2) (hext:AK (σ1 no1 (κp κx) (γp ν γx) id ng i) ext=some ext2) (hek:(dX ext&&dX ext2)=true)
  (k:GoL P ops draw (i+1) L (acc ++ [(ZE (mkS tm ob ng) ⟨d,.call ⟨.value (.func f),es,ts⟩,ty,pos,after,gd⟩,(usG (κp κx) (objs (stO NT AT ET νa e r)++xin) (stO NT AT ET (νn (ν 0) ng i) e' r'++ext2)).map (·.1))]) (mkS (A6 d res2 tm) (nones κx xin++(somes ext2++(lits++somes (stO NT AT ET (νn (ν 0) ng i) e' r')))) ng) K) :
  GoL P ops draw i (⟨d,.call ⟨.value (.func f),es,ts⟩,ty,pos,after,gd⟩::L) acc (mkS tm ob ng) K:=by{
have hHas:Has ob (stO NT AT ET ν e r):=by rw [hob];exact DL hl
have par1:∀ {q:Nat×Gen×VObj} {ν:Nat->Gen} {e:El} {r:Q3 El},q ∈ stO NT AT ET ν e r->BN q.1=true:=fun h=>LZ (by have:=(K6 h).1;omega)
have hσ0:∀ k,k=0\/1000<=k->σ0 (κp κx) (γp ν γx) (νa k)=some (k,ν k):=fun k hk=>by simp [σ0,νa,κp,γp,LZ hk]
have hσ1:∀ k,k=0\/1000<=k->σ1 no1 (κp κx) (γp ν γx) id ng i (νb k)=some (k,νn (ν 0) ng i k):=fun k hk=>by
 by_cases h0:k=0
 subst h0
 simp [σ1,νb,νn,no1,κp,γp,BN]
 simp [σ1,νb,νn,h0]
simp only [dX,YH,YT,Yq] at hek
obtain ⟨⟨x1,x2⟩,x3,x4⟩:=hek
simp only [nQ,YH,YT,Yq,I5] at hxn
obtain ⟨n1,n2⟩:=hxn
have disj:∀ {ν:Nat->Gen} {e:El} {r:Q3 El} {l:Q3 (Nat×Gen×VObj)},(l.map (·.1)).Nodup->(∀ q ∈ l,1100<=q.1/\q.1<2000)->((stO NT AT ET ν e r++l).map (·.1)).Nodup:=fun h1 h2=>by
 rw [YR]
 refine P8 (DV _ _ _) h1 fun k hk hk'=>?_
 obtain ⟨q,hq,rfl⟩:=Yy.1 hk
 obtain ⟨q',hq',e'⟩:=Yy.1 hk'
 have:=(K6 hq).1
 have:=h2 _ hq'
 omega
have hpre:H5 (σ0 (κp κx) (γp ν γx)) (κp κx) (γp ν γx) (Zn ob) (objs (stO NT AT ET νa e r)++xin):=kK (X0 (P7 hσ0 e r) hHas fun q hq=>by
 rw [(K6 hq).2]
 simp only [σ0,νa,if_true]) hx
have hinj:((objs (stO NT AT ET νa e r)++xin).map fun q=>κp κx q.1).Nodup:=by
 rw [YR]
 have e1:(objs (stO NT AT ET νa e r)).map (fun q=>κp κx q.1)=(stO NT AT ET νa e r).map (·.1):=by
  unfold objs
  rw [I8]
  refine DY fun q hq=>?_
  simp [κp,par1 hq]
 have e2:xin.map (fun q=>κp κx q.1)=xin.map fun q=>κx q.1:=DY fun q hq=>by simp [κp,(n2 q hq).1]
 rw [e1,e2]
 refine P8 (DV _ _ _) n1 fun k hk hk'=>?_
 obtain ⟨q,hq,rfl⟩:=Yy.1 hk
 obtain ⟨q',hq',e'⟩:=Yy.1 hk'
 have w1:=par1 hq
 have w2:=(n2 q' hq').2
 rw [e',w1] at w2
 cases w2
have hes:∀ p,p ∈ es.toList.map (evL tm)->∀ t,t ∈ IB (Zn ob) p->t ∈ ZE (mkS tm ob ng) ⟨d,.call ⟨.value (.func f),es,ts⟩,ty,pos,after,gd⟩:=fun p hp t ht=>by
 obtain ⟨o,ho,rfl⟩:=Yy.1 hp
 unfold ZE
 rw [if_neg (by simp [quiet])]
 refine YS.2 ⟨o,?_,?_⟩
 rw [VG rfl]
 simp [Op.operands,Call.operands]
 exact .inr (by simpa using ho)
 rw [AB]
 exact ht
have h2:=G5 (P7 (NT:=NT) (AT:=AT) (ET:=ET) hσ1 e' r') hext
refine cG no1 (κp κx) (γp ν γx) id hc hw he hpre hinj (fun k hk=>?_) (fun t o' hm=>?_) hres h2 (disj x1 fun q hq=>by simpa using x2 q hq) rfl ?_
obtain rfl:k=0:=by simpa [no1] using hk
exact ⟨_,Yz _ (Yy.2 ⟨_,Yi ..,rfl⟩)⟩
rcases YD.1 hm with hm | hm
obtain ⟨g,hg⟩:=QA hm
have hg':∃ g2 o2,(t,g2,o2) ∈ stO NT AT ET ν e r:=by
 obtain ⟨o2,_,q2⟩:=cE hpre t o' (Yz _ hm)
 have hm2:t ∈ (stO NT AT ET νa e r).map (·.1):=Yy.2 ⟨_,hg,rfl⟩
 have:(stO NT AT ET νa e r).map (·.1)=(stO NT AT ET ν e r).map (·.1):=by
  exact TL _ _ e r
 rw [this] at hm2
 obtain ⟨⟨t2,g2,o3⟩,hq,rfl⟩:=Yy.1 hm2
 exact ⟨g2,o3,hq⟩
obtain ⟨g2,o2,hm2⟩:=hg'
have:κp κx t=t:=by simp [κp,par1 hm2]
rw [this]
exact hes _ h0 _ (nN hHas hm2)
have:κp κx t=κx t:=by simp [κp,(n2 _ hm).1]
rw [this]
obtain ⟨g,hg⟩:=hxk _ hm
exact hes _ hg _ (NF (by simp [C0,AC]) 4)
have e:mkS (A6 d res2 tm) ((usG (κp κx) (objs (stO NT AT ET νa e r)++xin) (stO NT AT ET (νn (ν 0) ng i) e' r'++ext2)).reverse++ob) ng=mkS (A6 d res2 tm) (nones κx xin++(somes ext2++(lits++somes (stO NT AT ET (νn (ν 0) ng i) e' r')))) ng:=TM fun t=>?_
rw [e];exact k
have hn:=disj (ν:=νn (ν 0) ng i) (e:=e') (r:=r') x3 fun q hq=>by simpa using x4 q hq
rw [X3 hn]
have skip:∀ t,BN t=true->∀ b,Zn (nones κx xin++b) t=Zn b t:=fun t ht b=>IH _ _ _ fun q hq hqt=>by
 obtain ⟨q',hq',rfl⟩:=Yy.1 hq
 have:=(n2 q' hq').2
 change κx q'.1=t at hqt
 rw [hqt,ht] at this
 cases this
have skipL:∀ t,BN t=true->∀ b,Zn (lits++b) t=Zn b t:=fun t ht b=>IH _ _ _ fun q hq hqt=>by
 have:=Yq.1 hl q hq
 rw [hqt,ht] at this
 cases this
have skipE:∀ t,(¬ ∃ q ∈ ext2,q.1=t)->∀ b,Zn (somes ext2++b) t=Zn b t:=fun t ht b=>IH _ _ _ fun q hq hqt=>by
 obtain ⟨g,o,h,_⟩:=W6 hq
 exact ht ⟨_,h,hqt⟩
have skipS:∀ {ν:Nat->Gen} {e:El} {r:Q3 El} (t:Nat),(¬ ∃ q ∈ stO NT AT ET ν e r,q.1=t)->Zn (somes (stO NT AT ET ν e r)) t=none:=fun {ν e r} t ht=>by
 have:=IH (somes (stO NT AT ET ν e r)) [] t fun q hq hqt=>by
  obtain ⟨g,o,h,_⟩:=W6 hq
  exact ht ⟨_,h,hqt⟩
 rwa [YB] at this
have ext_par:∀ q ∈ ext2,BN q.1=true:=fun q hq=>by
 have:=x4 q hq
 exact LZ (by omega)
by_cases h1:∃ q ∈ stO NT AT ET (νn (ν 0) ng i) e' r'++ext2,q.1=t
rw [if_pos h1]
obtain ⟨⟨t',g,o⟩,hq,rfl⟩:=h1
have w:=FN [] hn hq
rw [YB] at w
rw [w]
have hpk:BN t'=true:=by
 rcases YD.1 hq with hq | hq
 exact par1 hq
 exact ext_par _ hq
rw [skip _ hpk]
rcases YD.1 hq with hq | hq
rw [skipE _ fun ⟨q',h',e'⟩=>by
 have a1:=x4 q' h'
 have a2:=(K6 hq).1
 change q'.1=t' at e'
 rw [e'] at a1
 change t'=0\/_ at a2
 omega,skipL _ hpk]
have:=FN [] (DV (NT:=NT) (AT:=AT) (ET:=ET) (νn (ν 0) ng i) e' r') hq
rw [YB] at this
exact this.symm
exact (FN _ x3 hq).symm
rw [if_neg h1]
have hs:¬ ∃ q ∈ stO NT AT ET (νn (ν 0) ng i) e' r',q.1=t:=fun ⟨q,hq,e⟩=>h1 ⟨q,Yz _ hq,e⟩
have hx2:¬ ∃ q ∈ ext2,q.1=t:=fun ⟨q,hq,e⟩=>h1 ⟨q,YK _ hq,e⟩
by_cases h3:∃ q ∈ objs (stO NT AT ET νa e r)++xin,κp κx q.1=t
rw [if_pos h3]
obtain ⟨q,hq,rfl⟩:=h3
rcases YD.1 hq with hq | hq
obtain ⟨g,hg⟩:=QA (l:=stO NT AT ET νa e r) (t:=q.1) (o:=q.2) hq
have hpk:=par1 hg
have hk:κp κx q.1=q.1:=if_pos hpk
rw [hk] at hs hx2 ⊢
rw [skip _ hpk,skipE _ hx2,skipL _ hpk,skipS _ hs]
have hk:κp κx q.1=κx q.1:=if_neg (by rw [(n2 q hq).1];exact RO)
rw [hk]
symm
have:∀ (l:Q3 (Nat×VObj)) (b:Q3 (Nat×Q2 (Gen×VObj))),q ∈ l->Zn (nones κx l++b) (κx q.1)=none:=fun l b=>by
 induction l with
 | nil=>intro h;cases h
 | cons q' l ih=>
   intro h
   show (if κx q.1=κx q'.1 then none else Zn (nones κx l++b) (κx q.1))=none
   split
   rfl
   rename_i hne
   rcases Ys.1 h with rfl | h
   exact absurd rfl hne
   exact ih h
exact this _ _ hq
rw [if_neg h3]
have hxs:∀ b,Zn (nones κx xin++b) t=Zn b t:=fun b=>IH _ _ _ fun q hq hqt=>by
 obtain ⟨q',hq',rfl⟩:=Yy.1 hq
 refine h3 ⟨q',YK _ hq',?_⟩
 have hk:κp κx q'.1=κx q'.1:=if_neg (by rw [(n2 q' hq').1];exact RO)
 rw [hk]
 exact hqt
have hs0:¬ ∃ q ∈ stO NT AT ET ν e r,q.1=t:=fun ⟨q,hq,e0⟩=>by
 have hm2:t ∈ (stO NT AT ET νa e r).map (·.1):=by
  rw [TL νa ν]
  exact Yy.2 ⟨q,hq,e0⟩
 obtain ⟨q',hq',e1⟩:=Yy.1 hm2
 refine h3 ⟨(q'.1,q'.2.2),Yz _ (Yy.2 ⟨q',hq',rfl⟩),?_⟩
 have hk:κp κx q'.1=q'.1:=if_pos (par1 hq')
 rw [<- e1]
 exact hk
rw [hxs,skipE _ hx2,hob]
have two:∀ (a b c:Q3 (Nat×Q2 (Gen×VObj))),Zn b t=Zn c t->Zn (a++b) t=Zn (a++c) t:=fun a b c h=>by
 induction a with
 | nil=>exact h
 | cons q a ih=>
   show (if t=q.1 then q.2 else Zn (a++b) t)=if t=q.1 then q.2 else Zn (a++c) t
   rw [ih]
exact two _ _ _ ((skipS _ hs0).trans (skipS _ hs).symm)}
end
open Go.RowKit
def σf (f:Nat->Nat×Gen) (g:Gen):Q2 (Nat×Gen):=if g.1=0 then some (g.2,g) else if g.1=1 then some (f g.2) else none
theorem nR {σ:Gen->Q2 (Nat×Gen)}:∀ {l l2:Q3 (Nat×Gen×VObj)},AK σ l=some l2->l.map (fun q=>(σ q.2.1).map (·.1))=l2.map fun q=>some q.1
 | [],l2,h=>by injection h with h;subst h;rfl
 | (t,g,o)::r,l2,h=>by
  simp only [AK] at h
  split at h
  rename_i t3 g3 o3 r3 h1 h2 h3
  cases h
  rw [YO,YO,nR h3]
  simp only [h1,Yo]
  cases h
theorem nS {σ:Gen->Q2 (Nat×Gen)} {ob:Q3 (Nat×Q2 (Gen×VObj))}:∀ {l' l:Q3 (Nat×Gen×VObj)},AK σ l'=some l->Has ob l->W2 σ ob l'
 | [],_,_,_=>trivial
 | (t,g,o)::r,l,h,hH=>by
  simp only [AK] at h
  split at h
  rename_i t3 g3 o3 r3 h1 h2 h3
  cases h
  exact ⟨⟨t3,g3,o3,h1,h2,hH _ _ _ (Yi ..)⟩,nS h3 fun t g o hm=>hH t g o (Yg _ hm)⟩
  cases h
theorem KA (f:Nat->Nat×Gen) {tm tm':Q3 (Nat×PV)} {ob:Q3 (Nat×Q2 (Gen×VObj))} {ng:Nat} {l l':Q3 (Nat×Gen×VObj)} (h1:E8 (σf f) tm tm') (h2:AK (σf f) l'=some l) (h3:Has ob l) (h4:(l.map (·.1)).Nodup) :
  Shift (mkS tm ob ng) (mkS tm' (somes l') 2):=by{
refine z8 (σf f) (fun g hg=>⟨g.2,by simp [σf,hg]⟩) h1 (nS h2 h3) (fun g k g0 h=>?_) ?_
unfold σf at h
split at h
omega
split at h
omega
cases h
rw [nR h2]
have:l.map (fun q=>some q.1)=(l.map (·.1)).map some:=by rw [I8];rfl
rw [this]
exact List.Pairwise.map _ (fun a b hab e=>hab (by injection e)) h4}
section
variable {NT AT ET:Nat} {P:Program} [WInv P]
theorem TN {ob:Q3 (Nat×Q2 (Gen×VObj))} {a b:Q3 (Nat×Gen×VObj)} (h1:Has ob a) (h2:Has ob b):Has ob (a++b):=fun t g o h=>(YD.1 h).elim (h1 t g o) (h2 t g o)
theorem AP (ob:Q3 (Nat×Q2 (Gen×VObj))):Has ob []:=fun t g o h=>by cases h
theorem Zp {ob:Q3 (Nat×Q2 (Gen×VObj))} {t:Nat} {g:Gen} {o:VObj} {l:Q3 (Nat×Gen×VObj)} (h:Zn ob t=some (g,o)) (h2:Has ob l):Has ob ((t,g,o)::l):=fun t' g' o' hm=>by
 rcases Ys.1 hm with e | hm
 injection e with e1 e2
 injection e2 with e2 e3
 subst e1 e2 e3
 exact h
 exact h2 t' g' o' hm
theorem CA (ν:Nat->Gen) {e:El} {r:Q3 El} (lits:Q3 (Nat×Q2 (Gen×VObj))) (f:Nat->Nat×Gen) {tm tm':Q3 (Nat×PV)} {ob:Q3 (Nat×Q2 (Gen×VObj))} {ng:Nat} {x x':Q3 (Nat×Gen×VObj)} (hf:∀ k,k=0\/1000<=k->f k=(k,ν k)) (h00:ν 0=(0,0))
  (h1:E8 (σf f) tm tm') (hx:AK (σf f) x'=some x) (hob:ob=lits++somes (stO NT AT ET ν e r)) (hl:(lits.all fun q=>!BN q.1)=true) (hh:Has ob x) (hn:(decide ((x.map (·.1)).Nodup)&&x.all fun q=>!BN q.1)=true) :
  Shift (mkS tm ob ng) (mkS tm' (somes (x'++stO NT AT ET νb e r)) 2):=by{
have h2:AK (σf f) (stO NT AT ET νb e r)=some (stO NT AT ET ν e r):=P7 (fun k hk=>by
 by_cases h0:k=0
 subst h0
 simp [σf,νb,h00]
 simp [σf,νb,h0,hf k hk]) e r
simp only [YH,YT,Yq,I5] at hn
refine KA f h1 (G5 hx h2) (TN hh (by rw [hob];exact DL hl)) ?_
rw [YR]
refine P8 hn.1 (DV _ _ _) fun k hk hk'=>?_
obtain ⟨q,hq,rfl⟩:=Yy.1 hk
obtain ⟨q',hq',e'⟩:=Yy.1 hk'
have w1:BN q'.1=true:=LZ (by have:=(K6 hq').1;omega)
have w2:=hn.2 q hq
rw [<- e',w1] at w2
cases w2}
def nT (NT AT ET:Nat) (P:Program) [WInv P] (f:FuncId) (args:Q3 PV) (e:El) (r:Q3 El) (res:PV) (e':El) (r':Q3 El):Prop:=ContractG P f (.ptr 0 (0,0) 0::args) (objs (stO NT AT ET νa e r)) res (stO NT AT ET νb e' r')
def JB (P:Program) (rs:Q3 ResultVar) (res:PV) (obs':Q3 (Nat×Gen×VObj)):Ex->FS->Prop
 | .exit _,_=>False
 | _,s=>∃ s2,Shift s s2/\∃ ps,BC P s2 rs=some ps/\BD ps=res/\Has' s2 obs'
where Has' (s2:FS) (obs':Q3 (Nat×Gen×VObj)):Prop:=∀ t g o,(t,g,o) ∈ obs'->s2.ob t=some (g,o)
end
section
variable {P:Program} [WInv P]
theorem ZI (hmix:P.follows .mixedOrders=true) {f:FuncId} {fn:Func} {c:Code} {args:Q3 PV} {obs:Q3 (Nat×VObj)} {res:PV} {obs':Q3 (Nat×Gen×VObj)} (hf:P.funcs[f]? = some fn)
  (h:PWs P [c] (JB P fn.results.toList res obs') (mkS (C4 0 args) (obG obs) 1)) (hg:isGo P f=true:=by kernel_rfl) (hb:fn.body=some c:=by rfl) (hok:(decide (args.length<=fn.ntmps)&&B6 fn.ntmps c)=true:=by kernel_rfl):ContractG P f args obs res obs':=by{
simp only [YH,YT] at hok
obtain ⟨e,s',h1,h2⟩:=IC h
have hsh:Shift (cC args obs) (mkS (C4 0 args) (obG obs) 1):=MW (fun t=>by
 rcases LC args 0 t with h | ⟨_,h⟩
 exact .inl h
 exact .inr h) (fun t=>.inr rfl) (Yn _)
cases e with
| exit id=>exact h2.elim
| normal=>
  obtain ⟨s2,q0,ps,q1,q2,q3⟩:=h2
  exact kH hmix hg hf hb hok.1 hok.2 (.shift hsh h1) q0 (.inl rfl) q1 q2 q3
| ret=>
  obtain ⟨s2,q0,ps,q1,q2,q3⟩:=h2
  exact kH hmix hg hf hb hok.1 hok.2 (.shift hsh h1) q0 (.inr rfl) q1 q2 q3}
omit [WInv P] in
theorem KB {rs:Q3 ResultVar} {res:PV} {obs':Q3 (Nat×Gen×VObj)} {s:FS} {tm:Q3 (Nat×PV)} {ob:Q3 (Nat×Q2 (Gen×VObj))} {ng:Nat} {ps:Q3 PV} (h:Shift s (mkS tm ob ng)) (h1:BC P (mkS tm ob ng) rs=some ps) (h2:BD ps=res) (h3:Has ob obs'):JB P rs res obs' .ret s:=⟨_,h,ps,h1,h2,h3⟩
omit [WInv P] in
theorem dY {rs:Q3 ResultVar} {res:PV} {obs':Q3 (Nat×Gen×VObj)} {s:FS} {tm:Q3 (Nat×PV)} {ob:Q3 (Nat×Q2 (Gen×VObj))} {ng:Nat} {ps:Q3 PV} (h:Shift s (mkS tm ob ng)) (h1:BC P (mkS tm ob ng) rs=some ps) (h2:BD ps=res) (h3:Has ob obs'):JB P rs res obs' .normal s:=⟨_,h,ps,h1,h2,h3⟩
end
section
variable {NT AT ET:Nat}
theorem CT (e:El) (r:Q3 El):obG (objs (stO NT AT ET νa e r))=somes (stO NT AT ET νa e r):=by{
unfold obG objs somes
rw [I8]
refine DY fun q hq=>?_
have:=(K6 hq).2
simp only [Function.comp]
rw [show ((0,q.1):Gen)=q.2.1 from this.symm]}
theorem nU (a b:Q3 (Nat×VObj)):obG (a++b)=obG a++obG b:=by unfold obG;rw [YR]
end
section
variable {NT AT ET:Nat} {P:Program} [WInv P] {ops:Array Oper} {draw:Bool} {i:Nat} {L:Q3 Oper} {acc:Q3 (Q3 Nat×Q3 Nat)} {K:FS->Prop} {tm:Q3 (Nat×PV)} {ob:Q3 (Nat×Q2 (Gen×VObj))} {ng:Nat}
 {d:Q2 Tmp} {ty:TypeId} {pos:String} {after:Array Edge} {gd:Q2 (Nat×Bool)}
theorem ZD {f:FuncId} {es:Array Operand} {ts:Array TypeId} {args:Q3 PV} {e e':El} {r r':Q3 El} {res res2:PV} (lits:Q3 (Nat×Q2 (Gen×VObj))) (ν:Nat->Gen) (hc:nT NT AT ET P f args e r res e' r') (hob:ob=lits++somes (stO NT AT ET ν e r)) (hl:(lits.all fun q=>!BN q.1)=true)
  (hw:Zh ops (mkS tm ob ng) ⟨d,.call ⟨.value (.func f),es,ts⟩,ty,pos,after,gd⟩=some true) (he:es.toList.map (evL tm) = .ptr 0 (ν 0) 0::args) (ha:rnA (σ0 (κp id) (γp ν ν)) args=some args)
  (hres:rnP (σ1 no1 (κp id) (γp ν ν) id ng i) res=some res2)
  (k:GoL P ops draw (i+1) L (acc ++ [(ZE (mkS tm ob ng) ⟨d,.call ⟨.value (.func f),es,ts⟩,ty,pos,after,gd⟩,(usG (κp id) (objs (stO NT AT ET νa e r) ++ []) (stO NT AT ET (νn (ν 0) ng i) e' r' ++ [])).map (·.1))]) (mkS (A6 d res2 tm) (lits++somes (stO NT AT ET (νn (ν 0) ng i) e' r')) ng) K) :
  GoL P ops draw i (⟨d,.call ⟨.value (.func f),es,ts⟩,ty,pos,after,gd⟩::L) acc (mkS tm ob ng) K:=by{
have hc':ContractG P f (.ptr 0 (0,0) 0::args) (objs (stO NT AT ET νa e r) ++ []) res (stO NT AT ET νb e' r' ++ []):=by
 rw [YB,YB]
 exact hc
refine X4 (xin:=[]) (ext:=[]) (ext2:=[]) lits ν id ν hc' hob hl hw ?_ (by rw [he];exact Yi ..) trivial (fun q hq=>by cases hq) rfl hres rfl rfl k
rw [he]
show (match rnP _ (.ptr 0 (0,0) 0),rnA _ args with | some q,some qs=>some (q::qs) | _,_=>none)=_
rw [ha]
rfl}
end
open Go.RowKit
theorem nV {els:Q3 (Q3 PV)} {k i j:Nat} {el:Q3 PV} {q:PV} (h1:∀ e ∈ els,e.length=k) (hi:els[i]? = some el) (hj:j<k):(els.set i (AN el j [q])).flatten=els.flatten.set (i * k+j) q:=by{
have hf:=VD els h1 i el j [q] hi hj
refine hf.trans ?_
have hil:i<els.length:=(Yd.1 hi).1
have hlen:i * k+j<els.flatten.length:=by
 rw [BM els h1]
 calc i * k+j<i * k+k:=by omega
  _=(i+1) * k:=by rw [FF]
  _<=els.length * k:=GX _ hil
rw [List.set_eq_take_append_cons_drop,if_pos hlen]
simp}
theorem ZrH {s:FS} {u i j E k:Nat} {g:Gen} {els:Q3 (Q3 PV)} {el:Q3 PV} {p q:PV} {us:Q3 (Nat×Q2 (Gen×VObj))} (h0:s.ob u=some (g,.prow E k els)) (hi:els[i]? = some el) (hj:el[j]? = some p) (h:CO s.ob p=some (q,us)) :
  Shift s ⟨s.tm,B5 (flips s.ob us) u (some (g,.prow E k (els.set i (AN el j [q])))),s.ng⟩:=fun r a x hX=>by
 obtain ⟨hg,e1,e2,vs,e3,e4,e5⟩:=hX.ob u g _ h0
 have hjk:j<k:=by rw [<- e1 el (Yj hi)];exact (Yd.1 hj).1
 have hfl:=I9 els e1 i el j p hi hj
 have hvl:vs.length=els.length * k:=e3.1
 have hlt:i * k+j<vs.length:=by
  rw [hvl,<- BM els e1]
  exact (Yd.1 hfl).1
 have hv:vs[i * k+j]? = some vs[i * k+j]:=Yc hlt
 obtain ⟨F',st,hX',hR,hpure,hf⟩:=OL (Flip.refl _) hX h (e4 _ p _ hfl hv)
 have hu:(flips s.ob us) u=some (g,.prow E k els):=by
  rcases hf u with e | ⟨g2,E2,k2,sh2,els2,e,_⟩
  ·rw [e,h0]
  ·rw [h0] at e;cases e
 refine ⟨{ x with F:=F' },rfl,hX'.defers,hX'.size,hX'.gr,hX'.gens,hX'.tm,fun t' g' o' ho=>?_,fun t1 t2 g1 g2 o1 o2 bb hne k1 k2 hb=>?_,hX'.flt,hX'.f0,hX'.fnew,hX'.rho,hX'.inv,hX'.keep⟩
 ·change (if t'=u then some (g,VObj.prow E k (els.set i (AN el j [q]))) else flips s.ob us t')=some (g',o') at ho
  split at ho
  ·injection ho with ho
   injection ho with j1 j2
   subst j1 j2
   obtain ⟨_,j1,j2,vs2,j3,j4,j5⟩:=hX'.ob u g _ hu
   have hlen2:(AN el j [q]).length=k:=by
    rw [MQ _ _ _ (by rw [e1 el (Yj hi)];exact hjk)]
    exact e1 el (Yj hi)
   refine ⟨hg,fun e he=>?_,fun e he p' hp=>?_,vs,by rw [GY];exact e3,fun m p' v hp hv'=>?_,j5⟩
   ·rcases IT he with h | h
    ·exact e1 e h
    ·rw [h];exact hlen2
   ·rcases IT he with h | h
    ·exact e2 e h p' hp
    ·subst h
     unfold AN at hp
     rcases YD.1 hp with hp | hp
     ·rcases YD.1 hp with hp | hp
      ·exact e2 el (Yj hi) p' (EH hp)
      ·rw [YG.1 hp];exact PV.cell_of_pure hpure
     ·exact e2 el (Yj hi) p' (KT hp)
   ·rw [nV e1 hi hjk] at hp
    by_cases hm:i * k+j=m
    ·subst hm
     rw [UR (by rw [BM els e1,<- hvl];exact hlt)] at hp
     cases hp
     rw [hv] at hv'
     injection hv' with hv'
     rw [<- hv']
     exact hR
    ·rw [UU hm] at hp
     exact (e4 m p' v hp hv').step st
  ·exact hX'.ob t' g' o' ho
 ·change (if t1=u then some (g,VObj.prow E k (els.set i (AN el j [q]))) else flips s.ob us t1)=some (g1,o1) at k1
  change (if t2=u then some (g,VObj.prow E k (els.set i (AN el j [q]))) else flips s.ob us t2)=some (g2,o2) at k2
  have f1:∃ o1',(flips s.ob us) t1=some (g1,o1'):=by
   split at k1
   ·rename_i e;subst e;injection k1 with k1;injection k1 with e3 e4;subst e3;exact ⟨_,hu⟩
   ·exact ⟨_,k1⟩
  have f2:∃ o2',(flips s.ob us) t2=some (g2,o2'):=by
   split at k2
   ·rename_i e;subst e;injection k2 with k2;injection k2 with e3 e4;subst e3;exact ⟨_,hu⟩
   ·exact ⟨_,k2⟩
  obtain ⟨o1',f1⟩:=f1
  obtain ⟨o2',f2⟩:=f2
  exact hX'.apart t1 t2 g1 g2 o1' o2' bb hne f1 f2 hb
theorem ZrI {s:FS} {u w i j E k E' k':Nat} {g:Gen} {els:Q3 (Q3 PV)} {el:Q3 PV} (hne:w≠u) (h0:s.ob u=some (g,.prow E k els)) (hi:els[i]? = some el) (hj:el[j]? = some .nil) :
  Shift s ⟨s.tm,B5 (B5 s.ob u (some (g,.prow E k (els.set i (AN el j [.row w (s.ng,0)]))))) w (some ((s.ng,0),.row E' k' false [])),s.ng+1⟩:=fun r a x hX=>by
 have hnew:¬ x.G (s.ng,0):=fun hg=>by
  rcases hX.gens _ hg with e | ⟨_,e⟩
  exact absurd e (JO _)
  exact e.elim
 let y:Ctx:=⟨fun g=>x.G g\/g=(s.ng,0),x.F,x.W,fun g=>if g=(s.ng,0) then .slice none 0 0 else x.ρ g⟩
 have st:Step x y:=⟨fun g hg=>⟨.inl hg,if_neg (fun (e:g=(s.ng,0))=>hnew (by rw [<- e];exact hg))⟩,fun _ _ h=>h,fun _ _ _ _ h=>h⟩
 have hρ:y.ρ (s.ng,0) = .slice none 0 0:=if_pos rfl
 obtain ⟨hgu,hO⟩:=hX.ob u g _ h0
 have hO2:ObRep y r.W0.heap.size r.D g (.prow E k els):=hO.step hgu st fun b _=>⟨rfl,fun _ h=>h⟩
 have old:∀ t' g' o',(if t'=w then some ((s.ng,0),VObj.row E' k' false []) else if t'=u then some (g,VObj.prow E k (els.set i (AN el j [.row w (s.ng,0)]))) else s.ob t')=some (g',o')->(t'=w/\g'=(s.ng,0)/\o' = .row E' k' false [])\/(t'=u/\g'=g/\o' = .prow E k (els.set i (AN el j [.row w (s.ng,0)])))\/s.ob t'=some (g',o'):=fun t' g' o' ho=>by
  split at ho
  rename_i e
  injection ho with ho
  injection ho with e1 e2
  exact .inl ⟨e,e1.symm,e2.symm⟩
  split at ho
  rename_i e
  injection ho with ho
  injection ho with e1 e2
  exact .inr (.inl ⟨e,e1.symm,e2.symm⟩)
  exact .inr (.inr ho)
 refine ⟨y,rfl,hX.defers,hX.size,hX.gr,fun g hg=>.inl ?_,fun t'=>(hX.tm t').step st,fun t' g' o' ho=>?_,fun t1 t2 g1 g2 o1 o2 b hne' k1 k2 hb=>?_,hX.flt,hX.f0,hX.fnew,fun g hg=>⟨(st.G g (hX.rho g hg).1).1,(st.G g (hX.rho g hg).1).2.trans (hX.rho g hg).2⟩,hX.inv,hX.keep⟩
 rcases hg with hg | rfl
 rcases hX.gens g hg with e | ⟨_,e⟩
 show g.1<s.ng+1;omega
 exact e.elim
 exact EI _
 rcases old t' g' o' ho with ⟨rfl,rfl,rfl⟩ | ⟨rfl,rfl,rfl⟩ | ho
 exact ⟨.inr rfl,by simp,by simp,[],by rw [hρ];exact World.ownsRow_nil _ _ _ _,fun m p v hp=>by simp at hp,fun b hb=>by rw [hρ] at hb;simp [blk] at hb⟩
 obtain ⟨e1,e2,vs,e3,e4,e5⟩:=hO2
 have hk1:=e1 el (Yj hi)
 have hjk:j<k:=by rw [<- hk1];exact (Yd.1 hj).1
 have hfl:=I9 els e1 i el j _ hi hj
 refine ⟨.inl hgu,fun e he=>?_,fun e he p' hp=>?_,vs,by rw [GY];exact e3,fun m p' v hp hv'=>?_,e5⟩
 rcases IT he with h | h
 exact e1 e h
 rw [h,MQ _ _ _ (by rw [hk1];exact hjk),hk1]
 rcases IT he with h | h
 exact e2 e h p' hp
 subst h
 unfold AN at hp
 rcases YD.1 hp with hp | hp
 rcases YD.1 hp with hp | hp
 exact e2 el (Yj hi) p' (EH hp)
 rw [YG.1 hp];rfl
 exact e2 el (Yj hi) p' (KT hp)
 rw [nV e1 hi hjk] at hp
 by_cases hm:i * k+j=m
 subst hm
 rw [UR (Yd.1 hfl).1] at hp
 cases hp
 have hr:=e4 _ _ v hfl hv'
 cases hr
 exact .row w (s.ng,0) none 0 0 (.inr rfl) hρ
 rw [UU hm] at hp
 exact e4 m p' v hp hv'
 obtain ⟨h3,h4⟩:=hX.ob t' g' o' ho
 exact ⟨.inl h3,h4.step h3 st fun b _=>⟨rfl,fun _ h=>h⟩⟩
 have noB:∀ b,blk (y.ρ (s.ng,0))≠some b:=fun b hb=>by rw [hρ] at hb;simp [blk] at hb
 have tr:∀ t' g' o',((t'=w/\g'=(s.ng,0)/\o' = .row E' k' false [])\/(t'=u/\g'=g/\o' = .prow E k (els.set i (AN el j [.row w (s.ng,0)])))\/s.ob t'=some (g',o'))->g'=(s.ng,0)\/∃ o2,s.ob t'=some (g',o2):=fun t' g' o' h=>by
  rcases h with ⟨_,e,_⟩ | ⟨e1,e2,_⟩ | h
  exact .inl e
  subst e1 e2;exact .inr ⟨_,h0⟩
  exact .inr ⟨_,h⟩
 rcases tr _ _ _ (old t1 g1 o1 k1) with rfl | ⟨p1,q1⟩
 exact absurd hb (noB b)
 rcases tr _ _ _ (old t2 g2 o2 k2) with rfl | ⟨p2,q2⟩
 exact noB b
 rw [(st.G g1 (hX.ob t1 g1 p1 q1).1).2] at hb
 rw [(st.G g2 (hX.ob t2 g2 p2 q2).1).2]
 exact hX.apart t1 t2 g1 g2 p1 p2 b hne' q1 q2 hb
section
variable {tm:Q3 (Nat×PV)} {ob:Q3 (Nat×Q2 (Gen×VObj))} {ng:Nat}
theorem KC (u i j:Nat) {g:Gen} {E k:Nat} {els els':Q3 (Q3 PV)} {el:Q3 PV} {p q:PV} {us:Q3 (Nat×Q2 (Gen×VObj))} (h0:Zn ob u=some (g,.prow E k els)) (hi:els[i]? = some el) (hj:el[j]? = some p) (h:CO (Zn ob) p=some (q,us)) (he:els.set i (AN el j [q])=els') :
  Shift (mkS tm ob ng) (mkS tm ((u,some (g,.prow E k els'))::(us.reverse++ob)) ng):=by{
subst he
have:=ZrH (s:=mkS tm ob ng) h0 hi hj h
have e:(⟨look tm,B5 (flips (Zn ob) us) u (some (g,.prow E k (els.set i (AN el j [q])))),ng⟩:FS)=mkS tm ((u,some (g,.prow E k (els.set i (AN el j [q]))))::(us.reverse++ob)) ng:=by
 rw [OP,P0]
 rfl
rw [<- e]
exact this}
theorem dZ (u w i j E' k':Nat) {g:Gen} {E k:Nat} {els els':Q3 (Q3 PV)} {el:Q3 PV} (hne:(w == u)=false) (h0:Zn ob u=some (g,.prow E k els)) (hi:els[i]? = some el) (hj:el[j]? = some .nil) (he:els.set i (AN el j [.row w (ng,0)])=els') :
  Shift (mkS tm ob ng) (mkS tm ((w,some ((ng,0),.row E' k' false []))::(u,some (g,.prow E k els'))::ob) (ng+1)):=by{
subst he
have:=ZrI (s:=mkS tm ob ng) (E':=E') (k':=k') (by simpa using hne) h0 hi hj
have e:(⟨look tm,B5 (B5 (Zn ob) u (some (g,.prow E k (els.set i (AN el j [.row w (ng,0)]))))) w (some ((ng,0),.row E' k' false [])),ng+1⟩:FS)=mkS tm ((w,some ((ng,0),.row E' k' false []))::(u,some (g,.prow E k (els.set i (AN el j [.row w (ng,0)]))))::ob) (ng+1):=by
 rw [P0,P0]
 rfl
rw [<- e]
exact this}
theorem nW (t:Nat) {E k:Nat} {g:Gen} {els:Q3 (Q3 PV)} (h:Zn ob t=some (g,.prow E k els)) (hp:∀ e ∈ els,∀ p ∈ e,p.pure=true):Shift (mkS tm ob ng) (mkS tm ((t,some (g,.row E k false els))::ob) ng):=fun r a x hX=>by
 have hob:∀ t' g' o',(mkS tm ((t,some (g,.row E k false els))::ob) ng).ob t'=some (g',o')->(t'=t/\g'=g/\o' = .row E k false els)\/(mkS tm ob ng).ob t'=some (g',o'):=fun t' g' o' ho=>by
  change (if t'=t then some (g,VObj.row E k false els) else Zn ob t')=some (g',o') at ho
  split at ho
  rename_i e
  injection ho with ho
  injection ho with e1 e2
  exact .inl ⟨e,e1.symm,e2.symm⟩
  exact .inr ho
 have hsame:∀ t' g' o',(mkS tm ((t,some (g,.row E k false els))::ob) ng).ob t'=some (g',o')->∃ o2,(mkS tm ob ng).ob t'=some (g',o2):=fun t' g' o' ho=>by
  rcases hob t' g' o' ho with ⟨rfl,rfl,rfl⟩ | ho
  exact ⟨_,h⟩
  exact ⟨_,ho⟩
 refine ⟨x,rfl,hX.defers,hX.size,hX.gr,hX.gens,hX.tm,fun t' g' o' ho=>?_,fun t1 t2 g1 g2 o1 o2 b hne h1 h2 hb=>?_,hX.flt,hX.f0,hX.fnew,hX.rho,hX.inv,hX.keep⟩
 rcases hob t' g' o' ho with ⟨rfl,rfl,rfl⟩ | ho
 obtain ⟨hg,q1,q2,vs,q3,q4,q5⟩:=hX.ob t' g' _ h
 exact ⟨hg,q1,hp,vs,q3,q4,fun b hb=>⟨(q5 b hb).1,fun o hF=>absurd hF ((q5 b hb).2 o)⟩⟩
 exact hX.ob t' g' o' ho
 obtain ⟨o1',h1'⟩:=hsame t1 g1 o1 h1
 obtain ⟨o2',h2'⟩:=hsame t2 g2 o2 h2
 exact hX.apart t1 t2 g1 g2 o1' o2' b hne h1' h2' hb
end
section
variable {P:Program} [WInv P] {ops:Array Oper} {draw:Bool} {i:Nat} {L:Q3 Oper} {acc:Q3 (Q3 Nat×Q3 Nat)} {K:FS->Prop} {tm:Q3 (Nat×PV)} {ob:Q3 (Nat×Q2 (Gen×VObj))} {ng:Nat}
 {d:Q2 Tmp} {ty:TypeId} {pos:String} {after:Array Edge} {gd:Q2 (Nat×Bool)} {T:TypeId} {x y:Operand} {E kk by_:Nat} {z:Q3 PV} {t:Nat} {g:Gen} {els new:Q3 (Q3 PV)}
theorem CM {n:Nat} [Sl P T E kk by_ z] (hw:Zh ops (mkS tm ob ng) ⟨d,.call ⟨.builtin .len,#[x],#[T]⟩,ty,pos,after,gd⟩=some true) (hx:G3 (Zn ob) (evL tm x)=some els) (hn:els.length=n)
  (k:GoL P ops draw (i+1) L (acc ++ [(ZE (mkS tm ob ng) ⟨d,.call ⟨.builtin .len,#[x],#[T]⟩,ty,pos,after,gd⟩,[])]) (mkS (A6 d (.int .i64 (n:Int)) tm) ob ng) K):GoL P ops draw i (⟨d,.call ⟨.builtin .len,#[x],#[T]⟩,ty,pos,after,gd⟩::L) acc (mkS tm ob ng) K:=by
 subst hn
 exact yV hw hx k
end
theorem TO (ν:Nat->Gen):∀ (r:Q3 El),(AO ν r).length=r.length
 | []=>rfl
 | _::r=>by unfold AO;rw [Yb,TO ν r];rfl
theorem ED (ν:Nat->Gen) (r:Q3 El) (p:Q3 PV):(AO ν r ++ [p]).length=r.length+1:=by rw [Yb,TO];rfl
theorem eB (ν:Nat->Gen) (r:Q3 El) (p:Q3 PV):(AO ν r ++ [p])[r.length]? = some p:=by
 rw [YP (by rw [TO];exact Yn _),TO,E4]
 rfl
section
variable {P:Program} {NT AT ET:Nat} {tm:Q3 (Nat×PV)} {ob:Q3 (Nat×Q2 (Gen×VObj))} {ng:Nat}
theorem BW {ex:Ex} (hex:ex = .ret\/ex = .normal) (ν:Nat->Gen) {e:El} {r:Q3 El} (lits:Q3 (Nat×Q2 (Gen×VObj))) (tm':Q3 (Nat×PV)) {rs:Q3 ResultVar} {res:PV} {ps:Q3 PV} (hob:ob=lits++somes (stO NT AT ET ν e r)) (hl:(lits.all fun q=>!BN q.1)=true) (h1:E8 (σf fun k=>(k,ν k)) tm tm')
  (h2:BC P (mkS tm' (somes (stO NT AT ET νb e r)) 2) rs=some ps) (h3:BD ps=res) (h00:ν 0=(0,0):=by rfl):JB P rs res (stO NT AT ET νb e r) ex (mkS tm ob ng):=by{
have hs:Shift (mkS tm ob ng) (mkS tm' (somes ([]++stO NT AT ET νb e r)) 2):=CA ν lits (fun k=>(k,ν k)) (fun _ _=>rfl) h00 h1 (x:=[]) (x':=[]) rfl hob hl (AP _) rfl
have hH:Has (somes (stO NT AT ET νb e r)) (stO NT AT ET νb e r):=DL (lits:=[]) rfl
rcases hex with rfl | rfl
exact KB hs h2 h3 hH
exact dY hs h2 h3 hH}
end
section
variable {NT AT ET:Nat} {σ:Gen->Q2 (Nat×Gen)}
theorem nX {ν ν':Nat->Gen}:∀ (r:Q3 El),(∀ k,2000<=k->k<A5 r->σ (ν k)=some (k,ν' k))->AK σ (AZ NT AT ν r)=some (AZ NT AT ν' r)
 | [],_=>rfl
 | e::r,h=>by
   have hb:A5 (e::r)=A5 r+10:=by unfold A5;rw [Yr];omega
   have hb2:2000<=A5 r:=by unfold A5;omega
   exact G5 (K4 (fun j _=>h _ (by omega) (by omega)) e) (nX r fun k h1 h2=>h k h1 (by omega))
theorem nY {ν ν':Nat->Gen}:∀ (r:Q3 El),(∀ k,2000<=k->k<A5 r->σ (ν k)=some (k,ν' k))->AY σ (AO ν r)=some (AO ν' r)
 | [],_=>rfl
 | e::r,h=>by
   have hb:A5 (e::r)=A5 r+10:=by unfold A5;rw [Yr];omega
   have hb2:2000<=A5 r:=by unfold A5;omega
   exact GL (nY r fun k h1 h2=>h k h1 (by omega)) (by simp only [AY,rnL,rn1,h (A5 r) hb2 (by omega),Yo])
theorem GP {A:Q3 (Nat×Q2 (Gen×VObj))} {ν:Nat->Gen} {e:El} {r:Q3 El} (hA:(A.all fun q=>decide (q.1<2000))=true):Has (A++somes (stO NT AT ET ν e r)) (AZ NT AT ν r):=fun t g o hm=>by
 have hk:=(K5 hm).1
 rw [IH _ _ t fun q hq hqt=>by
  have:=Yq.1 hA q hq
  rw [hqt] at this
  simp only [YT] at this
  change 2000<=t at hk
  omega]
 have:=FN [] (DV (NT:=NT) (AT:=AT) (ET:=ET) ν e r) (Yg _ (Yg _ (YK _ hm)))
 rwa [YB] at this
theorem nZ {A:Q3 (Nat×Q2 (Gen×VObj))} {ν:Nat->Gen} {e:El} {r:Q3 El} (hA:(A.all fun q=>decide (q.1<=1000)||decide (1005<=q.1))=true):Has (A++somes (stO NT AT ET ν e r)) (elO NT AT 1001 ν e):=fun t g o hm=>by
 obtain ⟨hk,hk2,_⟩:=J6 hm
 change 1001<=t at hk
 change t<1005 at hk2
 rw [IH _ _ t fun q hq hqt=>by
  have:=Yq.1 hA q hq
  rw [hqt] at this
  simp only [Bool.or_eq_true,YT] at this
  omega]
 have:=FN [] (DV (NT:=NT) (AT:=AT) (ET:=ET) ν e r) (Yg _ (Yg _ (Yz _ hm)))
 rwa [YB] at this
def topf (n0 n1:Gen) (μ ν:Nat->Gen) (k:Nat):Nat×Gen:=if k=0 then (0,n0) else if k=1000 then (1000,n1) else if k<2000 then (k,μ k) else (k,ν k)
section
variable {tm:Q3 (Nat×PV)} {ob:Q3 (Nat×Q2 (Gen×VObj))} {ng:Nat}
theorem Zt4 (n0 n1:Gen) (μ ν:Nat->Gen) {e':El} {r:Q3 El} (tm':Q3 (Nat×PV)) (h1:E8 (σf (topf n0 n1 μ ν)) tm tm') (a0:Zn ob 0=some (n0,.box [.row 1000 n1])) (a1:Zn ob 1000=some (n1,.prow ET 1 (AO ν r ++ [[.ptr 1001 (μ 1001) 0]])))
  (a2:Has ob (elO NT AT 1001 μ e')) (a3:Has ob (AZ NT AT ν r)) (h00:n0=(0,0):=by rfl):Shift (mkS tm ob ng) (mkS tm' (somes (stO NT AT ET νb e' r)) 2):=by{
have hl:∀ k,2000<=k->σf (topf n0 n1 μ ν) (νb k)=some (k,ν k):=fun k hk=>by
 have h1:¬ k=0:=by omega
 have h2:¬ k=1000:=by omega
 have h3:¬ k<2000:=by omega
 simp [σf,νb,topf,h1,h2,h3]
have ht:∀ j,j<4->σf (topf n0 n1 μ ν) (νb (1001+j))=some (1001+j,μ (1001+j)):=fun j hj=>by
 have h1:¬ 1001+j=0:=by omega
 have h2:¬ 1001+j=1000:=by omega
 have h3:1001+j<2000:=by omega
 simp [σf,νb,topf,h2,h3]
have e0:σf (topf n0 n1 μ ν) (νb 0)=some (0,n0):=by rw [h00];rfl
have e1:σf (topf n0 n1 μ ν) (νb 1000)=some (1000,n1):=rfl
have e2:σf (topf n0 n1 μ ν) (νb 1001)=some (1001,μ 1001):=ht 0 (by omega)
have hp:AY (σf (topf n0 n1 μ ν)) (AO νb r ++ [[.ptr 1001 (νb 1001) 0]])=some (AO ν r ++ [[.ptr 1001 (μ 1001) 0]]):=GL (P6 hl r) (by simp only [AY,rnL,rn1,e2,Yo])
have he:=G5 (K4 (NT:=NT) (AT:=AT) (b:=1001) (b':=1001) (ν':=μ) ht e') (P5 (NT:=NT) (AT:=AT) hl r)
have h2:AK (σf (topf n0 n1 μ ν)) (stO NT AT ET νb e' r)=some ((0,n0,.box [.row 1000 n1])::(1000,n1,.prow ET 1 (AO ν r ++ [[.ptr 1001 (μ 1001) 0]]))::(elO NT AT 1001 μ e'++AZ NT AT ν r)):=by
 simp only [stO,AK,rnO,rnL,rn1,e0,e1,Yo,hp,he]
refine KA _ h1 h2 (Zp a0 (Zp a1 (TN a2 a3))) ?_
have:=DV (NT:=NT) (AT:=AT) (ET:=ET) μ e' r
have e:((0,n0,VObj.box [.row 1000 n1])::(1000,n1,.prow ET 1 (AO ν r ++ [[.ptr 1001 (μ 1001) 0]]))::(elO NT AT 1001 μ e'++AZ NT AT ν r)).map (·.1)=(stO NT AT ET μ e' r).map (·.1):=by
 unfold stO
 rw [YO,YO,YO,YO,YR,YR,dW ν μ]
rw [e]
exact this}
def popf (n0 n1:Gen) (fx:Nat->Nat×Gen) (ν:Nat->Gen) (b:Nat) (k:Nat):Nat×Gen:=if k=0 then (0,n0) else if k=1000 then (1000,n1) else if k<1000 then fx k else if k<1005 then (b+(k-1001),ν (b+(k-1001))) else if k<2000 then (k-100,ν (k-100)) else (k,ν k)
theorem X5 (n0 n1:Gen) (fx:Nat->Nat×Gen) (ν:Nat->Gen) {e2:El} {r:Q3 El} {X X':Q3 (Nat×Gen×VObj)} (tm':Q3 (Nat×PV)) (h1:E8 (σf (popf n0 n1 fx ν (A5 r))) tm tm') (a0:Zn ob 0=some (n0,.box [.row 1000 n1])) (a1:Zn ob 1000=some (n1,.prow ET 1 (AO ν (e2::r))))
  (hx:AK (σf (popf n0 n1 fx ν (A5 r))) X'=some X) (hX:∀ q ∈ X,q.1≠0/\q.1≠1000/\q.1<2000) (hXn:(X.map (·.1)).Nodup) (a2:Has ob X) (a3:Has ob (AZ NT AT ν (e2::r))) (h00:n0=(0,0):=by rfl):Shift (mkS tm ob ng) (mkS tm' (somes (X'++stO NT AT ET νb e2 r)) 2):=by{
have hb:2000<=A5 r:=by unfold A5;omega
have hl:∀ k,2000<=k->σf (popf n0 n1 fx ν (A5 r)) (νb k)=some (k,ν k):=fun k hk=>by
 have h1:¬ k=0:=by omega
 have h2:¬ k=1000:=by omega
 have h3:¬ k<1005:=by omega
 have h4:¬ k<2000:=by omega
 have h5:¬ k<1000:=by omega
 simp [σf,νb,popf,h1,h2,h3,h4,h5]
have ht:∀ j,j<4->σf (popf n0 n1 fx ν (A5 r)) (νb (1001+j))=some (A5 r+j,ν (A5 r+j)):=fun j hj=>by
 have h2:¬ 1001+j=1000:=by omega
 have h3:1001+j<1005:=by omega
 have h4:1001+j-1001=j:=by omega
 have h5:¬ 1001+j<1000:=by omega
 simp [σf,νb,popf,h2,h3,h4,h5]
have e0:σf (popf n0 n1 fx ν (A5 r)) (νb 0)=some (0,n0):=by rw [h00];rfl
have e1:σf (popf n0 n1 fx ν (A5 r)) (νb 1000)=some (1000,n1):=rfl
have ee2:σf (popf n0 n1 fx ν (A5 r)) (νb 1001)=some (A5 r,ν (A5 r)):=ht 0 (by omega)
have hp:AY (σf (popf n0 n1 fx ν (A5 r))) (AO νb r ++ [[.ptr 1001 (νb 1001) 0]])=some (AO ν r ++ [[.ptr (A5 r) (ν (A5 r)) 0]]):=GL (P6 hl r) (by simp only [AY,rnL,rn1,ee2,Yo])
have he:=G5 (K4 (NT:=NT) (AT:=AT) (b:=1001) (b':=A5 r) (ν':=ν) ht e2) (P5 (NT:=NT) (AT:=AT) hl r)
have h2:AK (σf (popf n0 n1 fx ν (A5 r))) (stO NT AT ET νb e2 r)=some ((0,n0,.box [.row 1000 n1])::(1000,n1,.prow ET 1 (AO ν (e2::r)))::AZ NT AT ν (e2::r)):=by
 simp only [stO,AK,rnO,rnL,rn1,e0,e1,Yo,hp,he]
 rfl
refine KA _ h1 (G5 hx h2) (TN a2 (Zp a0 (Zp a1 a3))) ?_
rw [YR]
have hlow:∀ k ∈ (AZ NT AT ν (e2::r)).map (·.1),2000<=k:=fun k hk=>by
 obtain ⟨q,hq,rfl⟩:=Yy.1 hk
 exact (K5 hq).1
refine P8 hXn ?_ fun k hk' hk=>?_
rw [YO,YO,GH,GH]
refine ⟨fun h=>?_,fun h=>?_,W5 ν _⟩
rcases Ys.1 h with h | h
cases h
have:=hlow _ h;omega
have:=hlow _ h
change 2000<=1000 at this
omega
obtain ⟨q',hq',rfl⟩:=Yy.1 hk'
have:=hX q' hq'
rw [YO,YO] at hk
rcases Ys.1 hk with e | hk
change q'.1=0 at e;omega
rcases Ys.1 hk with e | hk
change q'.1=1000 at e;omega
have:=hlow _ hk;omega}
def pushf (n0 n1 m1 m2 m3:Gen) (k1 k2 k3:Nat) (ν:Nat->Gen) (b:Nat) (k:Nat):Nat×Gen:=if k=0 then (0,n0) else if k=1000 then (1000,n1) else if k=1001 then (k1,m1) else if k=1002 then (k2,m2) else if k=1003 then (k3,m3) else if b<=k then (1001+(k-b),ν (1001+(k-b))) else (k,ν k)
theorem Zsb (n0 n1 m1 m2 m3:Gen) (k1 k2 k3:Nat) (ν:Nat->Gen) {e:El} {r:Q3 El} {kind tag count:Int} {list:Q3 (Q3 PV)} (tm':Q3 (Nat×PV)) (h1:E8 (σf (pushf n0 n1 m1 m2 m3 k1 k2 k3 ν (A5 r))) tm tm') (a0:Zn ob 0=some (n0,.box [.row 1000 n1])) (a1:Zn ob 1000=some (n1,.prow ET 1 (AO ν r ++ [[.ptr 1001 (ν 1001) 0]] ++ [[.ptr k1 m1 0]])))
  (b1:Zn ob k1=some (m1,.box [.int .i64 kind,.int .i64 tag,.int .i64 count,.row k2 m2,.row k3 m3])) (b2:Zn ob k2=some (m2,.row NT 5 false list)) (b3:Zn ob k3=some (m3,.prow AT 3 [])) (hk:(decide ([k1,k2,k3].Nodup) && [k1,k2,k3].all fun k=>!BN k)=true) (a2:Has ob (elO NT AT 1001 ν e)) (a3:Has ob (AZ NT AT ν r)) (h00:n0=(0,0):=by rfl) :
  Shift (mkS tm ob ng) (mkS tm' (somes (stO NT AT ET νb ⟨kind,tag,count,list,none⟩ (e::r))) 2):=by{
have hb:2000<=A5 r:=by unfold A5;omega
have hl:∀ k,2000<=k->k<A5 r->σf (pushf n0 n1 m1 m2 m3 k1 k2 k3 ν (A5 r)) (νb k)=some (k,ν k):=fun k hk hk'=>by
 have h1:¬ k=0:=by omega
 have h2:¬ k=1000:=by omega
 have h3:¬ k=1001:=by omega
 have h4:¬ k=1002:=by omega
 have h5:¬ k=1003:=by omega
 have h6:¬ A5 r<=k:=by omega
 simp [σf,νb,pushf,h1,h2,h3,h4,h5,h6]
have ht:∀ j,j<4->σf (pushf n0 n1 m1 m2 m3 k1 k2 k3 ν (A5 r)) (νb (A5 r+j))=some (1001+j,ν (1001+j)):=fun j hj=>by
 have h1:¬ A5 r+j=0:=by omega
 have h2:¬ A5 r+j=1000:=by omega
 have h3:¬ A5 r+j=1001:=by omega
 have h4:¬ A5 r+j=1002:=by omega
 have h5:¬ A5 r+j=1003:=by omega
 have h6:A5 r<=A5 r+j:=by omega
 have h7:A5 r+j-A5 r=j:=by omega
 simp only [σf,νb,pushf,h1,h2,h3,h4,h5,h6,h7,if_true,if_false]
 rfl
have e0:σf (pushf n0 n1 m1 m2 m3 k1 k2 k3 ν (A5 r)) (νb 0)=some (0,n0):=by rw [h00];rfl
have e1:σf (pushf n0 n1 m1 m2 m3 k1 k2 k3 ν (A5 r)) (νb 1000)=some (1000,n1):=rfl
have e2:σf (pushf n0 n1 m1 m2 m3 k1 k2 k3 ν (A5 r)) (νb 1001)=some (k1,m1):=rfl
have e3:σf (pushf n0 n1 m1 m2 m3 k1 k2 k3 ν (A5 r)) (νb (1001+1))=some (k2,m2):=rfl
have e4:σf (pushf n0 n1 m1 m2 m3 k1 k2 k3 ν (A5 r)) (νb (1001+2))=some (k3,m3):=rfl
have e5:σf (pushf n0 n1 m1 m2 m3 k1 k2 k3 ν (A5 r)) (νb (A5 r))=some (1001,ν 1001):=ht 0 (by omega)
have hp:AY (σf (pushf n0 n1 m1 m2 m3 k1 k2 k3 ν (A5 r))) (AO νb (e::r) ++ [[.ptr 1001 (νb 1001) 0]])=some (AO ν r ++ [[.ptr 1001 (ν 1001) 0]] ++ [[.ptr k1 m1 0]]):=
 GL (GL (nY r hl) (by simp only [AY,rnL,rn1,e5,Yo])) (by simp only [AY,rnL,rn1,e2,Yo])
have he:=G5 (K4 (NT:=NT) (AT:=AT) (b:=A5 r) (b':=1001) (ν':=ν) ht e) (nX (NT:=NT) (AT:=AT) r hl)
have h2:AK (σf (pushf n0 n1 m1 m2 m3 k1 k2 k3 ν (A5 r))) (stO NT AT ET νb ⟨kind,tag,count,list,none⟩ (e::r))=some ((0,n0,.box [.row 1000 n1])::(1000,n1,.prow ET 1 (AO ν r ++ [[.ptr 1001 (ν 1001) 0]] ++ [[.ptr k1 m1 0]]))::(k1,m1,.box [.int .i64 kind,.int .i64 tag,.int .i64 count,.row k2 m2,.row k3 m3])::(k2,m2,.row NT 5 false list)::(k3,m3,.prow AT 3 [])::(elO NT AT 1001 ν e++AZ NT AT ν r)):=by
 have he':AK (σf (pushf n0 n1 m1 m2 m3 k1 k2 k3 ν (A5 r))) (AZ NT AT νb (e::r))=some (elO NT AT 1001 ν e++AZ NT AT ν r):=he
 have key:∀ X,elO NT AT 1001 νb ⟨kind,tag,count,list,none⟩++X=(1001,νb 1001,.box [.int .i64 kind,.int .i64 tag,.int .i64 count,.row (1001+1) (νb (1001+1)),.row (1001+2) (νb (1001+2))])::(1001+1,νb (1001+1),.row NT 5 false list)::(1001+2,νb (1001+2),.prow AT 3 [])::X:=fun _=>rfl
 unfold stO
 rw [key]
 simp only [AK,rnO,rnL,AY,rn1,e0,e1,e2,e3,e4,Yo,hp,he']
simp only [YH,YT,Yq,I5] at hk
obtain ⟨hn,hpk⟩:=hk
have hpk':∀ k ∈ [k1,k2,k3],¬ (k=0\/1000<=k):=fun k hk h=>by
 have:=hpk k hk
 rw [LZ h] at this
 cases this
refine KA _ h1 h2 (Zp a0 (Zp a1 (Zp b1 (Zp b2 (Zp b3 (TN a2 a3)))))) ?_
have hold:=DV (NT:=NT) (AT:=AT) (ET:=ET) ν e r
unfold stO at hold
rw [YO,YO,GH,GH] at hold
obtain ⟨w1,w2,w3⟩:=hold
have hrest:∀ k ∈ (elO NT AT 1001 ν e++AZ NT AT ν r).map (·.1),1000<=k:=fun k hk=>by
 obtain ⟨q,hq,rfl⟩:=Yy.1 hk
 rcases YD.1 hq with hq | hq
 have:=(J6 hq).1;omega
 have:=(K5 hq).1;omega
have p1:=hpk' k1 (by simp)
have p2:=hpk' k2 (by simp)
have p3:=hpk' k3 (by simp)
simp only [GH,Ys,JM,or_false,not_or] at hn
obtain ⟨⟨n12,n13⟩,n23,_⟩:=hn
simp only [YO,GH,Ys,not_or]
refine ⟨⟨by omega,by omega,by omega,by omega,fun h=>by have:=hrest _ h;omega⟩,⟨by omega,by omega,by omega,fun h=>w2 h⟩,⟨n12,n13,fun h=>by have:=hrest _ h;omega⟩,⟨n23,fun h=>by have:=hrest _ h;omega⟩,fun h=>by have:=hrest _ h;omega,w3⟩}
end
end
def κe (k:Nat):Nat:=1001+k
def γe (ν:Nat->Gen) (k:Nat):Gen:=ν (1001+k)
section
variable {NT AT ET:Nat} {P:Program} [WInv P] {ops:Array Oper} {draw:Bool} {i:Nat} {L:Q3 Oper} {acc:Q3 (Q3 Nat×Q3 Nat)} {K:FS->Prop} {tm:Q3 (Nat×PV)} {ob:Q3 (Nat×Q2 (Gen×VObj))} {ng:Nat}
 {d:Q2 Tmp} {ty:TypeId} {pos:String} {after:Array Edge} {gd:Q2 (Nat×Bool)}
def EY (l:Q3 (Nat×VObj)) (k:Nat):Bool:=l.any fun q=>q.1 == k
theorem HA {f:FuncId} {es:Array Operand} {ts:Array TypeId} {e:El} {r:Q3 El} {p p2:PV} (lits:Q3 (Nat×Q2 (Gen×VObj))) (ν:Nat->Gen) (hc:ContractG P f [.ptr 0 (0,0) 0] (objs (elO NT AT 0 νa e)) p (elO NT AT 0 νa e)) (hob:ob=lits++somes (stO NT AT ET ν e r)) (hl:(lits.all fun q=>!BN q.1)=true)
  (hw:Zh ops (mkS tm ob ng) ⟨d,.call ⟨.value (.func f),es,ts⟩,ty,pos,after,gd⟩=some true) (he:es.toList.map (evL tm) = [.ptr 1001 (ν 1001) 0]) (hp:rnP (σ1 (EY (objs (elO NT AT 0 νa e))) κe (γe ν) κe ng i) p=some p2)
  (k:GoL P ops draw (i+1) L (acc ++ [(ZE (mkS tm ob ng) ⟨d,.call ⟨.value (.func f),es,ts⟩,ty,pos,after,gd⟩,(usG κe (objs (elO NT AT 0 νa e)) (elO NT AT 1001 ν e)).map (·.1))]) (mkS (A6 d p2 tm) ob ng) K) :
  GoL P ops draw i (⟨d,.call ⟨.value (.func f),es,ts⟩,ty,pos,after,gd⟩::L) acc (mkS tm ob ng) K:=by{
have hHas:Has ob (elO NT AT 1001 ν e):=fun t g o hm=>by
 rw [hob]
 exact DL hl t g o (Yg _ (Yg _ (Yz _ hm)))
have hr0:AK (σ0 κe (γe ν)) (elO NT AT 0 νa e)=some (elO NT AT 1001 ν e):=K4 (fun j _=>by simp [σ0,νa,κe,γe]) e
have hr1:AK (σ1 (EY (objs (elO NT AT 0 νa e))) κe (γe ν) κe ng i) (elO NT AT 0 νa e)=some (elO NT AT 1001 ν e):=by
 obtain ⟨e1,e2,e3,e4,args⟩:=e
 rcases args with _ | ⟨pre,a⟩
 rfl
 have h3:∀ j,j<4->σ1 (EY (objs (elO NT AT 0 νa ⟨e1,e2,e3,e4,some (pre,a)⟩))) κe (γe ν) κe ng i (νa (0+j))=some (1001+j,ν (1001+j)):=fun j hj=>by
  have:EY (objs (elO NT AT 0 νa ⟨e1,e2,e3,e4,some (pre,a)⟩)) (0+j)=true:=by
   match j,hj with
   | 0,_=>rfl
   | 1,_=>rfl
   | 2,_=>rfl
   | 3,_=>rfl
  simp only [σ1,νa,this,if_true]
  simp only [κe,γe,YY]
 exact K4 h3 _
have hpre:H5 (σ0 κe (γe ν)) κe (γe ν) (Zn ob) (objs (elO NT AT 0 νa e)):=X0 hr0 hHas fun q hq=>by
 rw [(J6 hq).2.2]
 simp [σ0,νa]
have hk1:(objs (elO NT AT 0 νa e)).map (fun q=>κe q.1)=(elO NT AT 1001 ν e).map (·.1):=by
 obtain ⟨k,t,c,l,args⟩:=e
 cases args<;>rfl
have hes:∀ t,t ∈ IB (Zn ob) (.ptr 1001 (ν 1001) 0)->t ∈ ZE (mkS tm ob ng) ⟨d,.call ⟨.value (.func f),es,ts⟩,ty,pos,after,gd⟩:=fun t ht=>by
 have hp:PV.ptr 1001 (ν 1001) 0 ∈ es.toList.map (evL tm):=by rw [he];exact YG.2 rfl
 obtain ⟨o,ho,e2⟩:=Yy.1 hp
 unfold ZE
 rw [if_neg (by simp [quiet])]
 refine YS.2 ⟨o,?_,?_⟩
 rw [VG rfl]
 simp [Op.operands,Call.operands]
 exact .inr (by simpa using ho)
 rw [AB,e2]
 exact ht
refine cG (EY (objs (elO NT AT 0 νa e))) κe (γe ν) κe hc hw ?_ hpre (by rw [hk1];exact N7 _ _ _) (fun k hk=>?_) (fun t o' hm=>?_) hp hr1 (N7 _ _ _) rfl ?_
rw [he]
rfl
obtain ⟨q,hq,e2⟩:=UY.1 hk
simp only [D8] at e2
subst e2
exact ⟨q.2,hq⟩
obtain ⟨g,hg⟩:=QA hm
have hm2:κe t ∈ (elO NT AT 1001 ν e).map (·.1):=by
 rw [<- hk1]
 exact Yy.2 ⟨_,hm,rfl⟩
obtain ⟨⟨t2,g2,o2⟩,hq,e2⟩:=Yy.1 hm2
rw [<- e2]
exact hes _ (nL hHas (YG.2 rfl) hq 2)
have e1:mkS (A6 d p2 tm) ((usG κe (objs (elO NT AT 0 νa e)) (elO NT AT 1001 ν e)).reverse++ob) ng=mkS (A6 d p2 tm) ob ng:=TM fun t=>?_
rw [e1];exact k
rw [X3 (N7 _ _ _)]
by_cases h1:∃ q ∈ elO NT AT 1001 ν e,q.1=t
rw [if_pos h1]
obtain ⟨⟨t',g,o⟩,hq,rfl⟩:=h1
have w:=FN [] (N7 1001 ν e) hq
rw [YB] at w
rw [w]
exact (hHas _ _ _ hq).symm
rw [if_neg h1,if_neg fun ⟨q,hq,e3⟩=>h1 (by
 have hm2:κe q.1 ∈ (elO NT AT 1001 ν e).map (·.1):=by
  rw [<- hk1]
  exact Yy.2 ⟨_,hq,rfl⟩
 rw [e3] at hm2
 obtain ⟨q2,hq2,e4⟩:=Yy.1 hm2
 exact ⟨q2,hq2,e4⟩)]}
omit [WInv P] in
theorem eC {σ:Gen->Q2 (Nat×Gen)} {b:Nat} {ν ν':Nat->Gen} {e:El} (h:∀ q ∈ elO NT AT b ν e,σ (ν q.1)=some (q.1,ν' q.1)):AK σ (elO NT AT b ν e)=some (elO NT AT b ν' e):=by{
obtain ⟨e1,e2,e3,e4,args⟩:=e
have h0:=h _ (Yi ..)
have h1:=h _ (Yg _ (Yi ..))
have h2:=h _ (Yg _ (Yg _ (Yi ..)))
rcases args with _ | ⟨pre,a⟩
simp only [elO,LK,ES,AK,rnO,rnL,rn1,h0,h1,h2,Yo,AY]
have h3:=h _ (Yg _ (Yg _ (Yg _ (YG.2 rfl))))
have:AY σ (pre.map Arg.cs ++ [[.bool a.named,.sl a.name,.row (b+3) (ν (b+3))]])=some (pre.map Arg.cs ++ [[.bool a.named,.sl a.name,.row (b+3) (ν' (b+3))]]):=
 GL (cH pre) (by simp only [AY,rnL,rn1,h3,Yo])
simp only [elO,LK,ES,AK,rnO,rnL,rn1,h0,h1,h2,h3,Yo,this]}
omit [WInv P] in
theorem eD {σ:Gen->Q2 (Nat×Gen)} {ν ν':Nat->Gen}:∀ {r:Q3 El},(∀ q ∈ AZ NT AT ν r,σ (ν q.1)=some (q.1,ν' q.1))->AK σ (AZ NT AT ν r)=some (AZ NT AT ν' r)
 | [],_=>rfl
 | _::_,h=>G5 (eC fun q hq=>h q (Yz _ hq)) (eD fun q hq=>h q (YK _ hq))
omit [WInv P] in
theorem eE {σ:Gen->Q2 (Nat×Gen)} {ν ν':Nat->Gen}:∀ {r:Q3 El},(∀ q ∈ AZ NT AT ν r,σ (ν q.1)=some (q.1,ν' q.1))->AY σ (AO ν r)=some (AO ν' r)
 | [],_=>rfl
 | _::r,h=>GL (eE fun q hq=>h q (YK _ hq)) (by
   have:=h _ (Yz _ (Yi ..))
   simp only [AY,rnL,rn1,this,Yo])
omit [WInv P] in
theorem ZxN {σ:Gen->Q2 (Nat×Gen)} {ν ν':Nat->Gen} {e:El} {r:Q3 El} (h:∀ q ∈ stO NT AT ET ν e r,σ (ν q.1)=some (q.1,ν' q.1)):AK σ (stO NT AT ET ν e r)=some (stO NT AT ET ν' e r):=by{
have h0:=h _ (Yi ..)
have h1:=h _ (Yg _ (Yi ..))
have h2:=h _ (Yg _ (Yg _ (Yz _ (Yi ..))))
have hl:∀ q ∈ AZ NT AT ν r,σ (ν q.1)=some (q.1,ν' q.1):=fun q hq=>h q (Yg _ (Yg _ (YK _ hq)))
have hp:AY σ (AO ν r ++ [[.ptr 1001 (ν 1001) 0]])=some (AO ν' r ++ [[.ptr 1001 (ν' 1001) 0]]):=GL (eE hl) (by simp only [AY,rnL,rn1,h2,Yo])
have he:=G5 (eC (NT:=NT) (AT:=AT) (σ:=σ) (b:=1001) (ν:=ν) (ν':=ν') (e:=e) fun q hq=>h q (Yg _ (Yg _ (Yz _ hq)))) (eD hl)
simp only [stO,AK,rnO,rnL,rn1,h0,h1,Yo,hp,he]}
theorem o4 {f:FuncId} {es:Array Operand} {ts:Array TypeId} {args:Q3 PV} {e:El} {r:Q3 El} {p p2:PV} {X X2:Q3 (Nat×Gen×VObj)} {ob2:Q3 (Nat×Q2 (Gen×VObj))} (lits:Q3 (Nat×Q2 (Gen×VObj))) (ν:Nat->Gen)
  (hc:ContractG P f (.ptr 0 (0,0) 0::args) (objs (stO NT AT ET νa e r)) p X) (hob:ob=lits++somes (stO NT AT ET ν e r)) (hl:(lits.all fun q=>!BN q.1)=true)
  (hw:Zh ops (mkS tm ob ng) ⟨d,.call ⟨.value (.func f),es,ts⟩,ty,pos,after,gd⟩=some true) (he:es.toList.map (evL tm) = .ptr 0 (ν 0) 0::args) (ha:rnA (σ0 (κp id) (γp ν ν)) args=some args) (hp:rnP (σ1 (EY (objs (stO NT AT ET νa e r))) (κp id) (γp ν ν) id ng i) p=some p2)
  (hX:AK (σ1 (EY (objs (stO NT AT ET νa e r))) (κp id) (γp ν ν) id ng i) X=some X2) (hXn:(X.map (·.1)).Nodup) (h2:∀ t,Zn ((usG (κp id) (objs (stO NT AT ET νa e r)) X2).reverse++ob) t=Zn ob2 t)
  (k:GoL P ops draw (i+1) L (acc ++ [(ZE (mkS tm ob ng) ⟨d,.call ⟨.value (.func f),es,ts⟩,ty,pos,after,gd⟩,(usG (κp id) (objs (stO NT AT ET νa e r)) X2).map (·.1))]) (mkS (A6 d p2 tm) ob2 ng) K) :
  GoL P ops draw i (⟨d,.call ⟨.value (.func f),es,ts⟩,ty,pos,after,gd⟩::L) acc (mkS tm ob ng) K:=by{
have hHas:Has ob (stO NT AT ET ν e r):=by rw [hob];exact DL hl
have par1:∀ {q:Nat×Gen×VObj} {ν:Nat->Gen} {e:El} {r:Q3 El},q ∈ stO NT AT ET ν e r->BN q.1=true:=fun h=>LZ (by have:=(K6 h).1;omega)
have hσ0:∀ k,k=0\/1000<=k->σ0 (κp id) (γp ν ν) (νa k)=some (k,ν k):=fun k hk=>by simp [σ0,νa,κp,γp,LZ hk]
have hpre:H5 (σ0 (κp id) (γp ν ν)) (κp id) (γp ν ν) (Zn ob) (objs (stO NT AT ET νa e r)):=X0 (P7 hσ0 e r) hHas fun q hq=>by
 rw [(K6 hq).2]
 simp only [σ0,νa,if_true]
have hinj:((objs (stO NT AT ET νa e r)).map fun q=>κp id q.1).Nodup:=by
 have e1:(objs (stO NT AT ET νa e r)).map (fun q=>κp id q.1)=(stO NT AT ET νa e r).map (·.1):=by
  unfold objs
  rw [I8]
  refine DY fun q hq=>?_
  simp [κp]
 rw [e1]
 exact DV _ _ _
refine cG (EY (objs (stO NT AT ET νa e r))) (κp id) (γp ν ν) id hc hw ?_ hpre hinj (fun k hk=>?_) (fun t o' hm=>?_) hp hX hXn rfl ?_
rw [he]
show (match rnP _ (.ptr 0 (0,0) 0),rnA _ args with | some q,some qs=>some (q::qs) | _,_=>none)=_
rw [ha]
rfl
obtain ⟨q,hq,e2⟩:=UY.1 hk
simp only [D8] at e2
subst e2
exact ⟨q.2,hq⟩
obtain ⟨g,hg⟩:=QA hm
have hm2:t ∈ (stO NT AT ET ν e r).map (·.1):=by
 rw [TL ν νa]
 exact Yy.2 ⟨_,hg,rfl⟩
obtain ⟨⟨t2,g2,o2⟩,hq,e2⟩:=Yy.1 hm2
change t2=t at e2
subst e2
have hk:κp id t2=t2:=by simp [κp]
rw [hk]
have hpm:PV.ptr 0 (ν 0) 0 ∈ es.toList.map (evL tm):=by rw [he];exact Yi ..
obtain ⟨o,ho,e3⟩:=Yy.1 hpm
unfold ZE
rw [if_neg (by simp [quiet])]
refine YS.2 ⟨o,?_,?_⟩
rw [VG rfl]
simp [Op.operands,Call.operands]
exact .inr (by simpa using ho)
rw [AB,e3]
exact nN hHas hq
have e1:mkS (A6 d p2 tm) ((usG (κp id) (objs (stO NT AT ET νa e r)) X2).reverse++ob) ng=mkS (A6 d p2 tm) ob2 ng:=TM h2
rw [e1]
exact k}
omit [WInv P] in
theorem Zzg {e:El} {r:Q3 El} {q:Nat×Gen×VObj} (h:q ∈ stO NT AT ET νa e r):EY (objs (stO NT AT ET νa e r)) q.1=true:=UY.2 ⟨(q.1,q.2.2),Yy.2 ⟨q,h,rfl⟩,by simp⟩
omit [WInv P] in
theorem o6 (ν:Nat->Gen) (ng i:Nat) (e:El) (r:Q3 El):∀ q ∈ stO NT AT ET νa e r,σ1 (EY (objs (stO NT AT ET νa e r))) (κp id) (γp ν ν) id ng i (νa q.1)=some (q.1,ν q.1):=fun q hq=>by
 have:=Zzg hq
 simp only [σ1,νa,this,if_true]
 simp [κp,γp]
theorem CB {f:FuncId} {es:Array Operand} {ts:Array TypeId} {args:Q3 PV} {e:El} {r:Q3 El} {p p2:PV} (lits:Q3 (Nat×Q2 (Gen×VObj))) (ν:Nat->Gen)
  (hc:ContractG P f (.ptr 0 (0,0) 0::args) (objs (stO NT AT ET νa e r)) p (stO NT AT ET νa e r)) (hob:ob=lits++somes (stO NT AT ET ν e r)) (hl:(lits.all fun q=>!BN q.1)=true)
  (hw:Zh ops (mkS tm ob ng) ⟨d,.call ⟨.value (.func f),es,ts⟩,ty,pos,after,gd⟩=some true) (he:es.toList.map (evL tm) = .ptr 0 (ν 0) 0::args) (ha:rnA (σ0 (κp id) (γp ν ν)) args=some args) (hp:rnP (σ1 (EY (objs (stO NT AT ET νa e r))) (κp id) (γp ν ν) id ng i) p=some p2)
  (k:GoL P ops draw (i+1) L (acc ++ [(ZE (mkS tm ob ng) ⟨d,.call ⟨.value (.func f),es,ts⟩,ty,pos,after,gd⟩,(usG (κp id) (objs (stO NT AT ET νa e r)) (stO NT AT ET ν e r)).map (·.1))]) (mkS (A6 d p2 tm) ob ng) K) :
  GoL P ops draw i (⟨d,.call ⟨.value (.func f),es,ts⟩,ty,pos,after,gd⟩::L) acc (mkS tm ob ng) K:=by{
have hHas:Has ob (stO NT AT ET ν e r):=by rw [hob];exact DL hl
refine o4 lits ν hc hob hl hw he ha hp (ZxN (o6 ν ng i e r)) (DV _ _ _) (fun t=>?_) k
rw [X3 (DV _ _ _)]
by_cases h1:∃ q ∈ stO NT AT ET ν e r,q.1=t
rw [if_pos h1]
obtain ⟨⟨t',g,o⟩,hq,rfl⟩:=h1
have w:=FN [] (DV ν e r) hq
rw [YB] at w
rw [w]
exact (hHas _ _ _ hq).symm
rw [if_neg h1,if_neg fun ⟨q,hq,e3⟩=>h1 (by
 obtain ⟨g,hg⟩:=QA (l:=stO NT AT ET νa e r) (t:=q.1) (o:=q.2) hq
 have hm2:q.1 ∈ (stO NT AT ET ν e r).map (·.1):=by
  rw [TL ν νa]
  exact Yy.2 ⟨_,hg,rfl⟩
 obtain ⟨q2,hq2,e4⟩:=Yy.1 hm2
 have hk:κp id q.1=q.1:=by simp [κp]
 exact ⟨q2,hq2,by rw [e4,<- hk];exact e3⟩)]}
theorem NI {x:Operand} (hw:Zh ops (mkS tm ob ng) ⟨d,.nilCheck x,ty,pos,after,gd⟩=some true) {t q k off:Nat} {g:Gen} (hx:evL tm x = .elp t g q k off)
  (kk:GoL P ops draw (i+1) L (acc ++ [(ZE (mkS tm ob ng) ⟨d,.nilCheck x,ty,pos,after,gd⟩,[])]) (mkS (A6 d (.elp t g q k off) tm) ob ng) K):GoL P ops draw i (⟨d,.nilCheck x,ty,pos,after,gd⟩::L) acc (mkS tm ob ng) K:=
 C8 (us:=[]) hw (.fn (by simp only [act,AB,hx])) kk
theorem HC {x y:Operand} {T:TypeId} {agg:Bool} {n:Nat} [Ld P T agg n] (hw:Zh ops (mkS tm ob ng) ⟨d,.store T x y,ty,pos,after,gd⟩=some true) {t:Nat} {g:Gen} {E q kk off:Nat} {els els':Q3 (Q3 PV)} {e:Q3 PV} {p:PV} {ps qs:Q3 PV} {us:Q3 (Nat×Q2 (Gen×VObj))}
  (hx:evL tm x = .elp t g q kk off) (hb:A8 (Zn ob) t g=some (.row E kk false els)) (he:els[q]? = some e) (hy:evL tm y=p) (hps:p.cells=ps) (hl:ps.length=n) (hr:AI (Zn ob) ps=some (qs,us)) (hf:off+n<=kk) (hus:us.all (fun q=>q.1 != t)=true) (hs:els.set q (AN e off qs)=els')
  (k:GoL P ops draw (i+1) L (acc ++ [(ZE (mkS tm ob ng) ⟨d,.store T x y,ty,pos,after,gd⟩,(us ++ [(t,some (g,VObj.row E kk false els'))]).map (·.1))]) (mkS (A6 d .un tm) ((t,some (g,VObj.row E kk false els'))::(us.reverse++ob)) ng) K) :
  GoL P ops draw i (⟨d,.store T x y,ty,pos,after,gd⟩::L) acc (mkS tm ob ng) K:=by
 subst hs
 refine iM hw hx hb he hy hps hl hr hf hus ?_
 simpa using k
theorem QB {x:Operand} {T:TypeId} {agg:Bool} {n:Nat} [h:Ld P T agg n] (hw:Zh ops (mkS tm ob ng) ⟨d,.load T x,ty,pos,after,gd⟩=some true) {els:Q3 (Q3 PV)} {e:Q3 PV} {q t:Nat} {g:Gen} {E kk off:Nat} {sh:Bool} {v:PV} (hx:evL tm x = .elp t g q kk off) (hb:A8 (Zn ob) t g=some (.row E kk sh els)) (he:els[q]? = some e) (hv:JV agg n (e.drop off)=some v)
  (k:GoL P ops draw (i+1) L (acc ++ [(ZE (mkS tm ob ng) ⟨d,.load T x,ty,pos,after,gd⟩,[])]) (mkS (A6 d v tm) ob ng) K):GoL P ops draw i (⟨d,.load T x,ty,pos,after,gd⟩::L) acc (mkS tm ob ng) K:=by
 refine ZL (cs:=e.drop off) hw ?_ hv k
 rw [hx]
 simp only [GI,hb,if_true,he,Yo]
omit [WInv P] in
theorem FQ {ex:Ex} (hex:ex = .ret\/ex = .normal) (n0 n1:Gen) (μ ν:Nat->Gen) {e0 e':El} {r:Q3 El} (A:Q3 (Nat×Q2 (Gen×VObj))) (tm':Q3 (Nat×PV)) {rs:Q3 ResultVar} {res:PV} {ps:Q3 PV} (hob:ob=A++somes (stO NT AT ET ν e0 r)) (hA:(A.all fun q=>decide (q.1<2000))=true) (h1:E8 (σf (topf n0 n1 μ ν)) tm tm')
  (a0:Zn ob 0=some (n0,.box [.row 1000 n1])) (a1:Zn ob 1000=some (n1,.prow ET 1 (AO ν r ++ [[.ptr 1001 (μ 1001) 0]]))) (a2:Has ob (elO NT AT 1001 μ e')) (h2:BC P (mkS tm' (somes (stO NT AT ET νb e' r)) 2) rs=some ps) (h3:BD ps=res) (h00:n0=(0,0):=by rfl) :
  JB P rs res (stO NT AT ET νb e' r) ex (mkS tm ob ng):=by{
have hs:Shift (mkS tm ob ng) (mkS tm' (somes (stO NT AT ET νb e' r)) 2):=Zt4 n0 n1 μ ν tm' h1 a0 a1 a2 (by rw [hob];exact GP hA) h00
have hH:Has (somes (stO NT AT ET νb e' r)) (stO NT AT ET νb e' r):=DL (lits:=[]) rfl
rcases hex with rfl | rfl
exact KB hs h2 h3 hH
exact dY hs h2 h3 hH}
theorem EE {α:Type} (l:Q3 α) (a b:α):(l ++ [a]).set l.length b=l ++ [b]:=by
 rw [MF _ _ (Yn _),E4]
 rfl
theorem CX {α:Type} (l:Q3 α) (a:α):(l ++ [a])[l.length]? = some a:=by
 rw [YP (Yn _),E4]
 rfl
end
section
variable {P:Program} {NT AT ET:Nat} {tm:Q3 (Nat×PV)} {ob:Q3 (Nat×Q2 (Gen×VObj))} {ng:Nat}
theorem KD {ex:Ex} {rs:Q3 ResultVar} {res:PV} {obs':Q3 (Nat×Gen×VObj)} {s s1:FS} (h:Shift s s1) (k:JB P rs res obs' ex s1):JB P rs res obs' ex s:=by{
cases ex with
| exit id=>exact k
| normal=>obtain ⟨s2,h2,q⟩:=k;exact ⟨s2,h.trans h2,q⟩
| ret=>obtain ⟨s2,h2,q⟩:=k;exact ⟨s2,h.trans h2,q⟩}
theorem ZwY (ν:Nat->Gen) (r:Q3 El) (p:Q3 PV):(AO ν r ++ [p]).take r.length=AO ν r:=by
 have:=MN (l₁:=AO ν r) (l₂:=[p])
 rwa [TO] at this
def EZ (NT AT ET:Nat) (ν:Nat->Gen) (n1:Gen) (e e2:El) (r:Q3 El):Q3 (Nat×Gen×VObj):=(0,ν 0,.box [.row 1000 n1])::(1000,n1,.prow ET 1 (AO ν (e2::r)))::(elO NT AT 1001 ν e++AZ NT AT ν (e2::r))
theorem eF (ν:Nat->Gen) (n1:Gen) (e e2:El) (r:Q3 El):(EZ NT AT ET ν n1 e e2 r).map (·.1)=(stO NT AT ET ν e (e2::r)).map (·.1):=rfl
theorem ZwZ (n1:Gen) {e e2:El} {r:Q3 El} (A:Q3 (Nat×Q2 (Gen×VObj))) (tm':Q3 (Nat×PV)) {rs:Q3 ResultVar} {res:PV} {ps:Q3 PV} (hob:ob=A++somes (stO NT AT ET νa e (e2::r))) (hA:(A.all fun q=>decide (q.1<=1000))=true)
  (h1:E8 (σf fun _=>(1000,n1)) tm tm') (a0:Zn ob 0=some ((0,0),.box [.row 1000 n1])) (a1:Zn ob 1000=some (n1,.prow ET 1 (AO νa (e2::r)))) (h2:BC P (mkS tm' (somes (EZ NT AT ET νa (1,1000) e e2 r)) 2) rs=some ps) (h3:BD ps=res) :
  JB P rs res (EZ NT AT ET νa (1,1000) e e2 r) .ret (mkS tm ob ng):=by{
have hA1:(A.all fun q=>decide (q.1<2000))=true:=Yq.2 fun q hq=>by
 have:=Yq.1 hA q hq
 simp only [YT] at this ⊢
 omega
have hA2:(A.all fun q=>decide (q.1<=1000)||decide (1005<=q.1))=true:=Yq.2 fun q hq=>by
 have:=Yq.1 hA q hq
 simp only [YT] at this
 simp [this]
have k0:∀ k,σf (fun _=>(1000,n1)) (νa k)=some (k,νa k):=fun k=>rfl
have hp:=P6 (σ:=σf fun _=>(1000,n1)) (ν:=νa) (ν':=νa) (fun k _=>k0 k) (e2::r)
have he:=G5 (K4 (NT:=NT) (AT:=AT) (b:=1001) (b':=1001) (ν':=νa) (fun j _=>k0 _) e) (P5 (NT:=NT) (AT:=AT) (fun k _=>k0 k) (e2::r))
have hx:AK (σf fun _=>(1000,n1)) (EZ NT AT ET νa (1,1000) e e2 r)=some (EZ NT AT ET νa n1 e e2 r):=by
 have e0:σf (fun _=>(1000,n1)) (νa 0)=some (0,νa 0):=rfl
 have e1:σf (fun _=>(1000,n1)) (1,1000)=some (1000,n1):=rfl
 simp only [EZ,AK,rnO,rnL,rn1,e0,e1,Yo,hp,he]
have hn:∀ n1,((EZ NT AT ET νa n1 e e2 r).map (·.1)).Nodup:=fun n1=>by rw [eF];exact DV _ _ _
refine KB (KA _ h1 hx (Zp a0 (Zp a1 (TN (by rw [hob];exact nZ hA2) (by rw [hob];exact GP hA1)))) (hn _)) h2 h3 fun t g o hm=>?_
have:=FN [] (hn (1,1000)) hm
rwa [YB] at this}
theorem o7 {ν:Nat->Gen} {e:El} {r:Q3 El} {lits:Q3 (Nat×Q2 (Gen×VObj))} (h:(lits.all fun q=>!BN q.1)=true):mkS tm (somes (stO NT AT ET ν e r)++lits) ng=mkS tm (lits++somes (stO NT AT ET ν e r)) ng:=TM fun t=>by
 by_cases ht:∃ q ∈ stO NT AT ET ν e r,q.1=t
 ·obtain ⟨⟨t',g,o⟩,hq,rfl⟩:=ht
  rw [FN _ (DV ν e r) hq]
  exact (DL h _ _ _ hq).symm
 ·have e1:∀ b,Zn (somes (stO NT AT ET ν e r)++b) t=Zn b t:=fun b=>IH _ _ _ fun q hq hqt=>by
   obtain ⟨g,o,h,_⟩:=W6 hq
   exact ht ⟨_,h,hqt⟩
  have e2:Zn (somes (stO NT AT ET ν e r)) t=none:=by
   have:=e1 []
   rwa [YB] at this
  rw [e1]
  have:∀ (l:Q3 (Nat×Q2 (Gen×VObj))),Zn l t=Zn (l++somes (stO NT AT ET ν e r)) t:=fun l=>by
   induction l with
   | nil=>exact e2.symm
   | cons q l ih=>
     show (if t=q.1 then q.2 else Zn l t)=if t=q.1 then q.2 else Zn (l++somes (stO NT AT ET ν e r)) t
     rw [ih]
  exact this lits
theorem ZuZ {ex:Ex} (hex:ex = .ret\/ex = .normal) (n0 n1 m1 m2 m3:Gen) (k1 k2 k3:Nat) (ν:Nat->Gen) {e:El} {r:Q3 El} {kind tag count:Int} {list:Q3 (Q3 PV)} (A:Q3 (Nat×Q2 (Gen×VObj))) (tm':Q3 (Nat×PV)) {rs:Q3 ResultVar} {res:PV} {ps:Q3 PV} (hob:ob=A++somes (stO NT AT ET ν e r)) (hA:(A.all fun q=>decide (q.1<=1000))=true)
  (h1:E8 (σf (pushf n0 n1 m1 m2 m3 k1 k2 k3 ν (A5 r))) tm tm') (a0:Zn ob 0=some (n0,.box [.row 1000 n1])) (a1:Zn ob 1000=some (n1,.prow ET 1 (AO ν r ++ [[.ptr 1001 (ν 1001) 0]] ++ [[.ptr k1 m1 0]])))
  (b1:Zn ob k1=some (m1,.box [.int .i64 kind,.int .i64 tag,.int .i64 count,.row k2 m2,.row k3 m3])) (b2:Zn ob k2=some (m2,.row NT 5 false list)) (b3:Zn ob k3=some (m3,.prow AT 3 [])) (hk:(decide ([k1,k2,k3].Nodup) && [k1,k2,k3].all fun k=>!BN k)=true)
  (h2:BC P (mkS tm' (somes (stO NT AT ET νb ⟨kind,tag,count,list,none⟩ (e::r))) 2) rs=some ps) (h3:BD ps=res) (h00:n0=(0,0):=by rfl):JB P rs res (stO NT AT ET νb ⟨kind,tag,count,list,none⟩ (e::r)) ex (mkS tm ob ng):=by{
have hA1:(A.all fun q=>decide (q.1<2000))=true:=Yq.2 fun q hq=>by
 have:=Yq.1 hA q hq
 simp only [YT] at this ⊢
 omega
have hA2:(A.all fun q=>decide (q.1<=1000)||decide (1005<=q.1))=true:=Yq.2 fun q hq=>by
 have:=Yq.1 hA q hq
 simp only [YT] at this
 simp [this]
have hs:Shift (mkS tm ob ng) (mkS tm' (somes (stO NT AT ET νb ⟨kind,tag,count,list,none⟩ (e::r))) 2):=Zsb n0 n1 m1 m2 m3 k1 k2 k3 ν tm' h1 a0 a1 b1 b2 b3 hk (by rw [hob];exact nZ hA2) (by rw [hob];exact GP hA1) h00
have hH:Has (somes (stO NT AT ET νb ⟨kind,tag,count,list,none⟩ (e::r))) (stO NT AT ET νb ⟨kind,tag,count,list,none⟩ (e::r)):=DL (lits:=[]) rfl
rcases hex with rfl | rfl
exact KB hs h2 h3 hH
exact dY hs h2 h3 hH}
end
end VL
section
open VL
abbrev stP (ν:Nat->Gen) (e:El) (r:Q3 El):Q3 (Nat×Gen×VObj):=stO 78 111 98 ν e r
abbrev elP (b:Nat) (ν:Nat->Gen) (e:El):Q3 (Nat×Gen×VObj):=elO 78 111 b ν e
abbrev PC (f:FuncId) (args:Q3 PV) (e:El) (r:Q3 El) (res:PV) (e':El) (r':Q3 El):Prop:=nT 78 111 98 Q7 f args e r res e' r'
theorem CE (e:El) (r:Q3 El) (hr:r.length<=1000):ContractG Q7 65 [.ptr 0 (0,0) 0] (objs (stP νa e r)) (.ptr 1001 (0,1001) 0) (stP νa e r):=by{
refine ZI mix Tryz.func65 ?_
rw [CT]
repeat (first | (refine CM rfl rfl (ED _ _ _) ?_) | (refine EP rfl rfl rfl (by omega) ?_) | (refine LJ rfl rfl rfl rfl (by rw [ED];omega) ?_) | (refine G4 rfl rfl rfl (eB _ _ _) rfl ?_) | refine A3 ?_)
exact KB (Shift.refl _) rfl rfl (DL (lits:=[]) rfl)}
abbrev o8 (f:FuncId) (e:El) (p:PV):Prop:=ContractG Q7 f [.ptr 0 (0,0) 0] (objs (elP 0 νa e)) p (elP 0 νa e)
theorem M3 (b:Nat) (ν:Nat->Gen) (pre:Q3 Arg) (a:Arg):(ES b ν (some (pre,a))).length=pre.length+1:=by simp [ES]
theorem EF (b:Nat) (ν:Nat->Gen) (pre:Q3 Arg) (a:Arg):(ES b ν (some (pre,a)))[pre.length]? = some [.bool a.named,.sl a.name,.row (b+3) (ν (b+3))]:=by simp [ES]
theorem QC (b:Nat) (ν:Nat->Gen) (pre:Q3 Arg) (a:Arg) (x:Q3 PV):(ES b ν (some (pre,a))).set pre.length x=pre.map Arg.cs ++ [x]:=by
 have:=EE (pre.map Arg.cs) [.bool a.named,.sl a.name,.row (b+3) (ν (b+3))] x
 rwa [Yv] at this
theorem X6 {e:El} {rs:Q3 ResultVar} {res:PV} {ps:Q3 PV} {tm:Q3 (Nat×PV)} {ng:Nat} (h2:BC Q7 (mkS tm (obG (objs (elP 0 νa e))) ng) rs=some ps) (h3:BD ps=res) :
  JB Q7 rs res (elP 0 νa e) .ret (mkS tm (obG (objs (elP 0 νa e))) ng):=by{
have ho:obG (objs (elP 0 νa e))=somes (elP 0 νa e):=by
 unfold obG objs somes
 rw [I8]
 refine DY fun q hq=>?_
 have:=(J6 hq).2.2
 simp only [Function.comp]
 rw [show ((0,q.1):Gen)=q.2.1 from this.symm]
refine KB (Shift.refl _) h2 h3 fun t g o hm=>?_
rw [ho]
have:=FN [] (N7 (NT:=78) (AT:=111) 0 νa e) hm
rwa [YB] at this}
theorem M4 (e:El) (h:e.kind≠3\/e.args=none) (hn:∀ q,e.args=some q->q.1.length<=1000000):o8 169 e (.ptr 0 (0,0) 3):=by{
obtain ⟨kind,tag,count,list,args⟩:=e
refine ZI mix Tryz.func169 ?_
by_cases hk:kind=3
·obtain rfl:args=none:=h.resolve_left (fun h=>h hk)
 subst hk
 repeat (first | (refine CM (n:=0) rfl rfl rfl ?_) | (refine Zk rfl rfl ?_) | refine A3 ?_)
 exact X6 rfl rfl
·cases args with
 | none=>
   repeat (first | (refine CM (n:=0) rfl rfl rfl ?_) | refine A3 ?_)
   rw [Yf hk]
   repeat (first | (refine Zw rfl ?_) | (refine Zk rfl rfl ?_) | refine A3 ?_)
   exact X6 rfl rfl
 | some q=>
   obtain ⟨pre,a⟩:=q
   repeat (first | (refine CM rfl rfl (M3 ..) ?_) | refine A3 ?_)
   rw [Yf hk]
   repeat (first | (refine Zw rfl ?_) | (refine Zk rfl rfl ?_) | refine A3 ?_)
   exact X6 rfl rfl}
theorem X7 (tag count:Int) (list:Q3 (Q3 PV)) (pre:Q3 Arg) (a:Arg) (hn:pre.length<=1000000):o8 169 ⟨3,tag,count,list,some (pre,a)⟩ (.elp 2 (0,2) pre.length 3 2):=by{
refine ZI mix Tryz.func169 ?_
repeat (first | (refine CM rfl rfl (M3 ..) ?_) | refine A3 ?_)
have h0:decide ((0:Int)<((pre.length+1:Nat):Int))=true:=Yh (by omega)
rw [h0]
repeat (first | (refine EP rfl rfl rfl (by omega) ?_) | (refine Zv rfl rfl ?_) | (refine LJ rfl rfl rfl rfl (by rw [M3];omega) ?_) | refine A3 ?_)
exact X6 rfl rfl}
end
end Go.Proofs.YtmgfammllddkhaaGreatDoor
