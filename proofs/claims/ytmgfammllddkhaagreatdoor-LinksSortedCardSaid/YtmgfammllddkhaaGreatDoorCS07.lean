/- Functions of the program as Lean functions. Written by fxgen.py. -/
import Derived.Test.YtmgfammllddkhaaGreatDoorCS06
set_option linter.unusedVariables false
set_option maxHeartbeats 4000000
set_option maxRecDepth 100000
namespace Go.Proofs.YtmgfammllddkhaaGreatDoor
open VL
def ZeZ:Option Str3:=
 (some (⟨(⟨#[110,111,105,110,99,108,117,100,101]⟩:ByteArray),(⟨#[105,110,99,108,117,100,101,111,110,108,121]⟩:ByteArray),(⟨#[111,110,108,121,105,110,99,108,117,100,101]⟩:ByteArray)⟩:Str3):Option Str3)
theorem ZkD  (r:Str3) (h:ZeZ=some r):Zo Tryz.prog 204 [] (r.pv):=by
 refine cF (fun r=>r.pv) h mix Tryz.func204 fun r h=>?_
 unfold ZeZ at h
 refine Zq ?_
 refine rg ?_
 refine rg ?_
 cases h
 exact rQ
def Zcb (p0:ByteArray) (p1:ByteArray):Option (Int×Int):=
 (ZeZ).bind fun r1=>
 Zbq Zel (fun f2 (x35:Int)=>
  if (decide (x35<3)) then
   (atI ([r1.a,r1.b,r1.c]:List ByteArray) x35).bind fun c48=>
   (Zbk p1 c48).bind fun s49=>
   (Zbk s49 (⟨#[62]⟩:ByteArray)).bind fun s50=>
   (ZF p0 s50).bind fun r51=>
   if r51 then
    (some ((w64 (x35+1)),(s50.size:Int)):Option (Int×Int))
   else
   f2 (w64 (x35+1))
  else
  (some (0,0):Option (Int×Int))) 0
theorem Zgl (p0:ByteArray) (p1:ByteArray) (r:Int×Int) (h:Zcb p0 p1=some r):Zo Tryz.prog 170 [.str p0,.str p1] (.tup [.int .i64 r.1,.int .i64 r.2]):=by
 refine cF (fun r=>.tup [.int .i64 r.1,.int .i64 r.2]) h mix Tryz.func170 fun r h=>?_
 unfold Zcb at h
 refine Zq ?_
 refine rg ?_
 refine rg ?_
 refine aC h ZkD fun r1 h=>?_
 refine bl ?_
 refine ZW h fun f2 mf2 hf2 h=>?_
 refine ZH (α:=Nat×Int) (fun a _=>mkS [(0,.str p0),(1,.str p1),(9,.agg [.str r1.a,.str r1.b,.str r1.c]),(10,.int .i64 a.2)] [] 2) (fun a=>Zbq a.1 f2 a.2=some r) (fun a=>a.1) (mf2,0) 2 h (sR []) (fun a _ h=>?_)
 obtain ⟨mf2,x35⟩:=a
 obtain ⟨mf2,rfl,h⟩:=ZX hf2 h
 dsimp only at h ⊢
 refine Zq ?_
 refine rg ?_
 refine cS h rfl (fun h=>?_) fun h=>?_
 ·refine bl ?_
  refine rg ?_
  obtain ⟨c48,h46,h⟩:=bnd h
  refine Zt8 (p:=PV.str) rfl h46 rfl rfl rfl rfl rfl (Zq ?_)
  refine rg ?_
  refine sT h fun s49 h=>?_
  refine sT h fun s50 h=>?_
  refine rg ?_
  refine aC h (Zao _ _) fun r51 h=>?_
  refine cS h rfl (fun h=>?_) fun h=>?_
  ·refine rg ?_
   cases h
   exact rQ
  refine rg ?_
  exact rn (mf2,(w64 (x35+1))) h (sR [])
 refine rg ?_
 cases h
 exact rQ
def ZdU (p0:ByteArray):Option (Int×Int):=
 (ZF p0 (⟨#[60,33,45,45]⟩:ByteArray)).bind fun r1=>
 if r1 then
  (ZfP p0 4 (p0.size:Int)).bind fun l4=>
  (strings_Index l4 (⟨#[45,45,62]⟩:ByteArray)).bind fun r5=>
  if (decide (0≤r5)) then
   (some (9,(w64 ((w64 (4+r5))+3))):Option (Int×Int))
  else
  (some (9,(p0.size:Int)):Option (Int×Int))
 else
 (ZF p0 (⟨#[60,110,111,119,105,107,105,62]⟩:ByteArray)).bind fun r6=>
 letk (fun (_:Unit)=>
  (Zcb p0 (⟨#[60]⟩:ByteArray)).bind fun r9=>
  if (decide (0<r9.2)) then
   (some (11,r9.2):Option (Int×Int))
  else
  (Zcb p0 (⟨#[60,47]⟩:ByteArray)).bind fun r10=>
  if (decide (0<r10.2)) then
   (some (12,r10.2):Option (Int×Int))
  else
  (some (0,0):Option (Int×Int))) fun k1=>
 if r6 then
  (ZfP p0 8 (p0.size:Int)).bind fun l11=>
  (strings_Index l11 (⟨#[60,47,110,111,119,105,107,105,62]⟩:ByteArray)).bind fun r12=>
  if (decide (0≤r12)) then
   (some (10,(w64 ((w64 (8+r12))+9))):Option (Int×Int))
  else
  k1 ()
 else
 k1 ()
theorem ZkE (p0:ByteArray) (r:Int×Int) (h:ZdU p0=some r):Zo Tryz.prog 167 [.str p0] (.tup [.int .i64 r.1,.int .i64 r.2]):=by
 refine cF (fun r=>.tup [.int .i64 r.1,.int .i64 r.2]) h mix Tryz.func167 fun r h=>?_
 unfold ZdU at h
 refine Zq ?_
 refine rg ?_
 refine rg ?_
 refine aC h (Zao _ _) fun r1 h=>?_
 refine cS h rfl (fun h=>?_) fun h=>?_
 ·refine rg ?_
  refine sS h fun l4 h=>?_
  refine aC h (Zd6 _ _) fun r5 h=>?_
  refine rg ?_
  refine cS h rfl (fun h=>?_) fun h=>?_
  ·refine rg ?_
   cases h
   exact rQ
  refine rg ?_
  cases h
  exact rQ
 refine rg ?_
 refine aC h (Zao _ _) fun r6 h=>?_
 refine Zcr h fun k1 hk1 h=>?_
 refine Zb3 (α:=Unit) (fun _ _=>mkS [(0,.str p0)] [] 2) (fun _=>k1 ()=some r) (Zq ?_) (fun a _ h=>?_)
 ·refine cS h rfl (fun h=>?_) fun h=>?_
  ·refine rg ?_
   refine sS h fun l11 h=>?_
   refine aC h (Zd6 _ _) fun r12 h=>?_
   refine rg ?_
   refine cS h rfl (fun h=>?_) fun h=>?_
   ·refine rg ?_
    cases h
    exact rQ
   exact jn () h (sR [])
  exact jn () h (sR [])
 subst hk1
 dsimp only at h ⊢
 refine Zq ?_
 refine rg ?_
 refine aC h (Zgl _ _) fun r9 h=>?_
 refine rg ?_
 refine cS h rfl (fun h=>?_) fun h=>?_
 ·refine rg ?_
  cases h
  exact rQ
 refine rg ?_
 refine aC h (Zgl _ _) fun r10 h=>?_
 refine rg ?_
 refine cS h rfl (fun h=>?_) fun h=>?_
 ·refine rg ?_
  cases h
  exact rQ
 refine rg ?_
 cases h
 exact rQ
def Zdb (p0:ByteArray) (p1:Int):Option Int:=
 Zbq Zel (fun f7 (x14:Int)=>
  letk (fun (x19:Bool)=>
   if x19 then
    f7 (w64 (x14+1))
   else
   (some x14:Option Int)) fun k8=>
  if (decide (x14<(p0.size:Int))) then
   (atS p0 x14).bind fun c20=>
   k8 (decide (c20=p1))
  else
  k8 false) 0
theorem Ze0 (p0:ByteArray) (p1:Int) (r:Int) (h:Zdb p0 p1=some r):Zo Tryz.prog 168 [.str p0,.int .u8 p1] (.int .i64 r):=by
 refine cF (fun r=>.int .i64 r) h mix Tryz.func168 fun r h=>?_
 unfold Zdb at h
 refine Zq ?_
 refine rg ?_
 refine rg ?_
 refine bl ?_
 refine ZW h fun f7 mf7 hf7 h=>?_
 refine ZH (α:=Nat×Int) (fun a _=>mkS [(0,.str p0),(1,.int .u8 p1),(5,.int .i64 a.2)] [] 2) (fun a=>Zbq a.1 f7 a.2=some r) (fun a=>a.1) (mf7,0) 2 h (sR []) (fun a _ h=>?_)
 obtain ⟨mf7,x14⟩:=a
 obtain ⟨mf7,rfl,h⟩:=ZX hf7 h
 dsimp only at h ⊢
 refine Zq ?_
 refine jL h (fun x19=>mkS [(0,.str p0),(1,.int .u8 p1),(5,.int .i64 x14),(16,.bool x19)] [] 2) (fun k8 h=>?_) fun x19 h=>?_
 ·refine rg ?_
  refine kS 10 h rfl (fun h=>?_) fun h=>?_
  ·refine aS h fun c20 h=>?_
   exact jn (decide (c20=p1)) h (sR [])
  iterate 5 refine ZN rfl (Zq ?_)
  exact jn false h (sR [])
 refine cS h rfl (fun h=>?_) fun h=>?_
 ·refine bl ?_
  refine rg ?_
  exact rn (mf7,(w64 (x14+1))) h (sR [])
 refine rg ?_
 cases h
 exact rQ
def ZcQ (p0:ByteArray):Option (Int×Int):=
 (atS p0 0).bind fun c1=>
 letk (fun (_:Unit)=>
  (some (0,0):Option (Int×Int))) fun k1=>
 if (decide (c1=60)) then
  (ZdU p0).bind fun r7=>
  (some (r7.1,r7.2):Option (Int×Int))
 else
 if (decide (c1=123)) then
  (Zdb p0 123).bind fun r8=>
  if (decide (2≤r8)) then
   (some (3,r8):Option (Int×Int))
  else
  k1 ()
 else
 if (decide (c1=125)) then
  (Zdb p0 125).bind fun r9=>
  if (decide (2≤r9)) then
   (some (4,r9):Option (Int×Int))
  else
  k1 ()
 else
 if (decide (c1=91)) then
  (Zdb p0 91).bind fun r10=>
  if (decide (2≤r10)) then
   (some (5,2):Option (Int×Int))
  else
  k1 ()
 else
 if (decide (c1=93)) then
  (Zdb p0 93).bind fun r11=>
  if (decide (2≤r11)) then
   (some (6,2):Option (Int×Int))
  else
  k1 ()
 else
 if (decide (c1=124)) then
  (some (7,1):Option (Int×Int))
 else
 if (decide (c1=61)) then
  (some (8,1):Option (Int×Int))
 else
 if (decide (c1=10)) then
  (some (2,1):Option (Int×Int))
 else
 k1 ()
theorem ZkF (p0:ByteArray) (r:Int×Int) (h:ZcQ p0=some r):Zo Tryz.prog 100 [.str p0] (.tup [.int .i64 r.1,.int .i64 r.2]):=by
 refine cF (fun r=>.tup [.int .i64 r.1,.int .i64 r.2]) h mix Tryz.func100 fun r h=>?_
 unfold ZcQ at h
 refine Zq ?_
 refine rg ?_
 refine rg ?_
 refine aS h fun c1 h=>?_
 refine Zcr h fun k1 hk1 h=>?_
 refine Zb3 (α:=Unit) (fun _ _=>mkS [] [] 2) (fun _=>k1 ()=some r) (Zq ?_) (fun a _ h=>?_)
 ·refine bl ?_
  refine rg ?_
  refine cS h rfl (fun h=>?_) fun h=>?_
  ·refine rg ?_
   refine aC h (ZkE _) fun r7 h=>?_
   cases h
   exact rQ
  refine rg ?_
  refine cS h rfl (fun h=>?_) fun h=>?_
  ·refine rg ?_
   refine aC h (Ze0 _ _) fun r8 h=>?_
   refine rg ?_
   refine cS h rfl (fun h=>?_) fun h=>?_
   ·refine rg ?_
    cases h
    exact rQ
   exact jn () h (sR [])
  refine rg ?_
  refine cS h rfl (fun h=>?_) fun h=>?_
  ·refine rg ?_
   refine aC h (Ze0 _ _) fun r9 h=>?_
   refine rg ?_
   refine cS h rfl (fun h=>?_) fun h=>?_
   ·refine rg ?_
    cases h
    exact rQ
   exact jn () h (sR [])
  refine rg ?_
  refine cS h rfl (fun h=>?_) fun h=>?_
  ·refine rg ?_
   refine aC h (Ze0 _ _) fun r10 h=>?_
   refine cS h rfl (fun h=>?_) fun h=>?_
   ·refine rg ?_
    cases h
    exact rQ
   exact jn () h (sR [])
  refine rg ?_
  refine cS h rfl (fun h=>?_) fun h=>?_
  ·refine rg ?_
   refine aC h (Ze0 _ _) fun r11 h=>?_
   refine cS h rfl (fun h=>?_) fun h=>?_
   ·refine rg ?_
    cases h
    exact rQ
   exact jn () h (sR [])
  refine rg ?_
  refine cS h rfl (fun h=>?_) fun h=>?_
  ·refine rg ?_
   cases h
   exact rQ
  refine rg ?_
  refine cS h rfl (fun h=>?_) fun h=>?_
  ·refine rg ?_
   cases h
   exact rQ
  refine rg ?_
  refine cS h rfl (fun h=>?_) fun h=>?_
  ·refine rg ?_
   cases h
   exact rQ
  exact jn () h (sR [])
 subst hk1
 dsimp only at h ⊢
 refine Zq ?_
 refine rg ?_
 cases h
 exact rQ
def ZeB (p0:ByteArray):Option ((List Tok)×Int):=
 if (decide (8192<(p0.size:Int))) then
  (some ([],3):Option ((List Tok)×Int))
 else
 Zbq Zel (fun f5 ((x22,x23,x24):Int×Int×(List Tok))=>
  if (decide (x23<(p0.size:Int))) then
   (ZfP p0 x23 (p0.size:Int)).bind fun l31=>
   (ZcQ l31).bind fun r32=>
   if (decide (r32.1=0)) then
    f5 (x22,(w64 (x23+1)),x24)
   else
   letk (fun (x34:List Tok)=>
    (Zjw 24 x34 [(⟨r32.1,x23,(w64 (x23+r32.2))⟩:Tok)]).bind fun l35=>
    f5 ((w64 (x23+r32.2)),(w64 (x23+r32.2)),l35)) fun k6=>
   if (decide (x22<x23)) then
    (Zjw 24 x24 [(⟨1,x22,x23⟩:Tok)]).bind fun l36=>
    k6 l36
   else
   k6 x24
  else
  letk (fun (x38:List Tok)=>
   (some (x38,0):Option ((List Tok)×Int))) fun k7=>
  if (decide (x22<(p0.size:Int))) then
   (Zjw 24 x24 [(⟨1,x22,(p0.size:Int)⟩:Tok)]).bind fun l39=>
   k7 l39
  else
  k7 x24) (0,0,([]:List Tok))
theorem Zlo (p0:ByteArray) (r:(List Tok)×Int) (h:ZeB p0=some r):Zo Tryz.prog 62 [.str p0] (.tup [.sl (List.map Tok.cs r.1),.int .i64 r.2]):=by
 refine cF (fun r=>.tup [.sl (List.map Tok.cs r.1),.int .i64 r.2]) h mix Tryz.func62 fun r h=>?_
 unfold ZeB at h
 refine Zq ?_
 refine rg ?_
 refine rg ?_
 refine cS h rfl (fun h=>?_) fun h=>?_
 ·refine rg ?_
  cases h
  exact rQ
 refine rg ?_
 refine rg ?_
 refine rg ?_
 refine bl ?_
 refine ZW h fun f5 mf5 hf5 h=>?_
 refine ZH (α:=Nat×(Int×Int×(List Tok))) (fun a _=>mkS [(0,.str p0),(4,.row 4 (1,4)),(5,.int .i64 a.2.1),(6,.int .i64 a.2.2.1)] [(4,some ((1,4),.row 105 3 false (List.map Tok.cs a.2.2.2)))] 2) (fun a=>Zbq a.1 f5 a.2=some r) (fun a=>a.1) (mf5,0,0,([]:List Tok)) 2 h (ZoN [] 4 105 3 rfl ⟨rfl,rfl,rfl,rfl,trivial⟩ ⟨⟨rfl,rfl⟩,trivial⟩ rfl) (fun a _ h=>?_)
 obtain ⟨mf5,x22,x23,x24⟩:=a
 obtain ⟨mf5,rfl,h⟩:=ZX hf5 h
 dsimp only at h ⊢
 refine Zq ?_
 refine rg ?_
 refine cS h rfl (fun h=>?_) fun h=>?_
 ·refine bl ?_
  refine rg ?_
  refine sS h fun l31 h=>?_
  refine aC h (ZkF _) fun r32 h=>?_
  refine rg ?_
  refine cS h rfl (fun h=>?_) fun h=>?_
  ·refine rg ?_
   exact rn (mf5,x22,(w64 (x23+1)),x24) h (sR [(4,1,4)])
  refine rg ?_
  refine jL h (fun x34=>mkS [(0,.str p0),(4,.row 4 (1,4)),(6,.int .i64 x23),(7,.int .i64 r32.1),(8,.int .i64 r32.2)] [(4,some ((1,4),.row 105 3 false (List.map Tok.cs x34)))] 2) (fun k6 h=>?_) fun x34 h=>?_
  ·refine cS h rfl (fun h=>?_) fun h=>?_
   ·refine rg ?_
    refine Zc5 (M:=([(⟨1,x22,x23⟩:Tok)]:List Tok)) (f:=Tok.cs) rfl rfl rfl rfl (Nat.le_of_ble_eq_true rfl) rfl (Zq ?_)
    refine pR Tok.cs h fun l36 h=>?_
    exact jn l36 h (sR [(4,6,5)])
   exact jn x24 h (sR [(4,1,4)])
  refine rg ?_
  refine Zc5 (M:=([(⟨r32.1,x23,(w64 (x23+r32.2))⟩:Tok)]:List Tok)) (f:=Tok.cs) rfl rfl rfl rfl (Nat.le_of_ble_eq_true rfl) rfl (Zq ?_)
  refine pR Tok.cs h fun l35 h=>?_
  refine rg ?_
  refine rg ?_
  exact rn (mf5,(w64 (x23+r32.2)),(w64 (x23+r32.2)),l35) h (sR [(4,2,8)])
 refine rg ?_
 refine jL h (fun x38=>mkS [(4,.row 4 (1,4))] [(4,some ((1,4),.row 105 3 false (List.map Tok.cs x38)))] 2) (fun k7 h=>?_) fun x38 h=>?_
 ·refine cS h rfl (fun h=>?_) fun h=>?_
  ·refine rg ?_
   refine Zc5 (M:=([(⟨1,x22,(p0.size:Int)⟩:Tok)]:List Tok)) (f:=Tok.cs) rfl rfl rfl rfl (Nat.le_of_ble_eq_true rfl) rfl (Zq ?_)
   refine pR Tok.cs h fun l39 h=>?_
   exact jn l39 h (sR [(4,4,6)])
  exact jn x24 h (sR [(4,1,4)])
 refine rg ?_
 cases h
 exact rQ
def Zb4 (p0:ByteArray) (p1:Tok):Option ByteArray:=
 letk (fun (x1:Bool)=>
  if x1 then
   (some (⟨#[]⟩:ByteArray):Option ByteArray)
  else
  (ZfP p0 p1.from_ p1.to_).bind fun l2=>
  (some l2:Option ByteArray)) fun k1=>
 if (decide (p1.from_<0)) then
  k1 true
 else
 if (decide (p1.to_<p1.from_)) then
  k1 true
 else
 k1 (decide ((p0.size:Int)<p1.to_))
theorem ZhO (p0:ByteArray) (p1:Tok) (r:ByteArray) (h:Zb4 p0 p1=some r):Zo Tryz.prog 101 [.str p0,p1.pv] (.str r):=by
 refine cF (fun r=>.str r) h mix Tryz.func101 fun r h=>?_
 unfold Zb4 at h
 refine Zq ?_
 refine rg ?_
 refine jL h (fun x1=>mkS [(0,.str p0),(3,.ptr 3 (1,3) 0),(21,.bool x1)] [(3,some ((1,3),.box (Tok.cs p1)))] 2) (fun k1 h=>?_) fun x1 h=>?_
 ·refine rg ?_
  refine kS 8 h rfl (fun h=>?_) fun h=>?_
  ·iterate 10 refine ZN rfl (Zq ?_)
   exact jn true h (sR [(3,1,0)])
  refine kS 15 h rfl (fun h=>?_) fun h=>?_
  ·iterate 5 refine ZN rfl (Zq ?_)
   exact jn true h (sR [(3,1,0)])
  exact jn (decide ((p0.size:Int)<p1.to_)) h (sR [(3,1,0)])
 refine cS h rfl (fun h=>?_) fun h=>?_
 ·refine rg ?_
  cases h
  exact rQ
 refine rg ?_
 refine sS h fun l2 h=>?_
 cases h
 exact rQ
def Zdc (p0:ByteArray) (p1:Tok):Option Int:=
 letk (fun (x1:ByteArray)=>
  (Zb4 p0 p1).bind fun r2=>
  (Zcb r2 x1).bind fun r3=>
  if (decide (r3.2=(r2.size:Int))) then
   (some r3.1:Option Int)
  else
  (some 0:Option Int)) fun k1=>
 if (decide (p1.kind=11)) then
  k1 (⟨#[60]⟩:ByteArray)
 else
 if (decide (p1.kind=12)) then
  k1 (⟨#[60,47]⟩:ByteArray)
 else
 (some 0:Option Int)
theorem ZiH (p0:ByteArray) (p1:Tok) (r:Int) (h:Zdc p0 p1=some r):Zo Tryz.prog 105 [.str p0,p1.pv] (.int .i64 r):=by
 refine cF (fun r=>.int .i64 r) h mix Tryz.func105 fun r h=>?_
 unfold Zdc at h
 refine Zq ?_
 refine rg ?_
 refine rg ?_
 refine rg ?_
 refine jL h (fun x1=>mkS [(0,.str p0),(3,.ptr 3 (1,3) 0),(5,.str x1)] [(3,some ((1,3),.box (Tok.cs p1)))] 2) (fun k1 h=>?_) fun x1 h=>?_
 ·refine bl ?_
  refine rg ?_
  refine cS h rfl (fun h=>?_) fun h=>?_
  ·exact jn (⟨#[60]⟩:ByteArray) h (sR [(3,1,0)])
  refine rg ?_
  refine cS h rfl (fun h=>?_) fun h=>?_
  ·refine rg ?_
   exact jn (⟨#[60,47]⟩:ByteArray) h (sR [(3,1,0)])
  refine rg ?_
  cases h
  exact rQ
 refine rg ?_
 refine aC h (ZhO _ _) fun r2 h=>?_
 refine rg ?_
 refine aC h (Zgl _ _) fun r3 h=>?_
 refine rg ?_
 refine cS h rfl (fun h=>?_) fun h=>?_
 ·refine rg ?_
  cases h
  exact rQ
 refine rg ?_
 cases h
 exact rQ
def Zdv (p0:Int):Option ByteArray:=
 (atI ([(⟨#[110,111,105,110,99,108,117,100,101]⟩:ByteArray),(⟨#[105,110,99,108,117,100,101,111,110,108,121]⟩:ByteArray),(⟨#[111,110,108,121,105,110,99,108,117,100,101]⟩:ByteArray)]:List ByteArray) (w64 (p0 - 1))).bind fun c1=>
 (Zbk (⟨#[60]⟩:ByteArray) c1).bind fun s2=>
 (Zbk s2 (⟨#[62]⟩:ByteArray)).bind fun s3=>
 (some s3:Option ByteArray)
theorem ZiI (p0:Int) (r:ByteArray) (h:Zdv p0=some r):Zo Tryz.prog 112 [.int .i64 p0] (.str r):=by
 refine cF (fun r=>.str r) h mix Tryz.func112 fun r h=>?_
 unfold Zdv at h
 refine Zq ?_
 refine rg ?_
 refine rg ?_
 obtain ⟨c1,h1,h⟩:=bnd h
 refine Zt8 (p:=PV.str) rfl h1 rfl rfl rfl rfl rfl (Zq ?_)
 refine sT h fun s2 h=>?_
 refine sT h fun s3 h=>?_
 cases h
 exact rQ
end Go.Proofs.YtmgfammllddkhaaGreatDoor
