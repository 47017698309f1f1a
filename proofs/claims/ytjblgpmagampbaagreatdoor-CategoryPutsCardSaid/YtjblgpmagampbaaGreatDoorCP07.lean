/- Functions of the program as Lean functions. Written by fxgen.py. | Functions of the program as Lean functions. Written by fxgen.py. | A function that hands back a copy of a slice of plain cells. No program is named. | strings.Compare, as the others are written. -/
import Derived.Test.YtjblgpmagampbaaGreatDoorCP06
import Derived.Test.YtjblgpmagampbaaGreatDoorCP03
import Derived.Test.YtjblgpmagampbaaGreatDoorCP05
set_option linter.unusedVariables false
set_option maxHeartbeats 4000000
set_option maxRecDepth 100000
namespace Go.Proofs.YtjblgpmagampbaaGreatDoor
open VL
def Zgh:Option Str3:=
 (some (⟨(⟨#[110,111,105,110,99,108,117,100,101]⟩:ByteArray),(⟨#[105,110,99,108,117,100,101,111,110,108,121]⟩:ByteArray),(⟨#[111,110,108,121,105,110,99,108,117,100,101]⟩:ByteArray)⟩:Str3):Option Str3)
theorem ZkF  (r:Str3) (h:Zgh=some r):Zd Tryz.prog 336 [] (r.pv):=by
 refine cF (fun r=>r.pv) h mix Tryz.func336 fun r h=>?_
 unfold Zgh at h
 refine Zj ?_
 refine rg ?_
 refine rg ?_
 cases h
 exact rQ
def Zfi (p0:ByteArray) (p1:ByteArray):Option (Int×Int):=
 (Zgh).bind fun r1=>
 Zas Zck (fun f2 (x35:Int)=>
  if (decide (x35<3)) then
   (atI ([r1.a,r1.b,r1.c]:List ByteArray) x35).bind fun c48=>
   (Zp3 p1 c48).bind fun s49=>
   (Zp3 s49 (⟨#[62]⟩:ByteArray)).bind fun s50=>
   (ZX p0 s50).bind fun r51=>
   if r51 then
    (some ((w64 (x35+1)),(s50.size:Int)):Option (Int×Int))
   else
   f2 (w64 (x35+1))
  else
  (some (0,0):Option (Int×Int))) 0
theorem Zgi (p0:ByteArray) (p1:ByteArray) (r:Int×Int) (h:Zfi p0 p1=some r):Zd Tryz.prog 304 [.str p0,.str p1] (.tup [.int .i64 r.1,.int .i64 r.2]):=by
 refine cF (fun r=>.tup [.int .i64 r.1,.int .i64 r.2]) h mix Tryz.func304 fun r h=>?_
 unfold Zfi at h
 refine Zj ?_
 refine rg ?_
 refine rg ?_
 refine aC h ZkF fun r1 h=>?_
 refine bl ?_
 refine Zu h fun f2 mf2 hf2 h=>?_
 refine Zq (α:=Nat×Int) (fun a _=>mkS [(0,.str p0),(1,.str p1),(9,.agg [.str r1.a,.str r1.b,.str r1.c]),(10,.int .i64 a.2)] [] 2) (fun a=>Zas a.1 f2 a.2=some r) (fun a=>a.1) (mf2,0) 2 h (sR []) (fun a _ h=>?_)
 obtain ⟨mf2,x35⟩:=a
 obtain ⟨mf2,rfl,h⟩:=Zv hf2 h
 dsimp only at h ⊢
 refine Zj ?_
 refine rg ?_
 refine cS h rfl (fun h=>?_) fun h=>?_
 ·refine bl ?_
  refine rg ?_
  obtain ⟨c48,h46,h⟩:=bnd h
  refine ZrV (p:=PV.str) rfl h46 rfl rfl rfl rfl rfl (Zj ?_)
  refine rg ?_
  refine sT h fun s49 h=>?_
  refine sT h fun s50 h=>?_
  refine rg ?_
  refine aC h (ZZ _ _) fun r51 h=>?_
  refine cS h rfl (fun h=>?_) fun h=>?_
  ·refine rg ?_
   cases h
   exact rQ
  refine rg ?_
  exact rn (mf2,(w64 (x35+1))) h (sR [])
 refine rg ?_
 cases h
 exact rQ
def Zgj (p0:ByteArray):Option (Int×Int):=
 (ZX p0 (⟨#[60,33,45,45]⟩:ByteArray)).bind fun r1=>
 if r1 then
  (ZhC p0 4 (p0.size:Int)).bind fun l4=>
  (strings_Index l4 (⟨#[45,45,62]⟩:ByteArray)).bind fun r5=>
  if (decide (0≤r5)) then
   (some (9,(w64 ((w64 (4+r5))+3))):Option (Int×Int))
  else
  (some (9,(p0.size:Int)):Option (Int×Int))
 else
 (ZX p0 (⟨#[60,110,111,119,105,107,105,62]⟩:ByteArray)).bind fun r6=>
 letk (fun (_:Unit)=>
  (Zfi p0 (⟨#[60]⟩:ByteArray)).bind fun r9=>
  if (decide (0<r9.2)) then
   (some (11,r9.2):Option (Int×Int))
  else
  (Zfi p0 (⟨#[60,47]⟩:ByteArray)).bind fun r10=>
  if (decide (0<r10.2)) then
   (some (12,r10.2):Option (Int×Int))
  else
  (some (0,0):Option (Int×Int))) fun k1=>
 if r6 then
  (ZhC p0 8 (p0.size:Int)).bind fun l11=>
  (strings_Index l11 (⟨#[60,47,110,111,119,105,107,105,62]⟩:ByteArray)).bind fun r12=>
  if (decide (0≤r12)) then
   (some (10,(w64 ((w64 (8+r12))+9))):Option (Int×Int))
  else
  k1 ()
 else
 k1 ()
theorem ZkG (p0:ByteArray) (r:Int×Int) (h:Zgj p0=some r):Zd Tryz.prog 301 [.str p0] (.tup [.int .i64 r.1,.int .i64 r.2]):=by
 refine cF (fun r=>.tup [.int .i64 r.1,.int .i64 r.2]) h mix Tryz.func301 fun r h=>?_
 unfold Zgj at h
 refine Zj ?_
 refine rg ?_
 refine rg ?_
 refine aC h (ZZ _ _) fun r1 h=>?_
 refine cS h rfl (fun h=>?_) fun h=>?_
 ·refine rg ?_
  refine sS h fun l4 h=>?_
  refine aC h (ZdV _ _) fun r5 h=>?_
  refine rg ?_
  refine cS h rfl (fun h=>?_) fun h=>?_
  ·refine rg ?_
   cases h
   exact rQ
  refine rg ?_
  cases h
  exact rQ
 refine rg ?_
 refine aC h (ZZ _ _) fun r6 h=>?_
 refine Za6 h fun k1 hk1 h=>?_
 refine ZaV (α:=Unit) (fun _ _=>mkS [(0,.str p0)] [] 2) (fun _=>k1 ()=some r) (Zj ?_) (fun a _ h=>?_)
 ·refine cS h rfl (fun h=>?_) fun h=>?_
  ·refine rg ?_
   refine sS h fun l11 h=>?_
   refine aC h (ZdV _ _) fun r12 h=>?_
   refine rg ?_
   refine cS h rfl (fun h=>?_) fun h=>?_
   ·refine rg ?_
    cases h
    exact rQ
   exact jn () h (sR [])
  exact jn () h (sR [])
 subst hk1
 dsimp only at h ⊢
 refine Zj ?_
 refine rg ?_
 refine aC h (Zgi _ _) fun r9 h=>?_
 refine rg ?_
 refine cS h rfl (fun h=>?_) fun h=>?_
 ·refine rg ?_
  cases h
  exact rQ
 refine rg ?_
 refine aC h (Zgi _ _) fun r10 h=>?_
 refine rg ?_
 refine cS h rfl (fun h=>?_) fun h=>?_
 ·refine rg ?_
  cases h
  exact rQ
 refine rg ?_
 cases h
 exact rQ
def Zeu (p0:ByteArray) (p1:Int):Option Int:=
 Zas Zck (fun f7 (x14:Int)=>
  letk (fun (x19:Bool)=>
   if x19 then
    f7 (w64 (x14+1))
   else
   (some x14:Option Int)) fun k8=>
  if (decide (x14<(p0.size:Int))) then
   (atS p0 x14).bind fun c20=>
   k8 (decide (c20=p1))
  else
  k8 false) 0
theorem ZeM (p0:ByteArray) (p1:Int) (r:Int) (h:Zeu p0 p1=some r):Zd Tryz.prog 302 [.str p0,.int .u8 p1] (.int .i64 r):=by
 refine cF (fun r=>.int .i64 r) h mix Tryz.func302 fun r h=>?_
 unfold Zeu at h
 refine Zj ?_
 refine rg ?_
 refine rg ?_
 refine bl ?_
 refine Zu h fun f7 mf7 hf7 h=>?_
 refine Zq (α:=Nat×Int) (fun a _=>mkS [(0,.str p0),(1,.int .u8 p1),(5,.int .i64 a.2)] [] 2) (fun a=>Zas a.1 f7 a.2=some r) (fun a=>a.1) (mf7,0) 2 h (sR []) (fun a _ h=>?_)
 obtain ⟨mf7,x14⟩:=a
 obtain ⟨mf7,rfl,h⟩:=Zv hf7 h
 dsimp only at h ⊢
 refine Zj ?_
 refine jL h (fun x19=>mkS [(0,.str p0),(1,.int .u8 p1),(5,.int .i64 x14),(16,.bool x19)] [] 2) (fun k8 h=>?_) fun x19 h=>?_
 ·refine rg ?_
  refine kS 10 h rfl (fun h=>?_) fun h=>?_
  ·refine aS h fun c20 h=>?_
   exact jn (decide (c20=p1)) h (sR [])
  iterate 5 refine ZI rfl (Zj ?_)
  exact jn false h (sR [])
 refine cS h rfl (fun h=>?_) fun h=>?_
 ·refine bl ?_
  refine rg ?_
  exact rn (mf7,(w64 (x14+1))) h (sR [])
 refine rg ?_
 cases h
 exact rQ
def Zgk (p0:ByteArray):Option (Int×Int):=
 (atS p0 0).bind fun c1=>
 letk (fun (_:Unit)=>
  (some (0,0):Option (Int×Int))) fun k1=>
 if (decide (c1=60)) then
  (Zgj p0).bind fun r7=>
  (some (r7.1,r7.2):Option (Int×Int))
 else
 if (decide (c1=123)) then
  (Zeu p0 123).bind fun r8=>
  if (decide (2≤r8)) then
   (some (3,r8):Option (Int×Int))
  else
  k1 ()
 else
 if (decide (c1=125)) then
  (Zeu p0 125).bind fun r9=>
  if (decide (2≤r9)) then
   (some (4,r9):Option (Int×Int))
  else
  k1 ()
 else
 if (decide (c1=91)) then
  (Zeu p0 91).bind fun r10=>
  if (decide (2≤r10)) then
   (some (5,2):Option (Int×Int))
  else
  k1 ()
 else
 if (decide (c1=93)) then
  (Zeu p0 93).bind fun r11=>
  if (decide (2≤r11)) then
   (some (6,2):Option (Int×Int))
  else
  k1 ()
 else
 if (decide (c1=124)) then
  (some (7,1):Option (Int×Int))
 else
 if (decide (c1=61)) then
  (some (8,1):Option (Int×Int))
 else
 if (decide (c1=10)) then
  (some (2,1):Option (Int×Int))
 else
 k1 ()
theorem ZkH (p0:ByteArray) (r:Int×Int) (h:Zgk p0=some r):Zd Tryz.prog 238 [.str p0] (.tup [.int .i64 r.1,.int .i64 r.2]):=by
 refine cF (fun r=>.tup [.int .i64 r.1,.int .i64 r.2]) h mix Tryz.func238 fun r h=>?_
 unfold Zgk at h
 refine Zj ?_
 refine rg ?_
 refine rg ?_
 refine aS h fun c1 h=>?_
 refine Za6 h fun k1 hk1 h=>?_
 refine ZaV (α:=Unit) (fun _ _=>mkS [] [] 2) (fun _=>k1 ()=some r) (Zj ?_) (fun a _ h=>?_)
 ·refine bl ?_
  refine rg ?_
  refine cS h rfl (fun h=>?_) fun h=>?_
  ·refine rg ?_
   refine aC h (ZkG _) fun r7 h=>?_
   cases h
   exact rQ
  refine rg ?_
  refine cS h rfl (fun h=>?_) fun h=>?_
  ·refine rg ?_
   refine aC h (ZeM _ _) fun r8 h=>?_
   refine rg ?_
   refine cS h rfl (fun h=>?_) fun h=>?_
   ·refine rg ?_
    cases h
    exact rQ
   exact jn () h (sR [])
  refine rg ?_
  refine cS h rfl (fun h=>?_) fun h=>?_
  ·refine rg ?_
   refine aC h (ZeM _ _) fun r9 h=>?_
   refine rg ?_
   refine cS h rfl (fun h=>?_) fun h=>?_
   ·refine rg ?_
    cases h
    exact rQ
   exact jn () h (sR [])
  refine rg ?_
  refine cS h rfl (fun h=>?_) fun h=>?_
  ·refine rg ?_
   refine aC h (ZeM _ _) fun r10 h=>?_
   refine cS h rfl (fun h=>?_) fun h=>?_
   ·refine rg ?_
    cases h
    exact rQ
   exact jn () h (sR [])
  refine rg ?_
  refine cS h rfl (fun h=>?_) fun h=>?_
  ·refine rg ?_
   refine aC h (ZeM _ _) fun r11 h=>?_
   refine cS h rfl (fun h=>?_) fun h=>?_
   ·refine rg ?_
    cases h
    exact rQ
   exact jn () h (sR [])
  refine rg ?_
  refine cS h rfl (fun h=>?_) fun h=>?_
  ·refine rg ?_
   cases h
   exact rQ
  refine rg ?_
  refine cS h rfl (fun h=>?_) fun h=>?_
  ·refine rg ?_
   cases h
   exact rQ
  refine rg ?_
  refine cS h rfl (fun h=>?_) fun h=>?_
  ·refine rg ?_
   cases h
   exact rQ
  exact jn () h (sR [])
 subst hk1
 dsimp only at h ⊢
 refine Zj ?_
 refine rg ?_
 cases h
 exact rQ
def Zhl (p0:ByteArray):Option ((List Tok)×Int):=
 if (decide (8192<(p0.size:Int))) then
  (some ([],3):Option ((List Tok)×Int))
 else
 Zas Zck (fun f5 ((x22,x23,x24):Int×Int×(List Tok))=>
  if (decide (x23<(p0.size:Int))) then
   (ZhC p0 x23 (p0.size:Int)).bind fun l31=>
   (Zgk l31).bind fun r32=>
   if (decide (r32.1=0)) then
    f5 (x22,(w64 (x23+1)),x24)
   else
   letk (fun (x34:List Tok)=>
    (ZfA 24 x34 [(⟨r32.1,x23,(w64 (x23+r32.2))⟩:Tok)]).bind fun l35=>
    f5 ((w64 (x23+r32.2)),(w64 (x23+r32.2)),l35)) fun k6=>
   if (decide (x22<x23)) then
    (ZfA 24 x24 [(⟨1,x22,x23⟩:Tok)]).bind fun l36=>
    k6 l36
   else
   k6 x24
  else
  letk (fun (x38:List Tok)=>
   (some (x38,0):Option ((List Tok)×Int))) fun k7=>
  if (decide (x22<(p0.size:Int))) then
   (ZfA 24 x24 [(⟨1,x22,(p0.size:Int)⟩:Tok)]).bind fun l39=>
   k7 l39
  else
  k7 x24) (0,0,([]:List Tok))
theorem ZlD (p0:ByteArray) (r:(List Tok)×Int) (h:Zhl p0=some r):Zd Tryz.prog 168 [.str p0] (.tup [.sl (List.map Tok.cs r.1),.int .i64 r.2]):=by
 refine cF (fun r=>.tup [.sl (List.map Tok.cs r.1),.int .i64 r.2]) h mix Tryz.func168 fun r h=>?_
 unfold Zhl at h
 refine Zj ?_
 refine rg ?_
 refine rg ?_
 refine cS h rfl (fun h=>?_) fun h=>?_
 ·refine rg ?_
  cases h
  exact rQ
 refine rg ?_
 refine rg ?_
 refine rg ?_
 refine bl ?_
 refine Zu h fun f5 mf5 hf5 h=>?_
 refine Zq (α:=Nat×(Int×Int×(List Tok))) (fun a _=>mkS [(0,.str p0),(4,.row 4 (1,4)),(5,.int .i64 a.2.1),(6,.int .i64 a.2.2.1)] [(4,some ((1,4),.row 250 3 false (List.map Tok.cs a.2.2.2)))] 2) (fun a=>Zas a.1 f5 a.2=some r) (fun a=>a.1) (mf5,0,0,([]:List Tok)) 2 h (Zdv [] 4 250 3 rfl ⟨rfl,rfl,rfl,rfl,trivial⟩ ⟨⟨rfl,rfl⟩,trivial⟩ rfl) (fun a _ h=>?_)
 obtain ⟨mf5,x22,x23,x24⟩:=a
 obtain ⟨mf5,rfl,h⟩:=Zv hf5 h
 dsimp only at h ⊢
 refine Zj ?_
 refine rg ?_
 refine cS h rfl (fun h=>?_) fun h=>?_
 ·refine bl ?_
  refine rg ?_
  refine sS h fun l31 h=>?_
  refine aC h (ZkH _) fun r32 h=>?_
  refine rg ?_
  refine cS h rfl (fun h=>?_) fun h=>?_
  ·refine rg ?_
   exact rn (mf5,x22,(w64 (x23+1)),x24) h (sR [(4,1,4)])
  refine rg ?_
  refine jL h (fun x34=>mkS [(0,.str p0),(4,.row 4 (1,4)),(6,.int .i64 x23),(7,.int .i64 r32.1),(8,.int .i64 r32.2)] [(4,some ((1,4),.row 250 3 false (List.map Tok.cs x34)))] 2) (fun k6 h=>?_) fun x34 h=>?_
  ·refine cS h rfl (fun h=>?_) fun h=>?_
   ·refine rg ?_
    refine Zaw (M:=([(⟨1,x22,x23⟩:Tok)]:List Tok)) (f:=Tok.cs) rfl rfl rfl rfl (Nat.le_of_ble_eq_true rfl) rfl (Zj ?_)
    refine pR Tok.cs h fun l36 h=>?_
    exact jn l36 h (sR [(4,6,5)])
   exact jn x24 h (sR [(4,1,4)])
  refine rg ?_
  refine Zaw (M:=([(⟨r32.1,x23,(w64 (x23+r32.2))⟩:Tok)]:List Tok)) (f:=Tok.cs) rfl rfl rfl rfl (Nat.le_of_ble_eq_true rfl) rfl (Zj ?_)
  refine pR Tok.cs h fun l35 h=>?_
  refine rg ?_
  refine rg ?_
  exact rn (mf5,(w64 (x23+r32.2)),(w64 (x23+r32.2)),l35) h (sR [(4,2,8)])
 refine rg ?_
 refine jL h (fun x38=>mkS [(4,.row 4 (1,4))] [(4,some ((1,4),.row 250 3 false (List.map Tok.cs x38)))] 2) (fun k7 h=>?_) fun x38 h=>?_
 ·refine cS h rfl (fun h=>?_) fun h=>?_
  ·refine rg ?_
   refine Zaw (M:=([(⟨1,x22,(p0.size:Int)⟩:Tok)]:List Tok)) (f:=Tok.cs) rfl rfl rfl rfl (Nat.le_of_ble_eq_true rfl) rfl (Zj ?_)
   refine pR Tok.cs h fun l39 h=>?_
   exact jn l39 h (sR [(4,4,6)])
  exact jn x24 h (sR [(4,1,4)])
 refine rg ?_
 cases h
 exact rQ
def ZfJ (p0:ByteArray) (p1:Tok):Option ByteArray:=
 letk (fun (x1:Bool)=>
  if x1 then
   (some (⟨#[]⟩:ByteArray):Option ByteArray)
  else
  (ZhC p0 p1.from_ p1.to_).bind fun l2=>
  (some l2:Option ByteArray)) fun k1=>
 if (decide (p1.from_<0)) then
  k1 true
 else
 if (decide (p1.to_<p1.from_)) then
  k1 true
 else
 k1 (decide ((p0.size:Int)<p1.to_))
theorem ZhL (p0:ByteArray) (p1:Tok) (r:ByteArray) (h:ZfJ p0 p1=some r):Zd Tryz.prog 239 [.str p0,p1.pv] (.str r):=by
 refine cF (fun r=>.str r) h mix Tryz.func239 fun r h=>?_
 unfold ZfJ at h
 refine Zj ?_
 refine rg ?_
 refine jL h (fun x1=>mkS [(0,.str p0),(3,.ptr 3 (1,3) 0),(21,.bool x1)] [(3,some ((1,3),.box (Tok.cs p1)))] 2) (fun k1 h=>?_) fun x1 h=>?_
 ·refine rg ?_
  refine kS 8 h rfl (fun h=>?_) fun h=>?_
  ·iterate 10 refine ZI rfl (Zj ?_)
   exact jn true h (sR [(3,1,0)])
  refine kS 15 h rfl (fun h=>?_) fun h=>?_
  ·iterate 5 refine ZI rfl (Zj ?_)
   exact jn true h (sR [(3,1,0)])
  exact jn (decide ((p0.size:Int)<p1.to_)) h (sR [(3,1,0)])
 refine cS h rfl (fun h=>?_) fun h=>?_
 ·refine rg ?_
  cases h
  exact rQ
 refine rg ?_
 refine sS h fun l2 h=>?_
 cases h
 exact rQ
def ZgK (p0:ByteArray) (p1:Tok):Option Int:=
 letk (fun (x1:ByteArray)=>
  (ZfJ p0 p1).bind fun r2=>
  (Zfi r2 x1).bind fun r3=>
  if (decide (r3.2=(r2.size:Int))) then
   (some r3.1:Option Int)
  else
  (some 0:Option Int)) fun k1=>
 if (decide (p1.kind=11)) then
  k1 (⟨#[60]⟩:ByteArray)
 else
 if (decide (p1.kind=12)) then
  k1 (⟨#[60,47]⟩:ByteArray)
 else
 (some 0:Option Int)
theorem ZiX (p0:ByteArray) (p1:Tok) (r:Int) (h:ZgK p0 p1=some r):Zd Tryz.prog 243 [.str p0,p1.pv] (.int .i64 r):=by
 refine cF (fun r=>.int .i64 r) h mix Tryz.func243 fun r h=>?_
 unfold ZgK at h
 refine Zj ?_
 refine rg ?_
 refine rg ?_
 refine rg ?_
 refine jL h (fun x1=>mkS [(0,.str p0),(3,.ptr 3 (1,3) 0),(5,.str x1)] [(3,some ((1,3),.box (Tok.cs p1)))] 2) (fun k1 h=>?_) fun x1 h=>?_
 ·refine bl ?_
  refine rg ?_
  refine cS h rfl (fun h=>?_) fun h=>?_
  ·exact jn (⟨#[60]⟩:ByteArray) h (sR [(3,1,0)])
  refine rg ?_
  refine cS h rfl (fun h=>?_) fun h=>?_
  ·refine rg ?_
   exact jn (⟨#[60,47]⟩:ByteArray) h (sR [(3,1,0)])
  refine rg ?_
  cases h
  exact rQ
 refine rg ?_
 refine aC h (ZhL _ _) fun r2 h=>?_
 refine rg ?_
 refine aC h (Zgi _ _) fun r3 h=>?_
 refine rg ?_
 refine cS h rfl (fun h=>?_) fun h=>?_
 ·refine rg ?_
  cases h
  exact rQ
 refine rg ?_
 cases h
 exact rQ
def ZeN (p0:Int):Option ByteArray:=
 (atI ([(⟨#[110,111,105,110,99,108,117,100,101]⟩:ByteArray),(⟨#[105,110,99,108,117,100,101,111,110,108,121]⟩:ByteArray),(⟨#[111,110,108,121,105,110,99,108,117,100,101]⟩:ByteArray)]:List ByteArray) (w64 (p0 - 1))).bind fun c1=>
 (Zp3 (⟨#[60]⟩:ByteArray) c1).bind fun s2=>
 (Zp3 s2 (⟨#[62]⟩:ByteArray)).bind fun s3=>
 (some s3:Option ByteArray)
theorem ZiY (p0:Int) (r:ByteArray) (h:ZeN p0=some r):Zd Tryz.prog 250 [.int .i64 p0] (.str r):=by
 refine cF (fun r=>.str r) h mix Tryz.func250 fun r h=>?_
 unfold ZeN at h
 refine Zj ?_
 refine rg ?_
 refine rg ?_
 obtain ⟨c1,h1,h⟩:=bnd h
 refine ZrV (p:=PV.str) rfl h1 rfl rfl rfl rfl rfl (Zj ?_)
 refine sT h fun s2 h=>?_
 refine sT h fun s3 h=>?_
 cases h
 exact rQ
def ZaK (p0:ByteArray) (p1:ByteArray):Option (ByteArray×Bool):=
 (ZQ p0 p1).bind fun r1=>
 if (!r1) then
  (some (p0,false):Option (ByteArray×Bool))
 else
 (ZhC p0 (p1.size:Int) (p0.size:Int)).bind fun l2=>
 (some (l2,true):Option (ByteArray×Bool))
theorem Zcx (p0:ByteArray) (p1:ByteArray) (r:ByteArray×Bool) (h:ZaK p0 p1=some r):Zd Tryz.prog 258 [.str p0,.str p1] (.tup [.str r.1,.bool r.2]):=by
 refine cF (fun r=>.tup [.str r.1,.bool r.2]) h mix Tryz.func258 fun r h=>?_
 unfold ZaK at h
 refine Zj ?_
 refine rg ?_
 refine rg ?_
 refine aC h (Zat _ _) fun r1 h=>?_
 refine cS h rfl (fun h=>?_) fun h=>?_
 ·refine rg ?_
  cases h
  exact rQ
 refine rg ?_
 refine sS h fun l2 h=>?_
 cases h
 exact rQ
def ZbO (p0:ByteArray) (p1:ByteArray):Option (ByteArray×Bool):=
 (ZaK p0 p1).bind fun r1=>
 (some (r1.1,r1.2):Option (ByteArray×Bool))
theorem ZdQ (p0:ByteArray) (p1:ByteArray) (r:ByteArray×Bool) (h:ZbO p0 p1=some r):Zd Tryz.prog 174 [.str p0,.str p1] (.tup [.str r.1,.bool r.2]):=by
 refine cF (fun r=>.tup [.str r.1,.bool r.2]) h mix Tryz.func174 fun r h=>?_
 unfold ZbO at h
 refine Zj ?_
 refine rg ?_
 refine rg ?_
 refine aC h (Zcx _ _) fun r1 h=>?_
 cases h
 exact rQ
def Zea (p0:ByteArray):Option ByteArray:=
 (ZeF p0 (⟨#[9,10,13,32]⟩:ByteArray)).bind fun r1=>
 (some r1:Option ByteArray)
theorem Zf0 (p0:ByteArray) (r:ByteArray) (h:Zea p0=some r):Zd Tryz.prog 257 [.str p0] (.str r):=by
 refine cF (fun r=>.str r) h mix Tryz.func257 fun r h=>?_
 unfold Zea at h
 refine Zj ?_
 refine rg ?_
 refine rg ?_
 refine aC h (ZiB _ _) fun r1 h=>?_
 cases h
 exact rQ
def ZgO (p0:ByteArray):Option Int:=
 Zas Zck (fun f12 (x58:Int)=>
  if (decide (x58<(p0.size:Int))) then
   letk (fun (x83:Bool)=>
    if x83 then
     (some x58:Option Int)
    else
    f12 (w64 (x58+1))) fun k14=>
   (atS p0 x58).bind fun c84=>
   if (decide (c84=124)) then
    k14 true
   else
   (atS p0 x58).bind fun c85=>
   if (decide (c85=93)) then
    if (decide ((w64 (x58+1))<(p0.size:Int))) then
     (atS p0 (w64 (x58+1))).bind fun c86=>
     k14 (decide (c86=93))
    else
    k14 false
   else
   k14 false
  else
  (some (-1):Option Int)) 0
theorem ZiZ (p0:ByteArray) (r:Int) (h:ZgO p0=some r):Zd Tryz.prog 176 [.str p0] (.int .i64 r):=by
 refine cF (fun r=>.int .i64 r) h mix Tryz.func176 fun r h=>?_
 unfold ZgO at h
 refine Zj ?_
 refine rg ?_
 refine rg ?_
 refine bl ?_
 refine Zu h fun f12 mf12 hf12 h=>?_
 refine Zq (α:=Nat×Int) (fun a _=>mkS [(0,.str p0),(5,.int .i64 (p0.size:Int)),(6,.int .i64 a.2)] [] 2) (fun a=>Zas a.1 f12 a.2=some r) (fun a=>a.1) (mf12,0) 2 h (sR []) (fun a _ h=>?_)
 obtain ⟨mf12,x58⟩:=a
 obtain ⟨mf12,rfl,h⟩:=Zv hf12 h
 dsimp only at h ⊢
 refine Zj ?_
 refine rg ?_
 refine cS h rfl (fun h=>?_) fun h=>?_
 ·refine bl ?_
  refine rg ?_
  refine jL h (fun x83=>mkS [(0,.str p0),(3,.int .i64 x58),(5,.int .i64 (p0.size:Int)),(6,.int .i64 x58),(32,.bool x83)] [] 2) (fun k14 h=>?_) fun x83 h=>?_
  ·refine rg ?_
   refine aS h fun c84 h=>?_
   refine kS 13 h rfl (fun h=>?_) fun h=>?_
   ·iterate 18 refine ZI rfl (Zj ?_)
    exact jn true h (sR [])
   refine aS h fun c85 h=>?_
   refine kS 18 h rfl (fun h=>?_) fun h=>?_
   ·refine kS 25 h rfl (fun h=>?_) fun h=>?_
    ·refine aS h fun c86 h=>?_
     exact jn (decide (c86=93)) h (sR [])
    iterate 5 refine ZI rfl (Zj ?_)
    exact jn false h (sR [])
   iterate 10 refine ZI rfl (Zj ?_)
   exact jn false h (sR [])
  refine cS h rfl (fun h=>?_) fun h=>?_
  ·refine rg ?_
   cases h
   exact rQ
  refine rg ?_
  exact rn (mf12,(w64 (x58+1))) h (sR [])
 refine rg ?_
 cases h
 exact rQ
def Zev (p0:ByteArray):Option (Title×Int):=
 (strings_Cut p0 (⟨#[35]⟩:ByteArray)).bind fun r1=>
 (Zgn r1.1).bind fun r2=>
 (some (r2.1,r2.2):Option (Title×Int))
theorem Zfj (p0:ByteArray) (r:Title×Int) (h:Zev p0=some r):Zd Tryz.prog 178 [.str p0] (.tup [r.1.pv,.int .i64 r.2]):=by
 refine cF (fun r=>.tup [r.1.pv,.int .i64 r.2]) h mix Tryz.func178 fun r h=>?_
 unfold Zev at h
 refine Zj ?_
 refine rg ?_
 refine rg ?_
 refine aC h (ZgX _ _) fun r1 h=>?_
 refine rg ?_
 refine aC h (ZkJ _) fun r2 h=>?_
 cases h
 exact rQ
def ZeO (p0:ByteArray):Option ByteArray:=
 (atS p0 0).bind fun c1=>
 if (!decide (c1=124)) then
  (some (⟨#[]⟩:ByteArray):Option ByteArray)
 else
 (ZhC p0 1 (p0.size:Int)).bind fun l2=>
 (strings_Cut l2 (⟨#[93,93]⟩:ByteArray)).bind fun r3=>
 if (!r3.2.2) then
  (some (⟨#[]⟩:ByteArray):Option ByteArray)
 else
 (Zea r3.1).bind fun r4=>
 (some r4:Option ByteArray)
theorem Zi0 (p0:ByteArray) (r:ByteArray) (h:ZeO p0=some r):Zd Tryz.prog 255 [.str p0] (.str r):=by
 refine cF (fun r=>.str r) h mix Tryz.func255 fun r h=>?_
 unfold ZeO at h
 refine Zj ?_
 refine rg ?_
 refine rg ?_
 refine aS h fun c1 h=>?_
 refine cS h rfl (fun h=>?_) fun h=>?_
 ·refine rg ?_
  cases h
  exact rQ
 refine rg ?_
 refine sS h fun l2 h=>?_
 refine aC h (ZgX _ _) fun r3 h=>?_
 refine rg ?_
 refine cS h rfl (fun h=>?_) fun h=>?_
 ·refine rg ?_
  cases h
  exact rQ
 refine rg ?_
 refine aC h (Zf0 _) fun r4 h=>?_
 cases h
 exact rQ
def ZbU (p0:Finder) (p1:ByteArray):Option Finder:=
 Zas Zck (fun f5 ((x21,x22,x23):ByteArray×(List Link)×(List Memb))=>
  (strings_Index x21 (⟨#[91,91]⟩:ByteArray)).bind fun r44=>
  if (decide (r44<0)) then
   (some (⟨x22,x23⟩:Finder):Option Finder)
  else
  (ZhC x21 (w64 (r44+2)) (x21.size:Int)).bind fun l45=>
  (ZhC x21 (w64 (r44+1)) (x21.size:Int)).bind fun l46=>
  (ZgO l45).bind fun r47=>
  if (decide (r47<0)) then
   (some (⟨x22,x23⟩:Finder):Option Finder)
  else
  (ZhC l45 0 r47).bind fun l48=>
  letk (fun (x51:Bool)=>
   if x51 then
    f5 (l46,x22,x23)
   else
   (Zev l48).bind fun r52=>
   if (!decide (r52.2=0)) then
    f5 (l46,x22,x23)
   else
   letk (fun (x55:Bool)=>
    if x55 then
     (ZhC l45 r47 (l45.size:Int)).bind fun l56=>
     (ZeO l56).bind fun r57=>
     (ZfA 40 x23 [(⟨r52.1,r57⟩:Memb)]).bind fun l58=>
     f5 (l46,x22,l58)
    else
    (ZfA 32 x22 [(⟨1,r52.1⟩:Link)]).bind fun l59=>
    f5 (l46,l59,x23)) fun k7=>
   if (decide (r52.1.space=4)) then
    (ZbK l48 (⟨#[9,32,95]⟩:ByteArray)).bind fun r60=>
    (ZX r60 (⟨#[58]⟩:ByteArray)).bind fun r61=>
    k7 (!r61)
   else
   k7 false) fun k6=>
  (strings_Contains l48 (⟨#[91,91]⟩:ByteArray)).bind fun r62=>
  if r62 then
   k6 true
  else
  (strings_Contains l48 (⟨#[10]⟩:ByteArray)).bind fun r63=>
  k6 r63) (p1,p0.links,p0.members)
theorem Ze4 (p0:Finder) (p1:ByteArray) (r:Finder) (h:ZbU p0 p1=some r):ContractP Tryz.prog 172 [.ptr 0 (0,0) 0,.str p1] 0 [.row 185 3 false (List.map Link.cs p0.links),.row 32 3 false (List.map Memb.cs p0.members)] (.tup []) [.row 185 3 false (List.map Link.cs r.links),.row 32 3 false (List.map Memb.cs r.members)]:=by
 refine Zgl (R:=fun r=>.tup []) (O:=fun r=>[.row 185 3 false (List.map Link.cs r.links),.row 32 3 false (List.map Memb.cs r.members)]) h mix Tryz.func172 (by kernel_rfl) rfl (by kernel_rfl) rfl fun r h=>?_
 unfold ZbU at h
 refine Zj ?_
 refine bl ?_
 refine Zu h fun f5 mf5 hf5 h=>?_
 refine Zq (α:=Nat×(ByteArray×(List Link)×(List Memb))) (fun a _=>mkS [(0,.ptr 0 (0,0) 0),(1,.str a.2.1)] [(0,some ((0,0),.box [.row 1000 (1,1000),.row 1001 (1,1001)])),(1000,some ((1,1000),.row 185 3 false (List.map Link.cs a.2.2.1))),(1001,some ((1,1001),.row 32 3 false (List.map Memb.cs a.2.2.2)))] 2) (fun a=>Zas a.1 f5 a.2=some r) (fun a=>a.1) (mf5,p1,p0.links,p0.members) 2 h (sR [(1000,0,1000),(1001,0,1001)]) (fun a _ h=>?_)
 obtain ⟨mf5,x21,x22,x23⟩:=a
 obtain ⟨mf5,rfl,h⟩:=Zv hf5 h
 dsimp only at h ⊢
 refine Zj ?_
 refine bl ?_
 refine rg ?_
 refine aC h (ZdV _ _) fun r44 h=>?_
 refine rg ?_
 refine cS h rfl (fun h=>?_) fun h=>?_
 ·cases h
  exact Zru rfl rfl rfl rfl rfl rfl
 refine rg ?_
 refine sS h fun l45 h=>?_
 refine rg ?_
 refine sS h fun l46 h=>?_
 refine rg ?_
 refine aC h (ZiZ _) fun r47 h=>?_
 refine rg ?_
 refine cS h rfl (fun h=>?_) fun h=>?_
 ·cases h
  exact Zru rfl rfl rfl rfl rfl rfl
 refine rg ?_
 refine sS h fun l48 h=>?_
 refine jL h (fun x51=>mkS [(0,.ptr 0 (0,0) 0),(1,.str l46),(5,.str l45),(6,.int .i64 r47),(7,.str l48),(34,.bool x51)] [(0,some ((0,0),.box [.row 1000 (1,1000),.row 1001 (1,1001)])),(1000,some ((1,1000),.row 185 3 false (List.map Link.cs x22))),(1001,some ((1,1001),.row 32 3 false (List.map Memb.cs x23)))] 2) (fun k6 h=>?_) fun x51 h=>?_
 ·refine rg ?_
  refine aC h (ZbA _ _) fun r62 h=>?_
  refine kS 31 h rfl (fun h=>?_) fun h=>?_
  ·iterate 2 refine ZI rfl (Zj ?_)
   exact jn true h (sR [(1000,1,1000),(1001,1,1001)])
  refine aC h (ZbA _ _) fun r63 h=>?_
  exact jn r63 h (sR [(1000,1,1000),(1001,1,1001)])
 refine cS h rfl (fun h=>?_) fun h=>?_
 ·exact rn (mf5,l46,x22,x23) h (sR [(1000,1,1000),(1001,1,1001)])
 refine rg ?_
 refine aC h (Zfj _) fun r52 h=>?_
 refine rg ?_
 refine cS h rfl (fun h=>?_) fun h=>?_
 ·exact rn (mf5,l46,x22,x23) h (sR [(1000,1,1000),(1001,1,1001)])
 refine jL h (fun x55=>mkS [(0,.ptr 0 (0,0) 0),(1,.str l46),(5,.str l45),(6,.int .i64 r47),(8,.ptr 8 (1,8) 0),(50,.bool x55)] [(0,some ((0,0),.box [.row 1000 (1,1000),.row 1001 (1,1001)])),(8,some ((1,8),.box (Title.cs r52.1))),(1000,some ((1,1000),.row 185 3 false (List.map Link.cs x22))),(1001,some ((1,1001),.row 32 3 false (List.map Memb.cs x23)))] 2) (fun k7 h=>?_) fun x55 h=>?_
 ·refine rg ?_
  refine kS 45 h rfl (fun h=>?_) fun h=>?_
  ·refine aC h (ZdG _ _) fun r60 h=>?_
   refine aC h (ZZ _ _) fun r61 h=>?_
   exact jn (!r61) h (sR [(8,2,5),(1000,1,1000),(1001,1,1001)])
  iterate 4 refine ZI rfl (Zj ?_)
  exact jn false h (sR [(8,2,5),(1000,1,1000),(1001,1,1001)])
 refine cS h rfl (fun h=>?_) fun h=>?_
 ·refine rg ?_
  refine sS h fun l56 h=>?_
  refine aC h (Zi0 _) fun r57 h=>?_
  refine Zaw (M:=([(⟨r52.1,r57⟩:Memb)]:List Memb)) (f:=Memb.cs) rfl rfl rfl rfl (Nat.le_of_ble_eq_true rfl) rfl (Zj ?_)
  refine pR Memb.cs h fun l58 h=>?_
  exact rn (mf5,l46,x22,l58) h (sR [(1000,1,1000),(1001,2,12)])
 refine rg ?_
 refine Zaw (M:=([(⟨1,r52.1⟩:Link)]:List Link)) (f:=Link.cs) rfl rfl rfl rfl (Nat.le_of_ble_eq_true rfl) rfl (Zj ?_)
 refine pR Link.cs h fun l59 h=>?_
 exact rn (mf5,l46,l59,x23) h (sR [(1000,2,8),(1001,1,1001)])
def Zel (p0:ByteArray):Option (Title×Bool):=
 (ZbO p0 (⟨#[35,82,69,68,73,82,69,67,84]⟩:ByteArray)).bind fun r1=>
 if (!r1.2) then
  (some ((⟨0,(⟨#[]⟩:ByteArray)⟩:Title),false):Option (Title×Bool))
 else
 (ZbK r1.1 (⟨#[32,9]⟩:ByteArray)).bind fun r2=>
 (ZbO r2 (⟨#[91,91]⟩:ByteArray)).bind fun r3=>
 (ZgO r3.1).bind fun r4=>
 letk (fun (x9:Bool)=>
  if x9 then
   (some ((⟨0,(⟨#[]⟩:ByteArray)⟩:Title),false):Option (Title×Bool))
  else
  (ZhC r3.1 0 r4).bind fun l10=>
  (Zev l10).bind fun r11=>
  (some (r11.1,(decide (r11.2=0))):Option (Title×Bool))) fun k1=>
 if (!r3.2) then
  k1 true
 else
 if (decide (r4<0)) then
  k1 true
 else
 (ZhC r3.1 0 r4).bind fun l12=>
 (strings_Contains l12 (⟨#[91,91]⟩:ByteArray)).bind fun r13=>
 if r13 then
  k1 true
 else
 (ZhC r3.1 0 r4).bind fun l14=>
 (strings_Contains l14 (⟨#[10]⟩:ByteArray)).bind fun r15=>
 k1 r15
theorem ZhY (p0:ByteArray) (r:Title×Bool) (h:Zel p0=some r):Zd Tryz.prog 108 [.str p0] (.tup [r.1.pv,.bool r.2]):=by
 refine cF (fun r=>.tup [r.1.pv,.bool r.2]) h mix Tryz.func108 fun r h=>?_
 unfold Zel at h
 refine Zj ?_
 refine rg ?_
 refine rg ?_
 refine aC h (ZdQ _ _) fun r1 h=>?_
 refine rg ?_
 refine cS h rfl (fun h=>?_) fun h=>?_
 ·refine rg ?_
  cases h
  exact rQ
 refine rg ?_
 refine aC h (ZdG _ _) fun r2 h=>?_
 refine aC h (ZdQ _ _) fun r3 h=>?_
 refine rg ?_
 refine aC h (ZiZ _) fun r4 h=>?_
 refine jL h (fun x9=>mkS [(2,.ptr 2 (1,2) 0),(4,.str r3.1),(6,.int .i64 r4),(42,.bool x9)] [(2,some ((1,2),.box [.int .i64 0,.str (⟨#[]⟩:ByteArray)]))] 2) (fun k1 h=>?_) fun x9 h=>?_
 ·refine rg ?_
  refine kS 27 h rfl (fun h=>?_) fun h=>?_
  ·iterate 10 refine ZI rfl (Zj ?_)
   exact jn true h (sR [(2,1,0)])
  refine kS 31 h rfl (fun h=>?_) fun h=>?_
  ·iterate 8 refine ZI rfl (Zj ?_)
   exact jn true h (sR [(2,1,0)])
  refine sS h fun l12 h=>?_
  refine aC h (ZbA _ _) fun r13 h=>?_
  refine kS 37 h rfl (fun h=>?_) fun h=>?_
  ·iterate 4 refine ZI rfl (Zj ?_)
   exact jn true h (sR [(2,1,0)])
  refine sS h fun l14 h=>?_
  refine aC h (ZbA _ _) fun r15 h=>?_
  exact jn r15 h (sR [(2,1,0)])
 refine cS h rfl (fun h=>?_) fun h=>?_
 ·refine rg ?_
  cases h
  exact rQ
 refine rg ?_
 refine sS h fun l10 h=>?_
 refine aC h (Zfj _) fun r11 h=>?_
 refine rg ?_
 cases h
 exact rQ
end Go.Proofs.YtjblgpmagampbaaGreatDoor

namespace Go.Proofs.YtjblgpmagampbaaGreatDoor
open VL Go.RowKit
def strings_Compare (a b:ByteArray):Option Int:=some (Lib.compareBytes a.data.toList b.data.toList)
theorem Zhe (a b:ByteArray) (r:Int) (h:strings_Compare a b=some r):Zd Tryz.prog 103 [.str a,.str b] (.int .i64 r):=by
 unfold strings_Compare at h
 cases h
 exact Zan (vals:=[.string a,.string b]) (by kernel_rfl) rfl rfl (fun x=>.int _ _) fun w hw=>(ZjU a b w).mono fun e w' ⟨h1,h2⟩=>⟨h1,by rw [← h2];exact Below.refl _ _⟩
end Go.Proofs.YtjblgpmagampbaaGreatDoor
