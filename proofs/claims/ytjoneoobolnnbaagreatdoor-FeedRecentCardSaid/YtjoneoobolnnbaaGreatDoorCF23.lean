/- Functions of the program as Lean functions. Written by fxgen.py. -/
import Derived.Test.YtjoneoobolnnbaaGreatDoorCF22
import Derived.Test.YtjoneoobolnnbaaGreatDoorCF04
set_option linter.unusedVariables false
set_option maxHeartbeats 4000000
set_option maxRecDepth 100000
namespace Go.Proofs.YtjoneoobolnnbaaGreatDoor
open VL
def ZiR (p0:ByteArray) (p1:Int):Option ByteArray:=
 ZK Zax (fun f42 ((x163,x164):ByteArray×Int)=>
  if (decide (x164<p1)) then
   (Zha x163).bind fun r225=>
   ZK Zax (fun f49 (x232:ByteArray)=>
    letk (fun (x241:Bool)=>
     if x241 then
      (ZfF x232 1 (x232.size:Int)).bind fun l242=>
      f49 l242
     else
     f42 (x232,(w64 (x164+1)))) fun k50=>
    if (decide (0<(x232.size:Int))) then
     (atS x232 0).bind fun c243=>
     if (!decide (c243=9)) then
      (atS x232 0).bind fun c244=>
      k50 (!decide (c244=32))
     else
     k50 false
    else
    k50 false) r225
  else
  (Zha x163).bind fun r245=>
  (some r245:Option ByteArray)) (p0,0)
theorem ZkC (p0:ByteArray) (p1:Int) (r:ByteArray) (hF:ZiR p0 p1=some r):Zb Tryz.prog 189 [.str p0,.int .i64 p1] (.str r):=by
 refine cF (fun r=>.str r) hF mix Tryz.func189 fun r hF=>?_
 unfold ZiR at hF
 refine Za ?_
 refine rg ?_
 refine rg ?_
 refine bl ?_
 refine Zn hF fun f42 mf42 hf42 hF=>?_
 refine Zl (α:=Nat×(ByteArray×Int)) (fun a _=>mkS [(0,.str a.2.1),(1,.int .i64 p1),(5,.int .i64 a.2.2)] [] 2) (fun a=>ZK a.1 f42 a.2=some r) (fun a=>a.1) (mf42,p0,0) 2 hF (sR []) (fun a _ hF=>?_)
 obtain ⟨mf42,x163,x164⟩:=a
 obtain ⟨mf42,rfl,hF⟩:=Zo hf42 hF
 dsimp only at hF ⊢
 refine Za ?_
 refine rg ?_
 refine cS hF rfl (fun hF=>?_) fun hF=>?_
 ·refine bl ?_
  refine rg ?_
  obtain ⟨r225,h177,hF⟩:=bnd hF
  refine Zf (Zf8 _ _ h177) rfl rfl (Za ?_)
  refine bl ?_
  refine Zn hF fun f49 mf49 hf49 hF=>?_
  refine Zl (α:=Nat×ByteArray) (fun a _=>mkS [(0,.str a.2),(1,.int .i64 p1),(5,.int .i64 x164)] [] 2) (fun a=>ZK a.1 f49 a.2=some r) (fun a=>a.1) (mf49,r225) 2 hF (sR []) (fun a _ hF=>?_)
  obtain ⟨mf49,x232⟩:=a
  obtain ⟨mf49,rfl,hF⟩:=Zo hf49 hF
  dsimp only at hF ⊢
  refine Za ?_
  refine jL hF (fun x241=>mkS [(0,.str x232),(1,.int .i64 p1),(5,.int .i64 x164),(25,.bool x241)] [] 2) (fun k50 hF=>?_) fun x241 hF=>?_
  ·refine rg ?_
   refine kS 16 hF rfl (fun hF=>?_) fun hF=>?_
   ·obtain ⟨c243,h191,hF⟩:=bnd hF
    refine ZI StrT.eq rfl h191 rfl rfl (Za ?_)
    refine kS 21 hF rfl (fun hF=>?_) fun hF=>?_
    ·obtain ⟨c244,h192,hF⟩:=bnd hF
     refine ZI StrT.eq rfl h192 rfl rfl (Za ?_)
     exact jn (!decide (c244=32)) hF (sR [])
    iterate 3 refine Zh rfl (Za ?_)
    exact jn false hF (sR [])
   iterate 6 refine Zh rfl (Za ?_)
   exact jn false hF (sR [])
  refine cS hF rfl (fun hF=>?_) fun hF=>?_
  ·refine bl ?_
   refine rg ?_
   obtain ⟨l242,h190,hF⟩:=bnd hF
   refine ZN StrT.eq rfl h190 rfl rfl rfl (Za ?_)
   exact rn (mf49,l242) hF (sR [])
  refine rg ?_
  exact rn (mf42,x232,(w64 (x164+1))) hF (sR [])
 refine rg ?_
 obtain ⟨r245,h193,hF⟩:=bnd hF
 refine Zf (Zf8 _ _ h193) rfl rfl (Za ?_)
 cases hF
 exact rQ
def Zjd (p0:ByteArray):Option ByteArray:=
 ZK Zax (fun f27 ((x55,x56):ByteArray×Int)=>
  if (decide (x56<(p0.size:Int))) then
   letk (fun (x76:ByteArray)=>
    f27 (x76,(w64 (x56+1)))) fun k30=>
   (ZfF p0 x56 (w64 (x56+1))).bind fun l77=>
   letk (fun (x78:ByteArray)=>
    letk (fun (x80:Bool)=>
     if x80 then
      k30 x55
     else
     (Zl7 x55 x78).bind fun s81=>
     k30 s81) fun k32=>
    if (decide (x78=(⟨#[32]⟩:ByteArray))) then
     if (decide (x55=(⟨#[]⟩:ByteArray))) then
      k32 true
     else
     (atS x55 (w64 ((x55.size:Int) - 1))).bind fun c82=>
     k32 (decide (c82=32))
    else
    k32 false) fun k31=>
   if (decide (l77=(⟨#[95]⟩:ByteArray))) then
    k31 (⟨#[32]⟩:ByteArray)
   else
   k31 l77
  else
  letk (fun (x84:Bool)=>
   letk (fun (x86:ByteArray)=>
    (some x86:Option ByteArray)) fun k34=>
   if x84 then
    (ZfF x55 0 (w64 ((x55.size:Int) - 1))).bind fun l87=>
    k34 l87
   else
   k34 x55) fun k33=>
  if (decide (0<(x55.size:Int))) then
   (atS x55 (w64 ((x55.size:Int) - 1))).bind fun c88=>
   k33 (decide (c88=32))
  else
  k33 false) ((⟨#[]⟩:ByteArray),0)
theorem Znn (p0:ByteArray) (r:ByteArray) (hF:Zjd p0=some r):Zb Tryz.prog 256 [.str p0] (.str r):=by
 refine cF (fun r=>.str r) hF mix Tryz.func256 fun r hF=>?_
 unfold Zjd at hF
 refine Za ?_
 refine rg ?_
 refine rg ?_
 refine rg ?_
 refine bl ?_
 refine Zn hF fun f27 mf27 hf27 hF=>?_
 refine Zl (α:=Nat×(ByteArray×Int)) (fun a _=>mkS [(0,.str p0),(3,.str a.2.1),(4,.int .i64 a.2.2)] [] 2) (fun a=>ZK a.1 f27 a.2=some r) (fun a=>a.1) (mf27,(⟨#[]⟩:ByteArray),0) 2 hF (sR []) (fun a _ hF=>?_)
 obtain ⟨mf27,x55,x56⟩:=a
 obtain ⟨mf27,rfl,hF⟩:=Zo hf27 hF
 dsimp only at hF ⊢
 refine Za ?_
 refine rg ?_
 refine cS hF rfl (fun hF=>?_) fun hF=>?_
 ·refine jL hF (fun x76=>mkS [(0,.str p0),(3,.str x76),(4,.int .i64 x56)] [] 2) (fun k30 hF=>?_) fun x76 hF=>?_
  ·refine bl ?_
   refine rg ?_
   obtain ⟨l77,h45,hF⟩:=bnd hF
   refine ZN StrT.eq rfl h45 rfl rfl rfl (Za ?_)
   refine rg ?_
   refine jL hF (fun x78=>mkS [(0,.str p0),(3,.str x55),(4,.int .i64 x56),(5,.str x78)] [] 2) (fun k31 hF=>?_) fun x78 hF=>?_
   ·refine cS hF rfl (fun hF=>?_) fun hF=>?_
    ·refine rg ?_
     exact jn (⟨#[32]⟩:ByteArray) hF (sR [])
    exact jn l77 hF (sR [])
   refine jL hF (fun x80=>mkS [(0,.str p0),(3,.str x55),(4,.int .i64 x56),(5,.str x78),(32,.bool x80)] [] 2) (fun k32 hF=>?_) fun x80 hF=>?_
   ·refine rg ?_
    refine kS 21 hF rfl (fun hF=>?_) fun hF=>?_
    ·refine kS 24 hF rfl (fun hF=>?_) fun hF=>?_
     ·iterate 6 refine Zh rfl (Za ?_)
      exact jn true hF (sR [])
     obtain ⟨c82,h48,hF⟩:=bnd hF
     refine ZI StrT.eq rfl h48 rfl rfl (Za ?_)
     exact jn (decide (c82=32)) hF (sR [])
    iterate 10 refine Zh rfl (Za ?_)
    exact jn false hF (sR [])
   refine cS hF rfl (fun hF=>?_) fun hF=>?_
   ·exact jn x55 hF (sR [])
   refine rg ?_
   obtain ⟨s81,h47,hF⟩:=bnd hF
   refine Zes rfl h47 rfl rfl (Za ?_)
   exact jn s81 hF (sR [])
  refine rg ?_
  exact rn (mf27,x76,(w64 (x56+1))) hF (sR [])
 refine jL hF (fun x84=>mkS [(3,.str x55),(46,.bool x84)] [] 2) (fun k33 hF=>?_) fun x84 hF=>?_
 ·refine rg ?_
  refine kS 39 hF rfl (fun hF=>?_) fun hF=>?_
  ·obtain ⟨c88,h52,hF⟩:=bnd hF
   refine ZI StrT.eq rfl h52 rfl rfl (Za ?_)
   exact jn (decide (c88=32)) hF (sR [])
  iterate 6 refine Zh rfl (Za ?_)
  exact jn false hF (sR [])
 refine jL hF (fun x86=>mkS [(3,.str x86)] [] 2) (fun k34 hF=>?_) fun x86 hF=>?_
 ·refine cS hF rfl (fun hF=>?_) fun hF=>?_
  ·refine rg ?_
   obtain ⟨l87,h51,hF⟩:=bnd hF
   refine ZN StrT.eq rfl h51 rfl rfl rfl (Za ?_)
   exact jn l87 hF (sR [])
  exact jn x55 hF (sR [])
 refine rg ?_
 cases hF
 exact rQ
def ZgW (p0:ByteArray):Option Bool:=
 letk (fun (x1:Bool)=>
  (some x1:Option Bool)) fun k1=>
 if (decide (p0=(⟨#[97,108,108]⟩:ByteArray))) then
  k1 true
 else
 k1 (decide (p0=(⟨#[117,115,101,114,115]⟩:ByteArray)))
theorem Zlc (p0:ByteArray) (r:Bool) (hF:ZgW p0=some r):Zb Tryz.prog 230 [.str p0] (.bool r):=by
 refine cF (fun r=>.bool r) hF mix Tryz.func230 fun r hF=>?_
 unfold ZgW at hF
 refine Za ?_
 refine rg ?_
 refine jL hF (fun x1=>mkS [(2,.bool x1)] [] 2) (fun k1 hF=>?_) fun x1 hF=>?_
 ·refine rg ?_
  refine kS 5 hF rfl (fun hF=>?_) fun hF=>?_
  ·iterate 2 refine Zh rfl (Za ?_)
   exact jn true hF (sR [])
  exact jn (decide (p0=(⟨#[117,115,101,114,115]⟩:ByteArray))) hF (sR [])
 cases hF
 exact rQ
def ZdI (p0:List Group) (p1:ByteArray):Option Bool:=
 ZK Zax (fun f2 (x10:Int)=>
  if (decide (x10<(p0.length:Int))) then
   (atI p0 x10).bind fun e14=>
   if (decide (e14.name=p1)) then
    (some true:Option Bool)
   else
   f2 (w64 (x10+1))
  else
  (ZgW p1).bind fun r15=>
  (some r15:Option Bool)) 0
theorem Zef (p0:List Group) (p1:ByteArray) (r:Bool) (hF:ZdI p0 p1=some r):Zb Tryz.prog 192 [.sl (List.map Group.cs p0),.str p1] (.bool r):=by
 refine cF (fun r=>.bool r) hF mix Tryz.func192 fun r hF=>?_
 unfold ZdI at hF
 refine Za ?_
 refine rg ?_
 refine rg ?_
 refine bl ?_
 refine Zn hF fun f2 mf2 hf2 hF=>?_
 refine Zl (α:=Nat×Int) (fun a _=>mkS [(0,.sl (List.map Group.cs p0)),(1,.str p1),(5,.int .i64 a.2)] [] 2) (fun a=>ZK a.1 f2 a.2=some r) (fun a=>a.1) (mf2,0) 2 hF (sR []) (fun a _ hF=>?_)
 obtain ⟨mf2,x10⟩:=a
 obtain ⟨mf2,rfl,hF⟩:=Zo hf2 hF
 dsimp only at hF ⊢
 refine Za ?_
 refine rg ?_
 refine Zr rfl (M:=p0) (f:=Group.cs) rfl (Za ?_)
 refine cS hF rfl (fun hF=>?_) fun hF=>?_
 ·refine bl ?_
  refine rg ?_
  obtain ⟨e14,h12,hF⟩:=bnd hF
  refine Zk (f:=Group.cs) rfl h12 rfl rfl rfl (Za ?_)
  refine cS hF rfl (fun hF=>?_) fun hF=>?_
  ·refine rg ?_
   cases hF
   exact rQ
  refine rg ?_
  exact rn (mf2,(w64 (x10+1))) hF (sR [])
 refine rg ?_
 obtain ⟨r15,h13,hF⟩:=bnd hF
 refine Zf (Zlc _ _ h13) rfl rfl (Za ?_)
 cases hF
 exact rQ
def Ze2 (p0:ByteArray):Option Bool:=
 letk (fun (x2:Bool)=>
  if x2 then
   (some false:Option Bool)
  else
  letk (fun (x5:Bool)=>
   (some x5:Option Bool)) fun k2=>
  (Zgx p0 (⟨#[10]⟩:ByteArray) 0).bind fun r6=>
  if (decide (r6<0)) then
   (Zgx p0 (⟨#[124]⟩:ByteArray) 0).bind fun r7=>
   k2 (decide (r7<0))
  else
  k2 false) fun k1=>
 if (decide (100<(p0.size:Int))) then
  k1 true
 else
 (Zha p0).bind fun r8=>
 k1 (!decide (r8=p0))
theorem Zje (p0:ByteArray) (r:Bool) (hF:Ze2 p0=some r):Zb Tryz.prog 194 [.str p0] (.bool r):=by
 refine cF (fun r=>.bool r) hF mix Tryz.func194 fun r hF=>?_
 unfold Ze2 at hF
 refine Za ?_
 refine rg ?_
 refine jL hF (fun x2=>mkS [(0,.str p0),(11,.bool x2)] [] 2) (fun k1 hF=>?_) fun x2 hF=>?_
 ·refine rg ?_
  refine kS 6 hF rfl (fun hF=>?_) fun hF=>?_
  ·iterate 4 refine Zh rfl (Za ?_)
   exact jn true hF (sR [])
  obtain ⟨r8,h6,hF⟩:=bnd hF
  refine Zf (Zf8 _ _ h6) rfl rfl (Za ?_)
  exact jn (!decide (r8=p0)) hF (sR [])
 refine cS hF rfl (fun hF=>?_) fun hF=>?_
 ·refine rg ?_
  cases hF
  exact rQ
 refine jL hF (fun x5=>mkS [(2,.bool x5)] [] 2) (fun k2 hF=>?_) fun x5 hF=>?_
 ·refine rg ?_
  obtain ⟨r6,h4,hF⟩:=bnd hF
  refine Zf (Zgy _ _ _ _ h4) rfl rfl (Za ?_)
  refine kS 15 hF rfl (fun hF=>?_) fun hF=>?_
  ·obtain ⟨r7,h5,hF⟩:=bnd hF
   refine Zf (Zgy _ _ _ _ h5) rfl rfl (Za ?_)
   exact jn (decide (r7<0)) hF (sR [])
  iterate 3 refine Zh rfl (Za ?_)
  exact jn false hF (sR [])
 cases hF
 exact rQ
end Go.Proofs.YtjoneoobolnnbaaGreatDoor
