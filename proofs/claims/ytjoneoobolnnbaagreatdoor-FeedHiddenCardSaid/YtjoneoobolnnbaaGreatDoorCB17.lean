/- Functions of the program as Lean functions. Written by fxgen.py. -/
import Derived.Test.YtjoneoobolnnbaaGreatDoorCB16
import Derived.Test.YtjoneoobolnnbaaGreatDoorCB04
set_option linter.unusedVariables false
set_option maxHeartbeats 4000000
set_option maxRecDepth 100000
namespace Go.Proofs.YtjoneoobolnnbaaGreatDoor
open VL
def Zlw (p0:ByteArray) (p1:Int):Option ByteArray:=
 ZE Zaj (fun f42 ((x163,x164):ByteArray×Int)=>
  if (decide (x164<p1)) then
   (Zjp x163).bind fun r225=>
   ZE Zaj (fun f49 (x232:ByteArray)=>
    letk (fun (x241:Bool)=>
     if x241 then
      (Zge x232 1 (x232.size:Int)).bind fun l242=>
      f49 l242
     else
     f42 (x232,(w64 (x164+1)))) fun k50=>
    if (decide (0<(x232.size:Int))) then
     (atS x232 0).bind fun c243=>
     if (!decide (c243=9)) then
      (atS x232 0).bind fun c244=>
      k50 (!decide (c244=32))
     else
     k50 false
    else
    k50 false) r225
  else
  (Zjp x163).bind fun r245=>
  (some r245:Option ByteArray)) (p0,0)
theorem Znx (p0:ByteArray) (p1:Int) (r:ByteArray) (h:Zlw p0 p1=some r):Zd Tryz.prog 189 [.str p0,.int .i64 p1] (.str r):=by
 refine cF (fun r=>.str r) h mix Tryz.func189 fun r h=>?_
 unfold Zlw at h
 refine Zh ?_
 refine rg ?_
 refine rg ?_
 refine bl ?_
 refine Zn h fun f42 mf42 hf42 h=>?_
 refine Zk (α:=Nat×(ByteArray×Int)) (fun a _=>mkS [(0,.str a.2.1),(1,.int .i64 p1),(5,.int .i64 a.2.2)] [] 2) (fun a=>ZE a.1 f42 a.2=some r) (fun a=>a.1) (mf42,p0,0) 2 h (sR []) (fun a _ h=>?_)
 obtain ⟨mf42,x163,x164⟩:=a
 obtain ⟨mf42,rfl,h⟩:=Zo hf42 h
 dsimp only at h ⊢
 refine Zh ?_
 refine rg ?_
 refine cS h rfl (fun h=>?_) fun h=>?_
 ·refine bl ?_
  refine rg ?_
  refine aC h (Zh9 _) fun r225 h=>?_
  refine bl ?_
  refine Zn h fun f49 mf49 hf49 h=>?_
  refine Zk (α:=Nat×ByteArray) (fun a _=>mkS [(0,.str a.2),(1,.int .i64 p1),(5,.int .i64 x164)] [] 2) (fun a=>ZE a.1 f49 a.2=some r) (fun a=>a.1) (mf49,r225) 2 h (sR []) (fun a _ h=>?_)
  obtain ⟨mf49,x232⟩:=a
  obtain ⟨mf49,rfl,h⟩:=Zo hf49 h
  dsimp only at h ⊢
  refine Zh ?_
  refine jL h (fun x241=>mkS [(0,.str x232),(1,.int .i64 p1),(5,.int .i64 x164),(25,.bool x241)] [] 2) (fun k50 h=>?_) fun x241 h=>?_
  ·refine rg ?_
   refine kS 16 h rfl (fun h=>?_) fun h=>?_
   ·refine aS h fun c243 h=>?_
    refine kS 21 h rfl (fun h=>?_) fun h=>?_
    ·refine aS h fun c244 h=>?_
     exact jn (!decide (c244=32)) h (sR [])
    iterate 3 refine Zi rfl (Zh ?_)
    exact jn false h (sR [])
   iterate 6 refine Zi rfl (Zh ?_)
   exact jn false h (sR [])
  refine cS h rfl (fun h=>?_) fun h=>?_
  ·refine bl ?_
   refine rg ?_
   refine sS h fun l242 h=>?_
   exact rn (mf49,l242) h (sR [])
  refine rg ?_
  exact rn (mf42,x232,(w64 (x164+1))) h (sR [])
 refine rg ?_
 refine aC h (Zh9 _) fun r245 h=>?_
 cases h
 exact rQ
def Zl6 (p0:ByteArray):Option ByteArray:=
 ZE Zaj (fun f27 ((x55,x56):ByteArray×Int)=>
  if (decide (x56<(p0.size:Int))) then
   letk (fun (x76:ByteArray)=>
    f27 (x76,(w64 (x56+1)))) fun k30=>
   (Zge p0 x56 (w64 (x56+1))).bind fun l77=>
   letk (fun (x78:ByteArray)=>
    letk (fun (x80:Bool)=>
     if x80 then
      k30 x55
     else
     (Zns x55 x78).bind fun s81=>
     k30 s81) fun k32=>
    if (decide (x78=(⟨#[32]⟩:ByteArray))) then
     if (decide (x55=(⟨#[]⟩:ByteArray))) then
      k32 true
     else
     (atS x55 (w64 ((x55.size:Int) - 1))).bind fun c82=>
     k32 (decide (c82=32))
    else
    k32 false) fun k31=>
   if (decide (l77=(⟨#[95]⟩:ByteArray))) then
    k31 (⟨#[32]⟩:ByteArray)
   else
   k31 l77
  else
  letk (fun (x84:Bool)=>
   letk (fun (x86:ByteArray)=>
    (some x86:Option ByteArray)) fun k34=>
   if x84 then
    (Zge x55 0 (w64 ((x55.size:Int) - 1))).bind fun l87=>
    k34 l87
   else
   k34 x55) fun k33=>
  if (decide (0<(x55.size:Int))) then
   (atS x55 (w64 ((x55.size:Int) - 1))).bind fun c88=>
   k33 (decide (c88=32))
  else
  k33 false) ((⟨#[]⟩:ByteArray),0)
theorem ZqA (p0:ByteArray) (r:ByteArray) (h:Zl6 p0=some r):Zd Tryz.prog 256 [.str p0] (.str r):=by
 refine cF (fun r=>.str r) h mix Tryz.func256 fun r h=>?_
 unfold Zl6 at h
 refine Zh ?_
 refine rg ?_
 refine rg ?_
 refine rg ?_
 refine bl ?_
 refine Zn h fun f27 mf27 hf27 h=>?_
 refine Zk (α:=Nat×(ByteArray×Int)) (fun a _=>mkS [(0,.str p0),(3,.str a.2.1),(4,.int .i64 a.2.2)] [] 2) (fun a=>ZE a.1 f27 a.2=some r) (fun a=>a.1) (mf27,(⟨#[]⟩:ByteArray),0) 2 h (sR []) (fun a _ h=>?_)
 obtain ⟨mf27,x55,x56⟩:=a
 obtain ⟨mf27,rfl,h⟩:=Zo hf27 h
 dsimp only at h ⊢
 refine Zh ?_
 refine rg ?_
 refine cS h rfl (fun h=>?_) fun h=>?_
 ·refine jL h (fun x76=>mkS [(0,.str p0),(3,.str x76),(4,.int .i64 x56)] [] 2) (fun k30 h=>?_) fun x76 h=>?_
  ·refine bl ?_
   refine rg ?_
   refine sS h fun l77 h=>?_
   refine rg ?_
   refine jL h (fun x78=>mkS [(0,.str p0),(3,.str x55),(4,.int .i64 x56),(5,.str x78)] [] 2) (fun k31 h=>?_) fun x78 h=>?_
   ·refine cS h rfl (fun h=>?_) fun h=>?_
    ·refine rg ?_
     exact jn (⟨#[32]⟩:ByteArray) h (sR [])
    exact jn l77 h (sR [])
   refine jL h (fun x80=>mkS [(0,.str p0),(3,.str x55),(4,.int .i64 x56),(5,.str x78),(32,.bool x80)] [] 2) (fun k32 h=>?_) fun x80 h=>?_
   ·refine rg ?_
    refine kS 21 h rfl (fun h=>?_) fun h=>?_
    ·refine kS 24 h rfl (fun h=>?_) fun h=>?_
     ·iterate 6 refine Zi rfl (Zh ?_)
      exact jn true h (sR [])
     refine aS h fun c82 h=>?_
     exact jn (decide (c82=32)) h (sR [])
    iterate 10 refine Zi rfl (Zh ?_)
    exact jn false h (sR [])
   refine cS h rfl (fun h=>?_) fun h=>?_
   ·exact jn x55 h (sR [])
   refine rg ?_
   refine sT h fun s81 h=>?_
   exact jn s81 h (sR [])
  refine rg ?_
  exact rn (mf27,x76,(w64 (x56+1))) h (sR [])
 refine jL h (fun x84=>mkS [(3,.str x55),(46,.bool x84)] [] 2) (fun k33 h=>?_) fun x84 h=>?_
 ·refine rg ?_
  refine kS 39 h rfl (fun h=>?_) fun h=>?_
  ·refine aS h fun c88 h=>?_
   exact jn (decide (c88=32)) h (sR [])
  iterate 6 refine Zi rfl (Zh ?_)
  exact jn false h (sR [])
 refine jL h (fun x86=>mkS [(3,.str x86)] [] 2) (fun k34 h=>?_) fun x86 h=>?_
 ·refine cS h rfl (fun h=>?_) fun h=>?_
  ·refine rg ?_
   refine sS h fun l87 h=>?_
   exact jn l87 h (sR [])
  exact jn x55 h (sR [])
 refine rg ?_
 cases h
 exact rQ
def Zi7 (p0:ByteArray):Option Bool:=
 letk (fun (x1:Bool)=>
  (some x1:Option Bool)) fun k1=>
 if (decide (p0=(⟨#[97,108,108]⟩:ByteArray))) then
  k1 true
 else
 k1 (decide (p0=(⟨#[117,115,101,114,115]⟩:ByteArray)))
theorem Zoa (p0:ByteArray) (r:Bool) (h:Zi7 p0=some r):Zd Tryz.prog 230 [.str p0] (.bool r):=by
 refine cF (fun r=>.bool r) h mix Tryz.func230 fun r h=>?_
 unfold Zi7 at h
 refine Zh ?_
 refine rg ?_
 refine jL h (fun x1=>mkS [(2,.bool x1)] [] 2) (fun k1 h=>?_) fun x1 h=>?_
 ·refine rg ?_
  refine kS 5 h rfl (fun h=>?_) fun h=>?_
  ·iterate 2 refine Zi rfl (Zh ?_)
   exact jn true h (sR [])
  exact jn (decide (p0=(⟨#[117,115,101,114,115]⟩:ByteArray))) h (sR [])
 cases h
 exact rQ
def Zfe (p0:List Group) (p1:ByteArray):Option Bool:=
 ZE Zaj (fun f2 (x10:Int)=>
  if (decide (x10<(p0.length:Int))) then
   (atI p0 x10).bind fun e14=>
   if (decide (e14.name=p1)) then
    (some true:Option Bool)
   else
   f2 (w64 (x10+1))
  else
  (Zi7 p1).bind fun r15=>
  (some r15:Option Bool)) 0
theorem ZfO (p0:List Group) (p1:ByteArray) (r:Bool) (h:Zfe p0 p1=some r):Zd Tryz.prog 192 [.sl (List.map Group.cs p0),.str p1] (.bool r):=by
 refine cF (fun r=>.bool r) h mix Tryz.func192 fun r h=>?_
 unfold Zfe at h
 refine Zh ?_
 refine rg ?_
 refine rg ?_
 refine bl ?_
 refine Zn h fun f2 mf2 hf2 h=>?_
 refine Zk (α:=Nat×Int) (fun a _=>mkS [(0,.sl (List.map Group.cs p0)),(1,.str p1),(5,.int .i64 a.2)] [] 2) (fun a=>ZE a.1 f2 a.2=some r) (fun a=>a.1) (mf2,0) 2 h (sR []) (fun a _ h=>?_)
 obtain ⟨mf2,x10⟩:=a
 obtain ⟨mf2,rfl,h⟩:=Zo hf2 h
 dsimp only at h ⊢
 refine Zh ?_
 refine rg ?_
 refine lM Group.cs p0 ?_
 refine cS h rfl (fun h=>?_) fun h=>?_
 ·refine bl ?_
  refine rg ?_
  refine aI Group.cs h fun e14 h=>?_
  refine cS h rfl (fun h=>?_) fun h=>?_
  ·refine rg ?_
   cases h
   exact rQ
  refine rg ?_
  exact rn (mf2,(w64 (x10+1))) h (sR [])
 refine rg ?_
 refine aC h (Zoa _) fun r15 h=>?_
 cases h
 exact rQ
def ZgP (p0:ByteArray):Option Bool:=
 letk (fun (x2:Bool)=>
  if x2 then
   (some false:Option Bool)
  else
  letk (fun (x5:Bool)=>
   (some x5:Option Bool)) fun k2=>
  (ZiG p0 (⟨#[10]⟩:ByteArray) 0).bind fun r6=>
  if (decide (r6<0)) then
   (ZiG p0 (⟨#[124]⟩:ByteArray) 0).bind fun r7=>
   k2 (decide (r7<0))
  else
  k2 false) fun k1=>
 if (decide (100<(p0.size:Int))) then
  k1 true
 else
 (Zjp p0).bind fun r8=>
 k1 (!decide (r8=p0))
theorem Zl7 (p0:ByteArray) (r:Bool) (h:ZgP p0=some r):Zd Tryz.prog 194 [.str p0] (.bool r):=by
 refine cF (fun r=>.bool r) h mix Tryz.func194 fun r h=>?_
 unfold ZgP at h
 refine Zh ?_
 refine rg ?_
 refine jL h (fun x2=>mkS [(0,.str p0),(11,.bool x2)] [] 2) (fun k1 h=>?_) fun x2 h=>?_
 ·refine rg ?_
  refine kS 6 h rfl (fun h=>?_) fun h=>?_
  ·iterate 4 refine Zi rfl (Zh ?_)
   exact jn true h (sR [])
  refine aC h (Zh9 _) fun r8 h=>?_
  exact jn (!decide (r8=p0)) h (sR [])
 refine cS h rfl (fun h=>?_) fun h=>?_
 ·refine rg ?_
  cases h
  exact rQ
 refine jL h (fun x5=>mkS [(2,.bool x5)] [] 2) (fun k2 h=>?_) fun x5 h=>?_
 ·refine rg ?_
  refine aC h (ZiH _ _ _) fun r6 h=>?_
  refine kS 15 h rfl (fun h=>?_) fun h=>?_
  ·refine aC h (ZiH _ _ _) fun r7 h=>?_
   exact jn (decide (r7<0)) h (sR [])
  iterate 3 refine Zi rfl (Zh ?_)
  exact jn false h (sR [])
 cases h
 exact rQ
end Go.Proofs.YtjoneoobolnnbaaGreatDoor
