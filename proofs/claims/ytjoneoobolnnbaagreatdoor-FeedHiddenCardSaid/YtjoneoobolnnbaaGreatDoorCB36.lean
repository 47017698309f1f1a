/- Functions of the program as Lean functions. Written by fxgen.py. -/
import Derived.Test.YtjoneoobolnnbaaGreatDoorCB15
import Derived.Test.YtjoneoobolnnbaaGreatDoorCB23
import Derived.Test.YtjoneoobolnnbaaGreatDoorCB32
import Derived.Test.YtjoneoobolnnbaaGreatDoorCB21
import Derived.Test.YtjoneoobolnnbaaGreatDoorCB04
set_option linter.unusedVariables false
set_option maxHeartbeats 4000000
set_option maxRecDepth 100000
namespace Go.Proofs.YtjoneoobolnnbaaGreatDoor
open VL
def ZdV (p0:List Title) (p1:List Title):Option Bool:=
 if (!decide ((p0.length:Int)=(p1.length:Int))) then
  (some false:Option Bool)
 else
 ZE Zaj (fun f2 (x18:Int)=>
  if (decide (x18<(p0.length:Int))) then
   (atI p0 x18).bind fun e25=>
   (atI p1 x18).bind fun e26=>
   if (!decide (e25=e26)) then
    (some false:Option Bool)
   else
   f2 (w64 (x18+1))
  else
  (some true:Option Bool)) 0
theorem Zh4 (p0:List Title) (p1:List Title) (r:Bool) (h:ZdV p0 p1=some r):Zd Tryz.prog 30 [.sl (List.map Title.cs p0),.sl (List.map Title.cs p1)] (.bool r):=by
 refine cF (fun r=>.bool r) h mix Tryz.func30 fun r h=>?_
 unfold ZdV at h
 refine Zh ?_
 refine rg ?_
 refine rg ?_
 refine lM Title.cs p0 ?_
 refine lM Title.cs p1 ?_
 refine cS h rfl (fun h=>?_) fun h=>?_
 ·refine rg ?_
  cases h
  exact rQ
 refine rg ?_
 refine bl ?_
 refine Zn h fun f2 mf2 hf2 h=>?_
 refine Zk (α:=Nat×Int) (fun a _=>mkS [(0,.sl (List.map Title.cs p0)),(1,.sl (List.map Title.cs p1)),(5,.int .i64 a.2)] [] 2) (fun a=>ZE a.1 f2 a.2=some r) (fun a=>a.1) (mf2,0) 2 h (sR []) (fun a _ h=>?_)
 obtain ⟨mf2,x18⟩:=a
 obtain ⟨mf2,rfl,h⟩:=Zo hf2 h
 dsimp only at h ⊢
 refine Zh ?_
 refine rg ?_
 refine lM Title.cs p0 ?_
 refine cS h rfl (fun h=>?_) fun h=>?_
 ·refine bl ?_
  refine rg ?_
  refine aI Title.cs h fun e25 h=>?_
  refine aI Title.cs h fun e26 h=>?_
  refine Ze3 (.inr rfl) rfl rfl rfl rfl rfl (fun W=>ZfU e25 e26 W) (Zh ?_)
  refine cS h rfl (fun h=>?_) fun h=>?_
  ·refine rg ?_
   cases h
   exact rQ
  refine rg ?_
  exact rn (mf2,(w64 (x18+1))) h (sR [])
 refine rg ?_
 cases h
 exact rQ
def w42_awake:Option Bool:=
 (Zix (⟨#[97,108,108,111,119,32,114,101,97,100,32,97,108,108,32,60,97,108,108,62]⟩:ByteArray)).bind fun r1=>
 (Zao r1 [(⟨1,(⟨#[]⟩:ByteArray),(⟨#[]⟩:ByteArray),(⟨0,(⟨#[65]⟩:ByteArray)⟩:Title),(⟨0,(⟨#[]⟩:ByteArray)⟩:Title),(⟨#[120]⟩:ByteArray),0,[]⟩:Change),(⟨7,(⟨#[97,110,110]⟩:ByteArray),(⟨#[]⟩:ByteArray),(⟨0,(⟨#[65]⟩:ByteArray)⟩:Title),(⟨0,(⟨#[]⟩:ByteArray)⟩:Title),(⟨#[]⟩:ByteArray),0,[]⟩:Change)]).bind fun r2=>
 (Zao r2.1 [(⟨1,(⟨#[98,111,98]⟩:ByteArray),(⟨#[110]⟩:ByteArray),(⟨0,(⟨#[65]⟩:ByteArray)⟩:Title),(⟨0,(⟨#[]⟩:ByteArray)⟩:Title),(⟨#[121]⟩:ByteArray),0,[]⟩:Change)]).bind fun r3=>
 (ZaN r3.1 (⟨#[97,110,110]⟩:ByteArray) 1).bind fun r4=>
 (Zb2 r3.1 (⟨#[97,110,110]⟩:ByteArray) (⟨0,(⟨#[65]⟩:ByteArray)⟩:Title) 1 2).bind fun r5=>
 letk (fun (x11:Bool)=>
  (some x11:Option Bool)) fun k1=>
 if (decide ((r4.length:Int)=1)) then
  (atI r4 0).bind fun e12=>
  if (decide (e12=(⟨(⟨0,(⟨#[65]⟩:ByteArray)⟩:Title),2,(⟨#[98,111,98]⟩:ByteArray),(⟨#[110]⟩:ByteArray),0⟩:Item))) then
   (ZaN r3.1 (⟨#[98,111,98]⟩:ByteArray) 0).bind fun r13=>
   if (decide ((r13.length:Int)=0)) then
    (ZbB r3.1 (⟨#[]⟩:ByteArray) 9).bind fun r14=>
    if (decide ((r14.length:Int)=3)) then
     if (decide (r5.2=0)) then
      if (decide ((r5.1.length:Int)=2)) then
       (ZaE r3.1 (⟨#[97,110,110]⟩:ByteArray)).bind fun r15=>
       (ZdV r15 [(⟨0,(⟨#[65]⟩:ByteArray)⟩:Title)]).bind fun r16=>
       k1 r16
      else
      k1 false
     else
     k1 false
    else
    k1 false
   else
   k1 false
  else
  k1 false
 else
 k1 false
theorem Zcj  (r:Bool) (h:w42_awake=some r):Zd Tryz.prog 11 [] (.bool r):=by
 refine cF (fun r=>.bool r) h mix Tryz.func11 fun r h=>?_
 unfold w42_awake at h
 refine Zh ?_
 refine rg ?_
 refine rg ?_
 refine rg ?_
 refine aC h (ZnE _) fun r1 h=>?_
 refine rg ?_
 refine ZZ (M:=([(⟨1,(⟨#[]⟩:ByteArray),(⟨#[]⟩:ByteArray),(⟨0,(⟨#[65]⟩:ByteArray)⟩:Title),(⟨0,(⟨#[]⟩:ByteArray)⟩:Title),(⟨#[120]⟩:ByteArray),0,[]⟩:Change),(⟨7,(⟨#[97,110,110]⟩:ByteArray),(⟨#[]⟩:ByteArray),(⟨0,(⟨#[65]⟩:ByteArray)⟩:Title),(⟨0,(⟨#[]⟩:ByteArray)⟩:Title),(⟨#[]⟩:ByteArray),0,[]⟩:Change)]:List Change)) (f:=Change.cs) rfl rfl rfl rfl (Nat.le_of_ble_eq_true rfl) rfl (Zh ?_)
 refine aC h (ZbT _ _) fun r2 h=>?_
 refine rg ?_
 refine ZZ (M:=([(⟨1,(⟨#[98,111,98]⟩:ByteArray),(⟨#[110]⟩:ByteArray),(⟨0,(⟨#[65]⟩:ByteArray)⟩:Title),(⟨0,(⟨#[]⟩:ByteArray)⟩:Title),(⟨#[121]⟩:ByteArray),0,[]⟩:Change)]:List Change)) (f:=Change.cs) rfl rfl rfl rfl (Nat.le_of_ble_eq_true rfl) rfl (Zh ?_)
 refine aC h (ZbT _ _) fun r3 h=>?_
 refine rg ?_
 refine aC h (ZcO _ _ _) fun r4 h=>?_
 refine rg ?_
 refine aC h (Zhe _ _ _ _ _) fun r5 h=>?_
 refine jL h (fun x11=>mkS [(0,.bool x11)] [] 2) (fun k1 h=>?_) fun x11 h=>?_
 ·refine rg ?_
  refine lM Item.cs r4 ?_
  refine kS 37 h rfl (fun h=>?_) fun h=>?_
  ·refine aI Item.cs h fun e12 h=>?_
   refine Ze3 (.inl rfl) rfl rfl rfl rfl rfl (fun W=>ZuF e12 (⟨(⟨0,(⟨#[65]⟩:ByteArray)⟩:Title),2,(⟨#[98,111,98]⟩:ByteArray),(⟨#[110]⟩:ByteArray),0⟩:Item) W) (Zh ?_)
   refine kS 45 h rfl (fun h=>?_) fun h=>?_
   ·refine aC h (ZcO _ _ _) fun r13 h=>?_
    refine lM Item.cs r13 ?_
    refine kS 51 h rfl (fun h=>?_) fun h=>?_
    ·refine aC h (Zfd _ _ _) fun r14 h=>?_
     refine lM Item.cs r14 ?_
     refine kS 57 h rfl (fun h=>?_) fun h=>?_
     ·refine kS 61 h rfl (fun h=>?_) fun h=>?_
      ·refine lM Edit.cs r5.1 ?_
       refine kS 66 h rfl (fun h=>?_) fun h=>?_
       ·refine aN h (Zcr _ _) fun r15 h=>?_
        refine ZZ (M:=([(⟨0,(⟨#[65]⟩:ByteArray)⟩:Title)]:List Title)) (f:=Title.cs) rfl rfl rfl rfl (Nat.le_of_ble_eq_true rfl) rfl (Zh ?_)
        refine aL h (Zh4 _ _) fun r16 h=>?_
        exact jn r16 h (sR [])
       iterate 5 refine Zi rfl (Zh ?_)
       exact jn false h (sR [])
      iterate 8 refine Zi rfl (Zh ?_)
      exact jn false h (sR [])
     iterate 10 refine Zi rfl (Zh ?_)
     exact jn false h (sR [])
    iterate 14 refine Zi rfl (Zh ?_)
    exact jn false h (sR [])
   iterate 18 refine Zi rfl (Zh ?_)
   exact jn false h (sR [])
  iterate 24 refine Zi rfl (Zh ?_)
  exact jn false h (sR [])
 cases h
 exact rQ
end Go.Proofs.YtjoneoobolnnbaaGreatDoor
