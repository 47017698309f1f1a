/- Functions of the program as Lean functions. Written by fxgen.py. | Functions of the program as Lean functions. Written by fxgen.py. -/
import Derived.Test.YtmgfammllddkhaaGreatDoorCS11
import Derived.Test.YtmgfammllddkhaaGreatDoorCS12
import Derived.Test.YtmgfammllddkhaaGreatDoorCS07
set_option linter.unusedVariables false
set_option maxHeartbeats 4000000
set_option maxRecDepth 100000
namespace Go.Proofs.YtmgfammllddkhaaGreatDoor
open VL
def Zd2 (p0:ByteArray):Option ((List Link)×(List Memb)×Int):=
 (ZdW p0).bind fun r1=>
 if (!decide (r1.2=0)) then
  (some ([],[],r1.2):Option ((List Link)×(List Memb)×Int))
 else
 (ZaJ 300001 (⟨([]:List Link),([]:List Memb)⟩:Finder) r1.1).bind fun r2=>
 (Zt 300001 r2 r1.1).bind fun r3=>
 (Zcc p0).bind fun r4=>
 letk (fun (x6:List Link)=>
  (Za4 x6).bind fun r7=>
  (ZL r3.members).bind fun r8=>
  (ZU r8).bind fun r9=>
  (ZaQ r7).bind fun r10=>
  (some (r10,r9,0):Option ((List Link)×(List Memb)×Int))) fun k1=>
 if r4.2 then
  (Zjw 32 r3.links [(⟨4,r4.1⟩:Link)]).bind fun l11=>
  k1 l11
 else
 k1 r3.links
theorem ZiQ (p0:ByteArray) (r:(List Link)×(List Memb)×Int) (h:Zd2 p0=some r):Zo Tryz.prog 11 [.str p0] (.tup [.sl (List.map Link.cs r.1),.sl (List.map Memb.cs r.2.1),.int .i64 r.2.2]):=by
 refine cF (fun r=>.tup [.sl (List.map Link.cs r.1),.sl (List.map Memb.cs r.2.1),.int .i64 r.2.2]) h mix Tryz.func11 fun r h=>?_
 unfold Zd2 at h
 refine Zq ?_
 refine rg ?_
 refine rg ?_
 refine aC h (ZkH _) fun r1 h=>?_
 refine rg ?_
 refine cS h rfl (fun h=>?_) fun h=>?_
 ·refine rg ?_
  cases h
  exact rQ
 refine rg ?_
 refine Zas (Zch 20 3000 0 42 3 rfl rfl rfl) (Zq ?_) (List.cons_ne_nil _ _)
 refine Zas (Zch 20 3001 1 45 3 rfl rfl rfl) (Zq ?_) (List.cons_ne_nil _ _)
 refine rg ?_
 obtain ⟨r2,h2,h⟩:=bnd h
 refine Zgy (Zg7 300001 _ _ _ h2) rfl rfl rfl rfl rfl rfl rfl rfl (Zq ?_)
 refine rg ?_
 obtain ⟨r3,h3,h⟩:=bnd h
 refine Zgy (ZeR 300001 _ _ _ h3) rfl rfl rfl rfl rfl rfl rfl rfl (Zq ?_)
 refine rg ?_
 refine aC h (Zh4 _) fun r4 h=>?_
 refine rg ?_
 refine jL h (fun x6=>mkS [(7,.ptr 20 (1,20) 0)] [(20,some ((1,20),.box [.row 3000 (1,3000),.row 3001 (1,3001)])),(3000,some ((1,3000),.row 42 3 false (List.map Link.cs x6))),(3001,some ((1,3001),.row 45 3 false (List.map Memb.cs r3.members)))] 2) (fun k1 h=>?_) fun x6 h=>?_
 ·refine cS h rfl (fun h=>?_) fun h=>?_
  ·refine rg ?_
   refine Zc5 (M:=([(⟨4,r4.1⟩:Link)]:List Link)) (f:=Link.cs) rfl rfl rfl rfl (Nat.le_of_ble_eq_true rfl) rfl (Zq ?_)
   refine pR Link.cs h fun l11 h=>?_
   exact jn l11 h (sR [(20,4,1),(3000,11,8),(3001,8,2000002)])
  exact jn r3.links h (sR [(20,4,1),(3000,8,1000002),(3001,8,2000002)])
 refine rg ?_
 obtain ⟨r7,h6,h⟩:=bnd h
 refine ZcW (Zfo _ _ h6) rfl rfl rfl rfl rfl (Zq ?_)
 refine rg ?_
 obtain ⟨r8,h7,h⟩:=bnd h
 refine ZcW (Zcq _ _ h7) rfl rfl rfl rfl rfl (Zq ?_)
 refine rg ?_
 obtain ⟨r9,h8,h⟩:=bnd h
 refine ZqB (ZcS _ _ h8) rfl rfl rfl rfl (Zq ?_)
 refine rg ?_
 obtain ⟨r10,h9,h⟩:=bnd h
 refine ZqB (ZfA _ _ h9) rfl rfl rfl rfl (Zq ?_)
 cases h
 exact rQ
def Zfd (p0:List Link) (p1:List Link):Option Bool:=
 if (!decide ((p0.length:Int)=(p1.length:Int))) then
  (some false:Option Bool)
 else
 Zbq Zel (fun f2 (x18:Int)=>
  if (decide (x18<(p0.length:Int))) then
   (atI p0 x18).bind fun e25=>
   (atI p1 x18).bind fun e26=>
   if (!decide (e25=e26)) then
    (some false:Option Bool)
   else
   f2 (w64 (x18+1))
  else
  (some true:Option Bool)) 0
theorem Zjr (p0:List Link) (p1:List Link) (r:Bool) (h:Zfd p0 p1=some r):Zo Tryz.prog 15 [.sl (List.map Link.cs p0),.sl (List.map Link.cs p1)] (.bool r):=by
 refine cF (fun r=>.bool r) h mix Tryz.func15 fun r h=>?_
 unfold Zfd at h
 refine Zq ?_
 refine rg ?_
 refine rg ?_
 refine lM Link.cs p0 ?_
 refine lM Link.cs p1 ?_
 refine cS h rfl (fun h=>?_) fun h=>?_
 ·refine rg ?_
  cases h
  exact rQ
 refine rg ?_
 refine bl ?_
 refine ZW h fun f2 mf2 hf2 h=>?_
 refine ZH (α:=Nat×Int) (fun a _=>mkS [(0,.sl (List.map Link.cs p0)),(1,.sl (List.map Link.cs p1)),(5,.int .i64 a.2)] [] 2) (fun a=>Zbq a.1 f2 a.2=some r) (fun a=>a.1) (mf2,0) 2 h (sR []) (fun a _ h=>?_)
 obtain ⟨mf2,x18⟩:=a
 obtain ⟨mf2,rfl,h⟩:=ZX hf2 h
 dsimp only at h ⊢
 refine Zq ?_
 refine rg ?_
 refine lM Link.cs p0 ?_
 refine cS h rfl (fun h=>?_) fun h=>?_
 ·refine bl ?_
  refine rg ?_
  refine aI Link.cs h fun e25 h=>?_
  refine aI Link.cs h fun e26 h=>?_
  refine ZoX (.inr rfl) rfl rfl rfl rfl rfl (fun W=>Zp7 e25 e26 W) (Zq ?_)
  refine cS h rfl (fun h=>?_) fun h=>?_
  ·refine rg ?_
   cases h
   exact rQ
  refine rg ?_
  exact rn (mf2,(w64 (x18+1))) h (sR [])
 refine rg ?_
 cases h
 exact rQ
def Zeh (p0:List Memb) (p1:List Memb):Option Bool:=
 if (!decide ((p0.length:Int)=(p1.length:Int))) then
  (some false:Option Bool)
 else
 Zbq Zel (fun f2 (x18:Int)=>
  if (decide (x18<(p0.length:Int))) then
   (atI p0 x18).bind fun e25=>
   (atI p1 x18).bind fun e26=>
   if (!decide (e25=e26)) then
    (some false:Option Bool)
   else
   f2 (w64 (x18+1))
  else
  (some true:Option Bool)) 0
theorem ZhH (p0:List Memb) (p1:List Memb) (r:Bool) (h:Zeh p0 p1=some r):Zo Tryz.prog 16 [.sl (List.map Memb.cs p0),.sl (List.map Memb.cs p1)] (.bool r):=by
 refine cF (fun r=>.bool r) h mix Tryz.func16 fun r h=>?_
 unfold Zeh at h
 refine Zq ?_
 refine rg ?_
 refine rg ?_
 refine lM Memb.cs p0 ?_
 refine lM Memb.cs p1 ?_
 refine cS h rfl (fun h=>?_) fun h=>?_
 ·refine rg ?_
  cases h
  exact rQ
 refine rg ?_
 refine bl ?_
 refine ZW h fun f2 mf2 hf2 h=>?_
 refine ZH (α:=Nat×Int) (fun a _=>mkS [(0,.sl (List.map Memb.cs p0)),(1,.sl (List.map Memb.cs p1)),(5,.int .i64 a.2)] [] 2) (fun a=>Zbq a.1 f2 a.2=some r) (fun a=>a.1) (mf2,0) 2 h (sR []) (fun a _ h=>?_)
 obtain ⟨mf2,x18⟩:=a
 obtain ⟨mf2,rfl,h⟩:=ZX hf2 h
 dsimp only at h ⊢
 refine Zq ?_
 refine rg ?_
 refine lM Memb.cs p0 ?_
 refine cS h rfl (fun h=>?_) fun h=>?_
 ·refine bl ?_
  refine rg ?_
  refine aI Memb.cs h fun e25 h=>?_
  refine aI Memb.cs h fun e26 h=>?_
  refine ZoX (.inr rfl) rfl rfl rfl rfl rfl (fun W=>Ztw e25 e26 W) (Zq ?_)
  refine cS h rfl (fun h=>?_) fun h=>?_
  ·refine rg ?_
   cases h
   exact rQ
  refine rg ?_
  exact rn (mf2,(w64 (x18+1))) h (sR [])
 refine rg ?_
 cases h
 exact rQ
def ZfO:Option Bool:=
 (Zd2 (⟨#[91,91,65,124,98,93,93,32,123,123,116,124,91,91,67,93,93,125,125,32,91,91,67,97,116,101,103,111,114,121,58,88,124,121,93,93,32,60,105,110,99,108,117,100,101,111,110,108,121,62,91,91,68,93,93,60,47,105,110,99,108,117,100,101,111,110,108,121,62]⟩:ByteArray)).bind fun r1=>
 letk (fun (x4:Bool)=>
  (some x4:Option Bool)) fun k1=>
 if (decide (r1.2.2=0)) then
  (Zfd r1.1 [(⟨1,(⟨0,(⟨#[65]⟩:ByteArray)⟩:Title)⟩:Link),(⟨2,(⟨3,(⟨#[84]⟩:ByteArray)⟩:Title)⟩:Link)]).bind fun r5=>
  if r5 then
   (Zeh r1.2.1 [(⟨(⟨4,(⟨#[88]⟩:ByteArray)⟩:Title),(⟨#[121]⟩:ByteArray)⟩:Memb)]).bind fun r6=>
   k1 r6
  else
  k1 false
 else
 k1 false
theorem Zjs  (r:Bool) (h:ZfO=some r):Zo Tryz.prog 10 [] (.bool r):=by
 refine cF (fun r=>.bool r) h mix Tryz.func10 fun r h=>?_
 unfold ZfO at h
 refine Zq ?_
 refine rg ?_
 refine rg ?_
 refine aC h (ZiQ _) fun r1 h=>?_
 refine jL h (fun x4=>mkS [(0,.bool x4)] [] 2) (fun k1 h=>?_) fun x4 h=>?_
 ·refine rg ?_
  refine kS 11 h rfl (fun h=>?_) fun h=>?_
  ·refine Zc5 (M:=([(⟨1,(⟨0,(⟨#[65]⟩:ByteArray)⟩:Title)⟩:Link),(⟨2,(⟨3,(⟨#[84]⟩:ByteArray)⟩:Title)⟩:Link)]:List Link)) (f:=Link.cs) rfl rfl rfl rfl (Nat.le_of_ble_eq_true rfl) rfl (Zq ?_)
   refine aL h (Zjr _ _) fun r5 h=>?_
   refine kS 20 h rfl (fun h=>?_) fun h=>?_
   ·refine Zc5 (M:=([(⟨(⟨4,(⟨#[88]⟩:ByteArray)⟩:Title),(⟨#[121]⟩:ByteArray)⟩:Memb)]:List Memb)) (f:=Memb.cs) rfl rfl rfl rfl (Nat.le_of_ble_eq_true rfl) rfl (Zq ?_)
    refine aL h (ZhH _ _) fun r6 h=>?_
    exact jn r6 h (sR [])
   iterate 5 refine ZN rfl (Zq ?_)
   exact jn false h (sR [])
  iterate 12 refine ZN rfl (Zq ?_)
  exact jn false h (sR [])
 cases h
 exact rQ
end Go.Proofs.YtmgfammllddkhaaGreatDoor
