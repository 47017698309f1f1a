/- Functions of the program as Lean functions. Written by fxgen.py. | Sorted and compacted lists: what is in them, and the first of each kind. | The first example of the chapter. | LinksLines: the law. | From a reading of an argument to the words of the walks: structs field by field, slices element by element. No program is named. | Readings of the wiki's types at this translation. Written by types.py. | Lists of integers; the invariant in all later worlds, where no rules of edit are laid. | LinksLines in worlds: whatever the lists and the numbers, the law returns true. -/
import Derived.Test.YtmgfammllddkhaaGreatDoorCN14
import Derived.Test.YtmgfammllddkhaaGreatDoorCN07
import Derived.Test.YtmgfammllddkhaaGreatDoorCN01
import Derived.ProofKit
import Derived.OpenShut
import Derived.Deep.Slices
import Derived.Deep.Strs
import Derived.Test.YtmgfammllddkhaaGreatDoorRows
import Derived.Test.YtmgfammllddkhaaGreatDoorCN03
import Derived.Test.YtmgfammllddkhaaGreatDoorCN02
import Derived.Test.YtmgfammllddkhaaGreatDoorCN04
import Derived.MakeChecks
import Derived.FnData
import Derived.ChangeSame
set_option linter.unusedVariables false
set_option maxHeartbeats 4000000
set_option maxRecDepth 100000
namespace Go.Proofs.YtmgfammllddkhaaGreatDoor
open VL
def Zbz (p0:List Link) (p1:Link):Option Bool:=
 Zbf Zdo (fun f2 (x10:Int)=>
  if (decide (x10<(p0.length:Int))) then
   (atI p0 x10).bind fun e14=>
   if (decide (e14=p1)) then
    (some true:Option Bool)
   else
   f2 (w64 (x10+1))
  else
  (some false:Option Bool)) 0
theorem Zdf (p0:List Link) (p1:Link) (r:Bool) (h:Zbz p0 p1=some r):Zn Tryz.prog 27 [.sl (List.map Link.cs p0),p1.pv] (.bool r):=by
 refine cF (fun r=>.bool r) h mix Tryz.func27 fun r h=>?_
 unfold Zbz at h
 refine Zt ?_
 refine rg ?_
 refine rg ?_
 refine bl ?_
 refine ZK h fun f2 mf2 hf2 h=>?_
 refine ZE (α:=Nat×Int) (fun a _=>mkS [(0,.sl (List.map Link.cs p0)),(3,.ptr 3 (1,3) 0),(5,.int .i64 a.2)] [(3,some ((1,3),.box (Link.cs p1)))] 2) (fun a=>Zbf a.1 f2 a.2=some r) (fun a=>a.1) (mf2,0) 2 h (sR [(3,1,0)]) (fun a _ h=>?_)
 obtain ⟨mf2,x10⟩:=a
 obtain ⟨mf2,rfl,h⟩:=ZL hf2 h
 dsimp only at h ⊢
 refine Zt ?_
 refine rg ?_
 refine lM Link.cs p0 ?_
 refine cS h rfl (fun h=>?_) fun h=>?_
 ·refine bl ?_
  refine rg ?_
  refine aI Link.cs h fun e14 h=>?_
  refine Zl6 (.inl rfl) rfl rfl rfl rfl rfl (fun W=>ZpD e14 p1 W) (Zt ?_)
  refine cS h rfl (fun h=>?_) fun h=>?_
  ·refine rg ?_
   cases h
   exact rQ
  refine rg ?_
  exact rn (mf2,(w64 (x10+1))) h (sR [(3,1,3)])
 refine rg ?_
 cases h
 exact rQ
def Zdq (p0:List Memb) (p1:Title):Option (ByteArray×Bool):=
 Zbf Zdo (fun f2 (x18:Int)=>
  if (decide (x18<(p0.length:Int))) then
   (atI p0 x18).bind fun e25=>
   if (decide (e25.category=p1)) then
    (atI p0 x18).bind fun e26=>
    (some (e26.sort,true):Option (ByteArray×Bool))
   else
   f2 (w64 (x18+1))
  else
  (some ((⟨#[]⟩:ByteArray),false):Option (ByteArray×Bool))) 0
theorem Zhp (p0:List Memb) (p1:Title) (r:ByteArray×Bool) (h:Zdq p0 p1=some r):Zn Tryz.prog 28 [.sl (List.map Memb.cs p0),p1.pv] (.tup [.str r.1,.bool r.2]):=by
 refine cF (fun r=>.tup [.str r.1,.bool r.2]) h mix Tryz.func28 fun r h=>?_
 unfold Zdq at h
 refine Zt ?_
 refine rg ?_
 refine rg ?_
 refine bl ?_
 refine ZK h fun f2 mf2 hf2 h=>?_
 refine ZE (α:=Nat×Int) (fun a _=>mkS [(0,.sl (List.map Memb.cs p0)),(3,.ptr 3 (1,3) 0),(6,.int .i64 a.2)] [(3,some ((1,3),.box (Title.cs p1)))] 2) (fun a=>Zbf a.1 f2 a.2=some r) (fun a=>a.1) (mf2,0) 2 h (sR [(3,1,0)]) (fun a _ h=>?_)
 obtain ⟨mf2,x18⟩:=a
 obtain ⟨mf2,rfl,h⟩:=ZL hf2 h
 dsimp only at h ⊢
 refine Zt ?_
 refine rg ?_
 refine lM Memb.cs p0 ?_
 refine cS h rfl (fun h=>?_) fun h=>?_
 ·refine bl ?_
  refine rg ?_
  refine aI Memb.cs h fun e25 h=>?_
  refine Zl6 (.inl rfl) rfl rfl rfl rfl rfl (fun W=>ZmW e25.category p1 W) (Zt ?_)
  refine cS h rfl (fun h=>?_) fun h=>?_
  ·refine rg ?_
   refine aI Memb.cs h fun e26 h=>?_
   cases h
   exact rQ
  refine rg ?_
  exact rn (mf2,(w64 (x18+1))) h (sR [(3,1,3)])
 refine rg ?_
 cases h
 exact rQ
def ZcV (p0:ByteArray) (p1:ByteArray):Option Bool:=
 letk (fun (x6:Bool)=>
  if x6 then
   (Zfs).bind fun r8=>
   (some r8:Option Bool)
  else
  (Zi7 p0 (⟨#[93,93,10]⟩:ByteArray)).bind fun s9=>
  (Zc2 s9).bind fun r10=>
  (Zc2 p1).bind fun r11=>
  (Zi7 p0 (⟨#[93,93,10]⟩:ByteArray)).bind fun s12=>
  (Zi7 s12 p1).bind fun s13=>
  (Zc2 s13).bind fun r14=>
  letk (fun (x15:Bool)=>
   if x15 then
    (some false:Option Bool)
   else
   Zbf Zdo (fun f14 (x89:Int)=>
    if (decide (x89<(r14.1.length:Int))) then
     letk (fun (x121:Bool)=>
      if x121 then
       (some false:Option Bool)
      else
      f14 (w64 (x89+1))) fun k16=>
     (atI r14.1 x89).bind fun e122=>
     (Zbz r10.1 e122).bind fun r123=>
     if (!r123) then
      (atI r14.1 x89).bind fun e124=>
      (Zbz r11.1 e124).bind fun r125=>
      k16 (!r125)
     else
     k16 false
    else
    Zbf Zdo (fun f18 (x143:Int)=>
     if (decide (x143<(r10.1.length:Int))) then
      (atI r10.1 x143).bind fun e150=>
      (Zbz r14.1 e150).bind fun r151=>
      if (!r151) then
       (some false:Option Bool)
      else
      f18 (w64 (x143+1))
     else
     Zbf Zdo (fun f20 (x169:Int)=>
      if (decide (x169<(r11.1.length:Int))) then
       (atI r11.1 x169).bind fun e176=>
       (Zbz r14.1 e176).bind fun r177=>
       if (!r177) then
        (some false:Option Bool)
       else
       f20 (w64 (x169+1))
      else
      Zbf Zdo (fun f32 (x267:Int)=>
       if (decide (x267<(r14.2.1.length:Int))) then
        (atI r14.2.1 x267).bind fun e301=>
        (Zdq r10.2.1 e301.category).bind fun r302=>
        (atI r14.2.1 x267).bind fun e303=>
        (Zdq r11.2.1 e303.category).bind fun r304=>
        letk (fun (x308:Bool)=>
         if x308 then
          (some false:Option Bool)
         else
         f32 (w64 (x267+1))) fun k34=>
        if r302.2 then
         (atI r14.2.1 x267).bind fun e309=>
         if (!decide (r302.1=e309.sort)) then
          k34 true
         else
         if (!r302.2) then
          if (!r304.2) then
           k34 true
          else
          (atI r14.2.1 x267).bind fun e310=>
          k34 (!decide (r304.1=e310.sort))
         else
         k34 false
        else
        if (!r302.2) then
         if (!r304.2) then
          k34 true
         else
         (atI r14.2.1 x267).bind fun e311=>
         k34 (!decide (r304.1=e311.sort))
        else
        k34 false
       else
       letk (fun (x313:Bool)=>
        (some x313:Option Bool)) fun k35=>
       if (decide ((if (r11.2.1.length:Int) > (r10.2.1.length:Int) then (r11.2.1.length:Int) else (r10.2.1.length:Int))≤(r14.2.1.length:Int))) then
        (Zfs).bind fun r314=>
        k35 r314
       else
       k35 false) 0) 0) 0) 0) fun k2=>
  if (!decide (r10.2.2=0)) then
   k2 true
  else
  if (!decide (r11.2.2=0)) then
   k2 true
  else
  k2 (!decide (r14.2.2=0))) fun k1=>
 if (decide (200<(p0.size:Int))) then
  k1 true
 else
 if (decide (200<(p1.size:Int))) then
  k1 true
 else
 (Zi7 p0 p1).bind fun s315=>
 (Zby s315 (⟨#[60,123,125]⟩:ByteArray)).bind fun r316=>
 if r316 then
  k1 true
 else
 (strings_Contains p1 (⟨#[35,82,69,68,73,82,69,67,84]⟩:ByteArray)).bind fun r317=>
 if r317 then
  k1 true
 else
 (Zi7 p0 p1).bind fun s318=>
 (ZcU s318 (⟨#[91,91]⟩:ByteArray)).bind fun r319=>
 k1 (decide (15<r319))
theorem ZhI (p0:ByteArray) (p1:ByteArray) (r:Bool) (h:ZcV p0 p1=some r):Zn Tryz.prog 9 [.str p0,.str p1] (.bool r):=by
 refine cF (fun r=>.bool r) h mix Tryz.func9 fun r h=>?_
 unfold ZcV at h
 refine Zt ?_
 refine rg ?_
 refine jL h (fun x6=>mkS [(0,.str p0),(1,.str p1),(46,.bool x6)] [] 2) (fun k1 h=>?_) fun x6 h=>?_
 ·refine rg ?_
  refine kS 25 h rfl (fun h=>?_) fun h=>?_
  ·iterate 14 refine ZI rfl (Zt ?_)
   exact jn true h (sR [])
  refine kS 30 h rfl (fun h=>?_) fun h=>?_
  ·iterate 11 refine ZI rfl (Zt ?_)
   exact jn true h (sR [])
  refine sT h fun s315 h=>?_
  refine aC h (Zfc _ _) fun r316 h=>?_
  refine kS 36 h rfl (fun h=>?_) fun h=>?_
  ·iterate 7 refine ZI rfl (Zt ?_)
   exact jn true h (sR [])
  refine aC h (Zbj _ _) fun r317 h=>?_
  refine kS 40 h rfl (fun h=>?_) fun h=>?_
  ·iterate 5 refine ZI rfl (Zt ?_)
   exact jn true h (sR [])
  refine sT h fun s318 h=>?_
  refine aC h (ZhH _ _) fun r319 h=>?_
  exact jn (decide (15<r319)) h (sR [])
 refine cS h rfl (fun h=>?_) fun h=>?_
 ·refine rg ?_
  refine aC h Zi4 fun r8 h=>?_
  cases h
  exact rQ
 refine rg ?_
 refine sT h fun s9 h=>?_
 refine aC h (ZeO _) fun r10 h=>?_
 refine rg ?_
 refine aC h (ZeO _) fun r11 h=>?_
 refine rg ?_
 refine sT h fun s12 h=>?_
 refine sT h fun s13 h=>?_
 refine aC h (ZeO _) fun r14 h=>?_
 refine jL h (fun x15=>mkS [(5,.sl (List.map Link.cs r10.1)),(6,.sl (List.map Memb.cs r10.2.1)),(8,.sl (List.map Link.cs r11.1)),(9,.sl (List.map Memb.cs r11.2.1)),(11,.sl (List.map Link.cs r14.1)),(12,.sl (List.map Memb.cs r14.2.1)),(79,.bool x15)] [] 2) (fun k2 h=>?_) fun x15 h=>?_
 ·refine rg ?_
  refine kS 72 h rfl (fun h=>?_) fun h=>?_
  ·iterate 4 refine ZI rfl (Zt ?_)
   exact jn true h (sR [])
  refine kS 76 h rfl (fun h=>?_) fun h=>?_
  ·iterate 2 refine ZI rfl (Zt ?_)
   exact jn true h (sR [])
  exact jn (!decide (r14.2.2=0)) h (sR [])
 refine cS h rfl (fun h=>?_) fun h=>?_
 ·refine rg ?_
  cases h
  exact rQ
 refine rg ?_
 refine bl ?_
 refine ZK h fun f14 mf14 hf14 h=>?_
 refine ZE (α:=Nat×Int) (fun a _=>mkS [(5,.sl (List.map Link.cs r10.1)),(6,.sl (List.map Memb.cs r10.2.1)),(8,.sl (List.map Link.cs r11.1)),(9,.sl (List.map Memb.cs r11.2.1)),(11,.sl (List.map Link.cs r14.1)),(12,.sl (List.map Memb.cs r14.2.1)),(14,.int .i64 a.2)] [] 2) (fun a=>Zbf a.1 f14 a.2=some r) (fun a=>a.1) (mf14,0) 2 h (sR []) (fun a _ h=>?_)
 obtain ⟨mf14,x89⟩:=a
 obtain ⟨mf14,rfl,h⟩:=ZL hf14 h
 dsimp only at h ⊢
 refine Zt ?_
 refine rg ?_
 refine lM Link.cs r14.1 ?_
 refine cS h rfl (fun h=>?_) fun h=>?_
 ·refine bl ?_
  refine jL h (fun x121=>mkS [(5,.sl (List.map Link.cs r10.1)),(6,.sl (List.map Memb.cs r10.2.1)),(8,.sl (List.map Link.cs r11.1)),(9,.sl (List.map Memb.cs r11.2.1)),(11,.sl (List.map Link.cs r14.1)),(12,.sl (List.map Memb.cs r14.2.1)),(14,.int .i64 x89),(101,.bool x121)] [] 2) (fun k16 h=>?_) fun x121 h=>?_
  ·refine rg ?_
   refine aI Link.cs h fun e122 h=>?_
   refine aC h (Zdf _ _) fun r123 h=>?_
   refine kS 93 h rfl (fun h=>?_) fun h=>?_
   ·refine aI Link.cs h fun e124 h=>?_
    refine aC h (Zdf _ _) fun r125 h=>?_
    exact jn (!r125) h (sR [])
   iterate 7 refine ZI rfl (Zt ?_)
   exact jn false h (sR [])
  refine cS h rfl (fun h=>?_) fun h=>?_
  ·refine rg ?_
   cases h
   exact rQ
  refine rg ?_
  exact rn (mf14,(w64 (x89+1))) h (sR [])
 refine rg ?_
 refine bl ?_
 refine ZK h fun f18 mf18 hf18 h=>?_
 refine ZE (α:=Nat×Int) (fun a _=>mkS [(5,.sl (List.map Link.cs r10.1)),(6,.sl (List.map Memb.cs r10.2.1)),(8,.sl (List.map Link.cs r11.1)),(9,.sl (List.map Memb.cs r11.2.1)),(11,.sl (List.map Link.cs r14.1)),(12,.sl (List.map Memb.cs r14.2.1)),(15,.int .i64 a.2)] [] 2) (fun a=>Zbf a.1 f18 a.2=some r) (fun a=>a.1) (mf18,0) 2 h (sR []) (fun a _ h=>?_)
 obtain ⟨mf18,x143⟩:=a
 obtain ⟨mf18,rfl,h⟩:=ZL hf18 h
 dsimp only at h ⊢
 refine Zt ?_
 refine rg ?_
 refine lM Link.cs r10.1 ?_
 refine cS h rfl (fun h=>?_) fun h=>?_
 ·refine bl ?_
  refine rg ?_
  refine aI Link.cs h fun e150 h=>?_
  refine aC h (Zdf _ _) fun r151 h=>?_
  refine cS h rfl (fun h=>?_) fun h=>?_
  ·refine rg ?_
   cases h
   exact rQ
  refine rg ?_
  exact rn (mf18,(w64 (x143+1))) h (sR [])
 refine rg ?_
 refine bl ?_
 refine ZK h fun f20 mf20 hf20 h=>?_
 refine ZE (α:=Nat×Int) (fun a _=>mkS [(6,.sl (List.map Memb.cs r10.2.1)),(8,.sl (List.map Link.cs r11.1)),(9,.sl (List.map Memb.cs r11.2.1)),(11,.sl (List.map Link.cs r14.1)),(12,.sl (List.map Memb.cs r14.2.1)),(16,.int .i64 a.2)] [] 2) (fun a=>Zbf a.1 f20 a.2=some r) (fun a=>a.1) (mf20,0) 2 h (sR []) (fun a _ h=>?_)
 obtain ⟨mf20,x169⟩:=a
 obtain ⟨mf20,rfl,h⟩:=ZL hf20 h
 dsimp only at h ⊢
 refine Zt ?_
 refine rg ?_
 refine lM Link.cs r11.1 ?_
 refine cS h rfl (fun h=>?_) fun h=>?_
 ·refine bl ?_
  refine rg ?_
  refine aI Link.cs h fun e176 h=>?_
  refine aC h (Zdf _ _) fun r177 h=>?_
  refine cS h rfl (fun h=>?_) fun h=>?_
  ·refine rg ?_
   cases h
   exact rQ
  refine rg ?_
  exact rn (mf20,(w64 (x169+1))) h (sR [])
 refine rg ?_
 refine bl ?_
 refine ZK h fun f32 mf32 hf32 h=>?_
 refine ZE (α:=Nat×Int) (fun a _=>mkS [(6,.sl (List.map Memb.cs r10.2.1)),(9,.sl (List.map Memb.cs r11.2.1)),(12,.sl (List.map Memb.cs r14.2.1)),(17,.int .i64 a.2)] [] 2) (fun a=>Zbf a.1 f32 a.2=some r) (fun a=>a.1) (mf32,0) 2 h (sR []) (fun a _ h=>?_)
 obtain ⟨mf32,x267⟩:=a
 obtain ⟨mf32,rfl,h⟩:=ZL hf32 h
 dsimp only at h ⊢
 refine Zt ?_
 refine rg ?_
 refine lM Memb.cs r14.2.1 ?_
 refine cS h rfl (fun h=>?_) fun h=>?_
 ·refine bl ?_
  refine rg ?_
  refine aI Memb.cs h fun e301 h=>?_
  refine aC h (Zhp _ _) fun r302 h=>?_
  refine rg ?_
  refine aI Memb.cs h fun e303 h=>?_
  refine aC h (Zhp _ _) fun r304 h=>?_
  refine jL h (fun x308=>mkS [(6,.sl (List.map Memb.cs r10.2.1)),(9,.sl (List.map Memb.cs r11.2.1)),(12,.sl (List.map Memb.cs r14.2.1)),(17,.int .i64 x267),(180,.bool x308)] [] 2) (fun k34 h=>?_) fun x308 h=>?_
  ·refine rg ?_
   refine kS 155 h rfl (fun h=>?_) fun h=>?_
   ·refine aI Memb.cs h fun e309 h=>?_
    refine kS 164 h rfl (fun h=>?_) fun h=>?_
    ·iterate 15 refine ZI rfl (Zt ?_)
     exact jn true h (sR [])
    refine kS 167 h rfl (fun h=>?_) fun h=>?_
    ·refine kS 170 h rfl (fun h=>?_) fun h=>?_
     ·iterate 7 refine ZI rfl (Zt ?_)
      exact jn true h (sR [])
     refine aI Memb.cs h fun e310 h=>?_
     exact jn (!decide (r304.1=e310.sort)) h (sR [])
    iterate 11 refine ZI rfl (Zt ?_)
    exact jn false h (sR [])
   iterate 7 refine ZI rfl (Zt ?_)
   refine kS 167 h rfl (fun h=>?_) fun h=>?_
   ·refine kS 170 h rfl (fun h=>?_) fun h=>?_
    ·iterate 7 refine ZI rfl (Zt ?_)
     exact jn true h (sR [])
    refine aI Memb.cs h fun e311 h=>?_
    exact jn (!decide (r304.1=e311.sort)) h (sR [])
   iterate 11 refine ZI rfl (Zt ?_)
   exact jn false h (sR [])
  refine cS h rfl (fun h=>?_) fun h=>?_
  ·refine rg ?_
   cases h
   exact rQ
  refine rg ?_
  exact rn (mf32,(w64 (x267+1))) h (sR [])
 refine jL h (fun x313=>mkS [(4,.bool x313)] [] 2) (fun k35 h=>?_) fun x313 h=>?_
 ·refine rg ?_
  refine lM Memb.cs r14.2.1 ?_
  refine lM Memb.cs r10.2.1 ?_
  refine lM Memb.cs r11.2.1 ?_
  refine Zus rfl rfl rfl (Zt ?_)
  refine kS 189 h rfl (fun h=>?_) fun h=>?_
  ·refine aC h Zi4 fun r314 h=>?_
   exact jn r314 h (sR [])
  refine ZI rfl (Zt ?_)
  exact jn false h (sR [])
 cases h
 exact rQ
theorem Zhb {α:Type} {eq:α→α→Bool} {p:α→Bool} (hp:∀ a b,eq a b=true→p a=p b):∀ (l:List α) (x:α),p x=false→(Zcb eq x l).find? p=l.find? p
 | [],_,_=>rfl
 | y::l,x,hx=>by
   show (if eq y x=true then Zcb eq y l else y::Zcb eq y l).find? p=_
   split
   ·rename_i h
    have hy:p y=false:=by rw [hp y x h];exact hx
    rw [Zhb hp l y hy,List.find?_cons,hy]
   ·cases hy:p y with
    | true=>rw [List.find?_cons,List.find?_cons,hy]
    | false=>rw [List.find?_cons,List.find?_cons,hy];exact Zhb hp l y hy
theorem Zn1 {α:Type} {eq:α→α→Bool} {p:α→Bool} (hp:∀ a b,eq a b=true→p a=p b) (l:List α):(Zgr eq l).find? p=l.find? p:=by
 cases l with
 | nil=>rfl
 | cons x l=>
   show (x::Zcb eq x l).find? p=_
   rw [List.find?_cons,List.find?_cons]
   cases hx:p x with
   | true=>rfl
   | false=>exact Zhb hp l x hx
theorem Zng {α:Type} {le:α→α→Bool} {p:α→Bool} (h:∀ x y,le x y=false→p x=true→p y=false) (x:α):∀ l:List α,(ZgP le x l).find? p=(x::l).find? p
 | []=>rfl
 | y::l=>by
   unfold ZgP
   split
   ·rfl
   ·rename_i hxy
    have hxy:le x y=false:=by cases hb:le x y<;>simp_all
    rw [List.find?_cons,Zng h x l,List.find?_cons,List.find?_cons,List.find?_cons]
    cases hx:p x with
    | true=>rw [h x y hxy hx]
    | false=>rfl
theorem ZjM {α:Type} {le:α→α→Bool} {p:α→Bool} (h:∀ x y,le x y=false→p x=true→p y=false):∀ l:List α,(Zae le l).find? p=l.find? p
 | []=>rfl
 | x::l=>by
   show (ZgP le x (Zae le l)).find? p=_
   rw [Zng h,List.find?_cons,List.find?_cons,ZjM h l]
theorem Zly {α:Type} [DecidableEq α] (e:α):∀ (l:List α) (x:α),e ∈ x::Zcb (fun a b=>decide (a=b)) x l↔e ∈ x::l
 | [],x=>Iff.rfl
 | y::l,x=>by
   show e ∈ x::(if decide (y=x)=true then Zcb (fun a b=>decide (a=b)) y l else y::Zcb (fun a b=>decide (a=b)) y l)↔_
   have ih:=Zly e l y
   by_cases h:y=x
   ·rw [if_pos (decide_eq_true h)]
    subst h
    simp only [List.mem_cons] at ih ⊢
    constructor
    ·intro g
     rcases ih.1 g with g | g
     ·exact .inl g
     ·exact .inr (.inr g)
    ·intro g
     rcases g with g | g
     ·exact .inl g
     ·exact ih.2 g
   ·rw [if_neg (by rw [decide_eq_false h];decide)]
    simp only [List.mem_cons] at ih ⊢
    rw [ih]
theorem ZpQ {α:Type} [DecidableEq α] (e:α) (l:List α):e ∈ Zgr (fun a b=>decide (a=b)) l↔e ∈ l:=by
 cases l with
 | nil=>exact Iff.rfl
 | cons x l=>exact Zly e l x
theorem ZgA {α:Type} {eq:α→α→Bool}:∀ (l:List α) (x e:α),e ∈ Zcb eq x l→e ∈ l
 | [],x,e,h=>by cases h
 | y::l,x,e,h=>by
   have h:e ∈ (if eq y x=true then Zcb eq y l else y::Zcb eq y l):=h
   split at h
   ·exact List.mem_cons_of_mem _ (ZgA l y e h)
   ·rcases List.mem_cons.1 h with rfl | h
    ·exact List.mem_cons_self
    ·exact List.mem_cons_of_mem _ (ZgA l y e h)
theorem ZpR {α:Type} {eq:α→α→Bool} (l:List α) (e:α) (h:e ∈ Zgr eq l):e ∈ l:=by
 cases l with
 | nil=>cases h
 | cons x l=>
   rcases List.mem_cons.1 h with rfl | h
   ·exact List.mem_cons_self
   ·exact List.mem_cons_of_mem _ (ZgA l x e h)
theorem Znh {α κ:Type} [DecidableEq κ] {le:α→α→Bool} (key:α→κ) (ha:∀ a b,le a b=true→le b a=true→key a=key b) (hk:∀ a b,key a=key b→∀ c,le c a=le c b∧le a c=le b c) :
  ∀ (l:List α) (x:α),(x::l).Pairwise (fun a b=>le a b=true)→(x::Zcb (fun a b=>decide (key a=key b)) x l).Pairwise fun a b=>¬ key a=key b
 | [],x,_=>List.pairwise_singleton _ _
 | y::l,x,h=>by
   obtain ⟨h1,h2⟩:=List.pairwise_cons.1 h
   have ih:=Znh key ha hk l y h2
   show (x::(if decide (key y=key x)=true then Zcb (fun a b=>decide (key a=key b)) y l else y::Zcb (fun a b=>decide (key a=key b)) y l)).Pairwise _
   obtain ⟨i1,i2⟩:=List.pairwise_cons.1 ih
   by_cases hy:key y=key x
   ·rw [if_pos (decide_eq_true hy)]
    exact List.pairwise_cons.2 ⟨fun e he=>by rw [← hy];exact i1 e he,i2⟩
   ·rw [if_neg (by rw [decide_eq_false hy];decide)]
    refine List.pairwise_cons.2 ⟨fun e he=>?_,ih⟩
    rcases List.mem_cons.1 he with rfl | he
    ·exact fun h=>hy h.symm
    ·intro hxe
     have hle:=(List.pairwise_cons.1 h2).1 e (ZgA l y e he)
     have hxy:=h1 y List.mem_cons_self
     rw [← ((hk x e hxe y).1)] at hle
     exact hy (ha y x hle hxy)
theorem ZrG {α κ:Type} [DecidableEq κ] {le:α→α→Bool} (key:α→κ) (ha:∀ a b,le a b=true→le b a=true→key a=key b) (hk:∀ a b,key a=key b→∀ c,le c a=le c b∧le a c=le b c) (l:List α) (h:l.Pairwise (fun a b=>le a b=true)):(Zgr (fun a b=>decide (key a=key b)) l).Pairwise fun a b=>¬ key a=key b:=by
 cases l with
 | nil=>exact .nil
 | cons x l=>exact Znh key ha hk l x h
theorem Zni {κ:Type} [DecidableEq κ]:∀ (l r:List κ),l.Nodup→(∀ x ∈ l,x ∈ r)→l.length≤r.length
 | [],r,_,_=>Nat.zero_le _
 | x::l,r,hn,h=>by
   obtain ⟨h1,h2⟩:=List.nodup_cons.1 hn
   have hx:=h x List.mem_cons_self
   have:=Zni l (r.erase x) h2 fun y hy=>(List.mem_erase_of_ne (fun e=>h1 (by rw [← e];exact hy))).2 (h y (List.mem_cons_of_mem _ hy))
   rw [List.length_erase_of_mem hx] at this
   have:=List.length_pos_of_mem hx
   rw [List.length_cons]
   omega
theorem ZiJ (l:List Link) (x:Link) (h:l.length≤1000000):Zbz l x=some (decide (x ∈ l)):=by
 refine Zay ?_
 unfold Zbz
 refine Zac (fun i=>∃ A B,l=A++B∧i=(A.length:Int)∧x ∉ A) (fun i=>l.length - i.toNat) ⟨[],l,rfl,rfl,by simp⟩ (by omega) ?_
 rintro i rec ⟨A,B,hl,rfl,hx⟩ ih
 have ll:l.length=A.length+B.length:=by rw [hl,List.length_append]
 refine Zj (fun hlt=>?_) fun hge=>?_
 ·obtain ⟨y,B,rfl⟩:∃ y B',B=y::B':=by
   cases B with
   | nil=>simp only [List.length_nil] at ll;omega
   | cons y B'=>exact ⟨y,B',rfl⟩
  refine Zb (Zbc hl rfl) (Zj (fun hy=>Zd ?_) fun hy=>?_)
  ·rw [hl,decide_eq_true (by rw [← hy];simp)]
  ·rw [ZaH (by omega) (by omega)]
   refine ih _ ⟨A ++ [y],B,by rw [hl];simp,by simp,?_⟩ (by simp only [List.length_cons] at ll;omega)
   simp only [List.mem_append,List.mem_singleton]
   rintro (h | h)
   ·exact hx h
   ·exact hy h.symm
 ·have hB:B = []:=List.eq_nil_of_length_eq_zero (by omega)
  subst hB
  rw [List.append_nil] at hl
  subst hl
  exact Zd (decide_eq_false hx).symm
def Zmy (l:List Memb) (c:Title):ByteArray×Bool:=match l.find? (fun e=>decide (e.category=c)) with
 | some e=>(e.sort,true)
 | none=>(⟨#[]⟩,false)
theorem Znj (l:List Memb) (c:Title) (h:l.length≤1000000):Zdq l c=some (Zmy l c):=by
 refine Zay ?_
 unfold Zdq
 refine Zac (fun i=>∃ A B,l=A++B∧i=(A.length:Int)∧Zmy l c=Zmy B c) (fun i=>l.length - i.toNat) ⟨[],l,rfl,rfl,rfl⟩ (by omega) ?_
 rintro i rec ⟨A,B,hl,rfl,hx⟩ ih
 have ll:l.length=A.length+B.length:=by rw [hl,List.length_append]
 refine Zj (fun hlt=>?_) fun hge=>?_
 ·obtain ⟨y,B,rfl⟩:∃ y B',B=y::B':=by
   cases B with
   | nil=>simp only [List.length_nil] at ll;omega
   | cons y B'=>exact ⟨y,B',rfl⟩
  have hs:Zmy (y::B) c=if decide (y.category=c)=true then (y.sort,true) else Zmy B c:=by
   unfold Zmy
   rw [List.find?_cons]
   by_cases hy:y.category=c
   ·rw [decide_eq_true hy];rfl
   ·rw [decide_eq_false hy];rfl
  refine Zb (Zbc hl rfl) (Zj (fun hy=>?_) fun hy=>?_)
  ·refine Zb (Zbc hl rfl) (Zd ?_)
   rw [hx,hs,if_pos (decide_eq_true hy)]
  ·rw [ZaH (by omega) (by omega)]
   refine ih _ ⟨A ++ [y],B,by rw [hl];simp,by simp,?_⟩ (by simp only [List.length_cons] at ll;omega)
   rw [hx,hs,if_neg (by rw [decide_eq_false hy];decide)]
 ·have hB:B = []:=List.eq_nil_of_length_eq_zero (by omega)
  subst hB
  exact Zd hx.symm
end Go.Proofs.YtmgfammllddkhaaGreatDoor
set_option maxRecDepth 1000000
namespace Go.Proofs.YtmgfammllddkhaaGreatDoor
theorem ZoL:Zfs=some true:=by kernel_rfl
end Go.Proofs.YtmgfammllddkhaaGreatDoor
namespace Go.Proofs.YtmgfammllddkhaaGreatDoor
open VL
def cL (L:List Link):List Link:=Zgr (fun a b=>decide (a=b)) (Zae (leC Zef) L)
def cM (L:List Memb):List Memb:=Zgr (fun a b=>decide (a.category=b.category)) (Zae leM L)
def rL (q:Title×Bool):List Link:=if q.2=true then [⟨4,q.1⟩] else []
theorem Zm1 {α:Type} (eq:α→α→Bool):∀ l:List α,(Zgr eq l).length≤l.length:=by
 have h:∀ (l:List α) (x:α),(Zcb eq x l).length≤l.length:=by
  intro l
  induction l with
  | nil=>intro x;exact Nat.le_refl _
  | cons y l ih=>
    intro x
    show (if eq y x=true then Zcb eq y l else y::Zcb eq y l).length≤_
    split
    ·exact Nat.le_succ_of_le (ih y)
    ·exact Nat.succ_le_succ (ih y)
 intro l
 cases l with
 | nil=>exact Nat.le_refl _
 | cons x l=>exact Nat.succ_le_succ (h l x)
theorem ZoY (L:List Link):(cL L).length≤L.length:=by
 have:=Zm1 (fun a b=>decide (a=b)) (Zae (leC Zef) L)
 rw [ZU] at this
 exact this
theorem ZoZ (L:List Memb):(cM L).length≤L.length:=by
 have:=Zm1 (fun a b:Memb=>decide (a.category=b.category)) (Zae leM L)
 rw [ZU] at this
 exact this
theorem Zm2 (e:Link) (L:List Link):e ∈ cL L↔e ∈ L:=(ZpQ e _).trans (ZcM (leC Zef) L).mem_iff
theorem Zo0 (a b:Memb) (h:a.category=b.category) (c:Memb):leM c a=leM c b∧leM a c=leM b c:=by
 unfold leM leC ltOf ZdL
 rw [h]
 exact ⟨rfl,rfl⟩
theorem Zq5 (a:Memb):leM a a=true:=by
 have:=Zey a a
 rw [Bool.or_self] at this
 exact this
theorem Zq6 (a b:Memb) (h:leM a b=true) (k:leM b a=true):a.category=b.category:=by
 refine titleCmp_laws.tot a.category b.category ?_ ?_
 ·unfold leM leC at k
  have k2:ltOf ZdL a b=false:=by simpa using k
  exact k2
 ·unfold leM leC at h
  have k2:ltOf ZdL b a=false:=by simpa using h
  exact k2
theorem Zkj (L:List Memb) (c:Title):(cM L).find? (fun e=>decide (e.category=c))=L.find? (fun e=>decide (e.category=c)):=by
 unfold cM
 rw [Zn1 (fun a b h=>by rw [of_decide_eq_true h])]
 refine ZjM (fun x y h hx=>?_) L
 refine decide_eq_false fun hy=>?_
 have e:x.category=y.category:=(of_decide_eq_true hx).trans hy.symm
 rw [← (Zo0 x y e x).1,Zq5] at h
 cases h
theorem ZtN (L:List Memb):(cM L).Pairwise fun a b=>¬ a.category=b.category:=
 ZrG (le:=leM) Memb.category Zq6 Zo0 _ (Zfj Zbk Zey L)
theorem Zo1:∀ {l:List Memb},(l.Pairwise fun a b=>¬ a.category=b.category)→∀ e ∈ l,l.find? (fun x=>decide (x.category=e.category))=some e
 | [],_,e,h=>by cases h
 | y::l,hp,e,h=>by
   obtain ⟨h1,h2⟩:=List.pairwise_cons.1 hp
   rw [List.find?_cons]
   rcases List.mem_cons.1 h with rfl | h
   ·rw [decide_eq_true rfl]
   ·rw [decide_eq_false (h1 e h)]
    exact Zo1 h2 e h
theorem Zkk (n:Nat) (s:List UInt8) (hn:s.length≤n) (h:s.length≤1000):(coll n s).1.length≤s.length∧(coll n s).2.length≤s.length:=by
 obtain ⟨v,hv,h1,h2⟩:=Zuw ⟨[],[]⟩ (bs s) h (by simp) (by simp)
 have e:=ZmR ⟨[],[]⟩ s n hn h (by simp) (by simp)
 rw [e] at hv
 injection hv with hv
 subst hv
 have z:(bs s).size=s.length:=rfl
 rw [z] at h1 h2
 simpa using And.intro h1 h2
theorem Zis (s:List UInt8) (hpl:Zh7 s) (hs:s.length≤1000) (q:Title×Bool) (hq:ZaE (bs s)=some q) (n:Nat) (hn:s.length≤n):Zc2 (bs s)=some (cL ((coll n s).1++rL q),cM (coll n s).2,0):=by
 obtain ⟨c1,c2⟩:=Zkk n s hn hs
 have ho:ZaI 64 ⟨[],[]⟩ (ZqF s)=some ⟨(coll n s).1,(coll n s).2⟩:=by
  rw [Zrx 63 _ _ (by unfold ZqF;split<;>simp)]
  by_cases h:s = []
  ·subst h
   rw [ZbO (by decide)]
   rfl
  ·unfold ZqF
   rw [if_neg h]
   show ((Zkw 63 ⟨[],[]⟩ ⟨1,0,bs s,[],[]⟩).bind fun c'=>some c')=_
   unfold Zkw
   rw [if_pos rfl]
   show ((ZW ⟨[],[]⟩ (bs s)).bind fun c'=>some c')=_
   rw [ZmR ⟨[],[]⟩ s n hn hs (by simp) (by simp)]
   rfl
 have ht:∀ n ∈ ZqF s,ZuE n:=fun n hn=>by
  unfold ZqF at hn
  split at hn
  ·cases hn
  ·rw [List.mem_singleton.1 hn]
   exact ⟨rfl,rfl,rfl⟩
 refine Zay ?_
 unfold Zc2
 refine Zb (Zl5 s hpl (by omega)) (Zca (fun h=>absurd rfl h) fun _=>Zb ho (Zb (Zph (m:=62) (by unfold ZqF;split<;>simp) ht) (Zb hq ?_)))
 refine Zap (fun k=>∀ L:List Link,L.length≤2000→Tot (k L) (fun r=>r=(cL L,cM (coll n s).2,0))) (fun L hL=>?_) fun k hk=>?_
 ·refine Zb (v:=Zae (leC Zef) L) (by unfold Zbr;rw [if_pos (by omega)]) ?_
  refine Zb (ZlZ (coll n s).2 (by omega)) ?_
  refine Zb (Zko _ (by rw [ZU];omega)) ?_
  exact Zb (Zkn _ (by rw [ZU];omega)) (Zd rfl)
 ·unfold rL
  refine ZG (fun h=>?_) fun h=>?_
  ·rw [if_pos h]
   refine Zfz 3000 (by simp only [List.length_singleton];omega) (by omega) (by omega) (hk _ ?_)
   simp only [List.length_append,List.length_singleton]
   omega
  ·rw [if_neg (by rw [h];decide),List.append_nil]
   exact hk _ (by dsimp only;omega)
theorem ZtO (s:List UInt8) (h:Lib.occAt s [35,82,69,68,73,82,69,67,84] 0=false):ZaE (bs s)=some (⟨0,⟨#[]⟩⟩,false):=by
 refine Zay ?_
 unfold ZaE
 refine Zb (ZoT s [35,82,69,68,73,82,69,67,84]) ?_
 have h2:([35,82,69,68,73,82,69,67,84]:List UInt8).isPrefixOf s=false:=h
 rw [h2,if_neg Bool.false_ne_true]
 exact ZG (fun _=>Zd rfl) fun h=>by cases h
theorem Zo2 {β:Type} {l M:List Link} {rest:Option Bool} {R:Bool→Prop} (hl:l.length≤1000000) (hM:M.length≤1000000) (h:∀ e ∈ l,e ∈ M) (hr:Tot rest R):Tot (Zbf Zdo (fun f18 (x143:Int)=>
  if (decide (x143<(l.length:Int))) then
   (atI l x143).bind fun e150=>
   (Zbz M e150).bind fun r151=>
   if (!r151) then
    (some false:Option Bool)
   else
   f18 (w64 (x143+1))
  else rest) 0) R:=by
 refine Zac (fun i=>0≤i) (fun i=>l.length - i.toNat) (by omega) (by omega) fun i rec h0 ih=>?_
 refine Zj (fun hlt=>?_) fun _=>hr
 refine ZeN h0 hlt fun e he _=>Zb (ZiJ M e hM) ?_
 rw [decide_eq_true (h e he)]
 refine ZG (fun h=>by cases h) fun _=>?_
 rw [ZaH (by omega) (by omega)]
 exact ih _ (by omega) (by omega)
theorem Zo3 (p0 p1:ByteArray):ZcV p0 p1=some true:=by
 obtain ⟨a,rfl⟩:∃ a,p0=bs a:=⟨p0.data.toList,rfl⟩
 obtain ⟨b,rfl⟩:∃ b,p1=bs b:=⟨p1.data.toList,rfl⟩
 have za:(bs a).size=a.length:=rfl
 have zb:(bs b).size=b.length:=rfl
 refine Zay ?_
 unfold ZcV
 refine Zap (fun q=>Tot (q true) (fun r=>r=true)∧(a.length≤200→b.length≤200→Zh7 (a++b)→Lib.occAt b [35,82,69,68,73,82,69,67,84] 0=false→Tot (q false) (fun r=>r=true))) ⟨?_,fun ha hb hpl hnr=>?_⟩ fun q hq=>?_
 ·exact ZG (fun _=>Zb ZoL (Zd rfl)) fun h=>by cases h
 ·refine ZG (fun h=>by cases h) fun _=>?_
  have hpa:Zh7 (a++93::93::[10]):=fun c hc=>by
   rcases List.mem_append.1 hc with h | h
   ·exact hpl c (List.mem_append_left _ h)
   ·simp only [List.mem_cons,List.not_mem_nil,or_false] at h
    rcases h with rfl | rfl | rfl<;>decide
  have hpb:Zh7 b:=fun c hc=>hpl c (List.mem_append_right _ hc)
  have hpz:Zh7 (a++93::93::10::b):=fun c hc=>by
   rcases List.mem_append.1 hc with h | h
   ·exact hpl c (List.mem_append_left _ h)
   ·simp only [List.mem_cons] at h
    rcases h with rfl | rfl | rfl | h
    ·decide
    ·decide
    ·decide
    ·exact hpb c h
  have l1:(a++93::93::[10]).length=a.length+3:=by simp
  have l2:(a++93::93::10::b).length=a.length+b.length+3:=by simp;omega
  obtain ⟨q,hred⟩:=ZtH a (by omega)
  have o1:=Zis _ hpa (by omega) q (hred [10] (by simp)) 1000 (by omega)
  have o2:=Zis b hpb (by omega) _ (ZtO b hnr) 1000 (by omega)
  have o3:=Zis _ hpz (by omega) q (hred (10::b) (by simp;omega)) 1000 (by omega)
  rw [Zri (a.length+1) a b (by omega) (by omega) 1000 1000 1000 (by omega) (by omega) (by omega)] at o3
  obtain ⟨A1,A2⟩:=Zkk 1000 _ (by omega) (show (a++93::93::[10]).length≤1000 by omega)
  obtain ⟨B1,B2⟩:=Zkk 1000 b (by omega) (by omega)
  generalize coll 1000 (a++93::93::[10])=A at o1 o3 A1 A2
  generalize coll 1000 b=B at o2 o3 B1 B2
  rw [l1] at A1 A2
  have hR:(rL q).length≤1:=by unfold rL;split<;>simp
  have hR0:rL (⟨0,⟨#[]⟩⟩,false) = []:=rfl
  rw [hR0,List.append_nil] at o2
  have x1:=ZoY (A.1++rL q)
  have y1:=ZoY B.1
  have z1:=ZoY (A.1++B.1++rL q)
  have m1:=ZoZ A.2
  have n1:=ZoZ B.2
  have p1:=ZoZ (A.2++B.2)
  simp only [List.length_append] at x1 z1 p1
  refine Zb (ZdM a [93,93,10] (by simp;omega)) (Zb o1 (Zb o2 (Zb (ZdM a [93,93,10] (by simp;omega)) ?_)))
  refine Zb (v:=bs (a++93::93::10::b)) ?_ (Zb o3 (ZaL ?_))
  ·have:=ZdM (a ++ [93,93,10]) b (by simp;omega)
   rw [List.append_assoc] at this
   exact this
  refine Zca (fun h=>absurd rfl h) fun _=>Zca (fun h=>absurd rfl h) fun _=>?_
  refine ZG (fun h=>by cases h) fun _=>?_
  dsimp only
  refine Zac (fun i=>0≤i) (fun i=>(cL (A.1++B.1++rL q)).length - i.toNat) (by omega) (by omega) fun i rec h0 ih=>?_
  refine Zj (fun hlt=>?_) fun _=>?_
  ·refine Zap (fun k=>Tot (k false) (fun r=>r=true)) (ZG (fun h=>by cases h) fun _=>?_) fun k hk=>?_
   ·rw [ZaH (by omega) (by omega)]
    exact ih _ (by omega) (by omega)
   ·refine ZeN h0 hlt fun e he hi=>Zb (ZiJ _ e (by omega)) ?_
    have hmem:=(Zm2 e _).1 he
    by_cases hin:e ∈ cL (A.1++rL q)
    ·rw [decide_eq_true hin]
     exact ZG (fun h=>by cases h) fun _=>hk
    ·rw [decide_eq_false hin]
     have hB:e ∈ cL B.1:=by
      rw [Zm2] at hin ⊢
      simp only [List.mem_append] at hin hmem
      rcases hmem with (h | h) | h
      ·exact absurd (.inl h) hin
      ·exact h
      ·exact absurd (.inr h) hin
     refine ZG (fun _=>?_) fun h=>by cases h
     refine ZeN h0 hlt fun e2 he2 hi2=>Zb (ZiJ _ e2 (by omega)) ?_
     obtain rfl:e=e2:=by rw [hi] at hi2;exact Option.some.inj hi2
     rw [decide_eq_true hB]
     exact hk
  refine Zo2 (β:=Nat) (by omega) (by omega) (fun e he=>by
   rw [Zm2] at he ⊢
   simp only [List.mem_append] at he ⊢
   rcases he with h | h
   ·exact .inl (.inl h)
   ·exact .inr h) ?_
  refine Zo2 (β:=Nat) (by omega) (by omega) (fun e he=>by
   rw [Zm2] at he ⊢
   simp only [List.mem_append] at he ⊢
   exact .inl (.inr he)) ?_
  refine Zac (fun i=>0≤i) (fun i=>(cM (A.2++B.2)).length - i.toNat) (by omega) (by omega) fun i rec h0 ih=>?_
  refine Zj (fun hlt=>?_) fun _=>?_
  ·refine ZeN h0 hlt fun e he hi=>?_
   have hat:atI (cM (A.2++B.2)) i=some e:=by
    unfold atI
    rw [if_pos h0]
    exact hi
   have hf:=Zo1 (ZtN _) e he
   rw [Zkj,List.find?_append] at hf
   refine Zb (Znj _ _ (by omega)) (Zb hat (Zb (Znj _ _ (by omega)) ?_))
   refine Zap (fun k=>Tot (k false) (fun r=>r=true)) (ZG (fun h=>by cases h) fun _=>?_) fun k hk=>?_
   ·rw [ZaH (by omega) (by omega)]
    exact ih _ (by omega) (by omega)
   ·unfold Zmy
    rw [Zkj,Zkj]
    cases hA:A.2.find? (fun x=>decide (x.category=e.category)) with
    | some e1=>
      rw [hA] at hf
      obtain rfl:e1=e:=Option.some.inj hf
      refine ZG (fun _=>?_) fun h=>by cases h
      refine Zb hat (Zca (fun h=>absurd rfl h) fun _=>?_)
      exact ZG (fun h=>by cases h) fun _=>hk
    | none=>
      rw [hA] at hf
      have hf:B.2.find? (fun x=>decide (x.category=e.category))=some e:=hf
      rw [hf]
      refine ZG (fun h=>by cases h) fun _=>ZG (fun _=>?_) fun h=>by cases h
      refine ZG (fun h=>by cases h) fun _=>Zb hat ?_
      rw [decide_eq_true rfl]
      exact hk
  ·have cover:∀ (L:List Memb),(∀ e ∈ L,e ∈ A.2++B.2)→(cM L).length≤(cM (A.2++B.2)).length:=fun L hL=>by
    have:=Zni ((cM L).map Memb.category) ((cM (A.2++B.2)).map Memb.category) ?_ ?_
    ·simpa using this
    ·exact List.pairwise_map.2 (ZtN L)
    ·intro c hc
     obtain ⟨e,he,rfl⟩:=List.mem_map.1 hc
     have h1:=hL e ((ZcM leM L).mem_iff.1 (ZpR _ e he))
     have h2:((A.2++B.2).find? (fun x=>decide (x.category=e.category))).isSome=true:=by
      rw [List.find?_isSome]
      exact ⟨e,h1,decide_eq_true rfl⟩
     rw [← Zkj] at h2
     obtain ⟨e2,h3⟩:=Option.isSome_iff_exists.1 h2
     exact List.mem_map.2 ⟨e2,List.mem_of_find?_eq_some h3,of_decide_eq_true (p:=e2.category=e.category) (by have:=List.find?_some h3;exact this)⟩
   have c1:=cover A.2 fun e he=>List.mem_append_left _ he
   have c2:=cover B.2 fun e he=>List.mem_append_right _ he
   refine ZaL (Zj (fun _=>Zb ZoL (Zd rfl)) fun h=>absurd ?_ h)
   split<;>omega
 ·refine Zj (fun _=>hq.1) fun h1=>Zj (fun _=>hq.1) fun h2=>?_
  have la:(a++b).length=a.length+b.length:=List.length_append
  refine Zb (ZdM a b (by omega)) (Zb (v:=Lib.containsAny (a++b) [60,123,125]) ?_ (ZG (fun _=>hq.1) fun hany=>?_))
  ·unfold Zby
   rw [if_pos ⟨by show (a++b).length<_;omega,.inr rfl⟩]
   rfl
  have hpl:Zh7 (a++b):=fun c hc=>by
   have h1:=Zsc hany c hc
   refine ⟨fun e=>?_,fun e=>?_,fun e=>?_⟩<;>(subst e;cases h1)
  refine Zb (v:=Lib.contains b [35,82,69,68,73,82,69,67,84]) (by unfold strings_Contains;rw [if_pos (by omega)];rfl) (ZG (fun _=>hq.1) fun hc=>?_)
  refine Zb (ZdM a b (by omega)) (Zb (v:=(Lib.countB (bs (a++b)) ⟨#[91,91]⟩:Int)) (by unfold ZcU;rw [if_pos ⟨by show (a++b).length<_;omega,by decide⟩]) ?_)
  cases decide (15<(Lib.countB (bs (a++b)) ⟨#[91,91]⟩:Int)) with
  | true=>exact hq.1
  | false=>exact hq.2 (by omega) (by omega) hpl (Zmh hc 0 (by omega))
end Go.Proofs.YtmgfammllddkhaaGreatDoor
namespace Go.Proofs.YtmgfammllddkhaaGreatDoor
open Go.RowKit Go.ChangeShapes Go.WideShapes Go.Deep
end Go.Proofs.YtmgfammllddkhaaGreatDoor

namespace Go.Proofs.YtmgfammllddkhaaGreatDoor
open VL Go.RowKit Go.ChangeShapes Go.WideShapes
theorem Zuk {W:World} (hG:Ztp W) (W':World) (hb:Below W.heap.size W W'):WInv.I Tryz.prog W':=
 ⟨hG.imp fun _ hm=>re1 hb (ZcS hm) hm,trivial⟩
end Go.Proofs.YtmgfammllddkhaaGreatDoor
namespace Go.Proofs.YtmgfammllddkhaaGreatDoor
open VL Go.RowKit
theorem Zux {x:Ctx} (i:Nat) (p:PV) (v:Value) (hp:([]:List PV)[i]? = some p) (hv:([]:List Value)[i]? = some v):Rep x p v:=by simp at hp
theorem Zt4 {x:Ctx} {p:PV} {v:Value} {ps:List PV} {vs:List Value} (h:Rep x p v) (r:∀ (i:Nat) (p:PV) (v:Value),ps[i]? = some p→vs[i]? = some v→Rep x p v) (i:Nat) (q:PV) (w:Value) (hp:(p::ps)[i]? = some q) (hv:(v::vs)[i]? = some w):Rep x q w:=by
 cases i with
 | zero=>injection hp with hp;injection hv with hv;subst hp hv;exact h
 | succ i=>exact r i q w (by simpa using hp) (by simpa using hv)
theorem Zuy {x:Ctx} {ps:List PV} {vs:List Value} (r:∀ (i:Nat) (p:PV) (v:Value),ps[i]? = some p→vs[i]? = some v→Rep x p v) (i:Nat) (p:PV) (v:Value) (hp:ps[i]? = some p) (hv:vs.toArray[i]? = some v):Rep x p v:=r i p v hp (by simpa using hv)
theorem Zjl (i0:ByteArray) (i1:ByteArray) (W:World)  (hI:∀ W',Below W.heap.size W W'→WInv.I Tryz.prog W') :
  Calls Tryz.prog 9 #[.string i0,.string i1] W fun e w'=>e = .returned (.bool true)∧Below W.heap.size W w':=
 ZnC (ZhI i0 i1 true (Zo3 i0 i1 )) rfl (fun i p v hp hv=>Zuy (vs:=[.string i0,.string i1]) (Zt4 (.str _) (Zt4 (.str _) Zux)) i p v hp hv) hI
end Go.Proofs.YtmgfammllddkhaaGreatDoor
