/- Functions of the program as Lean functions. Written by fxgen.py. | Functions of the program as Lean functions. Written by fxgen.py. | The first example of the chapter. | Functions of the program as Lean functions. Written by fxgen.py. | Strings made of known bytes and a rest; the tape. | LinksRedirect: the law. | LinksRedirect holds. | From a reading of an argument to the words of the walks: structs field by field, slices element by element. No program is named. | Readings of the wiki's types at this translation. Written by types.py. | Lists of integers; the invariant in all later worlds, where no rules of edit are laid. | LinksRedirect in worlds: whatever the lists and the numbers, the law returns true. -/
import Derived.Test.YtmgfammllddkhaaGreatDoorCL15
import Derived.Test.YtmgfammllddkhaaGreatDoorCL16
import Derived.Test.YtmgfammllddkhaaGreatDoorCL06
import Derived.Test.YtmgfammllddkhaaGreatDoorCL01
import Derived.ProofKit
import Derived.OpenShut
import Derived.Deep.Slices
import Derived.Deep.Strs
import Derived.Test.YtmgfammllddkhaaGreatDoorRows
import Derived.Test.YtmgfammllddkhaaGreatDoorCL03
import Derived.Test.YtmgfammllddkhaaGreatDoorCL02
import Derived.Test.YtmgfammllddkhaaGreatDoorCL05
import Derived.MakeChecks
import Derived.FnData
import Derived.ChangeSame
set_option linter.unusedVariables false
set_option maxHeartbeats 4000000
set_option maxRecDepth 100000
namespace Go.Proofs.YtmgfammllddkhaaGreatDoor
open VL
def Zho (p0:ByteArray):Option ((List Link)×(List Memb)×Int):=
 (Zhk p0).bind fun r1=>
 if (!decide (r1.2=0)) then
  (some ([],[],r1.2):Option ((List Link)×(List Memb)×Int))
 else
 (Zb2 64 (⟨([]:List Link),([]:List Memb)⟩:Finder) r1.1).bind fun r2=>
 (ZaG 64 r2 r1.1).bind fun r3=>
 (ZaJ p0).bind fun r4=>
 letk (fun (x6:List Link)=>
  (ZbX x6).bind fun r7=>
  (ZaN r3.members).bind fun r8=>
  (Za5 r8).bind fun r9=>
  (Zb4 r7).bind fun r10=>
  (some (r10,r9,0):Option ((List Link)×(List Memb)×Int))) fun k1=>
 if r4.2 then
  (Zlb 32 r3.links [(⟨4,r4.1⟩:Link)]).bind fun l11=>
  k1 l11
 else
 k1 r3.links
theorem Zkq (p0:ByteArray) (r:(List Link)×(List Memb)×Int) (h:Zho p0=some r):ZH Tryz.prog 11 [.str p0] (.tup [.sl (List.map Link.cs r.1),.sl (List.map Memb.cs r.2.1),.int .i64 r.2.2]):=by
 refine cF (fun r=>.tup [.sl (List.map Link.cs r.1),.sl (List.map Memb.cs r.2.1),.int .i64 r.2.2]) h mix Tryz.func11 fun r h=>?_
 unfold Zho at h
 refine ZU ?_
 refine rg ?_
 refine rg ?_
 refine aC h (ZiZ _) fun r1 h=>?_
 refine rg ?_
 refine cS h rfl (fun h=>?_) fun h=>?_
 ·refine rg ?_
  cases h
  exact rQ
 refine rg ?_
 refine ZaB (Zb1 20 3000 0 42 3 rfl rfl rfl) (ZU ?_) (List.cons_ne_nil _ _)
 refine ZaB (Zb1 20 3001 1 45 3 rfl rfl rfl) (ZU ?_) (List.cons_ne_nil _ _)
 refine rg ?_
 obtain ⟨r2,h2,h⟩:=bnd h
 refine Zfq (Zf1 64 _ _ _ h2) rfl rfl rfl rfl rfl rfl rfl rfl (ZU ?_)
 refine rg ?_
 obtain ⟨r3,h3,h⟩:=bnd h
 refine Zfq (Zd2 64 _ _ _ h3) rfl rfl rfl rfl rfl rfl rfl rfl (ZU ?_)
 refine rg ?_
 refine aC h (ZcM _) fun r4 h=>?_
 refine rg ?_
 refine jL h (fun x6=>mkS [(7,.ptr 20 (1,20) 0)] [(20,some ((1,20),.box [.row 3000 (1,3000),.row 3001 (1,3001)])),(3000,some ((1,3000),.row 42 3 false (List.map Link.cs x6))),(3001,some ((1,3001),.row 45 3 false (List.map Memb.cs r3.members)))] 2) (fun k1 h=>?_) fun x6 h=>?_
 ·refine cS h rfl (fun h=>?_) fun h=>?_
  ·refine rg ?_
   refine ZcH (M:=([(⟨4,r4.1⟩:Link)]:List Link)) (f:=Link.cs) rfl rfl rfl rfl (Nat.le_of_ble_eq_true rfl) rfl (ZU ?_)
   refine pR Link.cs h fun l11 h=>?_
   exact jn l11 h (sR [(20,4,1),(3000,11,8),(3001,8,2000002)])
  exact jn r3.links h (sR [(20,4,1),(3000,8,1000002),(3001,8,2000002)])
 refine rg ?_
 obtain ⟨r7,h6,h⟩:=bnd h
 refine Zb3 (Zex _ _ h6) rfl rfl rfl rfl rfl (ZU ?_)
 refine rg ?_
 obtain ⟨r8,h7,h⟩:=bnd h
 refine Zb3 (Zcd _ _ h7) rfl rfl rfl rfl rfl (ZU ?_)
 refine rg ?_
 obtain ⟨r9,h8,h⟩:=bnd h
 refine Zm9 (Zcw _ _ h8) rfl rfl rfl rfl (ZU ?_)
 refine rg ?_
 obtain ⟨r10,h9,h⟩:=bnd h
 refine Zm9 (ZeG _ _ h9) rfl rfl rfl rfl (ZU ?_)
 cases h
 exact rQ
def Zep (p0:List Link) (p1:List Link):Option Bool:=
 if (!decide ((p0.length:Int)=(p1.length:Int))) then
  (some false:Option Bool)
 else
 Zby Zev (fun f2 (x18:Int)=>
  if (decide (x18<(p0.length:Int))) then
   (atI p0 x18).bind fun e25=>
   (atI p1 x18).bind fun e26=>
   if (!decide (e25=e26)) then
    (some false:Option Bool)
   else
   f2 (w64 (x18+1))
  else
  (some true:Option Bool)) 0
theorem ZhY (p0:List Link) (p1:List Link) (r:Bool) (h:Zep p0 p1=some r):ZH Tryz.prog 15 [.sl (List.map Link.cs p0),.sl (List.map Link.cs p1)] (.bool r):=by
 refine cF (fun r=>.bool r) h mix Tryz.func15 fun r h=>?_
 unfold Zep at h
 refine ZU ?_
 refine rg ?_
 refine rg ?_
 refine lM Link.cs p0 ?_
 refine lM Link.cs p1 ?_
 refine cS h rfl (fun h=>?_) fun h=>?_
 ·refine rg ?_
  cases h
  exact rQ
 refine rg ?_
 refine bl ?_
 refine Zap h fun f2 mf2 hf2 h=>?_
 refine Zac (α:=Nat×Int) (fun a _=>mkS [(0,.sl (List.map Link.cs p0)),(1,.sl (List.map Link.cs p1)),(5,.int .i64 a.2)] [] 2) (fun a=>Zby a.1 f2 a.2=some r) (fun a=>a.1) (mf2,0) 2 h (sR []) (fun a _ h=>?_)
 obtain ⟨mf2,x18⟩:=a
 obtain ⟨mf2,rfl,h⟩:=Zaq hf2 h
 dsimp only at h ⊢
 refine ZU ?_
 refine rg ?_
 refine lM Link.cs p0 ?_
 refine cS h rfl (fun h=>?_) fun h=>?_
 ·refine bl ?_
  refine rg ?_
  refine aI Link.cs h fun e25 h=>?_
  refine aI Link.cs h fun e26 h=>?_
  refine Zlf (.inr rfl) rfl rfl rfl rfl rfl (fun W=>ZmL e25 e26 W) (ZU ?_)
  refine cS h rfl (fun h=>?_) fun h=>?_
  ·refine rg ?_
   cases h
   exact rQ
  refine rg ?_
  exact rn (mf2,(w64 (x18+1))) h (sR [])
 refine rg ?_
 cases h
 exact rQ
def Zdx (p0:List Memb) (p1:List Memb):Option Bool:=
 if (!decide ((p0.length:Int)=(p1.length:Int))) then
  (some false:Option Bool)
 else
 Zby Zev (fun f2 (x18:Int)=>
  if (decide (x18<(p0.length:Int))) then
   (atI p0 x18).bind fun e25=>
   (atI p1 x18).bind fun e26=>
   if (!decide (e25=e26)) then
    (some false:Option Bool)
   else
   f2 (w64 (x18+1))
  else
  (some true:Option Bool)) 0
theorem Zgw (p0:List Memb) (p1:List Memb) (r:Bool) (h:Zdx p0 p1=some r):ZH Tryz.prog 16 [.sl (List.map Memb.cs p0),.sl (List.map Memb.cs p1)] (.bool r):=by
 refine cF (fun r=>.bool r) h mix Tryz.func16 fun r h=>?_
 unfold Zdx at h
 refine ZU ?_
 refine rg ?_
 refine rg ?_
 refine lM Memb.cs p0 ?_
 refine lM Memb.cs p1 ?_
 refine cS h rfl (fun h=>?_) fun h=>?_
 ·refine rg ?_
  cases h
  exact rQ
 refine rg ?_
 refine bl ?_
 refine Zap h fun f2 mf2 hf2 h=>?_
 refine Zac (α:=Nat×Int) (fun a _=>mkS [(0,.sl (List.map Memb.cs p0)),(1,.sl (List.map Memb.cs p1)),(5,.int .i64 a.2)] [] 2) (fun a=>Zby a.1 f2 a.2=some r) (fun a=>a.1) (mf2,0) 2 h (sR []) (fun a _ h=>?_)
 obtain ⟨mf2,x18⟩:=a
 obtain ⟨mf2,rfl,h⟩:=Zaq hf2 h
 dsimp only at h ⊢
 refine ZU ?_
 refine rg ?_
 refine lM Memb.cs p0 ?_
 refine cS h rfl (fun h=>?_) fun h=>?_
 ·refine bl ?_
  refine rg ?_
  refine aI Memb.cs h fun e25 h=>?_
  refine aI Memb.cs h fun e26 h=>?_
  refine Zlf (.inr rfl) rfl rfl rfl rfl rfl (fun W=>Zpf e25 e26 W) (ZU ?_)
  refine cS h rfl (fun h=>?_) fun h=>?_
  ·refine rg ?_
   cases h
   exact rQ
  refine rg ?_
  exact rn (mf2,(w64 (x18+1))) h (sR [])
 refine rg ?_
 cases h
 exact rQ
def ZeO:Option Bool:=
 (Zho (⟨#[91,91,65,124,98,93,93,32,123,123,116,124,91,91,67,93,93,125,125,32,91,91,67,97,116,101,103,111,114,121,58,88,124,121,93,93,32,60,105,110,99,108,117,100,101,111,110,108,121,62,91,91,68,93,93,60,47,105,110,99,108,117,100,101,111,110,108,121,62]⟩:ByteArray)).bind fun r1=>
 letk (fun (x4:Bool)=>
  (some x4:Option Bool)) fun k1=>
 if (decide (r1.2.2=0)) then
  (Zep r1.1 [(⟨1,(⟨0,(⟨#[65]⟩:ByteArray)⟩:Title)⟩:Link),(⟨2,(⟨3,(⟨#[84]⟩:ByteArray)⟩:Title)⟩:Link)]).bind fun r5=>
  if r5 then
   (Zdx r1.2.1 [(⟨(⟨4,(⟨#[88]⟩:ByteArray)⟩:Title),(⟨#[121]⟩:ByteArray)⟩:Memb)]).bind fun r6=>
   k1 r6
  else
  k1 false
 else
 k1 false
theorem ZhZ  (r:Bool) (h:ZeO=some r):ZH Tryz.prog 10 [] (.bool r):=by
 refine cF (fun r=>.bool r) h mix Tryz.func10 fun r h=>?_
 unfold ZeO at h
 refine ZU ?_
 refine rg ?_
 refine rg ?_
 refine aC h (Zkq _) fun r1 h=>?_
 refine jL h (fun x4=>mkS [(0,.bool x4)] [] 2) (fun k1 h=>?_) fun x4 h=>?_
 ·refine rg ?_
  refine kS 11 h rfl (fun h=>?_) fun h=>?_
  ·refine ZcH (M:=([(⟨1,(⟨0,(⟨#[65]⟩:ByteArray)⟩:Title)⟩:Link),(⟨2,(⟨3,(⟨#[84]⟩:ByteArray)⟩:Title)⟩:Link)]:List Link)) (f:=Link.cs) rfl rfl rfl rfl (Nat.le_of_ble_eq_true rfl) rfl (ZU ?_)
   refine aL h (ZhY _ _) fun r5 h=>?_
   refine kS 20 h rfl (fun h=>?_) fun h=>?_
   ·refine ZcH (M:=([(⟨(⟨4,(⟨#[88]⟩:ByteArray)⟩:Title),(⟨#[121]⟩:ByteArray)⟩:Memb)]:List Memb)) (f:=Memb.cs) rfl rfl rfl rfl (Nat.le_of_ble_eq_true rfl) rfl (ZU ?_)
    refine aL h (Zgw _ _) fun r6 h=>?_
    exact jn r6 h (sR [])
   iterate 5 refine Zao rfl (ZU ?_)
   exact jn false h (sR [])
  iterate 12 refine Zao rfl (ZU ?_)
  exact jn false h (sR [])
 cases h
 exact rQ
end Go.Proofs.YtmgfammllddkhaaGreatDoor
set_option maxRecDepth 1000000
namespace Go.Proofs.YtmgfammllddkhaaGreatDoor
theorem Zmi:ZeO=some true:=by kernel_rfl
end Go.Proofs.YtmgfammllddkhaaGreatDoor
namespace Go.Proofs.YtmgfammllddkhaaGreatDoor
open VL
def Zm1 (p0:List Int):Option TapeF:=
 (some (⟨p0,0⟩:TapeF):Option TapeF)
theorem Zoi (p0:List Int) (r:TapeF) (h:Zm1 p0=some r):ContractN Tryz.prog 17 [.sl (List.map csI p0)] (.box r.cs):=by
 refine Zkm (O:=fun r=>.box r.cs) h mix Tryz.func17 (by kernel_rfl) rfl (by kernel_rfl) fun r h=>?_
 unfold Zm1 at h
 refine ZU ?_
 refine rg ?_
 refine rg ?_
 injection h with h
 subst h
 exact ZpS (t:=5) (g:=(2,2)) (o2:=.box [.sl (List.map csI p0),.int .i64 0]) rfl rfl rfl
def Zb7 (p0:TapeF) (p1:Int):Option (Int×TapeF):=
 if (decide ((p0.l.length:Int)≤p0.pos)) then
  (some (0,p0):Option (Int×TapeF))
 else
 (atI p0.l p0.pos).bind fun e1=>
 (ZpI .i64 (Zqc .and .i64 e1 16777215) p1).bind fun q2=>
 (some (q2,(⟨p0.l,(w64 (p0.pos+1))⟩:TapeF)):Option (Int×TapeF))
theorem Zfb (p0:TapeF) (p1:Int) (r:Int×TapeF) (h:Zb7 p0 p1=some r):Contract Tryz.prog 55 [.ptr 0 (0,0) 0,.int .i64 p1] (some (0,p0.cs)) (.int .i64 r.1) (r.2).cs:=by
 refine Zfs (R:=fun r=>.int .i64 r.1) (O:=fun r=>(r.2).cs) h mix Tryz.func55 (by kernel_rfl) rfl (by kernel_rfl) fun r h=>?_
 unfold Zb7 at h
 refine ZU ?_
 refine rg ?_
 refine rg ?_
 refine lM csI p0.l ?_
 refine cS h rfl (fun h=>?_) fun h=>?_
 ·refine rg ?_
  cases h
  exact ZkK rfl rfl rfl rfl rfl
 refine rg ?_
 refine aI csI h fun e1 h=>?_
 refine rg ?_
 refine rg ?_
 obtain ⟨q2,h2,h⟩:=bnd h
 refine ZpN rfl h2 rfl rfl (ZU ?_)
 cases h
 exact ZkK rfl rfl rfl rfl rfl
def Zb8 (p0:TapeF) (p1:List ByteArray):Option (ByteArray×TapeF):=
 (Zb7 p0 (p1.length:Int)).bind fun r1=>
 (atI p1 r1.1).bind fun e2=>
 (some (e2,r1.2):Option (ByteArray×TapeF))
theorem ZdD (p0:TapeF) (p1:List ByteArray) (r:ByteArray×TapeF) (h:Zb8 p0 p1=some r):Contract Tryz.prog 22 [.ptr 0 (0,0) 0,.sl (List.map csS p1)] (some (0,p0.cs)) (.str r.1) (r.2).cs:=by
 refine Zfs (R:=fun r=>.str r.1) (O:=fun r=>(r.2).cs) h mix Tryz.func22 (by kernel_rfl) rfl (by kernel_rfl) fun r h=>?_
 unfold Zb8 at h
 refine ZU ?_
 refine rg ?_
 refine rg ?_
 refine lM csS p1 ?_
 refine aO h (Zfb _ _) fun r1 h=>?_
 refine aI csS h fun e2 h=>?_
 cases h
 exact ZkK rfl rfl rfl rfl rfl
def Zck (p0:TapeF):Option (Title×TapeF):=
 (Zb7 p0 6).bind fun r1=>
 (Zb8 r1.2 [(⟨#[65]⟩:ByteArray),(⟨#[66]⟩:ByteArray),(⟨#[65,47,66]⟩:ByteArray),(⟨#[67]⟩:ByteArray),(⟨#[84]⟩:ByteArray),(⟨#[85,47,120]⟩:ByteArray),(⟨#[65,47,66,47,99]⟩:ByteArray),(⟨#[76,111,110,103,32,110,97,109,101]⟩:ByteArray),(⟨#[49]⟩:ByteArray),(⟨#[88]⟩:ByteArray)]).bind fun r2=>
 (some ((⟨r1.1,r2.1⟩:Title),r2.2):Option (Title×TapeF))
theorem ZhJ (p0:TapeF) (r:Title×TapeF) (h:Zck p0=some r):Contract Tryz.prog 21 [.ptr 0 (0,0) 0] (some (0,p0.cs)) (r.1.pv) (r.2).cs:=by
 refine Zfs (R:=fun r=>r.1.pv) (O:=fun r=>(r.2).cs) h mix Tryz.func21 (by kernel_rfl) rfl (by kernel_rfl) fun r h=>?_
 unfold Zck at h
 refine ZU ?_
 refine rg ?_
 refine rg ?_
 refine aO h (Zfb _ _) fun r1 h=>?_
 refine ZlB ([(⟨#[65]⟩:ByteArray),(⟨#[66]⟩:ByteArray),(⟨#[65,47,66]⟩:ByteArray),(⟨#[67]⟩:ByteArray),(⟨#[84]⟩:ByteArray),(⟨#[85,47,120]⟩:ByteArray),(⟨#[65,47,66,47,99]⟩:ByteArray),(⟨#[76,111,110,103,32,110,97,109,101]⟩:ByteArray),(⟨#[49]⟩:ByteArray),(⟨#[88]⟩:ByteArray)]:List ByteArray) rfl rfl rfl rfl (by decide) (ZU ?_)
 refine aO h (ZdD _ _) fun r2 h=>?_
 cases h
 exact ZkK rfl rfl rfl rfl rfl
def ZcA (p0:Title):Option ByteArray:=
 (atI [(⟨#[]⟩:ByteArray),(⟨#[84,97,108,107,58]⟩:ByteArray),(⟨#[85,115,101,114,58]⟩:ByteArray),(⟨#[84,101,109,112,108,97,116,101,58]⟩:ByteArray),(⟨#[67,97,116,101,103,111,114,121,58]⟩:ByteArray),(⟨#[80,114,111,106,101,99,116,58]⟩:ByteArray)] p0.space).bind fun e1=>
 (Zh2 e1 p0.name).bind fun s2=>
 (some s2:Option ByteArray)
theorem ZjT (p0:Title) (r:ByteArray) (h:ZcA p0=some r):ZH Tryz.prog 23 [p0.pv] (.str r):=by
 refine cF (fun r=>.str r) h mix Tryz.func23 fun r h=>?_
 unfold ZcA at h
 refine ZU ?_
 refine rg ?_
 refine rg ?_
 refine bM csS ([(⟨#[]⟩:ByteArray),(⟨#[84,97,108,107,58]⟩:ByteArray),(⟨#[85,115,101,114,58]⟩:ByteArray),(⟨#[84,101,109,112,108,97,116,101,58]⟩:ByteArray),(⟨#[67,97,116,101,103,111,114,121,58]⟩:ByteArray),(⟨#[80,114,111,106,101,99,116,58]⟩:ByteArray)]:List ByteArray) ?_
 obtain ⟨e1,h1,h⟩:=bnd h
 refine Zae rfl h1 rfl rfl rfl (ZU ?_)
 refine ZaA rfl h1 rfl rfl rfl (ZU ?_)
 refine sT h fun s2 h=>?_
 cases h
 exact rQ
def ZbR (p0:List Int) (p1:ByteArray):Option Bool:=
 (Zm1 p0).bind fun r1=>
 (Zck r1).bind fun r2=>
 letk (fun (x3:Bool)=>
  if x3 then
   (ZeO).bind fun r5=>
   (some r5:Option Bool)
  else
  (Zb8 r2.2 [(⟨#[]⟩:ByteArray),(⟨#[32]⟩:ByteArray),(⟨#[9,32]⟩:ByteArray),(⟨#[32,32]⟩:ByteArray)]).bind fun r6=>
  (Zh2 (⟨#[35,82,69,68,73,82,69,67,84]⟩:ByteArray) r6.1).bind fun s7=>
  (Zh2 s7 (⟨#[91,91]⟩:ByteArray)).bind fun s8=>
  (Zb8 r6.2 [(⟨#[]⟩:ByteArray),(⟨#[58]⟩:ByteArray),(⟨#[32]⟩:ByteArray)]).bind fun r9=>
  (Zh2 s8 r9.1).bind fun s10=>
  (ZcA r2.1).bind fun r11=>
  (Zh2 s10 r11).bind fun s12=>
  (Zb8 r9.2 [(⟨#[]⟩:ByteArray),(⟨#[35,120]⟩:ByteArray),(⟨#[124,121]⟩:ByteArray)]).bind fun r13=>
  (Zh2 s12 r13.1).bind fun s14=>
  (Zh2 s14 (⟨#[93,93]⟩:ByteArray)).bind fun s15=>
  (Zh2 s15 p1).bind fun s16=>
  (ZaJ s16).bind fun r17=>
  (Zh2 (⟨#[32]⟩:ByteArray) s16).bind fun s18=>
  (ZaJ s18).bind fun r19=>
  letk (fun (x21:Bool)=>
   (some x21:Option Bool)) fun k2=>
  if r17.2 then
   if (decide (r17.1=r2.1)) then
    if (!r19.2) then
     (ZeO).bind fun r22=>
     k2 r22
    else
    k2 false
   else
   k2 false
  else
  k2 false) fun k1=>
 if (decide (r2.1.space=4)) then
  k1 true
 else
 k1 (decide (200<(p1.size:Int)))
theorem Zft (p0:List Int) (p1:ByteArray) (r:Bool) (h:ZbR p0 p1=some r):ZH Tryz.prog 6 [.sl (List.map csI p0),.str p1] (.bool r):=by
 refine cF (fun r=>.bool r) h mix Tryz.func6 fun r h=>?_
 unfold ZbR at h
 refine ZU ?_
 refine rg ?_
 refine rg ?_
 refine aN h (Zoi _) fun r1 h=>?_
 refine rg ?_
 refine aO h (ZhJ _) fun r2 h=>?_
 refine jL h (fun x3=>mkS [(1,.str p1),(5,.ptr 13 (1,13) 0),(6,.ptr 6 (1,6) 0),(23,.bool x3)] [(6,some ((1,6),.box (Title.cs r2.1))),(13,some ((1,13),.box (TapeF.cs r2.2)))] 2) (fun k1 h=>?_) fun x3 h=>?_
 ·refine rg ?_
  refine kS 19 h rfl (fun h=>?_) fun h=>?_
  ·iterate 3 refine Zao rfl (ZU ?_)
   exact jn true h (sR [(6,3,2),(13,2,1)])
  exact jn (decide (200<(p1.size:Int))) h (sR [(6,3,2),(13,2,1)])
 refine cS h rfl (fun h=>?_) fun h=>?_
 ·refine rg ?_
  refine aC h ZhZ fun r5 h=>?_
  cases h
  exact rQ
 refine rg ?_
 refine bM csS ([(⟨#[]⟩:ByteArray),(⟨#[32]⟩:ByteArray),(⟨#[9,32]⟩:ByteArray),(⟨#[32,32]⟩:ByteArray)]:List ByteArray) ?_
 refine aO h (ZdD _ _) fun r6 h=>?_
 refine sT h fun s7 h=>?_
 refine sT h fun s8 h=>?_
 refine bM csS ([(⟨#[]⟩:ByteArray),(⟨#[58]⟩:ByteArray),(⟨#[32]⟩:ByteArray)]:List ByteArray) ?_
 refine aO h (ZdD _ _) fun r9 h=>?_
 refine sT h fun s10 h=>?_
 refine aC h (ZjT _) fun r11 h=>?_
 refine sT h fun s12 h=>?_
 refine bM csS ([(⟨#[]⟩:ByteArray),(⟨#[35,120]⟩:ByteArray),(⟨#[124,121]⟩:ByteArray)]:List ByteArray) ?_
 refine aO h (ZdD _ _) fun r13 h=>?_
 refine sT h fun s14 h=>?_
 refine sT h fun s15 h=>?_
 refine sT h fun s16 h=>?_
 refine rg ?_
 refine aC h (ZcM _) fun r17 h=>?_
 refine rg ?_
 refine sT h fun s18 h=>?_
 refine aC h (ZcM _) fun r19 h=>?_
 refine jL h (fun x21=>mkS [(4,.bool x21)] [] 2) (fun k2 h=>?_) fun x21 h=>?_
 ·refine rg ?_
  refine kS 56 h rfl (fun h=>?_) fun h=>?_
  ·refine Zlf (.inl rfl) rfl rfl rfl rfl rfl (fun W=>ZkQ r17.1 r2.1 W) (ZU ?_)
   refine kS 61 h rfl (fun h=>?_) fun h=>?_
   ·refine kS 65 h rfl (fun h=>?_) fun h=>?_
    ·refine aC h ZhZ fun r22 h=>?_
     exact jn r22 h (sR [])
    refine Zao rfl (ZU ?_)
    exact jn false h (sR [])
   iterate 3 refine Zao rfl (ZU ?_)
   exact jn false h (sR [])
  iterate 6 refine Zao rfl (ZU ?_)
  exact jn false h (sR [])
 cases h
 exact rQ
end Go.Proofs.YtmgfammllddkhaaGreatDoor
namespace Go.Proofs.YtmgfammllddkhaaGreatDoor
open VL Go.RowKit
def bs (l:List UInt8):ByteArray:=⟨l.toArray⟩
theorem Zi7 (l:List UInt8):(bs l).size=l.length:=rfl
theorem Zp4 (a b:List UInt8):bs a++bs b=bs (a++b):=by
 apply ByteArray.ext
 rw [ByteArray.data_append]
 simp [bs]
theorem Zip (a b:List UInt8):(bs (a++b)).extract 0 a.length=bs a:=by
 apply ByteArray.ext
 rw [ByteArray.data_extract]
 simp [bs]
theorem Zpc (a b:List UInt8):(bs (a++b)).extract a.length (a++b).length=bs b:=by
 apply ByteArray.ext
 rw [ByteArray.data_extract]
 simp [bs]
theorem ZdL {α:Type} {x:Option α} {v:α} (h:Tot x (fun r=>r=v)):x=some v:=by
 obtain ⟨w,h1,h2⟩:=h
 rw [h1,h2]
theorem Zp5 (p r:List UInt8):ZY (bs (p++r)) (bs p)=some true:=by
 have z1:(bs p).size=p.length:=rfl
 have z2:(bs (p++r)).size=p.length+r.length:=by rw [Zi7,List.length_append]
 refine ZdL ?_
 unfold ZY
 refine ZfJ (ZdK (fun _=>?_) fun h=>absurd (by omega) h)
 refine Zi0 (by omega) (by omega) (by omega) fun m hm _=>?_
 have e:m=bs p:=hm.trans (Zip p r)
 refine Zbf ?_
 rw [e]
 simp
theorem ZoK (p r:List UInt8):ZaL (bs (p++r)) (bs p)=some (bs r,true):=by
 have z1:(bs p).size=p.length:=rfl
 have z2:(bs (p++r)).size=p.length+r.length:=by rw [Zi7,List.length_append]
 refine ZdL ?_
 unfold ZaL Zas
 refine Zah (v:=(bs r,true)) (ZdL ?_) (Zbf rfl)
 refine Zah (Zp5 p r) ?_
 refine Zi0 (by omega) (by omega) (by omega) fun m hm _=>?_
 have e:m=bs r:=by
  rw [hm]
  have:(((bs (p++r)).size:Int)).toNat=(p++r).length:=by rw [z2,List.length_append];omega
  rw [this]
  exact Zpc p r
 exact Zbf (by rw [e])
theorem ZqC (c d:UInt8) (p r:List UInt8) (h:c≠d):ZaL (bs (c::r)) (bs (d::p))=some (bs (c::r),false):=by
 have z1:(bs (d::p)).size=p.length+1:=rfl
 have z2:(bs (c::r)).size=r.length+1:=rfl
 have e:ZY (bs (c::r)) (bs (d::p))=some false:=by
  refine ZdL ?_
  unfold ZY
  refine ZfJ (ZdK (fun hl=>?_) fun _=>Zbf rfl)
  refine Zi0 (by omega) (by omega) (by omega) fun m hm _=>?_
  refine Zbf (decide_eq_false fun he=>h ?_)
  have hq:(((bs (d::p)).size:Int)).toNat=p.length+1:=by omega
  rw [hq] at hm
  have h2:=congrArg (fun s:ByteArray=>s.data.toList.head?) (hm.symm.trans he)
  simp only [ByteArray.data_extract] at h2
  simp [bs] at h2
  exact h2
 refine ZdL ?_
 unfold ZaL Zas
 exact Zah (v:=(bs (c::r),false)) (ZdL (Zah e (Zbf rfl))) (Zbf rfl)
theorem ZjC {L:List UInt8} {n:Nat} {c:UInt8} (h:L[n]? = some c):atS (bs L) (n:Int)=some (c.toNat:Int):=by
 obtain ⟨hl,he⟩:=List.getElem?_eq_some_iff.1 h
 rw [Zp1 (show n<(bs L).size from hl)]
 subst he
 rfl
theorem ZqD (a b:List UInt8) (ha:a.all (fun c=>c != 124&&c != 93)=true) (hl:a.length≤1000) (hb:(∃ r,b=124::r)∨∃ r,b=93::93::r) (hs:b.length≤1000000):ZdW (bs (a++b))=some (a.length:Int):=by
 refine ZdL ?_
 unfold ZdW
 have z:(bs (a++b)).size=a.length+b.length:=by rw [Zi7,List.length_append]
 have hbl:1≤b.length:=by rcases hb with ⟨r,rfl⟩ | ⟨r,rfl⟩<;>simp
 refine ZnT (fun i=>0≤i∧i≤(a.length:Int)) (fun i=>a.length - i.toNat) ⟨by omega,by omega⟩ (by omega) fun i rec hJ ih=>?_
 obtain ⟨h0,h1⟩:=hJ
 obtain ⟨n,rfl⟩:∃ n:Nat,i=(n:Int):=⟨i.toNat,by omega⟩
 refine ZdK (fun _=>?_) fun h=>absurd (by omega) h
 refine ZfJ ?_
 by_cases hlt:n<a.length
 ·have hc:(a++b)[n]? = some a[n]:=by rw [List.getElem?_append_left hlt];exact List.getElem?_eq_getElem hlt
  have e:=ZjC hc
  have hx:=List.all_eq_true.1 ha a[n] (List.getElem_mem hlt)
  simp only [Bool.and_eq_true,bne_iff_ne,ne_eq] at hx
  have n1:¬ ((a[n].toNat:Int)=124):=fun h=>hx.1 (UInt8.toNat_inj.1 (show a[n].toNat=124 by omega))
  have n2:¬ ((a[n].toNat:Int)=93):=fun h=>hx.2 (UInt8.toNat_inj.1 (show a[n].toNat=93 by omega))
  refine Zah e (ZdK (fun h=>absurd h n1) fun _=>?_)
  refine Zah e (ZdK (fun h=>absurd h n2) fun _=>?_)
  show Tot (rec (w64 (n+1))) _
  rw [ZmB (by omega) (by omega)]
  exact ih _ ⟨by omega,by omega⟩ (by omega)
 ·have hna:n=a.length:=by omega
  subst hna
  rcases hb with ⟨r,rfl⟩ | ⟨r,rfl⟩
  ·have hc:(a++124::r)[a.length]? = some 124:=by rw [List.getElem?_append_right (Nat.le_refl _)];simp
   exact Zah (ZjC hc) (Zbf rfl)
  ·have hc:(a++93::93::r)[a.length]? = some 93:=by rw [List.getElem?_append_right (Nat.le_refl _)];simp
   have hc1:(a++93::93::r)[a.length+1]? = some 93:=by rw [List.getElem?_append_right (by omega)];simp
   have hw:w64 ((a.length:Int)+1)=((a.length+1:Nat):Int):=by rw [ZmB (by omega) (by omega)];omega
   have hz:(93::93::r).length=r.length+2:=rfl
   refine Zah (ZjC hc) ?_
   refine Zah (ZjC hc) ?_
   show Tot (if decide (w64 ((a.length:Int)+1)<_)=true then _ else _) _
   rw [hw]
   refine ZdK (fun _=>?_) fun h=>absurd (by omega) h
   exact Zah (ZjC hc1) (Zbf rfl)
structure TapeF.ok (s:TapeF):Prop where
 len:s.l.length≤9223372036854775807
 pos:0≤s.pos
theorem ZqG (v:Int):∃ q:Nat,IntKind.i64.wrap (BitVec.ofInt 64 v &&& BitVec.ofInt 64 16777215).toNat=(q:Int)∧q≤16777215:=by
 have h:(BitVec.ofInt 64 v &&& BitVec.ofInt 64 16777215).toNat≤16777215:=by
  rw [BitVec.toNat_and]
  exact Nat.le_trans Nat.and_le_right (by decide)
 generalize (BitVec.ofInt 64 v &&& BitVec.ofInt 64 16777215).toNat=q at h
 refine ⟨q,?_,h⟩
 rw [IntKind.wrap_i64]
 omega
theorem Ziz (s:TapeF) (n:Int) (hs:s.ok) (h0:0<n):Tot (Zb7 s n) fun r=>(0≤r.1∧r.1<n)∧r.2.ok:=by
 have hl:=hs.len
 have hp:=hs.pos
 unfold Zb7
 refine ZdK (fun _=>Zbf ⟨⟨Int.le_refl _,h0⟩,hs⟩) fun h=>?_
 refine Zkp hp (by omega) fun e _ _=>?_
 refine ZnU (by omega) ?_
 obtain ⟨q,hq,_⟩:=ZqG e
 have e1:Zqc .and .i64 e 16777215=(q:Int):=hq
 rw [e1]
 refine Zbf ⟨⟨Int.tmod_nonneg n (by omega),Int.tmod_lt_of_pos _ h0⟩,⟨hl,?_⟩⟩
 show 0≤w64 (s.pos+1)
 rw [ZmB (by omega) (by omega)]
 omega
theorem Zg6 (s:TapeF) (L:List ByteArray) (hs:s.ok) (h0:0<L.length):Tot (Zb8 s L) fun r=>r.1 ∈ L∧r.2.ok:=by
 unfold Zb8
 refine Zec (Ziz s _ hs (by omega)) fun r hr=>?_
 exact Zkp hr.1.1 hr.1.2 fun e he _=>Zbf ⟨he,hr.2⟩
def tapeNames:List ByteArray:=[(⟨#[65]⟩:ByteArray),(⟨#[66]⟩:ByteArray),(⟨#[65,47,66]⟩:ByteArray),(⟨#[67]⟩:ByteArray),(⟨#[84]⟩:ByteArray),(⟨#[85,47,120]⟩:ByteArray),(⟨#[65,47,66,47,99]⟩:ByteArray),(⟨#[76,111,110,103,32,110,97,109,101]⟩:ByteArray),(⟨#[49]⟩:ByteArray),(⟨#[88]⟩:ByteArray)]
def tapeSpaces:List Int:=[0,1,2,3,4,5]
theorem ZkB (s:TapeF) (hs:s.ok):Tot (Zck s) fun r=>(r.1.space ∈ tapeSpaces∧r.1.name ∈ tapeNames)∧r.2.ok:=by
 unfold Zck
 refine Zec (Ziz s 6 hs (by omega)) fun r hr=>?_
 refine Zec (Zg6 _ _ hr.2 (by simp)) fun q hq=>?_
 refine Zbf ⟨⟨?_,hq.1⟩,hq.2⟩
 obtain ⟨h1,h2⟩:=hr.1
 show r.1 ∈ [0,1,2,3,4,5]
 have:r.1=0∨r.1=1∨r.1=2∨r.1=3∨r.1=4∨r.1=5:=by omega
 simpa using this
def redL:List UInt8:=[35,82,69,68,73,82,69,67,84]
theorem ZlK (b tgt rest:List UInt8) (t:Title) (hb:(b++91::91::(tgt++rest)).dropWhile cutB.contains=91::91::(tgt++rest))
  (ha:tgt.all (fun c=>c != 124&&c != 93)=true) (hl:tgt.length≤1000) (hr:(∃ r,rest=124::r)∨∃ r,rest=93::93::r) (hs:rest.length≤1000000)
  (h1:strings_Contains (bs tgt) ⟨#[91,91]⟩=some false) (h2:strings_Contains (bs tgt) ⟨#[10]⟩=some false) (h3:Zcx (bs tgt)=some (t,0)) :
  ZaJ (bs (redL++(b++91::91::(tgt++rest))))=some (t,true):=by
 have z:(bs (tgt++rest)).size=tgt.length+rest.length:=by rw [Zi7,List.length_append]
 have hx:ZfB (bs (tgt++rest)) 0 (tgt.length:Int)=some (bs tgt):=by
  unfold ZfB
  rw [if_pos ⟨by omega,by omega,by omega⟩]
  exact congrArg some (Zip tgt rest)
 have ht:Zbb (bs (b++91::91::(tgt++rest))) ⟨#[32,9]⟩=some (bs ([91,91]++(tgt++rest))):=by
  unfold Zbb
  rw [if_pos rfl]
  exact congrArg (fun l=>some (bs l)) hb
 refine ZdL ?_
 unfold ZaJ
 refine Zah (ZoK redL _) ?_
 refine ZfI (fun h=>by cases h) fun _=>?_
 refine Zah ht ?_
 refine Zah (ZoK [91,91] _) ?_
 refine Zah (ZqD tgt rest ha hl hr hs) ?_
 refine ZfJ ?_
 refine ZfI (fun h=>by cases h) fun _=>?_
 refine ZdK (fun h=>absurd h (by omega)) fun _=>?_
 refine Zah hx (Zah h1 ?_)
 refine ZfI (fun h=>by cases h) fun _=>?_
 refine Zah hx (Zah h2 ?_)
 refine ZfI (fun h=>by cases h) fun _=>?_
 exact Zah hx (Zah h3 (Zbf rfl))
theorem ZjX (r:List UInt8):ZaJ (bs (32::r))=some (⟨0,⟨#[]⟩⟩,false):=by
 refine ZdL ?_
 unfold ZaJ
 refine Zah (ZqC 32 35 redL.tail r (by decide)) ?_
 exact ZfI (fun _=>Zbf rfl) fun h=>by cases h
def colonsL:List ByteArray:=[(⟨#[]⟩:ByteArray),(⟨#[58]⟩:ByteArray),(⟨#[32]⟩:ByteArray)]
def Zgr:List ByteArray:=[(⟨#[]⟩:ByteArray),(⟨#[32]⟩:ByteArray),(⟨#[9,32]⟩:ByteArray),(⟨#[32,32]⟩:ByteArray)]
def tailsL:List ByteArray:=[(⟨#[]⟩:ByteArray),(⟨#[35,120]⟩:ByteArray),(⟨#[124,121]⟩:ByteArray)]
def Zqg (t:Title) (c tl:ByteArray):Option ByteArray:=(ZcA t).map fun f=>c++f++(if tl=⟨#[35,120]⟩ then tl else ⟨#[]⟩)
def ZqH (t:Title) (c tl:ByteArray):Bool:=match Zqg t c tl with
 | some g=>g.data.toList.all (fun c=>c != 124&&c != 93)&&decide (g.data.toList.length≤1000)&&(strings_Contains g ⟨#[91,91]⟩ == some false)&&(strings_Contains g ⟨#[10]⟩ == some false)&&(Zcx g == some (t,0))
 | none=>false
theorem Zpv:((tapeSpaces.filter (· != 4)).all fun sp=>tapeNames.all fun nm=>colonsL.all fun c=>tailsL.all fun tl=>ZqH ⟨sp,nm⟩ c tl)=true:=by kernel_rfl
theorem Znk (a b:ByteArray):(a++b).data.toList=a.data.toList++b.data.toList:=by
 rw [ByteArray.data_append,Array.toList_append]
theorem ZqI (t:Title) (h1:t.space ∈ tapeSpaces) (h2:t.name ∈ tapeNames):Tot (ZcA t) fun f=>f.size≤100:=by
 have hn:t.name.size≤20:=by
  have:tapeNames.all (fun x=>decide (x.size≤20))=true:=by decide
  simpa using List.all_eq_true.1 this t.name h2
 have hs:0≤t.space∧t.space<6:=by
  have:tapeSpaces.all (fun x=>decide (0≤x∧x<6))=true:=by decide
  simpa using List.all_eq_true.1 this t.space h1
 unfold ZcA
 refine Zkp hs.1 hs.2 fun e he _=>?_
 have h3:e.size≤20:=by
  have:([(⟨#[]⟩:ByteArray),(⟨#[84,97,108,107,58]⟩:ByteArray),(⟨#[85,115,101,114,58]⟩:ByteArray),(⟨#[84,101,109,112,108,97,116,101,58]⟩:ByteArray),(⟨#[67,97,116,101,103,111,114,121,58]⟩:ByteArray),(⟨#[80,114,111,106,101,99,116,58]⟩:ByteArray)]:List ByteArray).all (fun x=>decide (x.size≤20))=true:=by decide
  simpa using List.all_eq_true.1 this e he
 exact ZcX (by omega) fun hz=>Zbf (by rw [hz];omega)
theorem Zpy {sp:Int} {nm c tl:ByteArray} (h1:sp ∈ tapeSpaces) (h4:¬ sp=4) (h2:nm ∈ tapeNames) (h3:c ∈ colonsL) (h5:tl ∈ tailsL):ZqH ⟨sp,nm⟩ c tl=true:=by
 have a1:=List.all_eq_true.1 Zpv sp (List.mem_filter.2 ⟨h1,by simpa using h4⟩)
 have a2:=List.all_eq_true.1 a1 nm h2
 have a3:=List.all_eq_true.1 a2 c h3
 exact List.all_eq_true.1 a3 tl h5
theorem ZlQ (b:ByteArray) (hb:b ∈ Zgr) (x:List UInt8):(b.data.toList++91::91::x).dropWhile cutB.contains=91::91::x:=by
 simp only [Zgr,List.mem_cons,List.not_mem_nil,or_false] at hb
 rcases hb with rfl | rfl | rfl | rfl<;>rfl
theorem Zqj (t:Title) (b c f tl s:ByteArray) (h1:t.space ∈ tapeSpaces) (h4:¬ t.space=4) (h2:t.name ∈ tapeNames) (hb:b ∈ Zgr) (hc:c ∈ colonsL) (htl:tl ∈ tailsL) (hf:ZcA t=some f) (hs:s.size≤200) :
  ∃ r,(((((⟨#[35,82,69,68,73,82,69,67,84]⟩++b)++⟨#[91,91]⟩)++c)++f)++tl)++⟨#[93,93]⟩++s=bs r∧ZaJ (bs r)=some (t,true):=by
 have hk:=Zpy (sp:=t.space) (nm:=t.name) h1 h4 h2 hc htl
 unfold ZqH Zqg at hk
 rw [show (⟨t.space,t.name⟩:Title)=t from rfl,hf] at hk
 simp only [Option.map_some,Bool.and_eq_true,decide_eq_true_eq,beq_iff_eq] at hk
 obtain ⟨⟨⟨⟨k1,k2⟩,k3⟩,k4⟩,k5⟩:=hk
 have hz:s.data.toList.length≤200:=by simpa using hs
 have fin:∀ (tgt rest:List UInt8),c++f++(if tl=⟨#[35,120]⟩ then tl else ⟨#[]⟩)=bs tgt→c.data.toList++f.data.toList++tl.data.toList ++ [93,93]++s.data.toList=tgt++rest→((∃ r,rest=124::r)∨∃ r,rest=93::93::r)→rest.length≤1000000→
   ∃ r,(((((⟨#[35,82,69,68,73,82,69,67,84]⟩++b)++⟨#[91,91]⟩)++c)++f)++tl)++⟨#[93,93]⟩++s=bs r∧ZaJ (bs r)=some (t,true):=fun tgt rest e1 e2 e3 e4=>by
  rw [e1] at k1 k2 k3 k4 k5
  refine ⟨redL++(b.data.toList++91::91::(tgt++rest)),?_,ZlK _ _ _ _ (ZlQ b hb _) k1 k2 e3 e4 k3 k4 k5⟩
  apply ByteArray.ext
  apply Array.toList_inj.1
  rw [← e2]
  simp only [Znk,bs,redL]
  simp
 simp only [tailsL,List.mem_cons,List.not_mem_nil,or_false] at htl
 rcases htl with rfl | rfl | rfl
 ·refine fin (c.data.toList++f.data.toList) (93::93::s.data.toList) ?_ (by simp) (.inr ⟨_,rfl⟩) (by simp;omega)
  rw [if_neg (by decide)]
  apply ByteArray.ext
  apply Array.toList_inj.1
  simp [bs]
 ·refine fin (c.data.toList++f.data.toList ++ [35,120]) (93::93::s.data.toList) ?_ (by simp) (.inr ⟨_,rfl⟩) (by simp;omega)
  rw [if_pos rfl]
  apply ByteArray.ext
  apply Array.toList_inj.1
  simp [bs]
 ·refine fin (c.data.toList++f.data.toList) (124::121::93::93::s.data.toList) ?_ (by simp) (.inl ⟨_,rfl⟩) (by simp;omega)
  rw [if_neg (by decide)]
  apply ByteArray.ext
  apply Array.toList_inj.1
  simp [bs]
theorem ZkF {L:List ByteArray} (h:L.all (fun x=>decide (x.size≤10))=true) {x:ByteArray} (hx:x ∈ L):x.size≤10:=by simpa using List.all_eq_true.1 h x hx
set_option maxHeartbeats 1000000 in
theorem Zj4 (l:List Int) (s:ByteArray) (hl:l.length≤9223372036854775807):ZbR l s=some true:=by
 refine ZdL ?_
 unfold ZbR
 refine Zah (v:=⟨l,0⟩) rfl ?_
 refine Zec (ZkB ⟨l,0⟩ ⟨hl,Int.le_refl _⟩) fun r2 hr2=>?_
 obtain ⟨⟨h1,h2⟩,hok⟩:=hr2
 refine Zo4 (fun q=>Tot (q true) (fun r=>r=true)∧(¬ r2.1.space=4→s.size≤200→Tot (q false) (fun r=>r=true))) ⟨?_,fun h4 hs=>?_⟩ fun q hq=>?_
 ·exact ZfI (fun _=>Zah Zmi (Zbf rfl)) fun h=>by cases h
 ·refine ZfI (fun h=>by cases h) fun _=>?_
  refine Zec (Zg6 r2.2 Zgr hok (by simp [Zgr])) fun r6 h6=>?_
  have z6:=ZkF (L:=Zgr) (by decide) h6.1
  have zr:(⟨#[35,82,69,68,73,82,69,67,84]⟩:ByteArray).size=9:=rfl
  have zb:(⟨#[91,91]⟩:ByteArray).size=2:=rfl
  have ze:(⟨#[93,93]⟩:ByteArray).size=2:=rfl
  refine ZcX (by omega) fun z7=>?_
  refine ZcX (by omega) fun z8=>?_
  refine Zec (Zg6 r6.2 colonsL h6.2 (by simp [colonsL])) fun r9 h9=>?_
  have z9:=ZkF (L:=colonsL) (by decide) h9.1
  refine ZcX (by omega) fun z10=>?_
  obtain ⟨f,hf,z11⟩:=ZqI r2.1 h1 h2
  refine Zah hf ?_
  refine ZcX (by omega) fun z12=>?_
  refine Zec (Zg6 r9.2 tailsL h9.2 (by simp [tailsL])) fun r13 h13=>?_
  have z13:=ZkF (L:=tailsL) (by decide) h13.1
  refine ZcX (by omega) fun z14=>?_
  refine ZcX (by omega) fun z15=>?_
  refine ZcX (by omega) fun z16=>?_
  obtain ⟨r,e1,e2⟩:=Zqj r2.1 r6.1 r9.1 f r13.1 s h1 h4 h2 h6.1 h9.1 h13.1 hf hs
  rw [e1]
  refine Zah e2 ?_
  have zr':(bs r).size≤1000:=by rw [← e1];omega
  have zs:(⟨#[32]⟩:ByteArray).size=1:=rfl
  refine ZcX (by omega) fun z18=>?_
  have e3:(⟨#[32]⟩:ByteArray)++bs r=bs (32::r):=Zp4 [32] r
  rw [e3]
  refine Zah (ZjX r) ?_
  refine ZfJ ?_
  refine ZfI (fun _=>?_) fun h=>by cases h
  refine ZdK (fun _=>?_) fun h=>absurd rfl h
  refine ZfI (fun _=>?_) fun h=>by cases h
  exact Zah Zmi (Zbf rfl)
 ·refine ZdK (fun _=>hq.1) fun h4=>?_
  by_cases hs:(200:Int)<(s.size:Int)
  ·rw [decide_eq_true hs];exact hq.1
  ·rw [decide_eq_false hs];exact hq.2 h4 (by omega)
end Go.Proofs.YtmgfammllddkhaaGreatDoor
namespace Go.Proofs.YtmgfammllddkhaaGreatDoor
open Go.RowKit Go.ChangeShapes Go.WideShapes Go.Deep
theorem ZfH {α:Type} (f:Nat→Option α):∀ n,(∀ i,i<n→∃ t,f i=some t)→((List.range n).filterMap f).length=n∧∀ i,i<n→((List.range n).filterMap f)[i]? = f i
 | 0,_=>⟨rfl,fun i h=>absurd h (by omega)⟩
 | n+1,h=>by
   obtain ⟨h1,h2⟩:=ZfH f n fun i hi=>h i (by omega)
   obtain ⟨t,ht⟩:=h n (by omega)
   rw [List.range_succ,List.filterMap_append]
   have e:List.filterMap f [n] = [t]:=by simp [ht]
   rw [e]
   refine ⟨by simp [h1],fun i hi=>?_⟩
   rcases Nat.lt_or_ge i n with hl | hl
   ·rw [List.getElem?_append_left (by omega)];exact h2 i hl
   ·obtain rfl:i=n:=by omega
    rw [List.getElem?_append_right (by omega),h1,ht];simp
section
variable {H:Type} {enc:TypeId×Value→H} {P:Program} {W:World}
def Rd (enc:TypeId×Value→H) (P:Program) (W:World) (T:TypeId) (α:Type) [Enc α]:Prop:=
 ∀ fuel cs x,DataW.trod enc P W 0 (fun _=>true) true fuel T cs=some x→∃ t:α,Enc.RT W t cs
theorem ZpY {T:TypeId} (hT:P.underlying T=some (.int .i64)):Rd enc P W T Int:=fun _ _ _ h=>by
 obtain ⟨n,hc,_⟩:=DataW.trod_int hT h
 exact ⟨n,hc⟩
theorem ZnS {S E:TypeId} {α:Type} [Enc α] (hS:P.underlying S=some (.slice E)) (hk:P.cellsOf E=Enc.k α) (h0:0<Enc.k α) (hE:Rd enc P W E α):Rd enc P W S (List α):=fun fuel cs x h=>by
 rcases open_slice hS h with ⟨hc,_⟩ | ⟨a,len,cap,m,n,D,Pl,hc,_,hl,hm,hmm,_,hel⟩
 ·exact ⟨[],none,0,0,hc,SlR.nil W⟩
 ·have hm':m=cap:=by simpa using hmm
  have hx:∀ i,∃ (cs':List Value) (t:Option α),i<len→∃ t',t=some t'∧Enc.RT W t' cs'∧∀ j v,cs'[j]? = some v→W.cell? (a.add (i * P.cellsOf E+j))=some v:=fun i=>by
   by_cases hi:i<len
   ·obtain ⟨cs',h1,h2⟩:=hel i (by omega)
    obtain ⟨t,ht⟩:=hE _ _ _ h2
    obtain ⟨_,hlen,hcell⟩:=World.cells?_some h1
    refine ⟨cs',some t,fun _=>⟨t,rfl,ht,fun j v hj=>?_⟩⟩
    have hjl:j<P.cellsOf E:=by rw [← hlen];exact (List.getElem?_eq_some_iff.1 hj).1
    rw [← Go.Deep.add_add,hcell j hjl,hj]
   ·exact ⟨[],none,fun h=>absurd h hi⟩
  obtain ⟨css,hx⟩:=Classical.axiomOfChoice hx
  obtain ⟨ts,hx⟩:=Classical.axiomOfChoice hx
  refine ⟨(List.range len).filterMap ts,some a,len,cap,hc,?_⟩
  have hlen:((List.range len).filterMap ts).length=len∧∀ i,i<len→((List.range len).filterMap ts)[i]? = ts i:=ZfH ts len fun i hi=>by
   obtain ⟨t,ht,_⟩:=hx i hi
   exact ⟨t,ht⟩
  refine ⟨hlen.1.symm,hl,by unfold maxLen at hm;exact hm,fun hpos=>?_⟩
  obtain ⟨t0,_,hR0,hc0⟩:=hx 0 hpos
  have hl0:=Enc.len hR0
  have hcell0:=hc0 0 ((css 0)[0]'(by omega)) (List.getElem?_eq_getElem (by omega))
  obtain ⟨b,off,spot⟩:=a
  have hspot:spot=none:=by
   simp only [Nat.zero_mul,Nat.add_zero,Addr.add,if_true] at hcell0
   cases spot with
   | none=>rfl
   | some s=>
     exfalso
     unfold World.cell? at hcell0
     split at hcell0<;>simp at hcell0
  subst hspot
  refine ⟨b,off,css,rfl,trivial,?_,fun i x hi=>?_⟩
  ·simp only [Nat.zero_mul,Nat.add_zero,Addr.add,if_true] at hcell0
   exact ZfA hcell0
  ·have hil:i<len:=by rw [← hlen.1];exact (List.getElem?_eq_some_iff.1 hi).1
   obtain ⟨t,ht,hR,hcell⟩:=hx i hil
   rw [hlen.2 i hil,ht] at hi
   obtain rfl:t=x:=by simpa using hi
   refine ⟨hR,fun j v hj=>?_⟩
   have:=hcell j v hj
   rw [hk] at this
   unfold Addr.add at this
   split at this
   ·rename_i h0;rw [Nat.add_assoc,h0];exact this
   ·rw [Nat.add_assoc];exact this
end
end Go.Proofs.YtmgfammllddkhaaGreatDoor
namespace Go.Proofs.YtmgfammllddkhaaGreatDoor
open Go.RowKit Go.ChangeShapes Go.WideShapes Go.Deep
theorem ZnE:Tryz.prog.cellsOf 3=1:=by kernel_rfl
section
variable {H:Type} {enc:TypeId×Value→H} {W:World}
theorem Zqt:Rd enc Tryz.prog W 3 Int:=ZpY Tryz.underlying3
end
end Go.Proofs.YtmgfammllddkhaaGreatDoor
namespace Go.Proofs.YtmgfammllddkhaaGreatDoor
open VL Go.RowKit Go.ChangeShapes Go.WideShapes
theorem Zqm {H:Type} {enc:TypeId×Value→H} {W:World}:Rd enc Tryz.prog W 35 (List Int):=ZnS Tryz.underlying35 ZnE (by decide) Zqt
theorem Zqn {W:World} (hG:ZpD W) (W':World) (hb:Below W.heap.size W W'):WInv.I Tryz.prog W':=
 ⟨hG.imp fun _ hm=>re1 hb (ZfA hm) hm,trivial⟩
end Go.Proofs.YtmgfammllddkhaaGreatDoor
namespace Go.Proofs.YtmgfammllddkhaaGreatDoor
open VL Go.RowKit
theorem Zpb {α:Type} [Enc α] {w:World} {A:Option Addr} {n c:Nat} {xs:List α} (h:SlR w A n c xs):xs.length≤9223372036854775807:=by
 obtain ⟨h1,h2,h3,h4⟩:=h
 omega
theorem ZqA {x:Ctx} (i:Nat) (p:PV) (v:Value) (hp:([]:List PV)[i]? = some p) (hv:([]:List Value)[i]? = some v):Rep x p v:=by simp at hp
theorem Zp2 {x:Ctx} {p:PV} {v:Value} {ps:List PV} {vs:List Value} (h:Rep x p v) (r:∀ (i:Nat) (p:PV) (v:Value),ps[i]? = some p→vs[i]? = some v→Rep x p v) (i:Nat) (q:PV) (w:Value) (hp:(p::ps)[i]? = some q) (hv:(v::vs)[i]? = some w):Rep x q w:=by
 cases i with
 | zero=>injection hp with hp;injection hv with hv;subst hp hv;exact h
 | succ i=>exact r i q w (by simpa using hp) (by simpa using hv)
theorem ZqB {x:Ctx} {ps:List PV} {vs:List Value} (r:∀ (i:Nat) (p:PV) (v:Value),ps[i]? = some p→vs[i]? = some v→Rep x p v) (i:Nat) (p:PV) (v:Value) (hp:ps[i]? = some p) (hv:vs.toArray[i]? = some v):Rep x p v:=r i p v hp (by simpa using hv)
theorem Zgk {A0:Option Addr} {n0 c0:Nat} {l0:List Int} (i1:ByteArray) (W:World) (h0:SlR W A0 n0 c0 l0) (hI:∀ W',Below W.heap.size W W'→WInv.I Tryz.prog W') :
  Calls Tryz.prog 6 #[.slice A0 n0 c0,.string i1] W fun e w'=>e = .returned (.bool true)∧Below W.heap.size W w':=
 Zlh (Zft l0 i1 true (Zj4 l0 i1 (Zpb h0))) rfl (fun i p v hp hv=>ZqB (vs:=[.slice A0 n0 c0,.string i1]) (Zp2 (Zl9 h0) (Zp2 (.str _) ZqA)) i p v hp hv) hI
end Go.Proofs.YtmgfammllddkhaaGreatDoor
