/- Functions of the program as Lean functions. Written by fxgen.py. | Functions of the program as Lean functions. Written by fxgen.py. | Functions of the program as Lean functions. Written by fxgen.py. | Functions of the program as Lean functions. Written by fxgen.py. | Functions of the program as Lean functions. Written by fxgen.py. | CategoryPuts: the law. | From a reading of an argument to the words of the walks: structs field by field, slices element by element. No program is named. | Readings of the wiki's types at this translation. Written by types.py. | Lists of integers; the invariant in all later worlds, where no rules of edit are laid. | Rows of categories as they lie in memory. | CategoryPuts in worlds: whatever the rows, the title and the numbers, the law returns true. -/
import Derived.Test.YtjblgpmagampbaaGreatDoorCP07
import Derived.Test.YtjblgpmagampbaaGreatDoorCP12
import Derived.Test.YtjblgpmagampbaaGreatDoorCP03
import Derived.Test.YtjblgpmagampbaaGreatDoorCP05
import Derived.Test.YtjblgpmagampbaaGreatDoorCP06
import Derived.Test.YtjblgpmagampbaaGreatDoorCP09
import Derived.Test.YtjblgpmagampbaaGreatDoorCP08
import Derived.Test.YtjblgpmagampbaaGreatDoorCP11
import Derived.Test.YtjblgpmagampbaaGreatDoorCP10
import Derived.Test.YtjblgpmagampbaaGreatDoorCP01
import Derived.ProofKit
import Derived.OpenShut
import Derived.Deep.Slices
import Derived.Deep.Strs
import Derived.Test.YtjblgpmagampbaaGreatDoorRows
import Derived.Test.YtjblgpmagampbaaGreatDoorCP04
import Derived.Test.YtjblgpmagampbaaGreatDoorCP02
import Derived.MakeChecks
import Derived.FnData
import Derived.ChangeSame
set_option linter.unusedVariables false
set_option maxHeartbeats 4000000
set_option maxRecDepth 100000
namespace Go.Proofs.YtjblgpmagampbaaGreatDoor
open VL
def Zej (p0:List Node):Option (Title×Bool):=
 (Zhj p0).bind fun r1=>
 (Zea r1.1).bind fun r2=>
 letk (fun (x5:Bool)=>
  if x5 then
   (some ((⟨0,(⟨#[]⟩:ByteArray)⟩:Title),false):Option (Title×Bool))
  else
  (Zev r2).bind fun r6=>
  if (!decide (r6.2=0)) then
   (some ((⟨0,(⟨#[]⟩:ByteArray)⟩:Title),false):Option (Title×Bool))
  else
  letk (fun (x8:Bool)=>
   letk (fun (x9:Int)=>
    (some ((⟨x9,r6.1.name⟩:Title),true):Option (Title×Bool))) fun k3=>
   if x8 then
    k3 3
   else
   k3 r6.1.space) fun k2=>
  if (decide (r6.1.space=0)) then
   (ZX r2 (⟨#[58]⟩:ByteArray)).bind fun r10=>
   k2 (!r10)
  else
  k2 false) fun k1=>
 if (!r1.2) then
  k1 true
 else
 (ZX r2 (⟨#[35]⟩:ByteArray)).bind fun r11=>
 if r11 then
  k1 true
 else
 (ZX r2 (⟨#[47]⟩:ByteArray)).bind fun r12=>
 k1 r12
theorem ZhW (p0:List Node) (r:Title×Bool) (h:Zej p0=some r):Zd Tryz.prog 173 [.sl (List.map Node.cs p0)] (.tup [r.1.pv,.bool r.2]):=by
 refine cF (fun r=>.tup [r.1.pv,.bool r.2]) h mix Tryz.func173 fun r h=>?_
 unfold Zej at h
 refine Zj ?_
 refine rg ?_
 refine rg ?_
 refine aC h (Zly _) fun r1 h=>?_
 refine rg ?_
 refine aC h (Zf0 _) fun r2 h=>?_
 refine jL h (fun x5=>mkS [(2,.ptr 2 (1,2) 0),(6,.str r2),(25,.bool x5)] [(2,some ((1,2),.box [.int .i64 0,.str (⟨#[]⟩:ByteArray)]))] 2) (fun k1 h=>?_) fun x5 h=>?_
 ·refine rg ?_
  refine kS 18 h rfl (fun h=>?_) fun h=>?_
  ·iterate 4 refine ZI rfl (Zj ?_)
   exact jn true h (sR [(2,1,0)])
  refine aC h (ZZ _ _) fun r11 h=>?_
  refine kS 22 h rfl (fun h=>?_) fun h=>?_
  ·iterate 2 refine ZI rfl (Zj ?_)
   exact jn true h (sR [(2,1,0)])
  refine aC h (ZZ _ _) fun r12 h=>?_
  exact jn r12 h (sR [(2,1,0)])
 refine cS h rfl (fun h=>?_) fun h=>?_
 ·refine rg ?_
  cases h
  exact rQ
 refine rg ?_
 refine aC h (Zfj _) fun r6 h=>?_
 refine rg ?_
 refine cS h rfl (fun h=>?_) fun h=>?_
 ·refine rg ?_
  cases h
  exact rQ
 refine jL h (fun x8=>mkS [(2,.ptr 2 (1,2) 0),(7,.ptr 7 (1,7) 0),(42,.bool x8)] [(2,some ((1,2),.box [.int .i64 0,.str (⟨#[]⟩:ByteArray)])),(7,some ((1,7),.box (Title.cs r6.1)))] 2) (fun k2 h=>?_) fun x8 h=>?_
 ·refine rg ?_
  refine kS 38 h rfl (fun h=>?_) fun h=>?_
  ·refine aC h (ZZ _ _) fun r10 h=>?_
   exact jn (!r10) h (sR [(2,1,2),(7,2,5)])
  iterate 3 refine ZI rfl (Zj ?_)
  exact jn false h (sR [(2,1,2),(7,2,5)])
 refine jL h (fun x9=>mkS [(2,.ptr 2 (1,2) 0),(7,.ptr 7 (1,7) 0)] [(2,some ((1,2),.box [.int .i64 0,.str (⟨#[]⟩:ByteArray)])),(7,some ((1,7),.box [.int .i64 x9,.str r6.1.name]))] 2) (fun k3 h=>?_) fun x9 h=>?_
 ·refine cS h rfl (fun h=>?_) fun h=>?_
  ·refine rg ?_
   exact jn 3 h (sR [(2,1,2),(7,1,7)])
  exact jn r6.1.space h (sR [(2,1,2),(7,1,7)])
 refine rg ?_
 cases h
 exact rQ
def Zb1:Nat→Finder→(List Node)→Option Finder
 | 0,_,_=>none
 | mF+1,p0,p1=>
 Zas Zck (fun f7 ((x13,x14,x15):Int×(List Link)×(List Memb))=>
  if (decide (x13<(p1.length:Int))) then
   letk (fun (x33:List Link) (x34:List Memb)=>
    f7 ((w64 (x13+1)),x33,x34)) fun k9=>
   (atI p1 x13).bind fun e35=>
   if (decide (e35.kind=1)) then
    (ZbU (⟨x14,x15⟩:Finder) e35.text).bind fun r36=>
    k9 r36.links r36.members
   else
   letk (fun (x37:Bool)=>
    if x37 then
     (Zgb e35.kids).bind fun l38=>
     (Zb1 mF (⟨x14,x15⟩:Finder) l38).bind fun r39=>
     k9 r39.links r39.members
    else
    k9 x14 x15) fun k10=>
   if (decide (e35.kind=6)) then
    k10 (!decide (e35.tag=2))
   else
   k10 false
  else
  (some (⟨x14,x15⟩:Finder):Option Finder)) (0,p0.links,p0.members)
theorem ZgG (mF:Nat):∀ (p0:Finder) (p1:List Node) (r:Finder),Zb1 mF p0 p1=some r→ContractP Tryz.prog 106 [.ptr 0 (0,0) 0,.sl (List.map Node.cs p1)] 0 [.row 185 3 false (List.map Link.cs p0.links),.row 32 3 false (List.map Memb.cs p0.members)] (.tup []) [.row 185 3 false (List.map Link.cs r.links),.row 32 3 false (List.map Memb.cs r.members)]:=by
 induction mF with
 | zero=>intro p0 p1 r h;cases h
 | succ mF ihF=>
 intro p0 p1 r h
 refine Zgl (R:=fun r=>.tup []) (O:=fun r=>[.row 185 3 false (List.map Link.cs r.links),.row 32 3 false (List.map Memb.cs r.members)]) h mix Tryz.func106 (by kernel_rfl) rfl (by kernel_rfl) rfl fun r h=>?_
 simp only [Zb1] at h
 refine Zj ?_
 refine rg ?_
 refine lM Node.cs p1 ?_
 refine bl ?_
 refine Zu h fun f7 mf7 hf7 h=>?_
 refine Zq (α:=Nat×(Int×(List Link)×(List Memb))) (fun a _=>mkS [(0,.ptr 0 (0,0) 0),(6,.sl (List.map Node.cs p1)),(7,.int .i64 (p1.length:Int)),(8,.int .i64 a.2.1)] [(0,some ((0,0),.box [.row 1000 (1,1000),.row 1001 (1,1001)])),(1000,some ((1,1000),.row 185 3 false (List.map Link.cs a.2.2.1))),(1001,some ((1,1001),.row 32 3 false (List.map Memb.cs a.2.2.2)))] 2) (fun a=>Zas a.1 f7 a.2=some r) (fun a=>a.1) (mf7,0,p0.links,p0.members) 2 h (sR [(1000,0,1000),(1001,0,1001)]) (fun a _ h=>?_)
 obtain ⟨mf7,x13,x14,x15⟩:=a
 obtain ⟨mf7,rfl,h⟩:=Zv hf7 h
 dsimp only at h ⊢
 refine Zj ?_
 refine rg ?_
 refine cS h rfl (fun h=>?_) fun h=>?_
 ·refine Za6 h fun k9 hk9 h=>?_
  refine ZaV (α:=(List Link)×(List Memb)) (fun a _=>mkS [(0,.ptr 0 (0,0) 0),(6,.sl (List.map Node.cs p1)),(7,.int .i64 (p1.length:Int)),(8,.int .i64 x13)] [(0,some ((0,0),.box [.row 1000 (1,1000),.row 1001 (1,1001)])),(1000,some ((1,1000),.row 185 3 false (List.map Link.cs a.1))),(1001,some ((1,1001),.row 32 3 false (List.map Memb.cs a.2)))] 2) (fun a=>k9 a.1 a.2=some r) (Zj ?_) (fun a _ h=>?_)
  ·refine bl ?_
   refine rg ?_
   refine aI Node.cs h fun e35 h=>?_
   refine bl ?_
   refine rg ?_
   refine cS h rfl (fun h=>?_) fun h=>?_
   ·refine rg ?_
    obtain ⟨r36,h22,h⟩:=bnd h
    refine Zgp (Ze4 _ _ _ h22) rfl rfl rfl rfl rfl rfl rfl rfl (Zj ?_)
    exact jn (r36.links,r36.members) h (sR [(1000,5,1000003),(1001,5,2000003)])
   refine jL h (fun x37=>mkS [(0,.ptr 0 (0,0) 0),(5,.ptr 5 (1,5) 0),(6,.sl (List.map Node.cs p1)),(7,.int .i64 (p1.length:Int)),(8,.int .i64 x13),(20,.bool x37)] [(0,some ((0,0),.box [.row 1000 (1,1000),.row 1001 (1,1001)])),(5,some ((1,5),.box [.int .i64 e35.kind,.int .i64 e35.tag,.str e35.text,.sl e35.kids,.sl e35.args])),(1000,some ((1,1000),.row 185 3 false (List.map Link.cs x14))),(1001,some ((1,1001),.row 32 3 false (List.map Memb.cs x15)))] 2) (fun k10 h=>?_) fun x37 h=>?_
   ·refine rg ?_
    refine kS 24 h rfl (fun h=>?_) fun h=>?_
    ·exact jn (!decide (e35.tag=2)) h (sR [(5,3,2),(1000,1,1000),(1001,1,1001)])
    iterate 3 refine ZI rfl (Zj ?_)
    exact jn false h (sR [(5,3,2),(1000,1,1000),(1001,1,1001)])
   refine cS h rfl (fun h=>?_) fun h=>?_
   ·refine rg ?_
    obtain ⟨l38,h23,h⟩:=bnd h
    refine ZsC 31 (Zdt h23) rfl (Zj ?_)
    obtain ⟨r39,h24,h⟩:=bnd h
    refine Zgp (ihF _ _ _ h24) rfl rfl rfl rfl rfl rfl rfl rfl (Zj ?_)
    exact jn (r39.links,r39.members) h (sR [(1000,2,1000003),(1001,2,2000003)])
   exact jn (x14,x15) h (sR [(1000,1,1000),(1001,1,1001)])
  obtain ⟨x33,x34⟩:=a
  subst hk9
  dsimp only at h ⊢
  refine Zj ?_
  refine rg ?_
  exact rn (mf7,(w64 (x13+1)),x33,x34) h (sR [(1000,1,1000),(1001,1,1001)])
 cases h
 exact ZlN rfl rfl rfl rfl rfl rfl
def Zah:Nat→Finder→(List Node)→Option Finder
 | 0,_,_=>none
 | mF+1,p0,p1=>
 Zas Zck (fun f15 ((x93,x94,x95):Int×(List Link)×(List Memb))=>
  if (decide (x93<(p1.length:Int))) then
   letk (fun (x233:List Link) (x234:List Memb)=>
    f15 ((w64 (x93+1)),x233,x234)) fun k19=>
   (atI p1 x93).bind fun e235=>
   letk (fun (x236:Bool)=>
    if x236 then
     k19 x94 x95
    else
    letk (fun (x240:List Link)=>
     (Zgb e235.kids).bind fun l241=>
     (Zah mF (⟨x240,x95⟩:Finder) l241).bind fun r242=>
     (Zrl e235.args).bind fun l243=>
     Zas Zck (fun f22 ((x254,x255,x256):Int×(List Link)×(List Memb))=>
      if (decide (x254<(l243.length:Int))) then
       (atI l243 x254).bind fun e272=>
       (Zgb e272.name).bind fun l273=>
       (Zah mF (⟨x255,x256⟩:Finder) l273).bind fun r274=>
       (Zgb e272.value).bind fun l275=>
       (Zah mF r274 l275).bind fun r276=>
       f22 ((w64 (x254+1)),r276.links,r276.members)
      else
      k19 x255 x256) (0,r242.links,r242.members)) fun k21=>
    if (decide (e235.kind=4)) then
     (Zgb e235.kids).bind fun l277=>
     (Zej l277).bind fun r278=>
     if r278.2 then
      (ZfA 32 x94 [(⟨2,r278.1⟩:Link)]).bind fun l279=>
      k21 l279
     else
     k21 x94
    else
    k21 x94) fun k20=>
   if (decide (e235.kind=6)) then
    k20 (decide (e235.tag=2))
   else
   k20 false
  else
  (some (⟨x94,x95⟩:Finder):Option Finder)) (0,p0.links,p0.members)
theorem Zes (mF:Nat):∀ (p0:Finder) (p1:List Node) (r:Finder),Zah mF p0 p1=some r→ContractP Tryz.prog 107 [.ptr 0 (0,0) 0,.sl (List.map Node.cs p1)] 0 [.row 185 3 false (List.map Link.cs p0.links),.row 32 3 false (List.map Memb.cs p0.members)] (.tup []) [.row 185 3 false (List.map Link.cs r.links),.row 32 3 false (List.map Memb.cs r.members)]:=by
 induction mF with
 | zero=>intro p0 p1 r h;cases h
 | succ mF ihF=>
 intro p0 p1 r h
 refine Zgl (R:=fun r=>.tup []) (O:=fun r=>[.row 185 3 false (List.map Link.cs r.links),.row 32 3 false (List.map Memb.cs r.members)]) h mix Tryz.func107 (by kernel_rfl) rfl (by kernel_rfl) rfl fun r h=>?_
 simp only [Zah] at h
 refine Zj ?_
 refine rg ?_
 refine lM Node.cs p1 ?_
 refine bl ?_
 refine Zu h fun f15 mf15 hf15 h=>?_
 refine Zq (α:=Nat×(Int×(List Link)×(List Memb))) (fun a _=>mkS [(0,.ptr 0 (0,0) 0),(10,.sl (List.map Node.cs p1)),(11,.int .i64 (p1.length:Int)),(12,.int .i64 a.2.1)] [(0,some ((0,0),.box [.row 1000 (1,1000),.row 1001 (1,1001)])),(1000,some ((1,1000),.row 185 3 false (List.map Link.cs a.2.2.1))),(1001,some ((1,1001),.row 32 3 false (List.map Memb.cs a.2.2.2)))] 2) (fun a=>Zas a.1 f15 a.2=some r) (fun a=>a.1) (mf15,0,p0.links,p0.members) 2 h (sR [(1000,0,1000),(1001,0,1001)]) (fun a _ h=>?_)
 obtain ⟨mf15,x93,x94,x95⟩:=a
 obtain ⟨mf15,rfl,h⟩:=Zv hf15 h
 dsimp only at h ⊢
 refine Zj ?_
 refine rg ?_
 refine cS h rfl (fun h=>?_) fun h=>?_
 ·refine Za6 h fun k19 hk19 h=>?_
  refine ZaV (α:=(List Link)×(List Memb)) (fun a _=>mkS [(0,.ptr 0 (0,0) 0),(10,.sl (List.map Node.cs p1)),(11,.int .i64 (p1.length:Int)),(12,.int .i64 x93)] [(0,some ((0,0),.box [.row 1000 (1,1000),.row 1001 (1,1001)])),(1000,some ((1,1000),.row 185 3 false (List.map Link.cs a.1))),(1001,some ((1,1001),.row 32 3 false (List.map Memb.cs a.2)))] 2) (fun a=>k19 a.1 a.2=some r) (Zj ?_) (fun a _ h=>?_)
  ·refine bl ?_
   refine rg ?_
   refine aI Node.cs h fun e235 h=>?_
   refine jL h (fun x236=>mkS [(0,.ptr 0 (0,0) 0),(5,.ptr 5 (1,5) 0),(10,.sl (List.map Node.cs p1)),(11,.int .i64 (p1.length:Int)),(12,.int .i64 x93),(23,.bool x236)] [(0,some ((0,0),.box [.row 1000 (1,1000),.row 1001 (1,1001)])),(5,some ((1,5),.box [.int .i64 e235.kind,.int .i64 e235.tag,.str e235.text,.sl e235.kids,.sl e235.args])),(1000,some ((1,1000),.row 185 3 false (List.map Link.cs x94))),(1001,some ((1,1001),.row 32 3 false (List.map Memb.cs x95)))] 2) (fun k20 h=>?_) fun x236 h=>?_
   ·refine rg ?_
    refine kS 19 h rfl (fun h=>?_) fun h=>?_
    ·exact jn (decide (e235.tag=2)) h (sR [(5,3,2),(1000,1,1000),(1001,1,1001)])
    iterate 3 refine ZI rfl (Zj ?_)
    exact jn false h (sR [(5,3,2),(1000,1,1000),(1001,1,1001)])
   refine cS h rfl (fun h=>?_) fun h=>?_
   ·exact jn (x94,x95) h (sR [(1000,1,1000),(1001,1,1001)])
   refine rg ?_
   refine jL h (fun x240=>mkS [(0,.ptr 0 (0,0) 0),(5,.ptr 5 (1,5) 0),(10,.sl (List.map Node.cs p1)),(11,.int .i64 (p1.length:Int)),(12,.int .i64 x93)] [(0,some ((0,0),.box [.row 1000 (1,1000),.row 1001 (1,1001)])),(5,some ((1,5),.box [.int .i64 e235.kind,.int .i64 e235.tag,.str e235.text,.sl e235.kids,.sl e235.args])),(1000,some ((1,1000),.row 185 3 false (List.map Link.cs x240))),(1001,some ((1,1001),.row 32 3 false (List.map Memb.cs x95)))] 2) (fun k21 h=>?_) fun x240 h=>?_
   ·refine cS h rfl (fun h=>?_) fun h=>?_
    ·refine rg ?_
     obtain ⟨l277,h238,h⟩:=bnd h
     refine ZsC 29 (Zdt h238) rfl (Zj ?_)
     refine aC h (ZhW _) fun r278 h=>?_
     refine rg ?_
     refine cS h rfl (fun h=>?_) fun h=>?_
     ·refine rg ?_
      refine Zaw (M:=([(⟨2,r278.1⟩:Link)]:List Link)) (f:=Link.cs) rfl rfl rfl rfl (Nat.le_of_ble_eq_true rfl) rfl (Zj ?_)
      refine pR Link.cs h fun l279 h=>?_
      exact jn l279 h (sR [(5,1,5),(1000,5,8),(1001,1,1001)])
     exact jn x94 h (sR [(5,1,5),(1000,1,1000),(1001,1,1001)])
    exact jn x94 h (sR [(5,1,5),(1000,1,1000),(1001,1,1001)])
   refine rg ?_
   obtain ⟨l241,h205,h⟩:=bnd h
   refine ZsC 47 (Zdt h205) rfl (Zj ?_)
   obtain ⟨r242,h206,h⟩:=bnd h
   refine Zgp (ihF _ _ _ h206) rfl rfl rfl rfl rfl rfl rfl rfl (Zj ?_)
   refine rg ?_
   obtain ⟨l243,h207,h⟩:=bnd h
   refine ZsC 50 (ZoQ h207) rfl (Zj ?_)
   refine lM Arg.cs l243 ?_
   refine bl ?_
   refine Zu h fun f22 mf22 hf22 h=>?_
   refine Zq (α:=Nat×(Int×(List Link)×(List Memb))) (fun a _=>mkS [(0,.ptr 0 (0,0) 0),(10,.sl (List.map Node.cs p1)),(11,.int .i64 (p1.length:Int)),(12,.int .i64 x93),(50,.sl (List.map Arg.cs l243)),(51,.int .i64 (l243.length:Int)),(52,.int .i64 a.2.1)] [(0,some ((0,0),.box [.row 1000 (1,1000),.row 1001 (1,1001)])),(1000,some ((1,1000),.row 185 3 false (List.map Link.cs a.2.2.1))),(1001,some ((1,1001),.row 32 3 false (List.map Memb.cs a.2.2.2)))] 2) (fun a=>Zas a.1 f22 a.2=some r) (fun a=>a.1) (mf22,0,r242.links,r242.members) 2 h (sR [(1000,2,1000003),(1001,2,2000003)]) (fun a _ h=>?_)
   obtain ⟨mf22,x254,x255,x256⟩:=a
   obtain ⟨mf22,rfl,h⟩:=Zv hf22 h
   dsimp only at h ⊢
   refine Zj ?_
   refine rg ?_
   refine cS h rfl (fun h=>?_) fun h=>?_
   ·refine bl ?_
    refine rg ?_
    refine aI Arg.cs h fun e272 h=>?_
    refine rg ?_
    obtain ⟨l273,h234,h⟩:=bnd h
    refine ZsC 58 (Zdt h234) rfl (Zj ?_)
    obtain ⟨r274,h235,h⟩:=bnd h
    refine Zgp (ihF _ _ _ h235) rfl rfl rfl rfl rfl rfl rfl rfl (Zj ?_)
    refine rg ?_
    obtain ⟨l275,h236,h⟩:=bnd h
    refine ZsC 62 (Zdt h236) rfl (Zj ?_)
    obtain ⟨r276,h237,h⟩:=bnd h
    refine Zgp (ihF _ _ _ h237) rfl rfl rfl rfl rfl rfl rfl rfl (Zj ?_)
    refine rg ?_
    exact rn (mf22,(w64 (x254+1)),r276.links,r276.members) h (sR [(1000,5,1000003),(1001,5,2000003)])
   exact jn (x255,x256) h (sR [(1000,1,1000),(1001,1,1001)])
  obtain ⟨x233,x234⟩:=a
  subst hk19
  dsimp only at h ⊢
  refine Zj ?_
  refine rg ?_
  exact rn (mf15,(w64 (x93+1)),x233,x234) h (sR [(1000,1,1000),(1001,1,1001)])
 cases h
 exact ZlN rfl rfl rfl rfl rfl rfl
def ZiP (p0:ByteArray):Option ((List Link)×(List Memb)×Int):=
 (ZiM p0).bind fun r1=>
 if (!decide (r1.2=0)) then
  (some ([],[],r1.2):Option ((List Link)×(List Memb)×Int))
 else
 (Zb1 300001 (⟨([]:List Link),([]:List Memb)⟩:Finder) r1.1).bind fun r2=>
 (Zah 300001 r2 r1.1).bind fun r3=>
 (Zel p0).bind fun r4=>
 letk (fun (x6:List Link)=>
  (ZbT x6).bind fun r7=>
  (Zav r3.members).bind fun r8=>
  (ZaT r8).bind fun r9=>
  (Zb9 r7).bind fun r10=>
  (some (r10,r9,0):Option ((List Link)×(List Memb)×Int))) fun k1=>
 if r4.2 then
  (ZfA 32 r3.links [(⟨4,r4.1⟩:Link)]).bind fun l11=>
  k1 l11
 else
 k1 r3.links
theorem Zmp (p0:ByteArray) (r:(List Link)×(List Memb)×Int) (h:ZiP p0=some r):Zd Tryz.prog 67 [.str p0] (.tup [.sl (List.map Link.cs r.1),.sl (List.map Memb.cs r.2.1),.int .i64 r.2.2]):=by
 refine cF (fun r=>.tup [.sl (List.map Link.cs r.1),.sl (List.map Memb.cs r.2.1),.int .i64 r.2.2]) h mix Tryz.func67 fun r h=>?_
 unfold ZiP at h
 refine Zj ?_
 refine rg ?_
 refine rg ?_
 refine aC h (Zkw _) fun r1 h=>?_
 refine rg ?_
 refine cS h rfl (fun h=>?_) fun h=>?_
 ·refine rg ?_
  cases h
  exact rQ
 refine rg ?_
 refine Zad (Zb5 20 3000 0 185 3 rfl rfl rfl) (Zj ?_) (List.cons_ne_nil _ _)
 refine Zad (Zb5 20 3001 1 32 3 rfl rfl rfl) (Zj ?_) (List.cons_ne_nil _ _)
 refine rg ?_
 obtain ⟨r2,h2,h⟩:=bnd h
 refine Zgp (ZgG 300001 _ _ _ h2) rfl rfl rfl rfl rfl rfl rfl rfl (Zj ?_)
 refine rg ?_
 obtain ⟨r3,h3,h⟩:=bnd h
 refine Zgp (Zes 300001 _ _ _ h3) rfl rfl rfl rfl rfl rfl rfl rfl (Zj ?_)
 refine rg ?_
 refine aC h (ZhY _) fun r4 h=>?_
 refine rg ?_
 refine jL h (fun x6=>mkS [(7,.ptr 20 (1,20) 0)] [(20,some ((1,20),.box [.row 3000 (1,3000),.row 3001 (1,3001)])),(3000,some ((1,3000),.row 185 3 false (List.map Link.cs x6))),(3001,some ((1,3001),.row 32 3 false (List.map Memb.cs r3.members)))] 2) (fun k1 h=>?_) fun x6 h=>?_
 ·refine cS h rfl (fun h=>?_) fun h=>?_
  ·refine rg ?_
   refine Zaw (M:=([(⟨4,r4.1⟩:Link)]:List Link)) (f:=Link.cs) rfl rfl rfl rfl (Nat.le_of_ble_eq_true rfl) rfl (Zj ?_)
   refine pR Link.cs h fun l11 h=>?_
   exact jn l11 h (sR [(20,4,1),(3000,11,8),(3001,8,2000002)])
  exact jn r3.links h (sR [(20,4,1),(3000,8,1000002),(3001,8,2000002)])
 refine rg ?_
 obtain ⟨r7,h6,h⟩:=bnd h
 refine Zbn (Ze3 _ _ h6) rfl rfl rfl rfl rfl (Zj ?_)
 refine rg ?_
 obtain ⟨r8,h7,h⟩:=bnd h
 refine Zbn (Zch _ _ h7) rfl rfl rfl rfl rfl (Zj ?_)
 refine rg ?_
 obtain ⟨r9,h8,h⟩:=bnd h
 refine ZiO (ZcQ _ _ h8) rfl rfl rfl rfl (Zj ?_)
 refine rg ?_
 obtain ⟨r10,h9,h⟩:=bnd h
 refine ZiO (Zfk _ _ h9) rfl rfl rfl rfl (Zj ?_)
 cases h
 exact rQ
def ZbL (p0:Title) (p1:ByteArray):Option (List CatRow):=
 (ZiP p1).bind fun r1=>
 if (!decide (r1.2.2=0)) then
  (some []:Option (List CatRow))
 else
 Zas Zck (fun f2 ((x20,x21):Int×(List CatRow))=>
  if (decide (x20<(r1.2.1.length:Int))) then
   (atI r1.2.1 x20).bind fun e28=>
   (ZfA 64 x21 [(⟨p0,e28⟩:CatRow)]).bind fun l29=>
   f2 ((w64 (x20+1)),l29)
  else
  (Zbd x21).bind fun r30=>
  (some r30:Option (List CatRow))) (0,([]:List CatRow))
theorem Zcn (p0:Title) (p1:ByteArray) (r:List CatRow) (h:ZbL p0 p1=some r):Zd Tryz.prog 30 [p0.pv,.str p1] (.sl (List.map CatRow.cs r)):=by
 refine cF (fun r=>.sl (List.map CatRow.cs r)) h mix Tryz.func30 fun r h=>?_
 unfold ZbL at h
 refine Zj ?_
 refine rg ?_
 refine rg ?_
 refine aC h (Zmp _) fun r1 h=>?_
 refine rg ?_
 refine cS h rfl (fun h=>?_) fun h=>?_
 ·refine rg ?_
  cases h
  exact rQ
 refine rg ?_
 refine rg ?_
 refine lM Memb.cs r1.2.1 ?_
 refine bl ?_
 refine Zu h fun f2 mf2 hf2 h=>?_
 refine Zq (α:=Nat×(Int×(List CatRow))) (fun a _=>mkS [(2,.ptr 2 (1,2) 0),(8,.row 8 (1,8)),(19,.sl (List.map Memb.cs r1.2.1)),(20,.int .i64 (r1.2.1.length:Int)),(21,.int .i64 a.2.1)] [(2,some ((1,2),.box (Title.cs p0))),(8,some ((1,8),.row 34 5 false (List.map CatRow.cs a.2.2)))] 2) (fun a=>Zas a.1 f2 a.2=some r) (fun a=>a.1) (mf2,0,([]:List CatRow)) 2 h (Zdv [((1,2),(1,0))] 8 34 5 rfl ⟨rfl,rfl,rfl,rfl,rfl,trivial⟩ ⟨⟨rfl,rfl⟩,⟨rfl,rfl⟩,trivial⟩ rfl) (fun a _ h=>?_)
 obtain ⟨mf2,x20,x21⟩:=a
 obtain ⟨mf2,rfl,h⟩:=Zv hf2 h
 dsimp only at h ⊢
 refine Zj ?_
 refine rg ?_
 refine cS h rfl (fun h=>?_) fun h=>?_
 ·refine bl ?_
  refine rg ?_
  refine aI Memb.cs h fun e28 h=>?_
  refine rg ?_
  refine Zaw (M:=([(⟨p0,e28⟩:CatRow)]:List CatRow)) (f:=CatRow.cs) rfl rfl rfl rfl (Nat.le_of_ble_eq_true rfl) rfl (Zj ?_)
  refine pR CatRow.cs h fun l29 h=>?_
  refine rg ?_
  exact rn (mf2,(w64 (x20+1)),l29) h (sR [(2,1,2),(8,4,5)])
 refine rg ?_
 obtain ⟨r30,h26,h⟩:=bnd h
 refine ZiO (Zec _ _ h26) rfl rfl rfl rfl (Zj ?_)
 cases h
 exact rQ
def Zco (p0:List Title) (p1:List Title):Option Bool:=
 if (!decide ((p0.length:Int)=(p1.length:Int))) then
  (some false:Option Bool)
 else
 Zas Zck (fun f2 (x18:Int)=>
  if (decide (x18<(p0.length:Int))) then
   (atI p0 x18).bind fun e25=>
   (atI p1 x18).bind fun e26=>
   if (!decide (e25=e26)) then
    (some false:Option Bool)
   else
   f2 (w64 (x18+1))
  else
  (some true:Option Bool)) 0
theorem ZdM (p0:List Title) (p1:List Title) (r:Bool) (h:Zco p0 p1=some r):Zd Tryz.prog 24 [.sl (List.map Title.cs p0),.sl (List.map Title.cs p1)] (.bool r):=by
 refine cF (fun r=>.bool r) h mix Tryz.func24 fun r h=>?_
 unfold Zco at h
 refine Zj ?_
 refine rg ?_
 refine rg ?_
 refine lM Title.cs p0 ?_
 refine lM Title.cs p1 ?_
 refine cS h rfl (fun h=>?_) fun h=>?_
 ·refine rg ?_
  cases h
  exact rQ
 refine rg ?_
 refine bl ?_
 refine Zu h fun f2 mf2 hf2 h=>?_
 refine Zq (α:=Nat×Int) (fun a _=>mkS [(0,.sl (List.map Title.cs p0)),(1,.sl (List.map Title.cs p1)),(5,.int .i64 a.2)] [] 2) (fun a=>Zas a.1 f2 a.2=some r) (fun a=>a.1) (mf2,0) 2 h (sR []) (fun a _ h=>?_)
 obtain ⟨mf2,x18⟩:=a
 obtain ⟨mf2,rfl,h⟩:=Zv hf2 h
 dsimp only at h ⊢
 refine Zj ?_
 refine rg ?_
 refine lM Title.cs p0 ?_
 refine cS h rfl (fun h=>?_) fun h=>?_
 ·refine bl ?_
  refine rg ?_
  refine aI Title.cs h fun e25 h=>?_
  refine aI Title.cs h fun e26 h=>?_
  refine Ziw (.inr rfl) rfl rfl rfl rfl rfl (fun W=>Zkb e25 e26 W) (Zj ?_)
  refine cS h rfl (fun h=>?_) fun h=>?_
  ·refine rg ?_
   cases h
   exact rQ
  refine rg ?_
  exact rn (mf2,(w64 (x18+1))) h (sR [])
 refine rg ?_
 cases h
 exact rQ
def Zff:Option Bool:=
 (ZbL (⟨0,(⟨#[65]⟩:ByteArray)⟩:Title) (⟨#[91,91,67,97,116,101,103,111,114,121,58,88,124,122,93,93]⟩:ByteArray)).bind fun r1=>
 (ZbL (⟨0,(⟨#[66]⟩:ByteArray)⟩:Title) (⟨#[91,91,67,97,116,101,103,111,114,121,58,88,93,93]⟩:ByteArray)).bind fun r2=>
 (Zbe r1 (⟨0,(⟨#[66]⟩:ByteArray)⟩:Title) r2).bind fun r3=>
 (ZbL (⟨4,(⟨#[88]⟩:ByteArray)⟩:Title) (⟨#[91,91,67,97,116,101,103,111,114,121,58,89,93,93]⟩:ByteArray)).bind fun r4=>
 (ZbL (⟨4,(⟨#[89]⟩:ByteArray)⟩:Title) (⟨#[91,91,67,97,116,101,103,111,114,121,58,88,93,93]⟩:ByteArray)).bind fun r5=>
 (Zbe r4 (⟨4,(⟨#[89]⟩:ByteArray)⟩:Title) r5).bind fun r6=>
 letk (fun (x13:Bool)=>
  (some x13:Option Bool)) fun k1=>
 (Zb6 r3 (⟨[(⟨(⟨0,(⟨#[65]⟩:ByteArray)⟩:Title),(⟨#[]⟩:ByteArray),0⟩:Page),(⟨(⟨0,(⟨#[66]⟩:ByteArray)⟩:Title),(⟨#[]⟩:ByteArray),0⟩:Page),(⟨(⟨4,(⟨#[88]⟩:ByteArray)⟩:Title),(⟨#[]⟩:ByteArray),0⟩:Page),(⟨(⟨4,(⟨#[89]⟩:ByteArray)⟩:Title),(⟨#[]⟩:ByteArray),0⟩:Page)],(⟨[],[],[]⟩:Policy),[],0,[]⟩:View) (⟨4,(⟨#[88]⟩:ByteArray)⟩:Title)).bind fun r14=>
 (Zco r14 [(⟨0,(⟨#[66]⟩:ByteArray)⟩:Title),(⟨0,(⟨#[65]⟩:ByteArray)⟩:Title)]).bind fun r15=>
 if r15 then
  (ZcX r6 (⟨[(⟨(⟨0,(⟨#[65]⟩:ByteArray)⟩:Title),(⟨#[]⟩:ByteArray),0⟩:Page),(⟨(⟨0,(⟨#[66]⟩:ByteArray)⟩:Title),(⟨#[]⟩:ByteArray),0⟩:Page),(⟨(⟨4,(⟨#[88]⟩:ByteArray)⟩:Title),(⟨#[]⟩:ByteArray),0⟩:Page),(⟨(⟨4,(⟨#[89]⟩:ByteArray)⟩:Title),(⟨#[]⟩:ByteArray),0⟩:Page)],(⟨[],[],[]⟩:Policy),[],0,[]⟩:View) (⟨4,(⟨#[88]⟩:ByteArray)⟩:Title)).bind fun r16=>
  (Zco r16 [(⟨4,(⟨#[88]⟩:ByteArray)⟩:Title),(⟨4,(⟨#[89]⟩:ByteArray)⟩:Title)]).bind fun r17=>
  if r17 then
   (ZcX r6 (⟨[(⟨(⟨0,(⟨#[65]⟩:ByteArray)⟩:Title),(⟨#[]⟩:ByteArray),0⟩:Page),(⟨(⟨0,(⟨#[66]⟩:ByteArray)⟩:Title),(⟨#[]⟩:ByteArray),0⟩:Page),(⟨(⟨4,(⟨#[88]⟩:ByteArray)⟩:Title),(⟨#[]⟩:ByteArray),0⟩:Page),(⟨(⟨4,(⟨#[89]⟩:ByteArray)⟩:Title),(⟨#[]⟩:ByteArray),0⟩:Page)],(⟨[],[],[]⟩:Policy),[],0,[]⟩:View) (⟨4,(⟨#[89]⟩:ByteArray)⟩:Title)).bind fun r18=>
   (Zco r18 [(⟨4,(⟨#[88]⟩:ByteArray)⟩:Title),(⟨4,(⟨#[89]⟩:ByteArray)⟩:Title)]).bind fun r19=>
   k1 r19
  else
  k1 false
 else
 k1 false
theorem ZiN  (r:Bool) (h:Zff=some r):Zd Tryz.prog 10 [] (.bool r):=by
 refine cF (fun r=>.bool r) h mix Tryz.func10 fun r h=>?_
 unfold Zff at h
 refine Zj ?_
 refine rg ?_
 refine rg ?_
 refine rg ?_
 refine rg ?_
 refine Zaw (M:=([(⟨(⟨0,(⟨#[65]⟩:ByteArray)⟩:Title),(⟨#[]⟩:ByteArray),0⟩:Page),(⟨(⟨0,(⟨#[66]⟩:ByteArray)⟩:Title),(⟨#[]⟩:ByteArray),0⟩:Page),(⟨(⟨4,(⟨#[88]⟩:ByteArray)⟩:Title),(⟨#[]⟩:ByteArray),0⟩:Page),(⟨(⟨4,(⟨#[89]⟩:ByteArray)⟩:Title),(⟨#[]⟩:ByteArray),0⟩:Page)]:List Page)) (f:=Page.cs) rfl rfl rfl rfl (Nat.le_of_ble_eq_true rfl) rfl (Zj ?_)
 refine rg ?_
 refine aC h (Zcn _ _) fun r1 h=>?_
 refine aC h (Zcn _ _) fun r2 h=>?_
 refine aC h (ZcV _ _ _) fun r3 h=>?_
 refine rg ?_
 refine aC h (Zcn _ _) fun r4 h=>?_
 refine aC h (Zcn _ _) fun r5 h=>?_
 refine aC h (ZcV _ _ _) fun r6 h=>?_
 refine jL h (fun x13=>mkS [(0,.bool x13)] [] 2) (fun k1 h=>?_) fun x13 h=>?_
 ·refine rg ?_
  refine aC h (Zed _ _ _) fun r14 h=>?_
  refine Zaw (M:=([(⟨0,(⟨#[66]⟩:ByteArray)⟩:Title),(⟨0,(⟨#[65]⟩:ByteArray)⟩:Title)]:List Title)) (f:=Title.cs) rfl rfl rfl rfl (Nat.le_of_ble_eq_true rfl) rfl (Zj ?_)
  refine aL h (ZdM _ _) fun r15 h=>?_
  refine kS 42 h rfl (fun h=>?_) fun h=>?_
  ·refine aC h (Ze1 _ _ _) fun r16 h=>?_
   refine Zaw (M:=([(⟨4,(⟨#[88]⟩:ByteArray)⟩:Title),(⟨4,(⟨#[89]⟩:ByteArray)⟩:Title)]:List Title)) (f:=Title.cs) rfl rfl rfl rfl (Nat.le_of_ble_eq_true rfl) rfl (Zj ?_)
   refine aL h (ZdM _ _) fun r17 h=>?_
   refine kS 52 h rfl (fun h=>?_) fun h=>?_
   ·refine aC h (Ze1 _ _ _) fun r18 h=>?_
    refine Zaw (M:=([(⟨4,(⟨#[88]⟩:ByteArray)⟩:Title),(⟨4,(⟨#[89]⟩:ByteArray)⟩:Title)]:List Title)) (f:=Title.cs) rfl rfl rfl rfl (Nat.le_of_ble_eq_true rfl) rfl (Zj ?_)
    refine aL h (ZdM _ _) fun r19 h=>?_
    exact jn r19 h (sR [])
   iterate 8 refine ZI rfl (Zj ?_)
   exact jn false h (sR [])
  iterate 16 refine ZI rfl (Zj ?_)
  exact jn false h (sR [])
 cases h
 exact rQ
def Zeb (p0:List Int):Option (List CatRow):=
 (ZiJ p0).bind fun r1=>
 (Za1 r1 14).bind fun r2=>
 Zas Zck (fun f2 ((x64,x65,x66,x67,x68):Int×(List CatRow)×(List Int)×Int×Int)=>
  if (decide (0<x64)) then
   (ZgH (⟨x66,x67,x68⟩:SrcF)).bind fun r90=>
   (Zet).bind fun r91=>
   (Za1 r90.2 4).bind fun r92=>
   (atI r91 (w64 (3+r92.1))).bind fun e93=>
   (Za1 r92.2 4).bind fun r94=>
   (atI ([(⟨#[]⟩:ByteArray),(⟨#[107]⟩:ByteArray),(⟨#[65]⟩:ByteArray),(⟨#[122]⟩:ByteArray)]:List ByteArray) r94.1).bind fun c95=>
   (ZfA 64 x65 [(⟨r90.1,(⟨e93,c95⟩:Memb)⟩:CatRow)]).bind fun l96=>
   f2 ((w64 (x64 - 1)),l96,r94.2.l,r94.2.pos,r94.2.seed)
  else
  (some x65:Option (List CatRow))) (r2.1,([]:List CatRow),r2.2.l,r2.2.pos,r2.2.seed)
theorem ZfN (p0:List Int) (r:List CatRow) (h:Zeb p0=some r):Zd Tryz.prog 16 [.sl (List.map csI p0)] (.sl (List.map CatRow.cs r)):=by
 refine cF (fun r=>.sl (List.map CatRow.cs r)) h mix Tryz.func16 fun r h=>?_
 unfold Zeb at h
 refine Zj ?_
 refine rg ?_
 refine rg ?_
 refine aN h (Zo1 _) fun r1 h=>?_
 refine rg ?_
 refine rg ?_
 refine aO h (Zb2 _ _) fun r2 h=>?_
 refine bl ?_
 refine Zu h fun f2 mf2 hf2 h=>?_
 refine Zq (α:=Nat×(Int×(List CatRow)×(List Int)×Int×Int)) (fun a _=>mkS [(3,.ptr 7 (1,7) 0),(4,.row 4 (1,4)),(5,.int .i64 a.2.1)] [(4,some ((1,4),.row 34 5 false (List.map CatRow.cs a.2.2.1))),(7,some ((1,7),.box [.sl (List.map csI a.2.2.2.1),.int .i64 a.2.2.2.2.1,.int .u64 a.2.2.2.2.2]))] 2) (fun a=>Zas a.1 f2 a.2=some r) (fun a=>a.1) (mf2,r2.1,([]:List CatRow),r2.2.l,r2.2.pos,r2.2.seed) 2 h (Zdv [((1,7),(2,1))] 4 34 5 rfl ⟨rfl,rfl,rfl,trivial⟩ ⟨⟨rfl,rfl⟩,⟨rfl,rfl⟩,trivial⟩ rfl) (fun a _ h=>?_)
 obtain ⟨mf2,x64,x65,x66,x67,x68⟩:=a
 obtain ⟨mf2,rfl,h⟩:=Zv hf2 h
 dsimp only at h ⊢
 refine Zj ?_
 refine rg ?_
 refine cS h rfl (fun h=>?_) fun h=>?_
 ·refine bl ?_
  refine rg ?_
  refine aO h (ZnD _) fun r90 h=>?_
  refine aC h Zgd fun r91 h=>?_
  refine aO h (Zb2 _ _) fun r92 h=>?_
  refine aI Title.cs h fun e93 h=>?_
  refine aO h (Zb2 _ _) fun r94 h=>?_
  obtain ⟨c95,h85,h⟩:=bnd h
  refine ZrV (p:=PV.str) rfl h85 rfl rfl rfl rfl rfl (Zj ?_)
  refine Zaw (M:=([(⟨r90.1,(⟨e93,c95⟩:Memb)⟩:CatRow)]:List CatRow)) (f:=CatRow.cs) rfl rfl rfl rfl (Nat.le_of_ble_eq_true rfl) rfl (Zj ?_)
  refine pR CatRow.cs h fun l96 h=>?_
  refine rg ?_
  exact rn (mf2,(w64 (x64 - 1)),l96,r94.2.l,r94.2.pos,r94.2.seed) h (sR [(4,3,16),(7,1,7)])
 refine rg ?_
 cases h
 exact rQ
def Zb4 (p0:List CatRow) (p1:List CatRow) (p2:Title) (p3:List Int) (p4:List Int) (p5:Int):Option Bool:=
 letk (fun (x1:Bool)=>
  if x1 then
   (Zff).bind fun r3=>
   (some r3:Option Bool)
  else
  (Zet).bind fun r4=>
  (ZfE p5 8).bind fun r5=>
  (atI r4 r5).bind fun e6=>
  letk (fun (x18:Bool)=>
   (some x18:Option Bool)) fun k2=>
  (Zff).bind fun r19=>
  if r19 then
   (Zbe p0 p2 p1).bind fun r20=>
   (Zf4 p0 p2 p1).bind fun r21=>
   (ZaA r20 r21).bind fun r22=>
   if r22 then
    (Zeb p3).bind fun r23=>
    (Zeb p4).bind fun r24=>
    (Zbe r23 e6 r24).bind fun r25=>
    (Zeb p3).bind fun r26=>
    (Zeb p4).bind fun r27=>
    (Zf4 r26 e6 r27).bind fun r28=>
    (ZaA r25 r28).bind fun r29=>
    k2 r29
   else
   k2 false
  else
  k2 false) fun k1=>
 if (decide (30<(p0.length:Int))) then
  k1 true
 else
 k1 (decide (30<(p1.length:Int)))
theorem ZgL (p0:List CatRow) (p1:List CatRow) (p2:Title) (p3:List Int) (p4:List Int) (p5:Int) (r:Bool) (h:Zb4 p0 p1 p2 p3 p4 p5=some r):Zd Tryz.prog 3 [.sl (List.map CatRow.cs p0),.sl (List.map CatRow.cs p1),p2.pv,.sl (List.map csI p3),.sl (List.map csI p4),.int .i64 p5] (.bool r):=by
 refine cF (fun r=>.bool r) h mix Tryz.func3 fun r h=>?_
 unfold Zb4 at h
 refine Zj ?_
 refine rg ?_
 refine jL h (fun x1=>mkS [(0,.sl (List.map CatRow.cs p0)),(1,.sl (List.map CatRow.cs p1)),(3,.sl (List.map csI p3)),(4,.sl (List.map csI p4)),(5,.int .i64 p5),(8,.ptr 8 (1,8) 0),(21,.bool x1)] [(8,some ((1,8),.box (Title.cs p2)))] 2) (fun k1 h=>?_) fun x1 h=>?_
 ·refine rg ?_
  refine lM CatRow.cs p0 ?_
  refine kS 17 h rfl (fun h=>?_) fun h=>?_
  ·iterate 3 refine ZI rfl (Zj ?_)
   exact jn true h (sR [(8,1,0)])
  refine lM CatRow.cs p1 ?_
  exact jn (decide (30<(p1.length:Int))) h (sR [(8,1,0)])
 refine cS h rfl (fun h=>?_) fun h=>?_
 ·refine rg ?_
  refine aC h ZiN fun r3 h=>?_
  cases h
  exact rQ
 refine rg ?_
 refine aC h Zgd fun r4 h=>?_
 refine aC h (ZjQ _ _) fun r5 h=>?_
 refine aI Title.cs h fun e6 h=>?_
 refine jL h (fun x18=>mkS [(12,.bool x18)] [] 2) (fun k2 h=>?_) fun x18 h=>?_
 ·refine rg ?_
  refine aC h ZiN fun r19 h=>?_
  refine kS 29 h rfl (fun h=>?_) fun h=>?_
  ·refine aC h (ZcV _ _ _) fun r20 h=>?_
   refine aC h (Zk3 _ _ _) fun r21 h=>?_
   refine aC h (ZcZ _ _) fun r22 h=>?_
   refine kS 40 h rfl (fun h=>?_) fun h=>?_
   ·refine aC h (ZfN _) fun r23 h=>?_
    refine aC h (ZfN _) fun r24 h=>?_
    refine aC h (ZcV _ _ _) fun r25 h=>?_
    refine aC h (ZfN _) fun r26 h=>?_
    refine aC h (ZfN _) fun r27 h=>?_
    refine aC h (Zk3 _ _ _) fun r28 h=>?_
    refine aC h (ZcZ _ _) fun r29 h=>?_
    exact jn r29 h (sR [])
   iterate 13 refine ZI rfl (Zj ?_)
   exact jn false h (sR [])
  iterate 22 refine ZI rfl (Zj ?_)
  exact jn false h (sR [])
 cases h
 exact rQ
theorem Zod:Zff=some true:=by kernel_rfl
theorem Zri (l:List Int) (hl:l.length≤9223372036854775807):Tot (Zeb l) fun r=>r.length≤20:=by
 unfold Zeb
 refine Zdr (Ztp l hl) fun s hs=>Zdr (Znf s 14 hs (by omega) (by omega)) fun r hr=>?_
 refine ZcY (fun x=>x.1<14∧x.2.1.length+x.1.toNat≤20∧(⟨x.2.2.1,x.2.2.2.1,x.2.2.2.2⟩:SrcF).ok) (fun x=>x.1.toNat) ⟨hr.1.2,by dsimp only;simp only [List.length_nil];omega,hr.2⟩ (by dsimp only;omega) ?_
 rintro ⟨n,o,a,b,c⟩ rec ⟨h1,h2,h3⟩ ih
 dsimp only at h1 h2 h3 ih ⊢
 refine Zbh (fun h=>?_) fun _=>Zar (by omega)
 refine Zdr (Zsw _ h3) fun r1 hr1=>Zp (v:=titleG) rfl (Zdr (Znf _ 4 hr1.2 (by omega) (by omega)) fun r2 hr2=>?_)
 rw [Zg2 (by omega) (by omega)]
 refine Zhr (by omega) (by have:(titleG.length:Int)=8:=rfl;omega) fun e _ _=>Zdr (Znf _ 4 hr2.2 (by omega) (by omega)) fun r3 hr3=>?_
 refine ZpW 4 rfl hr3.1 fun s _=>?_
 refine Znc 100 (by simp only [List.length_singleton];omega) (by omega) (by omega) ?_
 rw [Zg2 (by omega) (by omega)]
 exact ih _ ⟨by dsimp only;omega,by dsimp only;simp only [List.length_append,List.length_singleton];omega,hr3.2⟩ (by dsimp only;omega)
theorem Zqc (a b:List CatRow) (t:Title) (l m:List Int) (at_:Int) (hl:l.length≤9223372036854775807) (hm:m.length≤9223372036854775807):Zb4 a b t l m at_=some true:=by
 refine Zfg ?_
 unfold Zb4
 refine ZkP (fun q=>Tot (q true) (fun z=>z=true)∧(a.length≤30→b.length≤30→Tot (q false) fun z=>z=true)) ⟨Zee (fun _=>Zp Zod (Zar rfl)) (fun h=>by cases h),fun ha hb=>Zee (fun h=>by cases h) fun _=>?_⟩ fun k hk=>?_
 ·refine Zp (v:=titleG) rfl (Zdr (ZpV at_ 8 (by omega) (by omega)) fun r hr=>ZpW 8 rfl hr fun x _=>?_)
  refine ZkP (fun q=>∀ t,t=true→Tot (q t) fun z=>z=true) (fun t ht=>Zar ht) fun k2 hk2=>?_
  refine Zp Zod (Zee (fun _=>?_) fun h=>by cases h)
  obtain ⟨r1,e1,e2,l1⟩:=Zm6 a b t (by omega) (by omega)
  refine Zp e1 (Zp e2 (Zp (Zrx r1 (by omega)) (Zee (fun _=>?_) fun h=>by cases h)))
  obtain ⟨u,hu,lu⟩:=Zri l hl
  obtain ⟨v,hv,lv⟩:=Zri m hm
  obtain ⟨r2,e3,e4,l2⟩:=Zm6 u v x (by omega) (by omega)
  exact Zp hu (Zp hv (Zp e3 (Zp hu (Zp hv (Zp e4 (Zp (Zrx r2 (by omega)) (hk2 _ rfl)))))))
 ·refine Zbh (fun _=>hk.1) fun h1=>?_
  by_cases h2:(30:Int)<(b.length:Int)
  ·rw [decide_eq_true h2];exact hk.1
  ·rw [decide_eq_false h2];exact hk.2 (by omega) (by omega)
end Go.Proofs.YtjblgpmagampbaaGreatDoor
namespace Go.Proofs.YtjblgpmagampbaaGreatDoor
open Go.RowKit Go.ChangeShapes Go.WideShapes Go.Deep
theorem ZgP {α:Type} (f:Nat→Option α):∀ n,(∀ i,i<n→∃ t,f i=some t)→((List.range n).filterMap f).length=n∧∀ i,i<n→((List.range n).filterMap f)[i]? = f i
 | 0,_=>⟨rfl,fun i h=>absurd h (by omega)⟩
 | n+1,h=>by
   obtain ⟨h1,h2⟩:=ZgP f n fun i hi=>h i (by omega)
   obtain ⟨t,ht⟩:=h n (by omega)
   rw [List.range_succ,List.filterMap_append]
   have e:List.filterMap f [n] = [t]:=by simp [ht]
   rw [e]
   refine ⟨by simp [h1],fun i hi=>?_⟩
   rcases Nat.lt_or_ge i n with hl | hl
   ·rw [List.getElem?_append_left (by omega)];exact h2 i hl
   ·obtain rfl:i=n:=by omega
    rw [List.getElem?_append_right (by omega),h1,ht];simp
section
variable {H:Type} {enc:TypeId×Value→H} {P:Program} {W:World}
def Rd (enc:TypeId×Value→H) (P:Program) (W:World) (T:TypeId) (α:Type) [Enc α]:Prop:=
 ∀ fuel cs x,DataW.trod enc P W 0 (fun _=>true) true fuel T cs=some x→∃ t:α,Enc.RT W t cs
theorem Ztf {T:TypeId} (hT:P.underlying T=some (.int .i64)):Rd enc P W T Int:=fun _ _ _ h=>by
 obtain ⟨n,hc,_⟩:=DataW.trod_int hT h
 exact ⟨n,hc⟩
theorem Zpg {T:TypeId} (hT:P.underlying T=some .string):Rd enc P W T ByteArray:=fun _ _ _ h=>by
 obtain ⟨n,hc,_⟩:=DataW.trod_string hT h
 exact ⟨n,hc⟩
theorem Zm5 {S E:TypeId} {α:Type} [Enc α] (hS:P.underlying S=some (.slice E)) (hk:P.cellsOf E=Enc.k α) (h0:0<Enc.k α) (hE:Rd enc P W E α):Rd enc P W S (List α):=fun fuel cs x h=>by
 rcases open_slice hS h with ⟨hc,_⟩ | ⟨a,len,cap,m,n,D,Pl,hc,_,hl,hm,hmm,_,hel⟩
 ·exact ⟨[],none,0,0,hc,SlR.nil W⟩
 ·have hm':m=cap:=by simpa using hmm
  have hx:∀ i,∃ (cs':List Value) (t:Option α),i<len→∃ t',t=some t'∧Enc.RT W t' cs'∧∀ j v,cs'[j]? = some v→W.cell? (a.add (i * P.cellsOf E+j))=some v:=fun i=>by
   by_cases hi:i<len
   ·obtain ⟨cs',h1,h2⟩:=hel i (by omega)
    obtain ⟨t,ht⟩:=hE _ _ _ h2
    obtain ⟨_,hlen,hcell⟩:=World.cells?_some h1
    refine ⟨cs',some t,fun _=>⟨t,rfl,ht,fun j v hj=>?_⟩⟩
    have hjl:j<P.cellsOf E:=by rw [← hlen];exact (List.getElem?_eq_some_iff.1 hj).1
    rw [← Go.Deep.add_add,hcell j hjl,hj]
   ·exact ⟨[],none,fun h=>absurd h hi⟩
  obtain ⟨css,hx⟩:=Classical.axiomOfChoice hx
  obtain ⟨ts,hx⟩:=Classical.axiomOfChoice hx
  refine ⟨(List.range len).filterMap ts,some a,len,cap,hc,?_⟩
  have hlen:((List.range len).filterMap ts).length=len∧∀ i,i<len→((List.range len).filterMap ts)[i]? = ts i:=ZgP ts len fun i hi=>by
   obtain ⟨t,ht,_⟩:=hx i hi
   exact ⟨t,ht⟩
  refine ⟨hlen.1.symm,hl,by unfold maxLen at hm;exact hm,fun hpos=>?_⟩
  obtain ⟨t0,_,hR0,hc0⟩:=hx 0 hpos
  have hl0:=Enc.len hR0
  have hcell0:=hc0 0 ((css 0)[0]'(by omega)) (List.getElem?_eq_getElem (by omega))
  obtain ⟨b,off,spot⟩:=a
  have hspot:spot=none:=by
   simp only [Nat.zero_mul,Nat.add_zero,Addr.add,if_true] at hcell0
   cases spot with
   | none=>rfl
   | some s=>
     exfalso
     unfold World.cell? at hcell0
     split at hcell0<;>simp at hcell0
  subst hspot
  refine ⟨b,off,css,rfl,trivial,?_,fun i x hi=>?_⟩
  ·simp only [Nat.zero_mul,Nat.add_zero,Addr.add,if_true] at hcell0
   exact Za0 hcell0
  ·have hil:i<len:=by rw [← hlen.1];exact (List.getElem?_eq_some_iff.1 hi).1
   obtain ⟨t,ht,hR,hcell⟩:=hx i hil
   rw [hlen.2 i hil,ht] at hi
   obtain rfl:t=x:=by simpa using hi
   refine ⟨hR,fun j v hj=>?_⟩
   have:=hcell j v hj
   rw [hk] at this
   unfold Addr.add at this
   split at this
   ·rename_i h0;rw [Nat.add_assoc,h0];exact this
   ·rw [Nat.add_assoc];exact this
theorem ZfK {T:TypeId} {fs:Array Field} {fuel:Nat} {cs:List Value} {x:DataW H×List MemPlace} {α:Type} [Enc α] (hT:P.underlying T=some (.struct fs))
  (h:DataW.trod enc P W 0 (fun _=>true) true fuel T cs=some x) (j o k:Nat) (T':TypeId) (hj:(fs[j]?).map (fun f=>(f.offset,f.type))=some (o,T')) (hk:P.cellsOf T'=k) (hR:Rd enc P W T' α):∃ t:α,Enc.RT W t ((cs.drop o).take k):=by
 obtain ⟨xs,n,_,_,hl,hlen,hf⟩:=DataW.trod_struct hT h
 cases hfj:fs[j]? with
 | none=>rw [hfj] at hj;cases hj
 | some f=>
   rw [hfj] at hj
   simp only [Option.map_some,Option.some.injEq,Prod.mk.injEq] at hj
   obtain ⟨rfl,rfl⟩:=hj
   subst hk
   have h1:=hf j f hfj
   have hjl:j<xs.length:=by rw [hlen];exact (Array.getElem?_eq_some_iff.1 hfj).1
   rw [List.getElem?_eq_getElem hjl] at h1
   exact hR _ _ _ h1
theorem Znx {α:Type}:∀ {l:List α},l.length=2→∃ a b,l = [a,b]
 | [a,b],_=>⟨a,b,rfl⟩
theorem ZtB {α:Type}:∀ {l:List α},l.length=3→∃ a b c,l = [a,b,c]
 | [a,b,c],_=>⟨a,b,c,rfl⟩
theorem ZtC {α:Type}:∀ {l:List α},l.length=5→∃ a b c d e,l = [a,b,c,d,e]
 | [a,b,c,d,e],_=>⟨a,b,c,d,e,rfl⟩
theorem Zph {T:TypeId} {fs:Array Field} {fuel:Nat} {cs:List Value} {x:DataW H×List MemPlace} (hT:P.underlying T=some (.struct fs))
  (h:DataW.trod enc P W 0 (fun _=>true) true fuel T cs=some x):cs.length=P.cellsOf T:=by
 obtain ⟨xs,n,_,_,hl,_⟩:=DataW.trod_struct hT h
 exact hl
theorem ZqG {T:TypeId} {fs:Array Field} {v:Value} {d:DataW H} {p:List MemPlace} {α:Type} [Enc α] {b0:Nat} (hT:P.underlying T=some (.struct fs)) (hv:Value.okWide P W .any b0 T v)
  (h:DataW.Trod enc P W 0 (fun _=>true) true T v d p) (hR:Rd enc P W T α):∃ (t:α) (cs:List Value),v = .agg cs.toArray∧Enc.RT W t cs:=by
 obtain ⟨cs,rfl,_⟩:=okWide_struct hT hv
 obtain ⟨fuel,hf⟩:=h
 obtain ⟨t,ht⟩:=hR _ _ _ hf
 exact ⟨t,cs.toList,by simp,ht⟩
end
end Go.Proofs.YtjblgpmagampbaaGreatDoor
namespace Go.Proofs.YtjblgpmagampbaaGreatDoor
open Go.RowKit Go.ChangeShapes Go.WideShapes Go.Deep
theorem ZmH:Tryz.prog.cellsOf 3=1:=by kernel_rfl
theorem Zir:Tryz.prog.cellsOf 9=1:=by kernel_rfl
theorem Zg6:Tryz.prog.cellsOf 24=2:=by kernel_rfl
section
variable {H:Type} {enc:TypeId×Value→H} {W:World}
theorem ZsK:Rd enc Tryz.prog W 3 Int:=Ztf Tryz.underlying3
theorem ZmI:Rd enc Tryz.prog W 9 ByteArray:=Zpg Tryz.underlying9
set_option maxRecDepth 100000 in
theorem Zmb:Rd enc Tryz.prog W 24 Title:=fun _ cs _ h=>by
 have hl:=Zph Tryz.underlying24 h
 obtain ⟨t0,e0⟩:=ZfK Tryz.underlying24 h 0 0 1 _ rfl ZmH ZsK
 obtain ⟨t1,e1⟩:=ZfK Tryz.underlying24 h 1 1 1 _ rfl Zir ZmI
 rw [Zg6] at hl
 obtain ⟨x0,x1,rfl⟩:=Znx hl
 cases (show [x0] = [_] from e0)
 cases (show [x1] = [_] from e1)
 exact ⟨⟨t0,t1⟩,rfl⟩
end
end Go.Proofs.YtjblgpmagampbaaGreatDoor
namespace Go.Proofs.YtjblgpmagampbaaGreatDoor
open VL Go.RowKit Go.ChangeShapes Go.WideShapes
theorem Zrh {H:Type} {enc:TypeId×Value→H} {W:World}:Rd enc Tryz.prog W 25 (List Int):=Zm5 Tryz.underlying25 ZmH (by decide) ZsK
theorem ZsG {W:World} (hG:Zsz W) (W':World) (hb:Below W.heap.size W W'):WInv.I Tryz.prog W':=
 ⟨hG.imp fun _ hm=>re1 hb (Za0 hm) hm,trivial⟩
end Go.Proofs.YtjblgpmagampbaaGreatDoor
namespace Go.Proofs.YtjblgpmagampbaaGreatDoor
open VL Go.RowKit Go.ChangeShapes Go.WideShapes Go.Deep
instance:Enc Memb:=Enc.plain 3 (fun x=>[.int .i64 x.category.space,.string x.category.name,.string x.sort]) (fun _=>rfl) (by simp [Value.oneCell'])
@[simp] theorem ZtL:Enc.k Memb=3:=rfl
instance:Enc CatRow:=Enc.plain 5 (fun x=>[.int .i64 x.page.space,.string x.page.name,.int .i64 x.memb.category.space,.string x.memb.category.name,.string x.memb.sort]) (fun _=>rfl) (by simp [Value.oneCell'])
@[simp] theorem Ztq:Enc.k CatRow=5:=rfl
theorem Zle:Tryz.prog.cellsOf 32=3:=by kernel_rfl
theorem Ziz:Tryz.prog.cellsOf 34=5:=by kernel_rfl
section
variable {H:Type} {enc:TypeId×Value→H} {W:World}
theorem ZsR:Rd enc Tryz.prog W 32 Memb:=fun _ cs _ h=>by
 have hl:=Zph Tryz.underlying32 h
 obtain ⟨t0,e0⟩:=ZfK Tryz.underlying32 h 0 0 2 _ rfl Zg6 Zmb
 obtain ⟨t1,e1⟩:=ZfK Tryz.underlying32 h 1 2 1 _ rfl Zir ZmI
 rw [Zle] at hl
 obtain ⟨c0,c1,c2,rfl⟩:=ZtB hl
 cases (show [c0,c1] = [_,_] from e0)
 cases (show [c2] = [_] from e1)
 exact ⟨⟨t0,t1⟩,rfl⟩
theorem Zqk:Rd enc Tryz.prog W 34 CatRow:=fun _ cs _ h=>by
 have hl:=Zph Tryz.underlying34 h
 obtain ⟨t0,e0⟩:=ZfK Tryz.underlying34 h 0 0 2 _ rfl Zg6 Zmb
 obtain ⟨t1,e1⟩:=ZfK Tryz.underlying34 h 1 2 3 _ rfl Zle ZsR
 rw [Ziz] at hl
 obtain ⟨c0,c1,c2,c3,c4,rfl⟩:=ZtC hl
 cases (show [c0,c1] = [_,_] from e0)
 cases (show [c2,c3,c4] = [_,_,_] from e1)
 exact ⟨⟨t0,t1⟩,rfl⟩
theorem Zlf:Rd enc Tryz.prog W 22 (List CatRow):=Zm5 Tryz.underlying22 Ziz (by decide) Zqk
end
theorem ZtP {x:Ctx} {a c:Int} {b d e:ByteArray} (j:Nat) (p:PV) (v:Value) (hp : [PV.int .i64 a,.str b,.int .i64 c,.str d,.str e][j]? = some p) (hv : [Value.int .i64 a,.string b,.int .i64 c,.string d,.string e][j]? = some v):p.pure=true∧Rep x p v:=by
 match j,hp,hv with
 | 0,hp,hv=>cases hp;cases hv;exact ⟨rfl,.int _ _⟩
 | 1,hp,hv=>cases hp;cases hv;exact ⟨rfl,.str _⟩
 | 2,hp,hv=>cases hp;cases hv;exact ⟨rfl,.int _ _⟩
 | 3,hp,hv=>cases hp;cases hv;exact ⟨rfl,.str _⟩
 | 4,hp,hv=>cases hp;cases hv;exact ⟨rfl,.str _⟩
 | j+5,hp,hv=>simp at hp
instance:EncPV CatRow:=⟨CatRow.cs,fun w x vs h=>by
 cases h
 exact ⟨rfl,ZtP⟩⟩
end Go.Proofs.YtjblgpmagampbaaGreatDoor
namespace Go.Proofs.YtjblgpmagampbaaGreatDoor
open VL Go.RowKit
theorem ZoF {α:Type} [Enc α] {w:World} {A:Option Addr} {n c:Nat} {xs:List α} (h:SlR w A n c xs):xs.length≤9223372036854775807:=by
 obtain ⟨h1,h2,h3,h4⟩:=h
 omega
theorem ZsS {x:Ctx} (i:Nat) (p:PV) (v:Value) (hp:([]:List PV)[i]? = some p) (hv:([]:List Value)[i]? = some v):Rep x p v:=by simp at hp
theorem Zlh {x:Ctx} {p:PV} {v:Value} {ps:List PV} {vs:List Value} (h:Rep x p v) (r:∀ (i:Nat) (p:PV) (v:Value),ps[i]? = some p→vs[i]? = some v→Rep x p v) (i:Nat) (q:PV) (w:Value) (hp:(p::ps)[i]? = some q) (hv:(v::vs)[i]? = some w):Rep x q w:=by
 cases i with
 | zero=>injection hp with hp;injection hv with hv;subst hp hv;exact h
 | succ i=>exact r i q w (by simpa using hp) (by simpa using hv)
theorem ZsT {x:Ctx} {ps:List PV} {vs:List Value} (r:∀ (i:Nat) (p:PV) (v:Value),ps[i]? = some p→vs[i]? = some v→Rep x p v) (i:Nat) (p:PV) (v:Value) (hp:ps[i]? = some p) (hv:vs.toArray[i]? = some v):Rep x p v:=r i p v hp (by simpa using hv)
theorem ZoG {x:Ctx} (t:Title):Rep x t.pv (.agg #[.int .i64 t.space,.string t.name]):=.agg _ _ rfl (ZsT (vs:=[.int .i64 t.space,.string t.name]) (Zlh (.int _ _) (Zlh (.str _) ZsS)))
theorem ZhV (A0:Option Addr) (n0 c0:Nat) (i0:List CatRow) (A1:Option Addr) (n1 c1:Nat) (i1:List CatRow) (i2:Title) (A3:Option Addr) (n3 c3:Nat) (i3:List Int) (A4:Option Addr) (n4 c4:Nat) (i4:List Int) (i5:Int) (W:World)
  (h0:SlR W A0 n0 c0 i0) (h1:SlR W A1 n1 c1 i1) (h3:SlR W A3 n3 c3 i3) (h4:SlR W A4 n4 c4 i4) (hI:∀ W',Below W.heap.size W W'→WInv.I Tryz.prog W') :
  Calls Tryz.prog 3 #[.slice A0 n0 c0,.slice A1 n1 c1,.agg #[.int .i64 i2.space,.string i2.name],.slice A3 n3 c3,.slice A4 n4 c4,.int .i64 i5] W fun e w'=>e = .returned (.bool true)∧Below W.heap.size W w':=
 ZnR (ZgL i0 i1 i2 i3 i4 i5 true (Zqc i0 i1 i2 i3 i4 i5 (ZoF h3) (ZoF h4))) rfl (fun i p v hp hv=>ZsT (vs:=[.slice A0 n0 c0,.slice A1 n1 c1,.agg #[.int .i64 i2.space,.string i2.name],.slice A3 n3 c3,.slice A4 n4 c4,.int .i64 i5]) (Zlh (ZgN h0) (Zlh (ZgN h1) (Zlh (ZoG i2) (Zlh (ZgN h3) (Zlh (ZgN h4) (Zlh (.int _ _) ZsS)))))) i p v hp hv) hI
end Go.Proofs.YtjblgpmagampbaaGreatDoor
