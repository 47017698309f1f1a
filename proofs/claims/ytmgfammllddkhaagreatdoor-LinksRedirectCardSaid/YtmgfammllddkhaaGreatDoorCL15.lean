/- Functions of the program as Lean functions. Written by fxgen.py. | A function that hands back a copy of a slice of plain cells. No program is named. | strings.Compare, as the others are written. | Functions of the program as Lean functions. Written by fxgen.py. | == and != of links. | Functions of the program as Lean functions. Written by fxgen.py. -/
import Derived.Test.YtmgfammllddkhaaGreatDoorCL09
import Derived.Test.YtmgfammllddkhaaGreatDoorCL14
import Derived.Test.YtmgfammllddkhaaGreatDoorCL06
import Derived.Test.YtmgfammllddkhaaGreatDoorCL04
set_option linter.unusedVariables false
set_option maxHeartbeats 4000000
set_option maxRecDepth 100000
namespace Go.Proofs.YtmgfammllddkhaaGreatDoor
open VL
def ZdO (p0:List Node):Option (Title×Bool):=
 (Zgl p0).bind fun r1=>
 (ZdC r1.1).bind fun r2=>
 letk (fun (x5:Bool)=>
  if x5 then
   (some ((⟨0,(⟨#[]⟩:ByteArray)⟩:Title),false):Option (Title×Bool))
  else
  (Zcx r2).bind fun r6=>
  if (!decide (r6.2=0)) then
   (some ((⟨0,(⟨#[]⟩:ByteArray)⟩:Title),false):Option (Title×Bool))
  else
  letk (fun (x8:Bool)=>
   letk (fun (x9:Int)=>
    (some ((⟨x9,r6.1.name⟩:Title),true):Option (Title×Bool))) fun k3=>
   if x8 then
    k3 3
   else
   k3 r6.1.space) fun k2=>
  if (decide (r6.1.space=0)) then
   (Zax r2 (⟨#[58]⟩:ByteArray)).bind fun r10=>
   k2 (!r10)
  else
  k2 false) fun k1=>
 if (!r1.2) then
  k1 true
 else
 (Zax r2 (⟨#[35]⟩:ByteArray)).bind fun r11=>
 if r11 then
  k1 true
 else
 (Zax r2 (⟨#[47]⟩:ByteArray)).bind fun r12=>
 k1 r12
theorem ZgS (p0:List Node) (r:Title×Bool) (h:ZdO p0=some r):ZH Tryz.prog 67 [.sl (List.map Node.cs p0)] (.tup [r.1.pv,.bool r.2]):=by
 refine cF (fun r=>.tup [r.1.pv,.bool r.2]) h mix Tryz.func67 fun r h=>?_
 unfold ZdO at h
 refine ZU ?_
 refine rg ?_
 refine rg ?_
 refine aC h (ZjH _) fun r1 h=>?_
 refine rg ?_
 refine aC h (Ze8 _) fun r2 h=>?_
 refine jL h (fun x5=>mkS [(2,.ptr 2 (1,2) 0),(6,.str r2),(25,.bool x5)] [(2,some ((1,2),.box [.int .i64 0,.str (⟨#[]⟩:ByteArray)]))] 2) (fun k1 h=>?_) fun x5 h=>?_
 ·refine rg ?_
  refine kS 18 h rfl (fun h=>?_) fun h=>?_
  ·iterate 4 refine Zao rfl (ZU ?_)
   exact jn true h (sR [(2,1,0)])
  refine aC h (Zaz _ _) fun r11 h=>?_
  refine kS 22 h rfl (fun h=>?_) fun h=>?_
  ·iterate 2 refine Zao rfl (ZU ?_)
   exact jn true h (sR [(2,1,0)])
  refine aC h (Zaz _ _) fun r12 h=>?_
  exact jn r12 h (sR [(2,1,0)])
 refine cS h rfl (fun h=>?_) fun h=>?_
 ·refine rg ?_
  cases h
  exact rQ
 refine rg ?_
 refine aC h (ZeD _) fun r6 h=>?_
 refine rg ?_
 refine cS h rfl (fun h=>?_) fun h=>?_
 ·refine rg ?_
  cases h
  exact rQ
 refine jL h (fun x8=>mkS [(2,.ptr 2 (1,2) 0),(7,.ptr 7 (1,7) 0),(42,.bool x8)] [(2,some ((1,2),.box [.int .i64 0,.str (⟨#[]⟩:ByteArray)])),(7,some ((1,7),.box (Title.cs r6.1)))] 2) (fun k2 h=>?_) fun x8 h=>?_
 ·refine rg ?_
  refine kS 38 h rfl (fun h=>?_) fun h=>?_
  ·refine aC h (Zaz _ _) fun r10 h=>?_
   exact jn (!r10) h (sR [(2,1,2),(7,2,5)])
  iterate 3 refine Zao rfl (ZU ?_)
  exact jn false h (sR [(2,1,2),(7,2,5)])
 refine jL h (fun x9=>mkS [(2,.ptr 2 (1,2) 0),(7,.ptr 7 (1,7) 0)] [(2,some ((1,2),.box [.int .i64 0,.str (⟨#[]⟩:ByteArray)])),(7,some ((1,7),.box [.int .i64 x9,.str r6.1.name]))] 2) (fun k3 h=>?_) fun x9 h=>?_
 ·refine cS h rfl (fun h=>?_) fun h=>?_
  ·refine rg ?_
   exact jn 3 h (sR [(2,1,2),(7,1,7)])
  exact jn r6.1.space h (sR [(2,1,2),(7,1,7)])
 refine rg ?_
 cases h
 exact rQ
def Zb2:Nat→Finder→(List Node)→Option Finder
 | 0,_,_=>none
 | mF+1,p0,p1=>
 Zby Zev (fun f7 ((x13,x14,x15):Int×(List Link)×(List Memb))=>
  if (decide (x13<(p1.length:Int))) then
   letk (fun (x33:List Link) (x34:List Memb)=>
    f7 ((w64 (x13+1)),x33,x34)) fun k9=>
   (atI p1 x13).bind fun e35=>
   if (decide (e35.kind=1)) then
    (ZbW (⟨x14,x15⟩:Finder) e35.text).bind fun r36=>
    k9 r36.links r36.members
   else
   letk (fun (x37:Bool)=>
    if x37 then
     (Zfr e35.kids).bind fun l38=>
     (Zb2 mF (⟨x14,x15⟩:Finder) l38).bind fun r39=>
     k9 r39.links r39.members
    else
    k9 x14 x15) fun k10=>
   if (decide (e35.kind=6)) then
    k10 (!decide (e35.tag=2))
   else
   k10 false
  else
  (some (⟨x14,x15⟩:Finder):Option Finder)) (0,p0.links,p0.members)
theorem Zf1 (mF:Nat):∀ (p0:Finder) (p1:List Node) (r:Finder),Zb2 mF p0 p1=some r→ContractP Tryz.prog 30 [.ptr 0 (0,0) 0,.sl (List.map Node.cs p1)] 0 [.row 42 3 false (List.map Link.cs p0.links),.row 45 3 false (List.map Memb.cs p0.members)] (.tup []) [.row 42 3 false (List.map Link.cs r.links),.row 45 3 false (List.map Memb.cs r.members)]:=by
 induction mF with
 | zero=>intro p0 p1 r h;cases h
 | succ mF ihF=>
 intro p0 p1 r h
 refine Zfi (R:=fun r=>.tup []) (O:=fun r=>[.row 42 3 false (List.map Link.cs r.links),.row 45 3 false (List.map Memb.cs r.members)]) h mix Tryz.func30 (by kernel_rfl) rfl (by kernel_rfl) rfl fun r h=>?_
 simp only [Zb2] at h
 refine ZU ?_
 refine rg ?_
 refine lM Node.cs p1 ?_
 refine bl ?_
 refine Zap h fun f7 mf7 hf7 h=>?_
 refine Zac (α:=Nat×(Int×(List Link)×(List Memb))) (fun a _=>mkS [(0,.ptr 0 (0,0) 0),(6,.sl (List.map Node.cs p1)),(7,.int .i64 (p1.length:Int)),(8,.int .i64 a.2.1)] [(0,some ((0,0),.box [.row 1000 (1,1000),.row 1001 (1,1001)])),(1000,some ((1,1000),.row 42 3 false (List.map Link.cs a.2.2.1))),(1001,some ((1,1001),.row 45 3 false (List.map Memb.cs a.2.2.2)))] 2) (fun a=>Zby a.1 f7 a.2=some r) (fun a=>a.1) (mf7,0,p0.links,p0.members) 2 h (sR [(1000,0,1000),(1001,0,1001)]) (fun a _ h=>?_)
 obtain ⟨mf7,x13,x14,x15⟩:=a
 obtain ⟨mf7,rfl,h⟩:=Zaq hf7 h
 dsimp only at h ⊢
 refine ZU ?_
 refine rg ?_
 refine cS h rfl (fun h=>?_) fun h=>?_
 ·refine ZbG h fun k9 hk9 h=>?_
  refine Zbs (α:=(List Link)×(List Memb)) (fun a _=>mkS [(0,.ptr 0 (0,0) 0),(6,.sl (List.map Node.cs p1)),(7,.int .i64 (p1.length:Int)),(8,.int .i64 x13)] [(0,some ((0,0),.box [.row 1000 (1,1000),.row 1001 (1,1001)])),(1000,some ((1,1000),.row 42 3 false (List.map Link.cs a.1))),(1001,some ((1,1001),.row 45 3 false (List.map Memb.cs a.2)))] 2) (fun a=>k9 a.1 a.2=some r) (ZU ?_) (fun a _ h=>?_)
  ·refine bl ?_
   refine rg ?_
   refine aI Node.cs h fun e35 h=>?_
   refine bl ?_
   refine rg ?_
   refine cS h rfl (fun h=>?_) fun h=>?_
   ·refine rg ?_
    obtain ⟨r36,h22,h⟩:=bnd h
    refine Zfq (Zew _ _ _ h22) rfl rfl rfl rfl rfl rfl rfl rfl (ZU ?_)
    exact jn (r36.links,r36.members) h (sR [(1000,5,1000003),(1001,5,2000003)])
   refine jL h (fun x37=>mkS [(0,.ptr 0 (0,0) 0),(5,.ptr 5 (1,5) 0),(6,.sl (List.map Node.cs p1)),(7,.int .i64 (p1.length:Int)),(8,.int .i64 x13),(20,.bool x37)] [(0,some ((0,0),.box [.row 1000 (1,1000),.row 1001 (1,1001)])),(5,some ((1,5),.box [.int .i64 e35.kind,.int .i64 e35.tag,.str e35.text,.sl e35.kids,.sl e35.args])),(1000,some ((1,1000),.row 42 3 false (List.map Link.cs x14))),(1001,some ((1,1001),.row 45 3 false (List.map Memb.cs x15)))] 2) (fun k10 h=>?_) fun x37 h=>?_
   ·refine rg ?_
    refine kS 24 h rfl (fun h=>?_) fun h=>?_
    ·exact jn (!decide (e35.tag=2)) h (sR [(5,3,2),(1000,1,1000),(1001,1,1001)])
    iterate 3 refine Zao rfl (ZU ?_)
    exact jn false h (sR [(5,3,2),(1000,1,1000),(1001,1,1001)])
   refine cS h rfl (fun h=>?_) fun h=>?_
   ·refine rg ?_
    obtain ⟨l38,h23,h⟩:=bnd h
    refine ZpE 31 (Zdd h23) rfl (ZU ?_)
    obtain ⟨r39,h24,h⟩:=bnd h
    refine Zfq (ihF _ _ _ h24) rfl rfl rfl rfl rfl rfl rfl rfl (ZU ?_)
    exact jn (r39.links,r39.members) h (sR [(1000,2,1000003),(1001,2,2000003)])
   exact jn (x14,x15) h (sR [(1000,1,1000),(1001,1,1001)])
  obtain ⟨x33,x34⟩:=a
  subst hk9
  dsimp only at h ⊢
  refine ZU ?_
  refine rg ?_
  exact rn (mf7,(w64 (x13+1)),x33,x34) h (sR [(1000,1,1000),(1001,1,1001)])
 cases h
 exact Zjq rfl rfl rfl rfl rfl rfl
def ZaG:Nat→Finder→(List Node)→Option Finder
 | 0,_,_=>none
 | mF+1,p0,p1=>
 Zby Zev (fun f15 ((x93,x94,x95):Int×(List Link)×(List Memb))=>
  if (decide (x93<(p1.length:Int))) then
   letk (fun (x233:List Link) (x234:List Memb)=>
    f15 ((w64 (x93+1)),x233,x234)) fun k19=>
   (atI p1 x93).bind fun e235=>
   letk (fun (x236:Bool)=>
    if x236 then
     k19 x94 x95
    else
    letk (fun (x240:List Link)=>
     (Zfr e235.kids).bind fun l241=>
     (ZaG mF (⟨x240,x95⟩:Finder) l241).bind fun r242=>
     (ZoN e235.args).bind fun l243=>
     Zby Zev (fun f22 ((x254,x255,x256):Int×(List Link)×(List Memb))=>
      if (decide (x254<(l243.length:Int))) then
       (atI l243 x254).bind fun e272=>
       (Zfr e272.name).bind fun l273=>
       (ZaG mF (⟨x255,x256⟩:Finder) l273).bind fun r274=>
       (Zfr e272.value).bind fun l275=>
       (ZaG mF r274 l275).bind fun r276=>
       f22 ((w64 (x254+1)),r276.links,r276.members)
      else
      k19 x255 x256) (0,r242.links,r242.members)) fun k21=>
    if (decide (e235.kind=4)) then
     (Zfr e235.kids).bind fun l277=>
     (ZdO l277).bind fun r278=>
     if r278.2 then
      (Zlb 32 x94 [(⟨2,r278.1⟩:Link)]).bind fun l279=>
      k21 l279
     else
     k21 x94
    else
    k21 x94) fun k20=>
   if (decide (e235.kind=6)) then
    k20 (decide (e235.tag=2))
   else
   k20 false
  else
  (some (⟨x94,x95⟩:Finder):Option Finder)) (0,p0.links,p0.members)
theorem Zd2 (mF:Nat):∀ (p0:Finder) (p1:List Node) (r:Finder),ZaG mF p0 p1=some r→ContractP Tryz.prog 31 [.ptr 0 (0,0) 0,.sl (List.map Node.cs p1)] 0 [.row 42 3 false (List.map Link.cs p0.links),.row 45 3 false (List.map Memb.cs p0.members)] (.tup []) [.row 42 3 false (List.map Link.cs r.links),.row 45 3 false (List.map Memb.cs r.members)]:=by
 induction mF with
 | zero=>intro p0 p1 r h;cases h
 | succ mF ihF=>
 intro p0 p1 r h
 refine Zfi (R:=fun r=>.tup []) (O:=fun r=>[.row 42 3 false (List.map Link.cs r.links),.row 45 3 false (List.map Memb.cs r.members)]) h mix Tryz.func31 (by kernel_rfl) rfl (by kernel_rfl) rfl fun r h=>?_
 simp only [ZaG] at h
 refine ZU ?_
 refine rg ?_
 refine lM Node.cs p1 ?_
 refine bl ?_
 refine Zap h fun f15 mf15 hf15 h=>?_
 refine Zac (α:=Nat×(Int×(List Link)×(List Memb))) (fun a _=>mkS [(0,.ptr 0 (0,0) 0),(10,.sl (List.map Node.cs p1)),(11,.int .i64 (p1.length:Int)),(12,.int .i64 a.2.1)] [(0,some ((0,0),.box [.row 1000 (1,1000),.row 1001 (1,1001)])),(1000,some ((1,1000),.row 42 3 false (List.map Link.cs a.2.2.1))),(1001,some ((1,1001),.row 45 3 false (List.map Memb.cs a.2.2.2)))] 2) (fun a=>Zby a.1 f15 a.2=some r) (fun a=>a.1) (mf15,0,p0.links,p0.members) 2 h (sR [(1000,0,1000),(1001,0,1001)]) (fun a _ h=>?_)
 obtain ⟨mf15,x93,x94,x95⟩:=a
 obtain ⟨mf15,rfl,h⟩:=Zaq hf15 h
 dsimp only at h ⊢
 refine ZU ?_
 refine rg ?_
 refine cS h rfl (fun h=>?_) fun h=>?_
 ·refine ZbG h fun k19 hk19 h=>?_
  refine Zbs (α:=(List Link)×(List Memb)) (fun a _=>mkS [(0,.ptr 0 (0,0) 0),(10,.sl (List.map Node.cs p1)),(11,.int .i64 (p1.length:Int)),(12,.int .i64 x93)] [(0,some ((0,0),.box [.row 1000 (1,1000),.row 1001 (1,1001)])),(1000,some ((1,1000),.row 42 3 false (List.map Link.cs a.1))),(1001,some ((1,1001),.row 45 3 false (List.map Memb.cs a.2)))] 2) (fun a=>k19 a.1 a.2=some r) (ZU ?_) (fun a _ h=>?_)
  ·refine bl ?_
   refine rg ?_
   refine aI Node.cs h fun e235 h=>?_
   refine jL h (fun x236=>mkS [(0,.ptr 0 (0,0) 0),(5,.ptr 5 (1,5) 0),(10,.sl (List.map Node.cs p1)),(11,.int .i64 (p1.length:Int)),(12,.int .i64 x93),(23,.bool x236)] [(0,some ((0,0),.box [.row 1000 (1,1000),.row 1001 (1,1001)])),(5,some ((1,5),.box [.int .i64 e235.kind,.int .i64 e235.tag,.str e235.text,.sl e235.kids,.sl e235.args])),(1000,some ((1,1000),.row 42 3 false (List.map Link.cs x94))),(1001,some ((1,1001),.row 45 3 false (List.map Memb.cs x95)))] 2) (fun k20 h=>?_) fun x236 h=>?_
   ·refine rg ?_
    refine kS 19 h rfl (fun h=>?_) fun h=>?_
    ·exact jn (decide (e235.tag=2)) h (sR [(5,3,2),(1000,1,1000),(1001,1,1001)])
    iterate 3 refine Zao rfl (ZU ?_)
    exact jn false h (sR [(5,3,2),(1000,1,1000),(1001,1,1001)])
   refine cS h rfl (fun h=>?_) fun h=>?_
   ·exact jn (x94,x95) h (sR [(1000,1,1000),(1001,1,1001)])
   refine rg ?_
   refine jL h (fun x240=>mkS [(0,.ptr 0 (0,0) 0),(5,.ptr 5 (1,5) 0),(10,.sl (List.map Node.cs p1)),(11,.int .i64 (p1.length:Int)),(12,.int .i64 x93)] [(0,some ((0,0),.box [.row 1000 (1,1000),.row 1001 (1,1001)])),(5,some ((1,5),.box [.int .i64 e235.kind,.int .i64 e235.tag,.str e235.text,.sl e235.kids,.sl e235.args])),(1000,some ((1,1000),.row 42 3 false (List.map Link.cs x240))),(1001,some ((1,1001),.row 45 3 false (List.map Memb.cs x95)))] 2) (fun k21 h=>?_) fun x240 h=>?_
   ·refine cS h rfl (fun h=>?_) fun h=>?_
    ·refine rg ?_
     obtain ⟨l277,h238,h⟩:=bnd h
     refine ZpE 29 (Zdd h238) rfl (ZU ?_)
     refine aC h (ZgS _) fun r278 h=>?_
     refine rg ?_
     refine cS h rfl (fun h=>?_) fun h=>?_
     ·refine rg ?_
      refine ZcH (M:=([(⟨2,r278.1⟩:Link)]:List Link)) (f:=Link.cs) rfl rfl rfl rfl (Nat.le_of_ble_eq_true rfl) rfl (ZU ?_)
      refine pR Link.cs h fun l279 h=>?_
      exact jn l279 h (sR [(5,1,5),(1000,5,8),(1001,1,1001)])
     exact jn x94 h (sR [(5,1,5),(1000,1,1000),(1001,1,1001)])
    exact jn x94 h (sR [(5,1,5),(1000,1,1000),(1001,1,1001)])
   refine rg ?_
   obtain ⟨l241,h205,h⟩:=bnd h
   refine ZpE 47 (Zdd h205) rfl (ZU ?_)
   obtain ⟨r242,h206,h⟩:=bnd h
   refine Zfq (ihF _ _ _ h206) rfl rfl rfl rfl rfl rfl rfl rfl (ZU ?_)
   refine rg ?_
   obtain ⟨l243,h207,h⟩:=bnd h
   refine ZpE 50 (ZmU h207) rfl (ZU ?_)
   refine lM Arg.cs l243 ?_
   refine bl ?_
   refine Zap h fun f22 mf22 hf22 h=>?_
   refine Zac (α:=Nat×(Int×(List Link)×(List Memb))) (fun a _=>mkS [(0,.ptr 0 (0,0) 0),(10,.sl (List.map Node.cs p1)),(11,.int .i64 (p1.length:Int)),(12,.int .i64 x93),(50,.sl (List.map Arg.cs l243)),(51,.int .i64 (l243.length:Int)),(52,.int .i64 a.2.1)] [(0,some ((0,0),.box [.row 1000 (1,1000),.row 1001 (1,1001)])),(1000,some ((1,1000),.row 42 3 false (List.map Link.cs a.2.2.1))),(1001,some ((1,1001),.row 45 3 false (List.map Memb.cs a.2.2.2)))] 2) (fun a=>Zby a.1 f22 a.2=some r) (fun a=>a.1) (mf22,0,r242.links,r242.members) 2 h (sR [(1000,2,1000003),(1001,2,2000003)]) (fun a _ h=>?_)
   obtain ⟨mf22,x254,x255,x256⟩:=a
   obtain ⟨mf22,rfl,h⟩:=Zaq hf22 h
   dsimp only at h ⊢
   refine ZU ?_
   refine rg ?_
   refine cS h rfl (fun h=>?_) fun h=>?_
   ·refine bl ?_
    refine rg ?_
    refine aI Arg.cs h fun e272 h=>?_
    refine rg ?_
    obtain ⟨l273,h234,h⟩:=bnd h
    refine ZpE 58 (Zdd h234) rfl (ZU ?_)
    obtain ⟨r274,h235,h⟩:=bnd h
    refine Zfq (ihF _ _ _ h235) rfl rfl rfl rfl rfl rfl rfl rfl (ZU ?_)
    refine rg ?_
    obtain ⟨l275,h236,h⟩:=bnd h
    refine ZpE 62 (Zdd h236) rfl (ZU ?_)
    obtain ⟨r276,h237,h⟩:=bnd h
    refine Zfq (ihF _ _ _ h237) rfl rfl rfl rfl rfl rfl rfl rfl (ZU ?_)
    refine rg ?_
    exact rn (mf22,(w64 (x254+1)),r276.links,r276.members) h (sR [(1000,5,1000003),(1001,5,2000003)])
   exact jn (x255,x256) h (sR [(1000,1,1000),(1001,1,1001)])
  obtain ⟨x233,x234⟩:=a
  subst hk19
  dsimp only at h ⊢
  refine ZU ?_
  refine rg ?_
  exact rn (mf15,(w64 (x93+1)),x233,x234) h (sR [(1000,1,1000),(1001,1,1001)])
 cases h
 exact Zjq rfl rfl rfl rfl rfl rfl
end Go.Proofs.YtmgfammllddkhaaGreatDoor

namespace Go.Proofs.YtmgfammllddkhaaGreatDoor
open VL Go.RowKit
def strings_Compare (a b:ByteArray):Option Int:=some (Lib.compareBytes a.data.toList b.data.toList)
theorem Zgj (a b:ByteArray) (r:Int) (h:strings_Compare a b=some r):ZH Tryz.prog 71 [.str a,.str b] (.int .i64 r):=by
 unfold strings_Compare at h
 cases h
 exact ZaY (vals:=[.string a,.string b]) (by kernel_rfl) rfl rfl (fun x=>.int _ _) fun w hw=>(ZlI a b w).mono fun e w' ⟨h1,h2⟩=>⟨h1,by rw [← h2];exact Below.refl _ _⟩
end Go.Proofs.YtmgfammllddkhaaGreatDoor
namespace Go.Proofs.YtmgfammllddkhaaGreatDoor
open VL
def Zc1 (p0:Int):Option Bool:=
 (some (!decide (p0=p0)):Option Bool)
theorem ZeJ (p0:Int) (r:Bool) (h:Zc1 p0=some r):ZH Tryz.prog 70 [.int .i64 p0] (.bool r):=by
 refine cF (fun r=>.bool r) h mix Tryz.func70 fun r h=>?_
 unfold Zc1 at h
 refine ZU ?_
 refine rg ?_
 refine rg ?_
 cases h
 exact rQ
def Zcm (p0:Int) (p1:Int):Option Int:=
 (Zc1 p0).bind fun r1=>
 (Zc1 p1).bind fun r2=>
 if r1 then
  if r2 then
   (some 0:Option Int)
  else
  (some (-1):Option Int)
 else
 if r2 then
  (some 1:Option Int)
 else
 if (decide (p0<p1)) then
  (some (-1):Option Int)
 else
 if (decide (p1<p0)) then
  (some 1:Option Int)
 else
 (some 0:Option Int)
theorem Zd1 (p0:Int) (p1:Int) (r:Int) (h:Zcm p0 p1=some r):ZH Tryz.prog 35 [.int .i64 p0,.int .i64 p1] (.int .i64 r):=by
 refine cF (fun r=>.int .i64 r) h mix Tryz.func35 fun r h=>?_
 unfold Zcm at h
 refine ZU ?_
 refine rg ?_
 refine rg ?_
 refine aC h (ZeJ _) fun r1 h=>?_
 refine rg ?_
 refine aC h (ZeJ _) fun r2 h=>?_
 refine rg ?_
 refine cS h rfl (fun h=>?_) fun h=>?_
 ·refine rg ?_
  refine cS h rfl (fun h=>?_) fun h=>?_
  ·refine rg ?_
   cases h
   exact rQ
  refine rg ?_
  cases h
  exact rQ
 refine rg ?_
 refine cS h rfl (fun h=>?_) fun h=>?_
 ·refine rg ?_
  cases h
  exact rQ
 refine rg ?_
 refine cS h rfl (fun h=>?_) fun h=>?_
 ·refine rg ?_
  cases h
  exact rQ
 refine rg ?_
 refine cS h rfl (fun h=>?_) fun h=>?_
 ·refine rg ?_
  cases h
  exact rQ
 refine rg ?_
 cases h
 exact rQ
def ZeZ (p0:List Int):Option Int:=
 Zby Zev (fun f2 (x10:Int)=>
  if (decide (x10<(p0.length:Int))) then
   (atI p0 x10).bind fun e14=>
   if (!decide (e14=0)) then
    (some e14:Option Int)
   else
   f2 (w64 (x10+1))
  else
  (some 0:Option Int)) 0
theorem ZgK (p0:List Int) (r:Int) (h:ZeZ p0=some r):ZH Tryz.prog 34 [.sl (List.map csI p0)] (.int .i64 r):=by
 refine cF (fun r=>.int .i64 r) h mix Tryz.func34 fun r h=>?_
 unfold ZeZ at h
 refine ZU ?_
 refine rg ?_
 refine rg ?_
 refine rg ?_
 refine lM csI p0 ?_
 refine bl ?_
 refine Zap h fun f2 mf2 hf2 h=>?_
 refine Zac (α:=Nat×Int) (fun a _=>mkS [(3,.int .i64 0),(6,.sl (List.map csI p0)),(7,.int .i64 (p0.length:Int)),(8,.int .i64 a.2)] [] 2) (fun a=>Zby a.1 f2 a.2=some r) (fun a=>a.1) (mf2,0) 2 h (sR []) (fun a _ h=>?_)
 obtain ⟨mf2,x10⟩:=a
 obtain ⟨mf2,rfl,h⟩:=Zaq hf2 h
 dsimp only at h ⊢
 refine ZU ?_
 refine rg ?_
 refine cS h rfl (fun h=>?_) fun h=>?_
 ·refine bl ?_
  refine rg ?_
  refine aI csI h fun e14 h=>?_
  refine rg ?_
  refine cS h rfl (fun h=>?_) fun h=>?_
  ·refine rg ?_
   cases h
   exact rQ
  refine rg ?_
  exact rn (mf2,(w64 (x10+1))) h (sR [])
 refine rg ?_
 cases h
 exact rQ
def Zc2 (p0:Title) (p1:Title):Option Int:=
 (Zcm p0.space p1.space).bind fun r1=>
 (strings_Compare p0.name p1.name).bind fun r2=>
 (ZeZ [r1,r2]).bind fun r3=>
 (some r3:Option Int)
theorem ZeK (p0:Title) (p1:Title) (r:Int) (h:Zc2 p0 p1=some r):ZH Tryz.prog 36 [p0.pv,p1.pv] (.int .i64 r):=by
 refine cF (fun r=>.int .i64 r) h mix Tryz.func36 fun r h=>?_
 unfold Zc2 at h
 refine ZU ?_
 refine rg ?_
 refine rg ?_
 refine aC h (Zd1 _ _) fun r1 h=>?_
 refine aC h (Zgj _ _) fun r2 h=>?_
 refine bM csI ([r1,r2]:List Int) ?_
 refine aL h (ZgK _) fun r3 h=>?_
 cases h
 exact rQ
def Zfu (p0:Link) (p1:Link):Option Int:=
 (Zcm p0.kind p1.kind).bind fun r1=>
 (Zc2 p0.title p1.title).bind fun r2=>
 (ZeZ [r1,r2]).bind fun r3=>
 (some r3:Option Int)
theorem Zje (p0:Link) (p1:Link) (r:Int) (h:Zfu p0 p1=some r):ZH Tryz.prog 33 [p0.pv,p1.pv] (.int .i64 r):=by
 refine cF (fun r=>.int .i64 r) h mix Tryz.func33 fun r h=>?_
 unfold Zfu at h
 refine ZU ?_
 refine rg ?_
 refine rg ?_
 refine aC h (Zd1 _ _) fun r1 h=>?_
 refine aC h (ZeK _ _) fun r2 h=>?_
 refine bM csI ([r1,r2]:List Int) ?_
 refine aL h (ZgK _) fun r3 h=>?_
 cases h
 exact rQ
def ZcB (p0:Memb) (p1:Memb):Option Int:=
 (Zc2 p0.category p1.category).bind fun r1=>
 (some r1:Option Int)
theorem Zc3 (p0:Memb) (p1:Memb) (r:Int) (h:ZcB p0 p1=some r):ZH Tryz.prog 38 [p0.pv,p1.pv] (.int .i64 r):=by
 refine cF (fun r=>.int .i64 r) h mix Tryz.func38 fun r h=>?_
 unfold ZcB at h
 refine ZU ?_
 refine rg ?_
 refine rg ?_
 refine aC h (ZeK _ _) fun r1 h=>?_
 cases h
 exact rQ
def Zel (p0:Memb) (p1:Memb):Option Bool:=
 (some (decide (p0.category=p1.category)):Option Bool)
theorem ZfY (p0:Memb) (p1:Memb) (r:Bool) (h:Zel p0 p1=some r):ZH Tryz.prog 40 [p0.pv,p1.pv] (.bool r):=by
 refine cF (fun r=>.bool r) h mix Tryz.func40 fun r h=>?_
 unfold Zel at h
 refine ZU ?_
 refine rg ?_
 refine rg ?_
 refine Zlf (.inl rfl) rfl rfl rfl rfl rfl (fun W=>ZkQ p0.category p1.category W) (ZU ?_)
 cases h
 exact rQ
end Go.Proofs.YtmgfammllddkhaaGreatDoor
namespace Go.Proofs.YtmgfammllddkhaaGreatDoor
open Go.RowKit
theorem Zpe (a b:Link) (W:World):(binOp .eql 42 (.agg #[.int .i64 a.kind,.int .i64 a.title.space,.string a.title.name]) (.agg #[.int .i64 b.kind,.int .i64 b.title.space,.string b.title.name])).run Tryz.prog W = .ok (.bool (decide (a=b))) W:=by
 have e:(if a.kind=b.kind then if a.title.space=b.title.space then if a.title.name.toList=b.title.name.toList then true else false else false else false)=(decide (a=b)):=by
  obtain ⟨a1,⟨a2,a3⟩⟩:=a
  obtain ⟨b1,⟨b2,b3⟩⟩:=b
  simp only [Link.mk.injEq,Title.mk.injEq,Zd6]
  (repeat' split)<;>simp_all
 rw [← e]
 go_simp
 (repeat' split)<;>simp_all
theorem ZmL (a b:Link) (W:World):(binOp .neq 42 (.agg #[.int .i64 a.kind,.int .i64 a.title.space,.string a.title.name]) (.agg #[.int .i64 b.kind,.int .i64 b.title.space,.string b.title.name])).run Tryz.prog W = .ok (.bool (!decide (a=b))) W:=by
 have e:(if a.kind=b.kind then if a.title.space=b.title.space then if a.title.name.toList=b.title.name.toList then false else true else true else true)=(!decide (a=b)):=by
  obtain ⟨a1,⟨a2,a3⟩⟩:=a
  obtain ⟨b1,⟨b2,b3⟩⟩:=b
  simp only [Link.mk.injEq,Title.mk.injEq,Zd6]
  (repeat' split)<;>simp_all
 rw [← e]
 go_simp
 (repeat' split)<;>simp_all
theorem Zpf (a b:Memb) (W:World):(binOp .neq 45 (.agg #[.int .i64 a.category.space,.string a.category.name,.string a.sort]) (.agg #[.int .i64 b.category.space,.string b.category.name,.string b.sort])).run Tryz.prog W = .ok (.bool (!decide (a=b))) W:=by
 have e:(if a.category.space=b.category.space then if a.category.name.toList=b.category.name.toList then if a.sort.toList=b.sort.toList then false else true else true else true)=(!decide (a=b)):=by
  obtain ⟨⟨a1,a2⟩,a3⟩:=a
  obtain ⟨⟨b1,b2⟩,b3⟩:=b
  simp only [Memb.mk.injEq,Title.mk.injEq,Zd6]
  (repeat' split)<;>simp_all
 rw [← e]
 go_simp
 (repeat' split)<;>simp_all
end Go.Proofs.YtmgfammllddkhaaGreatDoor
namespace Go.Proofs.YtmgfammllddkhaaGreatDoor
open VL
def Zdo (p0:Int):Option Int:=
 letk (fun (x2:Int) (x3:Int)=>
  letk (fun (x5:Int) (x6:Int)=>
   letk (fun (x8:Int) (x9:Int)=>
    (atS (⟨#[0,1,2,2,3,3,3,3,4,4,4,4,4,4,4,4,5,5,5,5,5,5,5,5,5,5,5,5,5,5,5,5,6,6,6,6,6,6,6,6,6,6,6,6,6,6,6,6,6,6,6,6,6,6,6,6,6,6,6,6,6,6,6,6,7,7,7,7,7,7,7,7,7,7,7,7,7,7,7,7,7,7,7,7,7,7,7,7,7,7,7,7,7,7,7,7,7,7,7,7,7,7,7,7,7,7,7,7,7,7,7,7,7,7,7,7,7,7,7,7,7,7,7,7,7,7,7,7,8,8,8,8,8,8,8,8,8,8,8,8,8,8,8,8,8,8,8,8,8,8,8,8,8,8,8,8,8,8,8,8,8,8,8,8,8,8,8,8,8,8,8,8,8,8,8,8,8,8,8,8,8,8,8,8,8,8,8,8,8,8,8,8,8,8,8,8,8,8,8,8,8,8,8,8,8,8,8,8,8,8,8,8,8,8,8,8,8,8,8,8,8,8,8,8,8,8,8,8,8,8,8,8,8,8,8,8,8,8,8,8,8,8,8,8,8,8,8,8,8,8,8,8,8,8,8,8]⟩:ByteArray) (IntKind.wrap .u8 x8)).bind fun c10=>
    (some (w64 (x9+(IntKind.wrap .i64 c10))):Option Int)) fun k3=>
   if (decide (256≤x5)) then
    (Zoh .u64 x5 8).bind fun q11=>
    k3 q11 (w64 (x6+8))
   else
   k3 x5 x6) fun k2=>
  if (decide (65536≤x2)) then
   (Zoh .u64 x2 16).bind fun q12=>
   k2 q12 (w64 (x3+16))
  else
  k2 x2 x3) fun k1=>
 if (decide (4294967296≤p0)) then
  (Zoh .u64 p0 32).bind fun q13=>
  k1 q13 32
 else
 k1 p0 0
theorem Zgm (p0:Int) (r:Int) (h:Zdo p0=some r):ZH Tryz.prog 128 [.int .u64 p0] (.int .i64 r):=by
 refine cF (fun r=>.int .i64 r) h mix Tryz.func128 fun r h=>?_
 unfold Zdo at h
 refine ZU ?_
 refine rg ?_
 refine rg ?_
 refine ZbG h fun k1 hk1 h=>?_
 refine Zbs (α:=Int×Int) (fun a _=>mkS [(0,.int .u64 a.1),(2,.int .i64 a.2)] [] 2) (fun a=>k1 a.1 a.2=some r) (ZU ?_) (fun a _ h=>?_)
 ·refine cS h rfl (fun h=>?_) fun h=>?_
  ·refine rg ?_
   obtain ⟨q13,h7,h⟩:=bnd h
   refine ZhI rfl h7 rfl rfl (ZU ?_)
   refine rg ?_
   exact jn (q13,32) h (sR [])
  exact jn (p0,0) h (sR [])
 obtain ⟨x2,x3⟩:=a
 subst hk1
 dsimp only at h ⊢
 refine ZU ?_
 refine rg ?_
 refine ZbG h fun k2 hk2 h=>?_
 refine Zbs (α:=Int×Int) (fun a _=>mkS [(0,.int .u64 a.1),(2,.int .i64 a.2)] [] 2) (fun a=>k2 a.1 a.2=some r) (ZU ?_) (fun a _ h=>?_)
 ·refine cS h rfl (fun h=>?_) fun h=>?_
  ·refine rg ?_
   obtain ⟨q12,h6,h⟩:=bnd h
   refine ZhI rfl h6 rfl rfl (ZU ?_)
   refine rg ?_
   exact jn (q12,(w64 (x3+16))) h (sR [])
  exact jn (x2,x3) h (sR [])
 obtain ⟨x5,x6⟩:=a
 subst hk2
 dsimp only at h ⊢
 refine ZU ?_
 refine rg ?_
 refine ZbG h fun k3 hk3 h=>?_
 refine Zbs (α:=Int×Int) (fun a _=>mkS [(0,.int .u64 a.1),(2,.int .i64 a.2)] [] 2) (fun a=>k3 a.1 a.2=some r) (ZU ?_) (fun a _ h=>?_)
 ·refine cS h rfl (fun h=>?_) fun h=>?_
  ·refine rg ?_
   obtain ⟨q11,h5,h⟩:=bnd h
   refine ZhI rfl h5 rfl rfl (ZU ?_)
   refine rg ?_
   exact jn (q11,(w64 (x6+8))) h (sR [])
  exact jn (x5,x6) h (sR [])
 obtain ⟨x8,x9⟩:=a
 subst hk3
 dsimp only at h ⊢
 refine ZU ?_
 refine rg ?_
 refine aS h fun c10 h=>?_
 cases h
 exact rQ
def Zeg (p0:Int):Option Int:=
 (Zdo p0).bind fun r1=>
 (some r1:Option Int)
theorem ZhB (p0:Int) (r:Int) (h:Zeg p0=some r):ZH Tryz.prog 69 [.int .u64 p0] (.int .i64 r):=by
 refine cF (fun r=>.int .i64 r) h mix Tryz.func69 fun r h=>?_
 unfold Zeg at h
 refine ZU ?_
 refine rg ?_
 refine Zx rfl rfl (ZU ?_)
 refine rg ?_
 refine aC h (Zgm _) fun r1 h=>?_
 cases h
 exact rQ
def ZaO (p0:List Link) (p1:Int) (p2:Int):Option (List Link):=
 Zby Zev (fun f17 ((x95,x96):Int×(List Link))=>
  if (decide (x95<p2)) then
   Zby Zev (fun f24 ((x253,x254):Int×(List Link))=>
    letk (fun (x273:Bool)=>
     if x273 then
      (atI x254 (w64 (x253 - 1))).bind fun e278=>
      (atI x254 x253).bind fun e279=>
      (atI x254 x253).bind fun e280=>
      (atI (Zez x254 x253 e278) (w64 (x253 - 1))).bind fun e281=>
      f24 ((w64 (x253 - 1)),(Zez (Zez x254 x253 e278) (w64 (x253 - 1)) e279))
     else
     f17 ((w64 (x95+1)),x254)) fun k25=>
    if (decide (p1<x253)) then
     (atI x254 x253).bind fun e282=>
     (atI x254 (w64 (x253 - 1))).bind fun e283=>
     (Zfu e282 e283).bind fun r284=>
     k25 (decide (r284<0))
    else
    k25 false) (x95,x96)
  else
  (some x96:Option (List Link))) ((w64 (p1+1)),p0)
theorem Zce (p0:List Link) (p1:Int) (p2:Int) (r:List Link) (h:ZaO p0 p1 p2=some r):ContractR Tryz.prog 119 [.int .i64 p1,.int .i64 p2,.fn 33 []] 42 3 (List.map Link.cs p0) (.tup []) (List.map Link.cs r):=by
 refine Zbr (R:=fun r=>.tup []) (O:=fun r=>(List.map Link.cs r)) h mix Tryz.func119 (by kernel_rfl) rfl (by kernel_rfl) fun r h=>?_
 unfold ZaO at h
 refine ZU ?_
 refine rg ?_
 refine bl ?_
 refine Zap h fun f17 mf17 hf17 h=>?_
 refine Zac (α:=Nat×(Int×(List Link))) (fun a _=>mkS [(0,.row 0 (0,0)),(1,.int .i64 p1),(2,.int .i64 p2),(3,.fn 33 []),(8,.int .i64 a.2.1)] [(0,some ((0,0),.row 42 3 false (List.map Link.cs a.2.2)))] 2) (fun a=>Zby a.1 f17 a.2=some r) (fun a=>a.1) (mf17,(w64 (p1+1)),p0) 2 h (ZN [] ⟨rfl,rfl,rfl,rfl,rfl,trivial⟩ ⟨⟨rfl,rfl⟩,trivial⟩ rfl) (fun a _ h=>?_)
 obtain ⟨mf17,x95,x96⟩:=a
 obtain ⟨mf17,rfl,h⟩:=Zaq hf17 h
 dsimp only at h ⊢
 refine ZU ?_
 refine rg ?_
 refine cS h rfl (fun h=>?_) fun h=>?_
 ·refine bl ?_
  refine rg ?_
  refine bl ?_
  refine Zap h fun f24 mf24 hf24 h=>?_
  refine Zac (α:=Nat×(Int×(List Link))) (fun a _=>mkS [(0,.row 0 (0,0)),(1,.int .i64 p1),(2,.int .i64 p2),(3,.fn 33 []),(8,.int .i64 x95),(9,.int .i64 a.2.1)] [(0,some ((0,0),.row 42 3 false (List.map Link.cs a.2.2)))] 2) (fun a=>Zby a.1 f24 a.2=some r) (fun a=>a.1) (mf24,x95,x96) 2 h (ZN [] ⟨rfl,rfl,rfl,rfl,rfl,rfl,trivial⟩ ⟨⟨rfl,rfl⟩,trivial⟩ rfl) (fun a _ h=>?_)
  obtain ⟨mf24,x253,x254⟩:=a
  obtain ⟨mf24,rfl,h⟩:=Zaq hf24 h
  dsimp only at h ⊢
  refine ZU ?_
  refine jL h (fun x273=>mkS [(0,.row 0 (0,0)),(1,.int .i64 p1),(2,.int .i64 p2),(3,.fn 33 []),(8,.int .i64 x95),(9,.int .i64 x253),(34,.bool x273)] [(0,some ((0,0),.row 42 3 false (List.map Link.cs x254)))] 2) (fun k25 h=>?_) fun x273 h=>?_
  ·refine rg ?_
   refine kS 21 h rfl (fun h=>?_) fun h=>?_
   ·obtain ⟨e282,h250,h⟩:=bnd h
    refine Zae rfl h250 rfl rfl rfl (ZU ?_)
    refine ZaA rfl h250 rfl rfl rfl (ZU ?_)
    obtain ⟨e283,h251,h⟩:=bnd h
    refine Zae rfl h251 rfl rfl rfl (ZU ?_)
    refine ZaA rfl h251 rfl rfl rfl (ZU ?_)
    obtain ⟨r284,h252,h⟩:=bnd h
    refine Zeb (Lc:=[]) (args1:=[e282.pv,e283.pv]) (Zje _ _ _ h252) rfl rfl rfl rfl (ZU ?_)
    exact jn (decide (r284<0)) h (ZN [] ⟨rfl,rfl,rfl,rfl,rfl,rfl,rfl,trivial⟩ ⟨⟨rfl,rfl⟩,trivial⟩ rfl)
   iterate 12 refine Zao rfl (ZU ?_)
   exact jn false h (ZN [] ⟨rfl,rfl,rfl,rfl,rfl,rfl,rfl,trivial⟩ ⟨⟨rfl,rfl⟩,trivial⟩ rfl)
  refine cS h rfl (fun h=>?_) fun h=>?_
  ·refine bl ?_
   refine rg ?_
   obtain ⟨e278,h246,h⟩:=bnd h
   refine Zae rfl h246 rfl rfl rfl (ZU ?_)
   refine ZaA rfl h246 rfl rfl rfl (ZU ?_)
   obtain ⟨e279,h247,h⟩:=bnd h
   refine Zae rfl h247 rfl rfl rfl (ZU ?_)
   refine ZaA rfl h247 rfl rfl rfl (ZU ?_)
   obtain ⟨e280,h248,h⟩:=bnd h
   refine Zae rfl h248 rfl rfl rfl (ZU ?_)
   refine ZbB (e':=e278) rfl h248 rfl rfl rfl rfl rfl rfl (Nat.le_of_ble_eq_true rfl) rfl rfl (ZU ?_)
   obtain ⟨e281,h249,h⟩:=bnd h
   refine Zae rfl h249 rfl rfl rfl (ZU ?_)
   refine ZbB (e':=e279) rfl h249 rfl rfl rfl rfl rfl rfl (Nat.le_of_ble_eq_true rfl) rfl rfl (ZU ?_)
   refine rg ?_
   exact rn (mf24,(w64 (x253 - 1)),(Zez (Zez x254 x253 e278) (w64 (x253 - 1)) e279)) h (ZN [] ⟨rfl,rfl,rfl,rfl,rfl,rfl,trivial⟩ ⟨⟨rfl,rfl⟩,trivial⟩ rfl)
  refine rg ?_
  exact rn (mf17,(w64 (x95+1)),x254) h (ZN [] ⟨rfl,rfl,rfl,rfl,rfl,trivial⟩ ⟨⟨rfl,rfl⟩,trivial⟩ rfl)
 cases h
 exact Zci rfl rfl rfl
def Zbh (p0:List Link) (p1:Int) (p2:Int) (p3:Int):Option (List Link):=
 Zby Zev (fun f1 (_:Unit)=>
  if (decide ((w64 (p2 - p1))≤12)) then
   (ZaO p0 p1 p2).bind fun r4=>
   (some r4:Option (List Link))
  else
  if (decide (p3=0)) then
   (none:Option (List Link))
  else
  (none:Option (List Link))) ()
theorem ZcY (p0:List Link) (p1:Int) (p2:Int) (p3:Int) (r:List Link) (h:Zbh p0 p1 p2 p3=some r):ContractR Tryz.prog 68 [.int .i64 p1,.int .i64 p2,.int .i64 p3,.fn 33 []] 42 3 (List.map Link.cs p0) (.tup []) (List.map Link.cs r):=by
 refine Zbr (R:=fun r=>.tup []) (O:=fun r=>(List.map Link.cs r)) h mix Tryz.func68 (by kernel_rfl) rfl (by kernel_rfl) fun r h=>?_
 unfold Zbh at h
 refine ZU ?_
 refine rg ?_
 refine rg ?_
 refine bl ?_
 refine Zap h fun f1 mf1 hf1 h=>?_
 refine Zac (α:=Nat×Unit) (fun a _=>mkS [(0,.row 0 (0,0)),(1,.int .i64 p1),(2,.int .i64 p2),(3,.int .i64 p3),(4,.fn 33 []),(10,.bool true),(11,.bool true)] [(0,some ((0,0),.row 42 3 false (List.map Link.cs p0)))] 2) (fun a=>Zby a.1 f1 a.2=some r) (fun a=>a.1) (mf1,()) 2 h (ZN [] ⟨rfl,rfl,rfl,rfl,rfl,rfl,rfl,trivial⟩ ⟨⟨rfl,rfl⟩,trivial⟩ rfl) (fun a _ h=>?_)
 obtain ⟨mf1,_⟩:=a
 obtain ⟨mf1,rfl,hG⟩:=Zaq hf1 h
 replace h:=hG
 refine ZU ?_
 refine bl ?_
 refine rg ?_
 refine rg ?_
 refine cS h rfl (fun h=>?_) fun h=>?_
 ·refine rg ?_
  obtain ⟨r4,h4,h⟩:=bnd h
  refine Zb3 (Zce _ _ _ _ h4) rfl rfl rfl rfl rfl (ZU ?_)
  cases h
  exact ZmF rfl rfl rfl
 refine rg ?_
 refine cS h rfl (fun h=>?_) fun h=>?_
 ·cases h
 cases h
def ZbX (p0:List Link):Option (List Link):=
 (Zeg (IntKind.wrap .u64 (p0.length:Int))).bind fun r1=>
 (Zbh p0 0 (p0.length:Int) r1).bind fun r2=>
 (some r2:Option (List Link))
theorem Zex (p0:List Link) (r:List Link) (h:ZbX p0=some r):ContractR Tryz.prog 32 [.fn 33 []] 42 3 (List.map Link.cs p0) (.tup []) (List.map Link.cs r):=by
 refine Zbr (R:=fun r=>.tup []) (O:=fun r=>(List.map Link.cs r)) h mix Tryz.func32 (by kernel_rfl) rfl (by kernel_rfl) fun r h=>?_
 unfold ZbX at h
 refine ZU ?_
 refine rg ?_
 refine lM Link.cs p0 ?_
 refine rg ?_
 refine aC h (ZhB _) fun r1 h=>?_
 obtain ⟨r2,h2,h⟩:=bnd h
 refine Zb3 (ZcY _ _ _ _ _ h2) rfl rfl rfl rfl rfl (ZU ?_)
 cases h
 exact Zci rfl rfl rfl
def Zb4 (p0:List Link):Option (List Link):=
 if (decide ((p0.length:Int)<2)) then
  (some p0:Option (List Link))
 else
 Zby Zev (fun f82 (x570:Int)=>
  if (decide (x570<(p0.length:Int))) then
   (atI p0 x570).bind fun e784=>
   (atI p0 (w64 (x570 - 1))).bind fun e785=>
   if (decide (e784=e785)) then
    (ZpC p0 x570).bind fun _=>
    Zby Zev (fun f97 ((x830,x831,x832):Int×Int×(List Link))=>
     if (decide (x831<(Zqy x832 x570))) then
      letk (fun (x847:Int) (x848:List Link)=>
       f97 (x847,(w64 (x831+1)),x848)) fun k98=>
      (atQ x832 x570 x831).bind fun e849=>
      (atQ x832 x570 (w64 (x831 - 1))).bind fun e850=>
      if (!decide (e849=e850)) then
       (atQ x832 x570 x831).bind fun e851=>
       (atI x832 x830).bind fun e852=>
       k98 (w64 (x830+1)) (Zez x832 x830 e851)
      else
      k98 x830 x832
     else
     (ZpC x832 x830).bind fun _=>
     (ZpH (Zqo x832 x830 (⟨0,(⟨0,(⟨#[]⟩:ByteArray)⟩:Title)⟩:Link)) 0 x830).bind fun l854=>
     (some l854:Option (List Link))) (x570,1,p0)
   else
   f82 (w64 (x570+1))
  else
  (some p0:Option (List Link))) 1
theorem ZeG (p0:List Link) (r:List Link) (h:Zb4 p0=some r):ContractS Tryz.prog 41 [] 42 3 (List.map Link.cs p0) (List.map Link.cs r):=by
 refine Zhl (O:=fun r=>(List.map Link.cs r)) h mix Tryz.func41 (by kernel_rfl) rfl (by kernel_rfl) fun r h=>?_
 unfold Zb4 at h
 refine ZU ?_
 refine rg ?_
 refine rg ?_
 refine lM Link.cs p0 ?_
 refine cS h rfl (fun h=>?_) fun h=>?_
 ·refine rg ?_
  cases h
  exact Ziy rfl rfl
 refine rg ?_
 refine bl ?_
 refine Zap h fun f82 mf82 hf82 h=>?_
 refine Zac (α:=Nat×Int) (fun a _=>mkS [(0,.row 0 (0,0)),(3,.int .i64 a.2)] [(0,some ((0,0),.row 42 3 false (List.map Link.cs p0)))] 2) (fun a=>Zby a.1 f82 a.2=some r) (fun a=>a.1) (mf82,1) 2 h (sR []) (fun a _ h=>?_)
 obtain ⟨mf82,x570⟩:=a
 obtain ⟨mf82,rfl,h⟩:=Zaq hf82 h
 dsimp only at h ⊢
 refine ZU ?_
 refine rg ?_
 refine lM Link.cs p0 ?_
 refine cS h rfl (fun h=>?_) fun h=>?_
 ·refine bl ?_
  refine rg ?_
  obtain ⟨e784,h584,h⟩:=bnd h
  refine Zae rfl h584 rfl rfl rfl (ZU ?_)
  refine ZaA rfl h584 rfl rfl rfl (ZU ?_)
  obtain ⟨e785,h585,h⟩:=bnd h
  refine Zae rfl h585 rfl rfl rfl (ZU ?_)
  refine ZaA rfl h585 rfl rfl rfl (ZU ?_)
  refine Zlf (.inl rfl) rfl rfl rfl rfl rfl (fun W=>Zpe e784 e785 W) (ZU ?_)
  refine cS h rfl (fun h=>?_) fun h=>?_
  ·refine rg ?_
   obtain ⟨_,h586,h⟩:=bnd h
   refine ZkN rfl h586 rfl rfl rfl (ZU ?_)
   refine rg ?_
   refine bl ?_
   refine Zap h fun f97 mf97 hf97 h=>?_
   refine Zac (α:=Nat×(Int×Int×(List Link))) (fun a _=>mkS [(0,.row 0 (0,0)),(3,.int .i64 a.2.1),(4,.suf 0 (0,0) (x570).toNat 3),(5,.int .i64 a.2.2.1)] [(0,some ((0,0),.row 42 3 false (List.map Link.cs a.2.2.2)))] 2) (fun a=>Zby a.1 f97 a.2=some r) (fun a=>a.1) (mf97,x570,1,p0) 2 h (sR []) (fun a _ h=>?_)
   obtain ⟨mf97,x830,x831,x832⟩:=a
   obtain ⟨mf97,rfl,h⟩:=Zaq hf97 h
   dsimp only at h ⊢
   refine ZU ?_
   refine rg ?_
   refine ZoH (M:=x832) (f:=Link.cs) rfl rfl rfl (ZU ?_)
   refine cS h rfl (fun h=>?_) fun h=>?_
   ·refine ZbG h fun k98 hk98 h=>?_
    refine Zbs (α:=Int×(List Link)) (fun a _=>mkS [(0,.row 0 (0,0)),(3,.int .i64 a.1),(4,.suf 0 (0,0) (x570).toNat 3),(5,.int .i64 x831)] [(0,some ((0,0),.row 42 3 false (List.map Link.cs a.2)))] 2) (fun a=>k98 a.1 a.2=some r) (ZU ?_) (fun a _ h=>?_)
    ·refine bl ?_
     refine rg ?_
     obtain ⟨e849,h631,h⟩:=bnd h
     refine ZdT rfl h631 rfl rfl rfl (ZU ?_)
     refine ZaA rfl (Zfj h631) rfl rfl rfl (ZU ?_)
     obtain ⟨e850,h632,h⟩:=bnd h
     refine ZdT rfl h632 rfl rfl rfl (ZU ?_)
     refine ZaA rfl (Zfj h632) rfl rfl rfl (ZU ?_)
     refine Zlf (.inr rfl) rfl rfl rfl rfl rfl (fun W=>ZmL e849 e850 W) (ZU ?_)
     refine cS h rfl (fun h=>?_) fun h=>?_
     ·refine rg ?_
      obtain ⟨e851,h633,h⟩:=bnd h
      refine ZdT rfl h633 rfl rfl rfl (ZU ?_)
      refine ZaA rfl (Zfj h633) rfl rfl rfl (ZU ?_)
      obtain ⟨e852,h634,h⟩:=bnd h
      refine Zae rfl h634 rfl rfl rfl (ZU ?_)
      refine ZbB (e':=e851) rfl h634 rfl rfl rfl rfl rfl rfl (Nat.le_of_ble_eq_true rfl) rfl rfl (ZU ?_)
      refine rg ?_
      exact jn ((w64 (x830+1)),(Zez x832 x830 e851)) h (sR [])
     exact jn (x830,x832) h (sR [])
    obtain ⟨x847,x848⟩:=a
    subst hk98
    dsimp only at h ⊢
    refine ZU ?_
    refine rg ?_
    exact rn (mf97,x847,(w64 (x831+1)),x848) h (sR [])
   refine rg ?_
   obtain ⟨_,h635,h⟩:=bnd h
   refine ZkN rfl h635 rfl rfl rfl (ZU ?_)
   refine ZkO (M:=x832) (f:=Link.cs) (zr:=(⟨0,(⟨0,(⟨#[]⟩:ByteArray)⟩:Title)⟩:Link)) rfl rfl rfl rfl rfl (ZU ?_)
   refine rg ?_
   obtain ⟨l854,h636,h⟩:=bnd h
   refine ZkP rfl h636 rfl rfl rfl (ZU ?_)
   cases h
   exact Ziy rfl rfl
  refine rg ?_
  exact rn (mf82,(w64 (x570+1))) h (sR [])
 refine rg ?_
 cases h
 exact Ziy rfl rfl
end Go.Proofs.YtmgfammllddkhaaGreatDoor
