/- Functions of the program as Lean functions. Written by fxgen.py. -/
import Derived.Test.YtjoneoobolnnbaaGreatDoorCB12
import Derived.Test.YtjoneoobolnnbaaGreatDoorCB04
import Derived.Test.YtjoneoobolnnbaaGreatDoorCB03
set_option linter.unusedVariables false
set_option maxHeartbeats 4000000
set_option maxRecDepth 100000
namespace Go.Proofs.YtjoneoobolnnbaaGreatDoor
open VL
def ZdX (p0:Policy):Option Int:=
 letk (fun (x1:Bool)=>
  if x1 then
   (some 3:Option Int)
  else
  ZE Zaj (fun f3 (x11:Int)=>
   if (decide (x11<(p0.groups.length:Int))) then
    (Zep p0 x11).bind fun r15=>
    if (!decide (r15=0)) then
     (some r15:Option Int)
    else
    f3 (w64 (x11+1))
   else
   ZE Zaj (fun f5 (x33:Int)=>
    if (decide (x33<(p0.rules.length:Int))) then
     (atI p0.rules x33).bind fun e40=>
     (ZeT p0 e40).bind fun r41=>
     if (!decide (r41=0)) then
      (some r41:Option Int)
     else
     f5 (w64 (x33+1))
    else
    ZE Zaj (fun f7 (x59:Int)=>
     if (decide (x59<(p0.guards.length:Int))) then
      (atI p0.guards x59).bind fun e66=>
      (Zei p0 e66).bind fun r67=>
      if (!decide (r67=0)) then
       (some r67:Option Int)
      else
      f7 (w64 (x59+1))
     else
     (some 0:Option Int)) 0) 0) 0) fun k1=>
 if (decide (24<(p0.groups.length:Int))) then
  k1 true
 else
 if (decide (64<(p0.rules.length:Int))) then
  k1 true
 else
 k1 (decide (64<(p0.guards.length:Int)))
theorem ZkO (p0:Policy) (r:Int) (h:ZdX p0=some r):Zd Tryz.prog 160 [p0.pv] (.int .i64 r):=by
 refine cF (fun r=>.int .i64 r) h mix Tryz.func160 fun r h=>?_
 unfold ZdX at h
 refine Zh ?_
 refine rg ?_
 refine jL h (fun x1=>mkS [(1,.ptr 1 (1,1) 0),(26,.bool x1)] [(1,some ((1,1),.box (Policy.cs p0)))] 2) (fun k1 h=>?_) fun x1 h=>?_
 ·refine rg ?_
  refine lM Group.cs p0.groups ?_
  refine kS 15 h rfl (fun h=>?_) fun h=>?_
  ·iterate 8 refine Zi rfl (Zh ?_)
   exact jn true h (sR [(1,1,0)])
  refine lM Rule.cs p0.rules ?_
  refine kS 21 h rfl (fun h=>?_) fun h=>?_
  ·iterate 4 refine Zi rfl (Zh ?_)
   exact jn true h (sR [(1,1,0)])
  refine lM Guard.cs p0.guards ?_
  exact jn (decide (64<(p0.guards.length:Int))) h (sR [(1,1,0)])
 refine cS h rfl (fun h=>?_) fun h=>?_
 ·refine rg ?_
  cases h
  exact rQ
 refine rg ?_
 refine lM Group.cs p0.groups ?_
 refine bl ?_
 refine Zn h fun f3 mf3 hf3 h=>?_
 refine Zk (α:=Nat×Int) (fun a _=>mkS [(1,.ptr 1 (1,1) 0),(29,.int .i64 (p0.groups.length:Int)),(30,.int .i64 a.2)] [(1,some ((1,1),.box (Policy.cs p0)))] 2) (fun a=>ZE a.1 f3 a.2=some r) (fun a=>a.1) (mf3,0) 2 h (sR [(1,1,1)]) (fun a _ h=>?_)
 obtain ⟨mf3,x11⟩:=a
 obtain ⟨mf3,rfl,h⟩:=Zo hf3 h
 dsimp only at h ⊢
 refine Zh ?_
 refine rg ?_
 refine cS h rfl (fun h=>?_) fun h=>?_
 ·refine bl ?_
  refine rg ?_
  refine rg ?_
  refine aC h (Zju _ _) fun r15 h=>?_
  refine rg ?_
  refine cS h rfl (fun h=>?_) fun h=>?_
  ·refine rg ?_
   cases h
   exact rQ
  refine rg ?_
  exact rn (mf3,(w64 (x11+1))) h (sR [(1,1,1)])
 refine rg ?_
 refine lM Rule.cs p0.rules ?_
 refine bl ?_
 refine Zn h fun f5 mf5 hf5 h=>?_
 refine Zk (α:=Nat×Int) (fun a _=>mkS [(1,.ptr 1 (1,1) 0),(41,.sl (List.map Rule.cs p0.rules)),(42,.int .i64 (p0.rules.length:Int)),(43,.int .i64 a.2)] [(1,some ((1,1),.box (Policy.cs p0)))] 2) (fun a=>ZE a.1 f5 a.2=some r) (fun a=>a.1) (mf5,0) 2 h (sR [(1,1,1)]) (fun a _ h=>?_)
 obtain ⟨mf5,x33⟩:=a
 obtain ⟨mf5,rfl,h⟩:=Zo hf5 h
 dsimp only at h ⊢
 refine Zh ?_
 refine rg ?_
 refine cS h rfl (fun h=>?_) fun h=>?_
 ·refine bl ?_
  refine rg ?_
  refine aI Rule.cs h fun e40 h=>?_
  refine rg ?_
  refine aC h (ZjY _ _) fun r41 h=>?_
  refine rg ?_
  refine cS h rfl (fun h=>?_) fun h=>?_
  ·refine rg ?_
   cases h
   exact rQ
  refine rg ?_
  exact rn (mf5,(w64 (x33+1))) h (sR [(1,1,1)])
 refine rg ?_
 refine lM Guard.cs p0.guards ?_
 refine bl ?_
 refine Zn h fun f7 mf7 hf7 h=>?_
 refine Zk (α:=Nat×Int) (fun a _=>mkS [(1,.ptr 1 (1,1) 0),(55,.sl (List.map Guard.cs p0.guards)),(56,.int .i64 (p0.guards.length:Int)),(57,.int .i64 a.2)] [(1,some ((1,1),.box (Policy.cs p0)))] 2) (fun a=>ZE a.1 f7 a.2=some r) (fun a=>a.1) (mf7,0) 2 h (sR [(1,1,1)]) (fun a _ h=>?_)
 obtain ⟨mf7,x59⟩:=a
 obtain ⟨mf7,rfl,h⟩:=Zo hf7 h
 dsimp only at h ⊢
 refine Zh ?_
 refine rg ?_
 refine cS h rfl (fun h=>?_) fun h=>?_
 ·refine bl ?_
  refine rg ?_
  refine aI Guard.cs h fun e66 h=>?_
  refine rg ?_
  refine aC h (Zjc _ _) fun r67 h=>?_
  refine rg ?_
  refine cS h rfl (fun h=>?_) fun h=>?_
  ·refine rg ?_
   cases h
   exact rQ
  refine rg ?_
  exact rn (mf7,(w64 (x59+1))) h (sR [(1,1,1)])
 refine rg ?_
 cases h
 exact rQ
def Zat (p0:ByteArray):Option (Policy×Int×Int):=
 if (decide (8192<(p0.size:Int))) then
  (some ((⟨[],[],[]⟩:Policy),0,3):Option (Policy×Int×Int))
 else
 (strings_Split p0 (⟨#[10]⟩:ByteArray)).bind fun r1=>
 ZE Zaj (fun f2 ((x22,x23,x24,x25):Int×(List Group)×(List Rule)×(List Guard))=>
  if (decide (x22<(r1.length:Int))) then
   (atI r1 x22).bind fun e32=>
   (Zm (⟨x23,x24,x25⟩:Policy) e32).bind fun r33=>
   if (!r33.1) then
    (some ((⟨[],[],[]⟩:Policy),(w64 (x22+1)),1):Option (Policy×Int×Int))
   else
   f2 ((w64 (x22+1)),r33.2.groups,r33.2.rules,r33.2.guards)
  else
  (ZdX (⟨x23,x24,x25⟩:Policy)).bind fun r34=>
  if (!decide (r34=0)) then
   (some ((⟨[],[],[]⟩:Policy),0,r34):Option (Policy×Int×Int))
  else
  (some ((⟨x23,x24,x25⟩:Policy),0,0):Option (Policy×Int×Int))) (0,([]:List Group),([]:List Rule),([]:List Guard))
theorem Znd (p0:ByteArray) (r:Policy×Int×Int) (h:Zat p0=some r):Zd Tryz.prog 102 [.str p0] (.tup [r.1.pv,.int .i64 r.2.1,.int .i64 r.2.2]):=by
 refine cF (fun r=>.tup [r.1.pv,.int .i64 r.2.1,.int .i64 r.2.2]) h mix Tryz.func102 fun r h=>?_
 unfold Zat at h
 refine Zh ?_
 refine rg ?_
 refine rg ?_
 refine cS h rfl (fun h=>?_) fun h=>?_
 ·refine rg ?_
  cases h
  exact rQ
 refine rg ?_
 refine rg ?_
 refine aN h (Zh1 _ _) fun r1 h=>?_
 refine lM csS r1 ?_
 refine bl ?_
 refine Zn h fun f2 mf2 hf2 h=>?_
 refine Zk (α:=Nat×(Int×(List Group)×(List Rule)×(List Guard))) (fun a _=>mkS [(2,.ptr 2 (1,2) 0),(5,.ptr 5 (1,5) 0),(14,.row 14 (1,14)),(15,.int .i64 (r1.length:Int)),(16,.int .i64 a.2.1)] [(2,some ((1,2),.box [.nil,.nil,.nil])),(5,some ((1,5),.box [.row 1500 (1,1500),.row 1501 (1,1501),.row 1502 (1,1502)])),(14,some ((1,14),.row 9 1 false (List.map csS r1))),(1500,some ((1,1500),.row 149 2 false (List.map Group.cs a.2.2.1))),(1501,some ((1,1501),.row 145 6 false (List.map Rule.cs a.2.2.2.1))),(1502,some ((1,1502),.row 233 5 false (List.map Guard.cs a.2.2.2.2)))] 2) (fun a=>ZE a.1 f2 a.2=some r) (fun a=>a.1) (mf2,0,([]:List Group),([]:List Rule),([]:List Guard)) 2 h (Shift.trans (ZcC 5 1500 0 149 2 rfl rfl rfl) (Shift.trans (ZcC 5 1501 1 145 6 rfl rfl rfl) (Shift.trans (ZcC 5 1502 2 233 5 rfl rfl rfl) (sR [(2,1,0),(5,3,0),(14,4,1),(1500,5,0),(1501,6,0),(1502,7,0)])))) (fun a _ h=>?_)
 obtain ⟨mf2,x22,x23,x24,x25⟩:=a
 obtain ⟨mf2,rfl,h⟩:=Zo hf2 h
 dsimp only at h ⊢
 refine Zh ?_
 refine rg ?_
 refine cS h rfl (fun h=>?_) fun h=>?_
 ·refine bl ?_
  refine rg ?_
  obtain ⟨e32,h24,h⟩:=bnd h
  refine ZD rfl h24 rfl rfl rfl (Zh ?_)
  refine ZaB rfl h24 rfl rfl rfl (Zh ?_)
  refine rg ?_
  obtain ⟨r33,h25,h⟩:=bnd h
  refine ZeR (Zkm _ _ _ h25) rfl rfl rfl rfl rfl rfl rfl rfl (Zh ?_)
  refine cS h rfl (fun h=>?_) fun h=>?_
  ·refine rg ?_
   cases h
   exact rQ
  refine rg ?_
  exact rn (mf2,(w64 (x22+1)),r33.2.groups,r33.2.rules,r33.2.guards) h (sR [(2,1,2),(5,1,5),(14,1,14),(1500,4,1000001),(1501,4,2000001),(1502,4,3000001)])
 refine rg ?_
 refine aL h (ZkO _) fun r34 h=>?_
 refine rg ?_
 refine cS h rfl (fun h=>?_) fun h=>?_
 ·refine rg ?_
  cases h
  exact rQ
 refine rg ?_
 cases h
 exact rQ
def Za5 (p0:List Revision):Option (List Revision):=
 (neL p0).bind fun u1=>
 (ZcF 72 [] p0).bind fun l2=>
 (some l2:Option (List Revision))
theorem Zg9 (p0:List Revision) (r:List Revision) (h:Za5 p0=some r):Zd Tryz.prog 161 [.sl (List.map Revision.cs p0)] (.sl (List.map Revision.cs r)):=by
 refine cF (fun r=>.sl (List.map Revision.cs r)) h mix Tryz.func161 fun r h=>?_
 unfold Za5 at h
 refine Zh ?_
 refine rg ?_
 refine rg ?_
 obtain ⟨u1,h1,h⟩:=bnd h
 refine ZuH rfl h1 rfl (Zh ?_)
 refine Zal rfl rfl (Zh ?_)
 refine rg ?_
 refine bM Revision.cs ([]:List Revision) ?_
 refine pR Revision.cs h fun l2 h=>?_
 cases h
 exact rQ
def ZcV (p0:Stored):Option Stored:=
 (Za5 p0.history).bind fun r1=>
 (some (⟨p0.title,r1⟩:Stored):Option Stored)
theorem ZmX (p0:Stored) (r:Stored) (h:ZcV p0=some r):Zd Tryz.prog 104 [p0.pv] (r.pv):=by
 refine cF (fun r=>r.pv) h mix Tryz.func104 fun r h=>?_
 unfold ZcV at h
 refine Zh ?_
 refine rg ?_
 refine rg ?_
 refine aC h (Zg9 _) fun r1 h=>?_
 refine rg ?_
 cases h
 exact rQ
def Zbr (p0:State) (p1:Title):Option (Stored×Bool):=
 ZE Zaj (fun f2 (x18:Int)=>
  if (decide (x18<(p0.pages.length:Int))) then
   (atI p0.pages x18).bind fun e25=>
   if (decide (e25.title=p1)) then
    (ZcV e25).bind fun r26=>
    (some (r26,true):Option (Stored×Bool))
   else
   f2 (w64 (x18+1))
  else
  (some ((⟨(⟨0,(⟨#[]⟩:ByteArray)⟩:Title),[]⟩:Stored),false):Option (Stored×Bool))) 0
theorem ZeN (p0:State) (p1:Title) (r:Stored×Bool) (h:Zbr p0 p1=some r):Zd Tryz.prog 57 [p0.pv,p1.pv] (.tup [r.1.pv,.bool r.2]):=by
 refine cF (fun r=>.tup [r.1.pv,.bool r.2]) h mix Tryz.func57 fun r h=>?_
 unfold Zbr at h
 refine Zh ?_
 refine rg ?_
 refine rg ?_
 refine lM Stored.cs p0.pages ?_
 refine bl ?_
 refine Zn h fun f2 mf2 hf2 h=>?_
 refine Zk (α:=Nat×Int) (fun a _=>mkS [(3,.ptr 3 (1,3) 0),(4,.ptr 4 (1,4) 0),(9,.sl (List.map Stored.cs p0.pages)),(10,.int .i64 (p0.pages.length:Int)),(11,.int .i64 a.2)] [(3,some ((1,3),.box (Title.cs p1))),(4,some ((1,4),.box [.int .i64 0,.str (⟨#[]⟩:ByteArray),.nil]))] 2) (fun a=>ZE a.1 f2 a.2=some r) (fun a=>a.1) (mf2,0) 2 h (sR [(3,1,1),(4,1,2)]) (fun a _ h=>?_)
 obtain ⟨mf2,x18⟩:=a
 obtain ⟨mf2,rfl,h⟩:=Zo hf2 h
 dsimp only at h ⊢
 refine Zh ?_
 refine rg ?_
 refine cS h rfl (fun h=>?_) fun h=>?_
 ·refine bl ?_
  refine rg ?_
  refine aI Stored.cs h fun e25 h=>?_
  refine rg ?_
  refine Ze3 (.inl rfl) rfl rfl rfl rfl rfl (fun W=>ZdP e25.title p1 W) (Zh ?_)
  refine cS h rfl (fun h=>?_) fun h=>?_
  ·refine rg ?_
   refine aC h (ZmX _) fun r26 h=>?_
   cases h
   exact rQ
  refine rg ?_
  exact rn (mf2,(w64 (x18+1))) h (sR [(3,1,3),(4,1,4)])
 refine rg ?_
 cases h
 exact rQ
def Zfa (p0:Stored):Option Revision:=
 if (decide ((p0.history.length:Int)=0)) then
  (some (⟨0,(⟨#[]⟩:ByteArray),(⟨#[]⟩:ByteArray),(⟨#[]⟩:ByteArray),0,0⟩:Revision):Option Revision)
 else
 (atI p0.history (w64 ((p0.history.length:Int) - 1))).bind fun e1=>
 (some e1:Option Revision)
theorem ZmY (p0:Stored) (r:Revision) (h:Zfa p0=some r):Zd Tryz.prog 103 [p0.pv] (r.pv):=by
 refine cF (fun r=>r.pv) h mix Tryz.func103 fun r h=>?_
 unfold Zfa at h
 refine Zh ?_
 refine rg ?_
 refine rg ?_
 refine lM Revision.cs p0.history ?_
 refine cS h rfl (fun h=>?_) fun h=>?_
 ·refine rg ?_
  cases h
  exact rQ
 refine rg ?_
 refine lM Revision.cs p0.history ?_
 refine aI Revision.cs h fun e1 h=>?_
 cases h
 exact rQ
def Zck (p0:State):Option Policy:=
 (Zbr p0 (⟨5,(⟨#[80,111,108,105,99,121]⟩:ByteArray)⟩:Title)).bind fun r1=>
 if (!r1.2) then
  (some (⟨[],[],[]⟩:Policy):Option Policy)
 else
 (Zfa r1.1).bind fun r2=>
 (Zat r2.text).bind fun r3=>
 if (!decide (r3.2.2=0)) then
  (some (⟨[],[],[]⟩:Policy):Option Policy)
 else
 (some r3.1:Option Policy)
theorem Zh5 (p0:State) (r:Policy) (h:Zck p0=some r):Zd Tryz.prog 56 [p0.pv] (r.pv):=by
 refine cF (fun r=>r.pv) h mix Tryz.func56 fun r h=>?_
 unfold Zck at h
 refine Zh ?_
 refine rg ?_
 refine rg ?_
 refine ZxY rfl rfl (Zh ?_)
 refine aC h (ZeN _ _) fun r1 h=>?_
 refine rg ?_
 refine cS h rfl (fun h=>?_) fun h=>?_
 ·refine rg ?_
  cases h
  exact rQ
 refine rg ?_
 refine aC h (ZmY _) fun r2 h=>?_
 refine aC h (Znd _) fun r3 h=>?_
 refine rg ?_
 refine cS h rfl (fun h=>?_) fun h=>?_
 ·refine rg ?_
  cases h
  exact rQ
 refine rg ?_
 cases h
 exact rQ
end Go.Proofs.YtjoneoobolnnbaaGreatDoor
