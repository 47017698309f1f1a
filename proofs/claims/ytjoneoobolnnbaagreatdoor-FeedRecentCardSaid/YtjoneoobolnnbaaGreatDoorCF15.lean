/- Functions of the program as Lean functions. Written by fxgen.py. | Functions of the program as Lean functions. Written by fxgen.py. | Functions of the program as Lean functions. Written by fxgen.py. | Functions of the program as Lean functions. Written by fxgen.py. | Functions of the program as Lean functions. Written by fxgen.py. -/
import Derived.Test.YtjoneoobolnnbaaGreatDoorCF11
import Derived.Test.YtjoneoobolnnbaaGreatDoorCF12
import Derived.Test.YtjoneoobolnnbaaGreatDoorCF04
import Derived.Test.YtjoneoobolnnbaaGreatDoorCF14
import Derived.Test.YtjoneoobolnnbaaGreatDoorCF03
set_option linter.unusedVariables false
set_option maxHeartbeats 4000000
set_option maxRecDepth 100000
namespace Go.Proofs.YtjoneoobolnnbaaGreatDoor
open VL
def Zdr (p0:Policy) (p1:Rule):Option Int:=
 letk (fun (x1:Bool)=>
  if x1 then
   (some 2:Option Int)
  else
  (Zcu p0 p1.group).bind fun r2=>
  if (!r2) then
   (some 4:Option Int)
  else
  letk (fun (x4:Bool)=>
   if (!x4) then
    (some 7:Option Int)
   else
   (some 0:Option Int)) fun k2=>
  if (decide (p1.scope.kind=1)) then
   k2 (decide (p1.scope.title=(⟨0,(⟨#[]⟩:ByteArray)⟩:Title)))
  else
  if (decide (p1.scope.kind=2)) then
   if (decide (0≤p1.scope.title.space)) then
    if (decide (p1.scope.title.space<6)) then
     k2 (decide (p1.scope.title.name=(⟨#[]⟩:ByteArray)))
    else
    k2 false
   else
   k2 false
  else
  if (decide (p1.scope.kind=3)) then
   (Zd4 p1.scope.title).bind fun r5=>
   k2 r5
  else
  k2 false) fun k1=>
 if (decide (p1.right<1)) then
  k1 true
 else
 k1 (decide (5<p1.right))
theorem Zhv (p0:Policy) (p1:Rule) (r:Int) (hF:Zdr p0 p1=some r):Zb Tryz.prog 206 [p0.pv,p1.pv] (.int .i64 r):=by
 refine cF (fun r=>.int .i64 r) hF mix Tryz.func206 fun r hF=>?_
 unfold Zdr at hF
 refine Za ?_
 refine rg ?_
 refine jL hF (fun x1=>mkS [(2,.ptr 2 (1,2) 0),(3,.ptr 3 (1,3) 0),(14,.bool x1)] [(2,some ((1,2),.box [.sl (List.map Group.cs p0.groups),.sl (List.map Rule.cs p0.rules),.sl (List.map Guard.cs p0.guards)])),(3,some ((1,3),.box [.bool p1.allow,.int .i64 p1.right,.str p1.group,.int .i64 p1.scope.kind,.int .i64 p1.scope.title.space,.str p1.scope.title.name]))] 2) (fun k1 hF=>?_) fun x1 hF=>?_
 ·refine rg ?_
  refine kS 10 hF rfl (fun hF=>?_) fun hF=>?_
  ·iterate 3 refine Zh rfl (Za ?_)
   exact jn true hF (sR [(2,1,0),(3,1,1)])
  exact jn (decide (5<p1.right)) hF (sR [(2,1,0),(3,1,1)])
 refine cS hF rfl (fun hF=>?_) fun hF=>?_
 ·refine rg ?_
  cases hF
  exact rQ
 refine rg ?_
 obtain ⟨r2,h1,hF⟩:=bnd hF
 refine Zf (ZdU _ _ _ h1) rfl rfl (Za ?_)
 refine cS hF rfl (fun hF=>?_) fun hF=>?_
 ·refine rg ?_
  cases hF
  exact rQ
 refine rg ?_
 refine rg ?_
 refine rg ?_
 refine jL hF (fun x4=>mkS [(6,.bool x4)] [] 2) (fun k2 hF=>?_) fun x4 hF=>?_
 ·refine bl ?_
  refine rg ?_
  refine cS hF rfl (fun hF=>?_) fun hF=>?_
  ·refine rg ?_
   refine Zeu (.inl rfl) rfl rfl rfl rfl rfl (fun W=>Zc9 p1.scope.title (⟨0,(⟨#[]⟩:ByteArray)⟩:Title) W) (Za ?_)
   exact jn (decide (p1.scope.title=(⟨0,(⟨#[]⟩:ByteArray)⟩:Title))) hF (sR [])
  refine rg ?_
  refine cS hF rfl (fun hF=>?_) fun hF=>?_
  ·refine rg ?_
   refine kS 36 hF rfl (fun hF=>?_) fun hF=>?_
   ·refine kS 41 hF rfl (fun hF=>?_) fun hF=>?_
    ·exact jn (decide (p1.scope.title.name=(⟨#[]⟩:ByteArray))) hF (sR [])
    iterate 3 refine Zh rfl (Za ?_)
    exact jn false hF (sR [])
   iterate 6 refine Zh rfl (Za ?_)
   exact jn false hF (sR [])
  refine rg ?_
  refine cS hF rfl (fun hF=>?_) fun hF=>?_
  ·refine rg ?_
   obtain ⟨r5,h3,hF⟩:=bnd hF
   refine Zf (ZdD _ _ h3) rfl rfl (Za ?_)
   exact jn r5 hF (sR [])
  exact jn false hF (sR [])
 refine rg ?_
 refine cS hF rfl (fun hF=>?_) fun hF=>?_
 ·refine rg ?_
  cases hF
  exact rQ
 refine rg ?_
 cases hF
 exact rQ
def ZcX (p0:Policy) (p1:Guard):Option Int:=
 (Zcu p0 p1.group).bind fun r1=>
 if (!r1) then
  (some 4:Option Int)
 else
 letk (fun (x5:Bool)=>
  if x5 then
   (some 7:Option Int)
  else
  (some 0:Option Int)) fun k1=>
 (Zd4 p1.title).bind fun r6=>
 if (!r6) then
  k1 true
 else
 if (decide (100<(p1.section_.size:Int))) then
  k1 true
 else
 (Zcf p1.section_ (⟨#[10,124]⟩:ByteArray)).bind fun r7=>
 if r7 then
  k1 true
 else
 (ZbF p1.section_ (⟨#[32,9]⟩:ByteArray)).bind fun r8=>
 k1 (!decide (r8=p1.section_))
theorem Zg1 (p0:Policy) (p1:Guard) (r:Int) (hF:ZcX p0 p1=some r):Zb Tryz.prog 207 [p0.pv,p1.pv] (.int .i64 r):=by
 refine cF (fun r=>.int .i64 r) hF mix Tryz.func207 fun r hF=>?_
 unfold ZcX at hF
 refine Za ?_
 refine rg ?_
 refine rg ?_
 obtain ⟨r1,h1,hF⟩:=bnd hF
 refine Zf (ZdU _ _ _ h1) rfl rfl (Za ?_)
 refine cS hF rfl (fun hF=>?_) fun hF=>?_
 ·refine rg ?_
  cases hF
  exact rQ
 refine jL hF (fun x5=>mkS [(32,.bool x5)] [] 2) (fun k1 hF=>?_) fun x5 hF=>?_
 ·refine rg ?_
  obtain ⟨r6,h5,hF⟩:=bnd hF
  refine Zf (ZdD _ _ h5) rfl rfl (Za ?_)
  refine kS 14 hF rfl (fun hF=>?_) fun hF=>?_
  ·iterate 13 refine Zh rfl (Za ?_)
   exact jn true hF (sR [])
  refine kS 20 hF rfl (fun hF=>?_) fun hF=>?_
  ·iterate 9 refine Zh rfl (Za ?_)
   exact jn true hF (sR [])
  obtain ⟨r7,h6,hF⟩:=bnd hF
  refine Zf (Zf0 _ _ _ h6) rfl rfl (Za ?_)
  refine kS 25 hF rfl (fun hF=>?_) fun hF=>?_
  ·iterate 6 refine Zh rfl (Za ?_)
   exact jn true hF (sR [])
  obtain ⟨r8,h7,hF⟩:=bnd hF
  refine Zf (Zb3 _ _ _ h7) rfl rfl (Za ?_)
  exact jn (!decide (r8=p1.section_)) hF (sR [])
 refine cS hF rfl (fun hF=>?_) fun hF=>?_
 ·refine rg ?_
  cases hF
  exact rQ
 refine rg ?_
 cases hF
 exact rQ
def ZcF (p0:Policy):Option Int:=
 letk (fun (x1:Bool)=>
  if x1 then
   (some 3:Option Int)
  else
  ZK Zax (fun f3 (x11:Int)=>
   if (decide (x11<(p0.groups.length:Int))) then
    (Zc4 p0 x11).bind fun r15=>
    if (!decide (r15=0)) then
     (some r15:Option Int)
    else
    f3 (w64 (x11+1))
   else
   ZK Zax (fun f5 (x33:Int)=>
    if (decide (x33<(p0.rules.length:Int))) then
     (atI p0.rules x33).bind fun e40=>
     (Zdr p0 e40).bind fun r41=>
     if (!decide (r41=0)) then
      (some r41:Option Int)
     else
     f5 (w64 (x33+1))
    else
    ZK Zax (fun f7 (x59:Int)=>
     if (decide (x59<(p0.guards.length:Int))) then
      (atI p0.guards x59).bind fun e66=>
      (ZcX p0 e66).bind fun r67=>
      if (!decide (r67=0)) then
       (some r67:Option Int)
      else
      f7 (w64 (x59+1))
     else
     (some 0:Option Int)) 0) 0) 0) fun k1=>
 if (decide (24<(p0.groups.length:Int))) then
  k1 true
 else
 if (decide (64<(p0.rules.length:Int))) then
  k1 true
 else
 k1 (decide (64<(p0.guards.length:Int)))
theorem Zig (p0:Policy) (r:Int) (hF:ZcF p0=some r):Zb Tryz.prog 160 [p0.pv] (.int .i64 r):=by
 refine cF (fun r=>.int .i64 r) hF mix Tryz.func160 fun r hF=>?_
 unfold ZcF at hF
 refine Za ?_
 refine rg ?_
 refine jL hF (fun x1=>mkS [(1,.ptr 1 (1,1) 0),(26,.bool x1)] [(1,some ((1,1),.box [.sl (List.map Group.cs p0.groups),.sl (List.map Rule.cs p0.rules),.sl (List.map Guard.cs p0.guards)]))] 2) (fun k1 hF=>?_) fun x1 hF=>?_
 ·refine rg ?_
  refine Zr rfl (M:=p0.groups) (f:=Group.cs) rfl (Za ?_)
  refine kS 15 hF rfl (fun hF=>?_) fun hF=>?_
  ·iterate 8 refine Zh rfl (Za ?_)
   exact jn true hF (sR [(1,1,0)])
  refine Zr rfl (M:=p0.rules) (f:=Rule.cs) rfl (Za ?_)
  refine kS 21 hF rfl (fun hF=>?_) fun hF=>?_
  ·iterate 4 refine Zh rfl (Za ?_)
   exact jn true hF (sR [(1,1,0)])
  refine Zr rfl (M:=p0.guards) (f:=Guard.cs) rfl (Za ?_)
  exact jn (decide (64<(p0.guards.length:Int))) hF (sR [(1,1,0)])
 refine cS hF rfl (fun hF=>?_) fun hF=>?_
 ·refine rg ?_
  cases hF
  exact rQ
 refine rg ?_
 refine Zr rfl (M:=p0.groups) (f:=Group.cs) rfl (Za ?_)
 refine bl ?_
 refine Zn hF fun f3 mf3 hf3 hF=>?_
 refine Zl (α:=Nat×Int) (fun a _=>mkS [(1,.ptr 1 (1,1) 0),(29,.int .i64 (p0.groups.length:Int)),(30,.int .i64 a.2)] [(1,some ((1,1),.box [.sl (List.map Group.cs p0.groups),.sl (List.map Rule.cs p0.rules),.sl (List.map Guard.cs p0.guards)]))] 2) (fun a=>ZK a.1 f3 a.2=some r) (fun a=>a.1) (mf3,0) 2 hF (sR [(1,1,1)]) (fun a _ hF=>?_)
 obtain ⟨mf3,x11⟩:=a
 obtain ⟨mf3,rfl,hF⟩:=Zo hf3 hF
 dsimp only at hF ⊢
 refine Za ?_
 refine rg ?_
 refine cS hF rfl (fun hF=>?_) fun hF=>?_
 ·refine bl ?_
  refine rg ?_
  refine rg ?_
  obtain ⟨r15,h12,hF⟩:=bnd hF
  refine Zf (Zhe _ _ _ h12) rfl rfl (Za ?_)
  refine rg ?_
  refine cS hF rfl (fun hF=>?_) fun hF=>?_
  ·refine rg ?_
   cases hF
   exact rQ
  refine rg ?_
  exact rn (mf3,(w64 (x11+1))) hF (sR [(1,1,1)])
 refine rg ?_
 refine Zr rfl (M:=p0.rules) (f:=Rule.cs) rfl (Za ?_)
 refine bl ?_
 refine Zn hF fun f5 mf5 hf5 hF=>?_
 refine Zl (α:=Nat×Int) (fun a _=>mkS [(1,.ptr 1 (1,1) 0),(41,.sl (List.map Rule.cs p0.rules)),(42,.int .i64 (p0.rules.length:Int)),(43,.int .i64 a.2)] [(1,some ((1,1),.box [.sl (List.map Group.cs p0.groups),.sl (List.map Rule.cs p0.rules),.sl (List.map Guard.cs p0.guards)]))] 2) (fun a=>ZK a.1 f5 a.2=some r) (fun a=>a.1) (mf5,0) 2 hF (sR [(1,1,1)]) (fun a _ hF=>?_)
 obtain ⟨mf5,x33⟩:=a
 obtain ⟨mf5,rfl,hF⟩:=Zo hf5 hF
 dsimp only at hF ⊢
 refine Za ?_
 refine rg ?_
 refine cS hF rfl (fun hF=>?_) fun hF=>?_
 ·refine bl ?_
  refine rg ?_
  obtain ⟨e40,h35,hF⟩:=bnd hF
  refine Zk (f:=Rule.cs) rfl h35 rfl rfl rfl (Za ?_)
  refine rg ?_
  obtain ⟨r41,h36,hF⟩:=bnd hF
  refine Zf (Zhv _ _ _ h36) rfl rfl (Za ?_)
  refine rg ?_
  refine cS hF rfl (fun hF=>?_) fun hF=>?_
  ·refine rg ?_
   cases hF
   exact rQ
  refine rg ?_
  exact rn (mf5,(w64 (x33+1))) hF (sR [(1,1,1)])
 refine rg ?_
 refine Zr rfl (M:=p0.guards) (f:=Guard.cs) rfl (Za ?_)
 refine bl ?_
 refine Zn hF fun f7 mf7 hf7 hF=>?_
 refine Zl (α:=Nat×Int) (fun a _=>mkS [(1,.ptr 1 (1,1) 0),(55,.sl (List.map Guard.cs p0.guards)),(56,.int .i64 (p0.guards.length:Int)),(57,.int .i64 a.2)] [(1,some ((1,1),.box [.sl (List.map Group.cs p0.groups),.sl (List.map Rule.cs p0.rules),.sl (List.map Guard.cs p0.guards)]))] 2) (fun a=>ZK a.1 f7 a.2=some r) (fun a=>a.1) (mf7,0) 2 hF (sR [(1,1,1)]) (fun a _ hF=>?_)
 obtain ⟨mf7,x59⟩:=a
 obtain ⟨mf7,rfl,hF⟩:=Zo hf7 hF
 dsimp only at hF ⊢
 refine Za ?_
 refine rg ?_
 refine cS hF rfl (fun hF=>?_) fun hF=>?_
 ·refine bl ?_
  refine rg ?_
  obtain ⟨e66,h59,hF⟩:=bnd hF
  refine Zk (f:=Guard.cs) rfl h59 rfl rfl rfl (Za ?_)
  refine rg ?_
  obtain ⟨r67,h60,hF⟩:=bnd hF
  refine Zf (Zg1 _ _ _ h60) rfl rfl (Za ?_)
  refine rg ?_
  refine cS hF rfl (fun hF=>?_) fun hF=>?_
  ·refine rg ?_
   cases hF
   exact rQ
  refine rg ?_
  exact rn (mf7,(w64 (x59+1))) hF (sR [(1,1,1)])
 refine rg ?_
 cases hF
 exact rQ
def Zae (p0:ByteArray):Option (Policy×Int×Int):=
 if (decide (8192<(p0.size:Int))) then
  (some ((⟨[],[],[]⟩:Policy),0,3):Option (Policy×Int×Int))
 else
 (strings_Split p0 (⟨#[10]⟩:ByteArray)).bind fun r1=>
 ZK Zax (fun f2 ((x22,x23,x24,x25):Int×(List Group)×(List Rule)×(List Guard))=>
  if (decide (x22<(r1.length:Int))) then
   (atI r1 x22).bind fun e32=>
   (Zj (⟨x23,x24,x25⟩:Policy) e32).bind fun r33=>
   if (!r33.1) then
    (some ((⟨[],[],[]⟩:Policy),(w64 (x22+1)),1):Option (Policy×Int×Int))
   else
   f2 ((w64 (x22+1)),r33.2.groups,r33.2.rules,r33.2.guards)
  else
  (ZcF (⟨x23,x24,x25⟩:Policy)).bind fun r34=>
  if (!decide (r34=0)) then
   (some ((⟨[],[],[]⟩:Policy),0,r34):Option (Policy×Int×Int))
  else
  (some ((⟨x23,x24,x25⟩:Policy),0,0):Option (Policy×Int×Int))) (0,([]:List Group),([]:List Rule),([]:List Guard))
theorem Zkn (p0:ByteArray) (r:Policy×Int×Int) (hF:Zae p0=some r):Zb Tryz.prog 102 [.str p0] (.tup [r.1.pv,.int .i64 r.2.1,.int .i64 r.2.2]):=by
 refine cF (fun r=>.tup [r.1.pv,.int .i64 r.2.1,.int .i64 r.2.2]) hF mix Tryz.func102 fun r hF=>?_
 unfold Zae at hF
 refine Za ?_
 refine rg ?_
 refine rg ?_
 refine cS hF rfl (fun hF=>?_) fun hF=>?_
 ·refine rg ?_
  cases hF
  exact rQ
 refine rg ?_
 refine rg ?_
 obtain ⟨r1,h1,hF⟩:=bnd hF
 refine Zev (Zf1 _ _ _ h1) rfl rfl (Za ?_)
 refine Zr rfl (M:=r1) (f:=csS) rfl (Za ?_)
 refine bl ?_
 refine Zn hF fun f2 mf2 hf2 hF=>?_
 refine Zl (α:=Nat×(Int×(List Group)×(List Rule)×(List Guard))) (fun a _=>mkS [(2,.ptr 2 (1,2) 0),(5,.ptr 5 (1,5) 0),(14,.row 14 (1,14)),(15,.int .i64 (r1.length:Int)),(16,.int .i64 a.2.1)] [(2,some ((1,2),.box [.nil,.nil,.nil])),(5,some ((1,5),.box [.row 1500 (1,1500),.row 1501 (1,1501),.row 1502 (1,1502)])),(14,some ((1,14),.row 9 1 false (List.map csS r1))),(1500,some ((1,1500),.row 149 2 false (List.map Group.cs a.2.2.1))),(1501,some ((1,1501),.row 145 6 false (List.map Rule.cs a.2.2.2.1))),(1502,some ((1,1502),.row 233 5 false (List.map Guard.cs a.2.2.2.2)))] 2) (fun a=>ZK a.1 f2 a.2=some r) (fun a=>a.1) (mf2,0,([]:List Group),([]:List Rule),([]:List Guard)) 2 hF (Shift.trans (ZbA 5 1500 0 149 2 rfl rfl rfl) (Shift.trans (ZbA 5 1501 1 145 6 rfl rfl rfl) (Shift.trans (ZbA 5 1502 2 233 5 rfl rfl rfl) (sR [(2,1,0),(5,3,0),(14,4,1),(1500,5,0),(1501,6,0),(1502,7,0)])))) (fun a _ hF=>?_)
 obtain ⟨mf2,x22,x23,x24,x25⟩:=a
 obtain ⟨mf2,rfl,hF⟩:=Zo hf2 hF
 dsimp only at hF ⊢
 refine Za ?_
 refine rg ?_
 refine cS hF rfl (fun hF=>?_) fun hF=>?_
 ·refine bl ?_
  refine rg ?_
  obtain ⟨e32,h24,hF⟩:=bnd hF
  refine ZB rfl h24 rfl rfl rfl (Za ?_)
  refine Zai rfl h24 rfl rfl rfl (Za ?_)
  refine rg ?_
  obtain ⟨r33,h25,hF⟩:=bnd hF
  refine Zdq (ZhN _ _ _ h25) rfl rfl rfl rfl rfl rfl rfl rfl (Za ?_)
  refine cS hF rfl (fun hF=>?_) fun hF=>?_
  ·refine rg ?_
   cases hF
   exact rQ
  refine rg ?_
  exact rn (mf2,(w64 (x22+1)),r33.2.groups,r33.2.rules,r33.2.guards) hF (sR [(2,1,2),(5,1,5),(14,1,14),(1500,4,1000001),(1501,4,2000001),(1502,4,3000001)])
 refine rg ?_
 obtain ⟨r34,h26,hF⟩:=bnd hF
 refine Zej (Zig _ _ h26) rfl rfl rfl (Za ?_)
 refine rg ?_
 refine cS hF rfl (fun hF=>?_) fun hF=>?_
 ·refine rg ?_
  cases hF
  exact rQ
 refine rg ?_
 cases hF
 exact rQ
def ZaD (p0:List Revision):Option (List Revision):=
 (neL p0).bind fun u1=>
 (ZbY 72 [] p0).bind fun l2=>
 (some l2:Option (List Revision))
theorem Zfp (p0:List Revision) (r:List Revision) (hF:ZaD p0=some r):Zb Tryz.prog 161 [.sl (List.map Revision.cs p0)] (.sl (List.map Revision.cs r)):=by
 refine cF (fun r=>.sl (List.map Revision.cs r)) hF mix Tryz.func161 fun r hF=>?_
 unfold ZaD at hF
 refine Za ?_
 refine rg ?_
 refine rg ?_
 obtain ⟨u1,h1,hF⟩:=bnd hF
 refine Zrq rfl h1 rfl (Za ?_)
 refine ZE rfl rfl (Za ?_)
 refine rg ?_
 refine Zw (M:=([]:List Revision)) (f:=Revision.cs) rfl rfl rfl rfl (Nat.le_of_ble_eq_true rfl) rfl (Za ?_)
 obtain ⟨l2,h2,hF⟩:=bnd hF
 refine Zaj (f:=Revision.cs) rfl h2 (fun _=>rfl) rfl rfl rfl rfl (Za ?_)
 cases hF
 exact rQ
def ZdE (p0:Stored):Option Stored:=
 (ZaD p0.history).bind fun r1=>
 (some (⟨p0.title,r1⟩:Stored):Option Stored)
theorem Zj2 (p0:Stored) (r:Stored) (hF:ZdE p0=some r):Zb Tryz.prog 104 [p0.pv] (r.pv):=by
 refine cF (fun r=>r.pv) hF mix Tryz.func104 fun r hF=>?_
 unfold ZdE at hF
 refine Za ?_
 refine rg ?_
 refine rg ?_
 obtain ⟨r1,h1,hF⟩:=bnd hF
 refine Zf (Zfp _ _ h1) rfl rfl (Za ?_)
 refine rg ?_
 cases hF
 exact rQ
def ZbN (p0:State) (p1:Title):Option (Stored×Bool):=
 ZK Zax (fun f2 (x18:Int)=>
  if (decide (x18<(p0.pages.length:Int))) then
   (atI p0.pages x18).bind fun e25=>
   if (decide (e25.title=p1)) then
    (ZdE e25).bind fun r26=>
    (some (r26,true):Option (Stored×Bool))
   else
   f2 (w64 (x18+1))
  else
  (some ((⟨(⟨0,(⟨#[]⟩:ByteArray)⟩:Title),[]⟩:Stored),false):Option (Stored×Bool))) 0
theorem Zdm (p0:State) (p1:Title) (r:Stored×Bool) (hF:ZbN p0 p1=some r):Zb Tryz.prog 57 [p0.pv,p1.pv] (.tup [r.1.pv,.bool r.2]):=by
 refine cF (fun r=>.tup [r.1.pv,.bool r.2]) hF mix Tryz.func57 fun r hF=>?_
 unfold ZbN at hF
 refine Za ?_
 refine rg ?_
 refine rg ?_
 refine Zr rfl (M:=p0.pages) (f:=Stored.cs) rfl (Za ?_)
 refine bl ?_
 refine Zn hF fun f2 mf2 hf2 hF=>?_
 refine Zl (α:=Nat×Int) (fun a _=>mkS [(3,.ptr 3 (1,3) 0),(4,.ptr 4 (1,4) 0),(9,.sl (List.map Stored.cs p0.pages)),(10,.int .i64 (p0.pages.length:Int)),(11,.int .i64 a.2)] [(3,some ((1,3),.box [.int .i64 p1.space,.str p1.name])),(4,some ((1,4),.box [.int .i64 0,.str (⟨#[]⟩:ByteArray),.nil]))] 2) (fun a=>ZK a.1 f2 a.2=some r) (fun a=>a.1) (mf2,0) 2 hF (sR [(3,1,1),(4,1,2)]) (fun a _ hF=>?_)
 obtain ⟨mf2,x18⟩:=a
 obtain ⟨mf2,rfl,hF⟩:=Zo hf2 hF
 dsimp only at hF ⊢
 refine Za ?_
 refine rg ?_
 refine cS hF rfl (fun hF=>?_) fun hF=>?_
 ·refine bl ?_
  refine rg ?_
  obtain ⟨e25,h23,hF⟩:=bnd hF
  refine Zk (f:=Stored.cs) rfl h23 rfl rfl rfl (Za ?_)
  refine rg ?_
  refine Zeu (.inl rfl) rfl rfl rfl rfl rfl (fun W=>Zc9 e25.title p1 W) (Za ?_)
  refine cS hF rfl (fun hF=>?_) fun hF=>?_
  ·refine rg ?_
   obtain ⟨r26,h24,hF⟩:=bnd hF
   refine Zf (Zj2 _ _ h24) rfl rfl (Za ?_)
   cases hF
   exact rQ
  refine rg ?_
  exact rn (mf2,(w64 (x18+1))) hF (sR [(3,1,3),(4,1,4)])
 refine rg ?_
 cases hF
 exact rQ
def ZdF (p0:Stored):Option Revision:=
 if (decide ((p0.history.length:Int)=0)) then
  (some (⟨0,(⟨#[]⟩:ByteArray),(⟨#[]⟩:ByteArray),(⟨#[]⟩:ByteArray),0,0⟩:Revision):Option Revision)
 else
 (atI p0.history (w64 ((p0.history.length:Int) - 1))).bind fun e1=>
 (some e1:Option Revision)
theorem Zj3 (p0:Stored) (r:Revision) (hF:ZdF p0=some r):Zb Tryz.prog 103 [p0.pv] (r.pv):=by
 refine cF (fun r=>r.pv) hF mix Tryz.func103 fun r hF=>?_
 unfold ZdF at hF
 refine Za ?_
 refine rg ?_
 refine rg ?_
 refine Zr rfl (M:=p0.history) (f:=Revision.cs) rfl (Za ?_)
 refine cS hF rfl (fun hF=>?_) fun hF=>?_
 ·refine rg ?_
  cases hF
  exact rQ
 refine rg ?_
 refine Zr rfl (M:=p0.history) (f:=Revision.cs) rfl (Za ?_)
 obtain ⟨e1,h1,hF⟩:=bnd hF
 refine Zk (f:=Revision.cs) rfl h1 rfl rfl rfl (Za ?_)
 cases hF
 exact rQ
def Zbn (p0:State):Option Policy:=
 (ZbN p0 (⟨5,(⟨#[80,111,108,105,99,121]⟩:ByteArray)⟩:Title)).bind fun r1=>
 if (!r1.2) then
  (some (⟨[],[],[]⟩:Policy):Option Policy)
 else
 (ZdF r1.1).bind fun r2=>
 (Zae r2.text).bind fun r3=>
 if (!decide (r3.2.2=0)) then
  (some (⟨[],[],[]⟩:Policy):Option Policy)
 else
 (some r3.1:Option Policy)
theorem Zf5 (p0:State) (r:Policy) (hF:Zbn p0=some r):Zb Tryz.prog 56 [p0.pv] (r.pv):=by
 refine cF (fun r=>r.pv) hF mix Tryz.func56 fun r hF=>?_
 unfold Zbn at hF
 refine Za ?_
 refine rg ?_
 refine rg ?_
 refine Zu5 rfl rfl (Za ?_)
 obtain ⟨r1,h1,hF⟩:=bnd hF
 refine Zf (Zdm _ _ _ h1) rfl rfl (Za ?_)
 refine rg ?_
 refine cS hF rfl (fun hF=>?_) fun hF=>?_
 ·refine rg ?_
  cases hF
  exact rQ
 refine rg ?_
 obtain ⟨r2,h2,hF⟩:=bnd hF
 refine Zf (Zj3 _ _ h2) rfl rfl (Za ?_)
 obtain ⟨r3,h3,hF⟩:=bnd hF
 refine Zf (Zkn _ _ h3) rfl rfl (Za ?_)
 refine rg ?_
 refine cS hF rfl (fun hF=>?_) fun hF=>?_
 ·refine rg ?_
  cases hF
  exact rQ
 refine rg ?_
 cases hF
 exact rQ
end Go.Proofs.YtjoneoobolnnbaaGreatDoor
