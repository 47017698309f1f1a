/- Functions of the program as Lean functions. Written by -/
import Derived.Test.YtpdaeclbndpabaaGreatDoorCM09
import Derived.Test.YtpdaeclbndpabaaGreatDoorCM08
set_option linter.unusedVariables false
set_option maxHeartbeats 4000000
set_option maxRecDepth 100000
namespace Go.Proofs.YtpdaeclbndpabaaGreatDoor
section
open VL
def Zif (p0:Policy) (p1:ByteArray) (p2:Bool):Option (Bool×Policy):=(Zcx p1).bind fun r1=>(Zcx r1.2).bind fun r2=>(Zf5).bind fun r3=>(Zbx r3 r1.1).bind fun r4=>if (decide ((w64 (r4+1))=0)) then (some (false,p0):Option (Bool×Policy)) else letk (fun (x8:Int) (x9:Int) (x10:ByteArray)=>(Zbo 64 p0.rules [(⟨p2,(w64 (r4+1)),r2.1,(⟨x8,(⟨x9,x10⟩:Title)⟩:Scope)⟩:Rule)]).bind fun l11=>(some (true,(⟨p0.groups,l11,p0.guards⟩:Policy)):Option (Bool×Policy))) fun k1=>if (decide (r2.2=(⟨#[60,97,108,108,62]⟩:ByteArray))) then k1 1 0 (⟨#[]⟩:ByteArray) else (Zf6).bind fun r12=>(Zbx r12 r2.2).bind fun r13=>if (decide (0<=r13)) then k1 2 r13 (⟨#[]⟩:ByteArray) else (Zf0 r2.2).bind fun r14=>if (!decide (r14.2=0)) then (some (false,p0):Option (Bool×Policy)) else k1 3 r14.1.space r14.1.name
theorem ZnV (p0:Policy) (p1:ByteArray) (p2:Bool) (r:Bool×Policy) (h:Zif p0 p1 p2=some r):ContractP Tryz.prog 193 [.ptr 0 (0,0) 0,.str p1,.bool p2] 0 [.row 139 2 false (List.map Group.cs p0.groups),.row 135 6 false (List.map Rule.cs p0.rules),.row 212 5 false (List.map Guard.cs p0.guards)] (.bool r.1) [.row 139 2 false (List.map Group.cs r.2.groups),.row 135 6 false (List.map Rule.cs r.2.rules),.row 212 5 false (List.map Guard.cs r.2.guards)]:=by{
refine Zbi (R:=fun r=>.bool r.1) (O:=fun r=>[.row 139 2 false (List.map Group.cs r.2.groups),.row 135 6 false (List.map Rule.cs r.2.rules),.row 212 5 false (List.map Guard.cs r.2.guards)]) h mix Tryz.func193 (by kernel_rfl) rfl (by kernel_rfl) rfl fun r h=>?_
unfold Zif at h
refine Zf ?_
refine rg ?_
refine rg ?_
refine aC h (Zc1 _) fun r1 h=>?_
refine rg ?_
refine aC h (Zc1 _) fun r2 h=>?_
refine rg ?_
refine aC h Zlm fun r3 h=>?_
refine aC h (ZdS _ _) fun r4 h=>?_
refine rg ?_
refine cS h rfl (fun h=>?_) fun h=>?_
refine rg ?_
cases h
exact Zg3 rfl rfl rfl rfl rfl rfl
refine rg ?_
refine Zag h fun k1 hk1 h=>?_
refine Zax (α:=Int×Int×ByteArray) (fun a _=>mkS [(0,.ptr 0 (0,0) 0),(10,.ptr 10 (1,10) 0)] [(0,some ((0,0),.box [.row 1000 (1,1000),.row 1001 (1,1001),.row 1002 (1,1002)])),(10,some ((1,10),.box [.bool p2,.int .i64 (w64 (r4+1)),.str r2.1,.int .i64 a.1,.int .i64 a.2.1,.str a.2.2])),(1000,some ((1,1000),.row 139 2 false (List.map Group.cs p0.groups))),(1001,some ((1,1001),.row 135 6 false (List.map Rule.cs p0.rules))),(1002,some ((1,1002),.row 212 5 false (List.map Guard.cs p0.guards)))] 2) (fun a=>k1 a.1 a.2.1 a.2.2=some r) (Zf ?_) (fun a _ h=>?_)
refine cS h rfl (fun h=>?_) fun h=>?_
refine rg ?_
exact jn (1,0,(⟨#[]⟩:ByteArray)) h (sR [(10,4,7),(1000,0,1000),(1001,0,1001),(1002,0,1002)])
refine rg ?_
refine aC h Zln fun r12 h=>?_
refine aC h (ZdS _ _) fun r13 h=>?_
refine rg ?_
refine cS h rfl (fun h=>?_) fun h=>?_
refine rg ?_
exact jn (2,r13,(⟨#[]⟩:ByteArray)) h (sR [(10,4,7),(1000,0,1000),(1001,0,1001),(1002,0,1002)])
refine rg ?_
refine aC h (ZiE _) fun r14 h=>?_
refine rg ?_
refine cS h rfl (fun h=>?_) fun h=>?_
refine rg ?_
cases h
exact Zg3 rfl rfl rfl rfl rfl rfl
refine rg ?_
exact jn (3,r14.1.space,r14.1.name) h (sR [(10,4,7),(1000,0,1000),(1001,0,1001),(1002,0,1002)])
obtain ⟨x8,x9,x10⟩:=a
subst hk1
dsimp only at h ⊢
refine Zf ?_
refine rg ?_
refine ZF (M:=([(⟨p2,(w64 (r4+1)),r2.1,(⟨x8,(⟨x9,x10⟩:Title)⟩:Scope)⟩:Rule)]:List Rule)) (f:=Rule.cs) rfl rfl rfl rfl (Nat.le_of_ble_eq_true rfl) rfl (Zf ?_)
refine pR Rule.cs h fun l11 h=>?_
refine rg ?_
cases h
exact Zg3 rfl rfl rfl rfl rfl rfl}
def Zg2 (p0:Policy) (p1:ByteArray) (p2:Bool):Option (Bool×Policy):=(Zcx p1).bind fun r1=>(strings_Cut r1.2 (⟨#[124]⟩:ByteArray)).bind fun r2=>(ZbR r2.2.1 (⟨#[32,9]⟩:ByteArray)).bind fun r3=>(ZbR r2.1 (⟨#[32,9]⟩:ByteArray)).bind fun r4=>(Zf0 r4).bind fun r5=>letk (fun (x6:Bool)=>if x6 then (some (false,p0):Option (Bool×Policy)) else (Zbo 64 p0.guards [(⟨p2,r1.1,r5.1,r3⟩:Guard)]).bind fun l7=>(some (true,(⟨p0.groups,p0.rules,l7⟩:Policy)):Option (Bool×Policy))) fun k1=>if (!decide (r5.2=0)) then k1 true else if r2.2.2 then k1 (decide (r3=(⟨#[]⟩:ByteArray))) else k1 false
theorem ZlX (p0:Policy) (p1:ByteArray) (p2:Bool) (r:Bool×Policy) (h:Zg2 p0 p1 p2=some r):ContractP Tryz.prog 194 [.ptr 0 (0,0) 0,.str p1,.bool p2] 0 [.row 139 2 false (List.map Group.cs p0.groups),.row 135 6 false (List.map Rule.cs p0.rules),.row 212 5 false (List.map Guard.cs p0.guards)] (.bool r.1) [.row 139 2 false (List.map Group.cs r.2.groups),.row 135 6 false (List.map Rule.cs r.2.rules),.row 212 5 false (List.map Guard.cs r.2.guards)]:=by{
refine Zbi (R:=fun r=>.bool r.1) (O:=fun r=>[.row 139 2 false (List.map Group.cs r.2.groups),.row 135 6 false (List.map Rule.cs r.2.rules),.row 212 5 false (List.map Guard.cs r.2.guards)]) h mix Tryz.func194 (by kernel_rfl) rfl (by kernel_rfl) rfl fun r h=>?_
unfold Zg2 at h
refine Zf ?_
refine rg ?_
refine rg ?_
refine aC h (Zc1 _) fun r1 h=>?_
refine rg ?_
refine aC h (Zm8 _ _) fun r2 h=>?_
refine rg ?_
refine aC h (Zcg _ _) fun r3 h=>?_
refine rg ?_
refine aC h (Zcg _ _) fun r4 h=>?_
refine aC h (ZiE _) fun r5 h=>?_
refine jL h (fun x6=>mkS [(0,.ptr 0 (0,0) 0),(2,.bool p2),(7,.str r1.1),(9,.str r3),(11,.ptr 11 (1,11) 0),(40,.bool x6)] [(0,some ((0,0),.box [.row 1000 (1,1000),.row 1001 (1,1001),.row 1002 (1,1002)])),(11,some ((1,11),.box (Title.cs r5.1))),(1000,some ((1,1000),.row 139 2 false (List.map Group.cs p0.groups))),(1001,some ((1,1001),.row 135 6 false (List.map Rule.cs p0.rules))),(1002,some ((1,1002),.row 212 5 false (List.map Guard.cs p0.guards)))] 2) (fun k1 h=>?_) fun x6 h=>?_
refine rg ?_
refine kS 34 h rfl (fun h=>?_) fun h=>?_
iterate 5 refine Zg rfl (Zf ?_)
exact jn true h (sR [(11,5,6),(1000,0,1000),(1001,0,1001),(1002,0,1002)])
refine kS 36 h rfl (fun h=>?_) fun h=>?_
exact jn (decide (r3=(⟨#[]⟩:ByteArray))) h (sR [(11,5,6),(1000,0,1000),(1001,0,1001),(1002,0,1002)])
iterate 2 refine Zg rfl (Zf ?_)
exact jn false h (sR [(11,5,6),(1000,0,1000),(1001,0,1001),(1002,0,1002)])
refine cS h rfl (fun h=>?_) fun h=>?_
refine rg ?_
cases h
exact Zg3 rfl rfl rfl rfl rfl rfl
refine rg ?_
refine ZF (M:=([(⟨p2,r1.1,r5.1,r3⟩:Guard)]:List Guard)) (f:=Guard.cs) rfl rfl rfl rfl (Nat.le_of_ble_eq_true rfl) rfl (Zf ?_)
refine pR Guard.cs h fun l7 h=>?_
refine rg ?_
cases h
exact Zg3 rfl rfl rfl rfl rfl rfl}
def Zj (p0:Policy) (p1:ByteArray):Option (Bool×Policy):=(Zcx p1).bind fun r1=>letk (fun (x11:Bool)=>if x11 then (some (true,p0):Option (Bool×Policy)) else if (decide (r1.1=(⟨#[103,114,111,117,112]⟩:ByteArray))) then (ZgZ p0 r1.2).bind fun r12=>(some (r12.1,r12.2):Option (Bool×Policy)) else letk (fun (x13:Bool)=>if x13 then (Zif p0 r1.2 (decide (r1.1=(⟨#[97,108,108,111,119]⟩:ByteArray)))).bind fun r14=>(some (r14.1,r14.2):Option (Bool×Policy)) else letk (fun (x15:Bool)=>if x15 then (Zg2 p0 r1.2 (decide (r1.1=(⟨#[115,116,114,105,99,116]⟩:ByteArray)))).bind fun r16=>(some (r16.1,r16.2):Option (Bool×Policy)) else (some (false,p0):Option (Bool×Policy))) fun k6=>if (decide (r1.1=(⟨#[103,117,97,114,100]⟩:ByteArray))) then k6 true else k6 (decide (r1.1=(⟨#[115,116,114,105,99,116]⟩:ByteArray)))) fun k5=>if (decide (r1.1=(⟨#[97,108,108,111,119]⟩:ByteArray))) then k5 true else k5 (decide (r1.1=(⟨#[100,101,110,121]⟩:ByteArray)))) fun k4=>if (decide (r1.1=(⟨#[]⟩:ByteArray))) then k4 true else (atS r1.1 0).bind fun c17=>k4 (decide (c17=35))
theorem ZiY (p0:Policy) (p1:ByteArray) (r:Bool×Policy) (h:Zj p0 p1=some r):ContractP Tryz.prog 142 [.ptr 0 (0,0) 0,.str p1] 0 [.row 139 2 false (List.map Group.cs p0.groups),.row 135 6 false (List.map Rule.cs p0.rules),.row 212 5 false (List.map Guard.cs p0.guards)] (.bool r.1) [.row 139 2 false (List.map Group.cs r.2.groups),.row 135 6 false (List.map Rule.cs r.2.rules),.row 212 5 false (List.map Guard.cs r.2.guards)]:=by{
refine Zbi (R:=fun r=>.bool r.1) (O:=fun r=>[.row 139 2 false (List.map Group.cs r.2.groups),.row 135 6 false (List.map Rule.cs r.2.rules),.row 212 5 false (List.map Guard.cs r.2.guards)]) h mix Tryz.func142 (by kernel_rfl) rfl (by kernel_rfl) rfl fun r h=>?_
unfold Zj at h
refine Zf ?_
refine rg ?_
refine rg ?_
refine aC h (Zc1 _) fun r1 h=>?_
refine bl ?_
refine jL h (fun x11=>mkS [(0,.ptr 0 (0,0) 0),(5,.str r1.1),(6,.str r1.2),(12,.bool x11)] [(0,some ((0,0),.box [.row 1000 (1,1000),.row 1001 (1,1001),.row 1002 (1,1002)])),(1000,some ((1,1000),.row 139 2 false (List.map Group.cs p0.groups))),(1001,some ((1,1001),.row 135 6 false (List.map Rule.cs p0.rules))),(1002,some ((1,1002),.row 212 5 false (List.map Guard.cs p0.guards)))] 2) (fun k4 h=>?_) fun x11 h=>?_
refine rg ?_
refine kS 15 h rfl (fun h=>?_) fun h=>?_
iterate 3 refine Zg rfl (Zf ?_)
exact jn true h (sR [(1000,0,1000),(1001,0,1001),(1002,0,1002)])
refine aS h fun c17 h=>?_
exact jn (decide (c17=35)) h (sR [(1000,0,1000),(1001,0,1001),(1002,0,1002)])
refine cS h rfl (fun h=>?_) fun h=>?_
refine rg ?_
cases h
exact Zg3 rfl rfl rfl rfl rfl rfl
refine rg ?_
refine cS h rfl (fun h=>?_) fun h=>?_
refine rg ?_
obtain ⟨r12,h8,h⟩:=bnd h
refine Zd8 (ZlT _ _ _ h8) rfl rfl rfl rfl rfl rfl rfl rfl (Zf ?_)
cases h
exact Zg3 rfl rfl rfl rfl rfl rfl
refine jL h (fun x13=>mkS [(0,.ptr 0 (0,0) 0),(5,.str r1.1),(6,.str r1.2),(26,.bool x13)] [(0,some ((0,0),.box [.row 1000 (1,1000),.row 1001 (1,1001),.row 1002 (1,1002)])),(1000,some ((1,1000),.row 139 2 false (List.map Group.cs p0.groups))),(1001,some ((1,1001),.row 135 6 false (List.map Rule.cs p0.rules))),(1002,some ((1,1002),.row 212 5 false (List.map Guard.cs p0.guards)))] 2) (fun k5 h=>?_) fun x13 h=>?_
refine rg ?_
refine kS 29 h rfl (fun h=>?_) fun h=>?_
iterate 2 refine Zg rfl (Zf ?_)
exact jn true h (sR [(1000,1,1000),(1001,1,1001),(1002,1,1002)])
exact jn (decide (r1.1=(⟨#[100,101,110,121]⟩:ByteArray))) h (sR [(1000,1,1000),(1001,1,1001),(1002,1,1002)])
refine cS h rfl (fun h=>?_) fun h=>?_
refine rg ?_
obtain ⟨r14,h9,h⟩:=bnd h
refine Zd8 (ZnV _ _ _ _ h9) rfl rfl rfl rfl rfl rfl rfl rfl (Zf ?_)
cases h
exact Zg3 rfl rfl rfl rfl rfl rfl
refine jL h (fun x15=>mkS [(0,.ptr 0 (0,0) 0),(5,.str r1.1),(6,.str r1.2),(38,.bool x15)] [(0,some ((0,0),.box [.row 1000 (1,1000),.row 1001 (1,1001),.row 1002 (1,1002)])),(1000,some ((1,1000),.row 139 2 false (List.map Group.cs p0.groups))),(1001,some ((1,1001),.row 135 6 false (List.map Rule.cs p0.rules))),(1002,some ((1,1002),.row 212 5 false (List.map Guard.cs p0.guards)))] 2) (fun k6 h=>?_) fun x15 h=>?_
refine rg ?_
refine kS 41 h rfl (fun h=>?_) fun h=>?_
iterate 2 refine Zg rfl (Zf ?_)
exact jn true h (sR [(1000,1,1000),(1001,1,1001),(1002,1,1002)])
exact jn (decide (r1.1=(⟨#[115,116,114,105,99,116]⟩:ByteArray))) h (sR [(1000,1,1000),(1001,1,1001),(1002,1,1002)])
refine cS h rfl (fun h=>?_) fun h=>?_
refine rg ?_
obtain ⟨r16,h10,h⟩:=bnd h
refine Zd8 (ZlX _ _ _ _ h10) rfl rfl rfl rfl rfl rfl rfl rfl (Zf ?_)
cases h
exact Zg3 rfl rfl rfl rfl rfl rfl
refine rg ?_
cases h
exact Zg3 rfl rfl rfl rfl rfl rfl}
def Zd5 (p0:Policy) (p1:Rule):Option Int:=letk (fun (x1:Bool)=>if x1 then (some 2:Option Int) else (ZcZ p0 p1.group).bind fun r2=>if (!r2) then (some 4:Option Int) else letk (fun (x4:Bool)=>if (!x4) then (some 7:Option Int) else (some 0:Option Int)) fun k2=>if (decide (p1.scope.kind=1)) then k2 (decide (p1.scope.title=(⟨0,(⟨#[]⟩:ByteArray)⟩:Title))) else if (decide (p1.scope.kind=2)) then if (decide (0<=p1.scope.title.space)) then if (decide (p1.scope.title.space<6)) then k2 (decide (p1.scope.title.name=(⟨#[]⟩:ByteArray))) else k2 false else k2 false else if (decide (p1.scope.kind=3)) then (Zdh p1.scope.title).bind fun r5=>k2 r5 else k2 false) fun k1=>if (decide (p1.right<1)) then k1 true else k1 (decide (5<p1.right))
theorem ZiC (p0:Policy) (p1:Rule) (r:Int) (h:Zd5 p0 p1=some r):Zb Tryz.prog 196 [p0.pv,p1.pv] (.int .i64 r):=by{
refine cF (fun r=>.int .i64 r) h mix Tryz.func196 fun r h=>?_
unfold Zd5 at h
refine Zf ?_
refine rg ?_
refine jL h (fun x1=>mkS [(2,.ptr 2 (1,2) 0),(3,.ptr 3 (1,3) 0),(14,.bool x1)] [(2,some ((1,2),.box (Policy.cs p0))),(3,some ((1,3),.box (Rule.cs p1)))] 2) (fun k1 h=>?_) fun x1 h=>?_
refine rg ?_
refine kS 10 h rfl (fun h=>?_) fun h=>?_
iterate 3 refine Zg rfl (Zf ?_)
exact jn true h (sR [(2,1,0),(3,1,1)])
exact jn (decide (5<p1.right)) h (sR [(2,1,0),(3,1,1)])
refine cS h rfl (fun h=>?_) fun h=>?_
refine rg ?_
cases h
exact rQ
refine rg ?_
refine aC h (ZeF _ _) fun r2 h=>?_
refine cS h rfl (fun h=>?_) fun h=>?_
refine rg ?_
cases h
exact rQ
refine rg ?_
refine rg ?_
refine rg ?_
refine jL h (fun x4=>mkS [(6,.bool x4)] [] 2) (fun k2 h=>?_) fun x4 h=>?_
refine bl ?_
refine rg ?_
refine cS h rfl (fun h=>?_) fun h=>?_
refine rg ?_
refine ZeM (.inl rfl) rfl rfl rfl rfl rfl (fun W=>ZcM p1.scope.title (⟨0,(⟨#[]⟩:ByteArray)⟩:Title) W) (Zf ?_)
exact jn (decide (p1.scope.title=(⟨0,(⟨#[]⟩:ByteArray)⟩:Title))) h (sR [])
refine rg ?_
refine cS h rfl (fun h=>?_) fun h=>?_
refine rg ?_
refine kS 36 h rfl (fun h=>?_) fun h=>?_
refine kS 41 h rfl (fun h=>?_) fun h=>?_
exact jn (decide (p1.scope.title.name=(⟨#[]⟩:ByteArray))) h (sR [])
iterate 3 refine Zg rfl (Zf ?_)
exact jn false h (sR [])
iterate 6 refine Zg rfl (Zf ?_)
exact jn false h (sR [])
refine rg ?_
refine cS h rfl (fun h=>?_) fun h=>?_
refine rg ?_
refine aC h (Zec _) fun r5 h=>?_
exact jn r5 h (sR [])
exact jn false h (sR [])
refine rg ?_
refine cS h rfl (fun h=>?_) fun h=>?_
refine rg ?_
cases h
exact rQ
refine rg ?_
cases h
exact rQ}
def Zdi (p0:Policy) (p1:Guard):Option Int:=(ZcZ p0 p1.group).bind fun r1=>if (!r1) then (some 4:Option Int) else letk (fun (x5:Bool)=>if x5 then (some 7:Option Int) else (some 0:Option Int)) fun k1=>(Zdh p1.title).bind fun r6=>if (!r6) then k1 true else if (decide (100<(p1.section_.size:Int))) then k1 true else (Zcs p1.section_ (⟨#[10,124]⟩:ByteArray)).bind fun r7=>if r7 then k1 true else (ZbR p1.section_ (⟨#[32,9]⟩:ByteArray)).bind fun r8=>k1 (!decide (r8=p1.section_))
theorem ZhW (p0:Policy) (p1:Guard) (r:Int) (h:Zdi p0 p1=some r):Zb Tryz.prog 197 [p0.pv,p1.pv] (.int .i64 r):=by{
refine cF (fun r=>.int .i64 r) h mix Tryz.func197 fun r h=>?_
unfold Zdi at h
refine Zf ?_
refine rg ?_
refine rg ?_
refine aC h (ZeF _ _) fun r1 h=>?_
refine cS h rfl (fun h=>?_) fun h=>?_
refine rg ?_
cases h
exact rQ
refine jL h (fun x5=>mkS [(32,.bool x5)] [] 2) (fun k1 h=>?_) fun x5 h=>?_
refine rg ?_
refine aC h (Zec _) fun r6 h=>?_
refine kS 14 h rfl (fun h=>?_) fun h=>?_
iterate 13 refine Zg rfl (Zf ?_)
exact jn true h (sR [])
refine kS 20 h rfl (fun h=>?_) fun h=>?_
iterate 9 refine Zg rfl (Zf ?_)
exact jn true h (sR [])
refine aC h (Zgx _ _) fun r7 h=>?_
refine kS 25 h rfl (fun h=>?_) fun h=>?_
iterate 6 refine Zg rfl (Zf ?_)
exact jn true h (sR [])
refine aC h (Zcg _ _) fun r8 h=>?_
exact jn (!decide (r8=p1.section_)) h (sR [])
refine cS h rfl (fun h=>?_) fun h=>?_
refine rg ?_
cases h
exact rQ
refine rg ?_
cases h
exact rQ}
def ZcJ (p0:Policy):Option Int:=letk (fun (x1:Bool)=>if x1 then (some 3:Option Int) else ZE Zaq (fun f3 (x11:Int)=>if (decide (x11<(p0.groups.length:Int))) then (Zdr p0 x11).bind fun r15=>if (!decide (r15=0)) then (some r15:Option Int) else f3 (w64 (x11+1)) else ZE Zaq (fun f5 (x33:Int)=>if (decide (x33<(p0.rules.length:Int))) then (atI p0.rules x33).bind fun e40=>(Zd5 p0 e40).bind fun r41=>if (!decide (r41=0)) then (some r41:Option Int) else f5 (w64 (x33+1)) else ZE Zaq (fun f7 (x59:Int)=>if (decide (x59<(p0.guards.length:Int))) then (atI p0.guards x59).bind fun e66=>(Zdi p0 e66).bind fun r67=>if (!decide (r67=0)) then (some r67:Option Int) else f7 (w64 (x59+1)) else (some 0:Option Int)) 0) 0) 0) fun k1=>if (decide (24<(p0.groups.length:Int))) then k1 true else if (decide (64<(p0.rules.length:Int))) then k1 true else k1 (decide (64<(p0.guards.length:Int)))
theorem Zjj (p0:Policy) (r:Int) (h:ZcJ p0=some r):Zb Tryz.prog 143 [p0.pv] (.int .i64 r):=by{
refine cF (fun r=>.int .i64 r) h mix Tryz.func143 fun r h=>?_
unfold ZcJ at h
refine Zf ?_
refine rg ?_
refine jL h (fun x1=>mkS [(1,.ptr 1 (1,1) 0),(26,.bool x1)] [(1,some ((1,1),.box (Policy.cs p0)))] 2) (fun k1 h=>?_) fun x1 h=>?_
refine rg ?_
refine lM Group.cs p0.groups ?_
refine kS 15 h rfl (fun h=>?_) fun h=>?_
iterate 8 refine Zg rfl (Zf ?_)
exact jn true h (sR [(1,1,0)])
refine lM Rule.cs p0.rules ?_
refine kS 21 h rfl (fun h=>?_) fun h=>?_
iterate 4 refine Zg rfl (Zf ?_)
exact jn true h (sR [(1,1,0)])
refine lM Guard.cs p0.guards ?_
exact jn (decide (64<(p0.guards.length:Int))) h (sR [(1,1,0)])
refine cS h rfl (fun h=>?_) fun h=>?_
refine rg ?_
cases h
exact rQ
refine rg ?_
refine lM Group.cs p0.groups ?_
refine bl ?_
refine Zk h fun f3 mf3 hf3 h=>?_
refine Zi (α:=Nat×Int) (fun a _=>mkS [(1,.ptr 1 (1,1) 0),(29,.int .i64 (p0.groups.length:Int)),(30,.int .i64 a.2)] [(1,some ((1,1),.box (Policy.cs p0)))] 2) (fun a=>ZE a.1 f3 a.2=some r) (fun a=>a.1) (mf3,0) 2 h (sR [(1,1,1)]) (fun a _ h=>?_)
obtain ⟨mf3,x11⟩:=a
obtain ⟨mf3,rfl,h⟩:=Zl hf3 h
dsimp only at h ⊢
refine Zf ?_
refine rg ?_
refine cS h rfl (fun h=>?_) fun h=>?_
refine bl ?_
refine rg ?_
refine rg ?_
refine aC h (Zib _ _) fun r15 h=>?_
refine rg ?_
refine cS h rfl (fun h=>?_) fun h=>?_
refine rg ?_
cases h
exact rQ
refine rg ?_
exact rn (mf3,(w64 (x11+1))) h (sR [(1,1,1)])
refine rg ?_
refine lM Rule.cs p0.rules ?_
refine bl ?_
refine Zk h fun f5 mf5 hf5 h=>?_
refine Zi (α:=Nat×Int) (fun a _=>mkS [(1,.ptr 1 (1,1) 0),(41,.sl (List.map Rule.cs p0.rules)),(42,.int .i64 (p0.rules.length:Int)),(43,.int .i64 a.2)] [(1,some ((1,1),.box (Policy.cs p0)))] 2) (fun a=>ZE a.1 f5 a.2=some r) (fun a=>a.1) (mf5,0) 2 h (sR [(1,1,1)]) (fun a _ h=>?_)
obtain ⟨mf5,x33⟩:=a
obtain ⟨mf5,rfl,h⟩:=Zl hf5 h
dsimp only at h ⊢
refine Zf ?_
refine rg ?_
refine cS h rfl (fun h=>?_) fun h=>?_
refine bl ?_
refine rg ?_
refine aI Rule.cs h fun e40 h=>?_
refine rg ?_
refine aC h (ZiC _ _) fun r41 h=>?_
refine rg ?_
refine cS h rfl (fun h=>?_) fun h=>?_
refine rg ?_
cases h
exact rQ
refine rg ?_
exact rn (mf5,(w64 (x33+1))) h (sR [(1,1,1)])
refine rg ?_
refine lM Guard.cs p0.guards ?_
refine bl ?_
refine Zk h fun f7 mf7 hf7 h=>?_
refine Zi (α:=Nat×Int) (fun a _=>mkS [(1,.ptr 1 (1,1) 0),(55,.sl (List.map Guard.cs p0.guards)),(56,.int .i64 (p0.guards.length:Int)),(57,.int .i64 a.2)] [(1,some ((1,1),.box (Policy.cs p0)))] 2) (fun a=>ZE a.1 f7 a.2=some r) (fun a=>a.1) (mf7,0) 2 h (sR [(1,1,1)]) (fun a _ h=>?_)
obtain ⟨mf7,x59⟩:=a
obtain ⟨mf7,rfl,h⟩:=Zl hf7 h
dsimp only at h ⊢
refine Zf ?_
refine rg ?_
refine cS h rfl (fun h=>?_) fun h=>?_
refine bl ?_
refine rg ?_
refine aI Guard.cs h fun e66 h=>?_
refine rg ?_
refine aC h (ZhW _ _) fun r67 h=>?_
refine rg ?_
refine cS h rfl (fun h=>?_) fun h=>?_
refine rg ?_
cases h
exact rQ
refine rg ?_
exact rn (mf7,(w64 (x59+1))) h (sR [(1,1,1)])
refine rg ?_
cases h
exact rQ}
def Zaa (p0:ByteArray):Option (Policy×Int×Int):=if (decide (8192<(p0.size:Int))) then (some ((⟨[],[],[]⟩:Policy),0,3):Option (Policy×Int×Int)) else (strings_Split p0 (⟨#[10]⟩:ByteArray)).bind fun r1=>ZE Zaq (fun f2 ((x22,x23,x24,x25):Int×(List Group)×(List Rule)×(List Guard))=>if (decide (x22<(r1.length:Int))) then (atI r1 x22).bind fun e32=>(Zj (⟨x23,x24,x25⟩:Policy) e32).bind fun r33=>if (!r33.1) then (some ((⟨[],[],[]⟩:Policy),(w64 (x22+1)),1):Option (Policy×Int×Int)) else f2 ((w64 (x22+1)),r33.2.groups,r33.2.rules,r33.2.guards) else (ZcJ (⟨x23,x24,x25⟩:Policy)).bind fun r34=>if (!decide (r34=0)) then (some ((⟨[],[],[]⟩:Policy),0,r34):Option (Policy×Int×Int)) else (some ((⟨x23,x24,x25⟩:Policy),0,0):Option (Policy×Int×Int))) (0,([]:List Group),([]:List Rule),([]:List Guard))
theorem ZlF (p0:ByteArray) (r:Policy×Int×Int) (h:Zaa p0=some r):Zb Tryz.prog 85 [.str p0] (.tup [r.1.pv,.int .i64 r.2.1,.int .i64 r.2.2]):=by{
refine cF (fun r=>.tup [r.1.pv,.int .i64 r.2.1,.int .i64 r.2.2]) h mix Tryz.func85 fun r h=>?_
unfold Zaa at h
refine Zf ?_
refine rg ?_
refine rg ?_
refine cS h rfl (fun h=>?_) fun h=>?_
refine rg ?_
cases h
exact rQ
refine rg ?_
refine rg ?_
refine aN h (Zgy _ _) fun r1 h=>?_
refine lM csS r1 ?_
refine bl ?_
refine Zk h fun f2 mf2 hf2 h=>?_
refine Zi (α:=Nat×(Int×(List Group)×(List Rule)×(List Guard))) (fun a _=>mkS [(2,.ptr 2 (1,2) 0),(5,.ptr 5 (1,5) 0),(14,.row 14 (1,14)),(15,.int .i64 (r1.length:Int)),(16,.int .i64 a.2.1)] [(2,some ((1,2),.box [.nil,.nil,.nil])),(5,some ((1,5),.box [.row 1500 (1,1500),.row 1501 (1,1501),.row 1502 (1,1502)])),(14,some ((1,14),.row 9 1 false (List.map csS r1))),(1500,some ((1,1500),.row 139 2 false (List.map Group.cs a.2.2.1))),(1501,some ((1,1501),.row 135 6 false (List.map Rule.cs a.2.2.2.1))),(1502,some ((1,1502),.row 212 5 false (List.map Guard.cs a.2.2.2.2)))] 2) (fun a=>ZE a.1 f2 a.2=some r) (fun a=>a.1) (mf2,0,([]:List Group),([]:List Rule),([]:List Guard)) 2 h (Shift.trans (ZbO 5 1500 0 139 2 rfl rfl rfl) (Shift.trans (ZbO 5 1501 1 135 6 rfl rfl rfl) (Shift.trans (ZbO 5 1502 2 212 5 rfl rfl rfl) (sR [(2,1,0),(5,3,0),(14,4,1),(1500,5,0),(1501,6,0),(1502,7,0)])))) (fun a _ h=>?_)
obtain ⟨mf2,x22,x23,x24,x25⟩:=a
obtain ⟨mf2,rfl,h⟩:=Zl hf2 h
dsimp only at h ⊢
refine Zf ?_
refine rg ?_
refine cS h rfl (fun h=>?_) fun h=>?_
refine bl ?_
refine rg ?_
obtain ⟨e32,h24,h⟩:=bnd h
refine ZA rfl h24 rfl rfl rfl (Zf ?_)
refine Zaj rfl h24 rfl rfl rfl (Zf ?_)
refine rg ?_
obtain ⟨r33,h25,h⟩:=bnd h
refine Zd8 (ZiY _ _ _ h25) rfl rfl rfl rfl rfl rfl rfl rfl (Zf ?_)
refine cS h rfl (fun h=>?_) fun h=>?_
refine rg ?_
cases h
exact rQ
refine rg ?_
exact rn (mf2,(w64 (x22+1)),r33.2.groups,r33.2.rules,r33.2.guards) h (sR [(2,1,2),(5,1,5),(14,1,14),(1500,4,1000001),(1501,4,2000001),(1502,4,3000001)])
refine rg ?_
refine aL h (Zjj _) fun r34 h=>?_
refine rg ?_
refine cS h rfl (fun h=>?_) fun h=>?_
refine rg ?_
cases h
exact rQ
refine rg ?_
cases h
exact rQ}
def ZbB (p0:State):Option Policy:=(Zbs p0 (⟨5,(⟨#[80,111,108,105,99,121]⟩:ByteArray)⟩:Title)).bind fun r1=>if (!r1.2) then (some (⟨[],[],[]⟩:Policy):Option Policy) else (Zee r1.1).bind fun r2=>(Zaa r2.text).bind fun r3=>if (!decide (r3.2.2=0)) then (some (⟨[],[],[]⟩:Policy):Option Policy) else (some r3.1:Option Policy)
theorem ZgW (p0:State) (r:Policy) (h:ZbB p0=some r):Zb Tryz.prog 42 [p0.pv] (r.pv):=by{
refine cF (fun r=>r.pv) h mix Tryz.func42 fun r h=>?_
unfold ZbB at h
refine Zf ?_
refine rg ?_
refine rg ?_
refine Zxr rfl rfl (Zf ?_)
refine aC h (ZdP _ _) fun r1 h=>?_
refine rg ?_
refine cS h rfl (fun h=>?_) fun h=>?_
refine rg ?_
cases h
exact rQ
refine rg ?_
refine aC h (Zli _) fun r2 h=>?_
refine aC h (ZlF _) fun r3 h=>?_
refine rg ?_
refine cS h rfl (fun h=>?_) fun h=>?_
refine rg ?_
cases h
exact rQ
refine rg ?_
cases h
exact rQ}
def ZcI (p0:ByteArray) (p1:Bool) (p2:ByteArray) (p3:List ByteArray):Option Bool:=letk (fun (x7:Bool)=>(some x7:Option Bool)) fun k1=>if p1 then if (decide (p0=p2)) then k1 true else if (decide (0<(p0.size:Int))) then (atS p0 0).bind fun c8=>if (decide (c8=64)) then (Zff p0 1 (p0.size:Int)).bind fun l9=>(slices_Contains_string p3 l9).bind fun r10=>k1 r10 else k1 false else k1 false else if (decide (0<(p0.size:Int))) then (atS p0 0).bind fun c11=>if (decide (c11=64)) then (Zff p0 1 (p0.size:Int)).bind fun l12=>(slices_Contains_string p3 l12).bind fun r13=>k1 r13 else k1 false else k1 false
theorem Zji (p0:ByteArray) (p1:Bool) (p2:ByteArray) (p3:List ByteArray) (r:Bool) (h:ZcI p0 p1 p2 p3=some r):Zb Tryz.prog 93 [.str p0,.cel [.bool p1],.cel [.str p2],.cel [.sl (List.map csS p3)]] (.bool r):=by{
refine cF (fun r=>.bool r) h mix Tryz.func93 fun r h=>?_
unfold ZcI at h
refine Zf ?_
refine rg ?_
refine jL h (fun x7=>mkS [(5,.bool x7)] [] 2) (fun k1 h=>?_) fun x7 h=>?_
refine rg ?_
refine kS 7 h rfl (fun h=>?_) fun h=>?_
refine kS 12 h rfl (fun h=>?_) fun h=>?_
iterate 14 refine Zg rfl (Zf ?_)
exact jn true h (sR [])
refine kS 16 h rfl (fun h=>?_) fun h=>?_
refine aS h fun c8 h=>?_
refine kS 21 h rfl (fun h=>?_) fun h=>?_
refine sS h fun l9 h=>?_
refine aC h (Zbr _ _) fun r10 h=>?_
exact jn r10 h (sR [])
iterate 4 refine Zg rfl (Zf ?_)
exact jn false h (sR [])
iterate 7 refine Zg rfl (Zf ?_)
exact jn false h (sR [])
iterate 3 refine Zg rfl (Zf ?_)
refine kS 16 h rfl (fun h=>?_) fun h=>?_
refine aS h fun c11 h=>?_
refine kS 21 h rfl (fun h=>?_) fun h=>?_
refine sS h fun l12 h=>?_
refine aC h (Zbr _ _) fun r13 h=>?_
exact jn r13 h (sR [])
iterate 4 refine Zg rfl (Zf ?_)
exact jn false h (sR [])
iterate 7 refine Zg rfl (Zf ?_)
exact jn false h (sR [])
cases h
exact rQ}
def Zbb (p0:Policy) (p1:ByteArray):Option (List ByteArray):=(Zb0 p1).bind fun r1=>letk (fun (x3:List ByteArray)=>ZE Zaq (fun f23 ((x138,x139):Bool×(List ByteArray))=>if x138 then ZE Zaq (fun f26 ((x183,x184,x185):Bool×Int×(List ByteArray))=>if (decide (x184<(p0.groups.length:Int))) then letk (fun (x200:Bool) (x201:List ByteArray)=>f26 (x200,(w64 (x184+1)),x201)) fun k27=>(atI p0.groups x184).bind fun e202=>(slices_Contains_string x185 e202.name).bind fun r203=>if r203 then k27 x183 x185 else (Zba e202.members (fun y0=>ZcI y0 r1 p1 x185)).bind fun r204=>if r204 then (Zbo 16 x185 [e202.name]).bind fun l205=>k27 true l205 else k27 x183 x185 else f23 (x183,x185)) (false,0,x139) else (slices_Sort_string x139).bind fun r206=>(some r206:Option (List ByteArray))) (true,x3)) fun k1=>if r1 then (Zbo 16 [(⟨#[97,108,108]⟩:ByteArray)] [(⟨#[117,115,101,114,115]⟩:ByteArray)]).bind fun l207=>k1 l207 else k1 [(⟨#[97,108,108]⟩:ByteArray)]
theorem Zgv (p0:Policy) (p1:ByteArray) (r:List ByteArray) (h:Zbb p0 p1=some r):Zb Tryz.prog 46 [p0.pv,.str p1] (.sl (List.map csS r)):=by{
refine cF (fun r=>.sl (List.map csS r)) h mix Tryz.func46 fun r h=>?_
unfold Zbb at h
refine Zf ?_
refine rg ?_
refine rg ?_
refine bM csS ([(⟨#[97,108,108]⟩:ByteArray)]:List ByteArray) ?_
refine rg ?_
refine aC h (ZcN _) fun r1 h=>?_
refine rg ?_
refine jL h (fun x3=>mkS [(2,.ptr 2 (1,2) 0),(3,.ptr 3 (1,3) 0),(5,.ptr 5 (1,5) 0),(6,.ptr 6 (1,6) 0)] [(2,some ((1,2),.box (Policy.cs p0))),(3,some ((1,3),.box [.str p1])),(5,some ((1,5),.box [.row 10 (1,10)])),(6,some ((1,6),.box [.bool r1])),(10,some ((1,10),.row 9 1 false (List.map csS x3)))] 2) (fun k1 h=>?_) fun x3 h=>?_
refine cS h rfl (fun h=>?_) fun h=>?_
refine rg ?_
refine bM csS ([(⟨#[117,115,101,114,115]⟩:ByteArray)]:List ByteArray) ?_
refine pR csS h fun l207 h=>?_
exact jn l207 h (sR [(2,1,0),(3,1,1),(5,2,1),(6,3,2),(10,5,2)])
exact jn [(⟨#[97,108,108]⟩:ByteArray)] h (sR [(2,1,0),(3,1,1),(5,2,1),(6,3,2),(10,2,0)])
refine rg ?_
refine bl ?_
refine Zk h fun f23 mf23 hf23 h=>?_
refine Zi (α:=Nat×(Bool×(List ByteArray))) (fun a _=>mkS [(2,.ptr 2 (1,2) 0),(3,.ptr 3 (1,3) 0),(5,.ptr 5 (1,5) 0),(6,.ptr 6 (1,6) 0),(7,.bool a.2.1)] [(2,some ((1,2),.box (Policy.cs p0))),(3,some ((1,3),.box [.str p1])),(5,some ((1,5),.box [.row 10 (1,10)])),(6,some ((1,6),.box [.bool r1])),(10,some ((1,10),.row 9 1 false (List.map csS a.2.2)))] 2) (fun a=>ZE a.1 f23 a.2=some r) (fun a=>a.1) (mf23,true,x3) 2 h (sR [(2,1,2),(3,1,3),(5,1,5),(6,1,6),(10,1,10)]) (fun a _ h=>?_)
obtain ⟨mf23,x138,x139⟩:=a
obtain ⟨mf23,rfl,h⟩:=Zl hf23 h
dsimp only at h ⊢
refine Zf ?_
refine rg ?_
refine cS h rfl (fun h=>?_) fun h=>?_
refine bl ?_
refine rg ?_
refine rg ?_
refine lM Group.cs p0.groups ?_
refine bl ?_
refine Zk h fun f26 mf26 hf26 h=>?_
refine Zi (α:=Nat×(Bool×Int×(List ByteArray))) (fun a _=>mkS [(2,.ptr 2 (1,2) 0),(3,.ptr 3 (1,3) 0),(5,.ptr 5 (1,5) 0),(6,.ptr 6 (1,6) 0),(7,.bool a.2.1),(19,.sl (List.map Group.cs p0.groups)),(20,.int .i64 (p0.groups.length:Int)),(21,.int .i64 a.2.2.1)] [(2,some ((1,2),.box (Policy.cs p0))),(3,some ((1,3),.box [.str p1])),(5,some ((1,5),.box [.row 10 (1,10)])),(6,some ((1,6),.box [.bool r1])),(10,some ((1,10),.row 9 1 false (List.map csS a.2.2.2)))] 2) (fun a=>ZE a.1 f26 a.2=some r) (fun a=>a.1) (mf26,false,0,x139) 2 h (sR [(2,1,2),(3,1,3),(5,1,5),(6,1,6),(10,1,10)]) (fun a _ h=>?_)
obtain ⟨mf26,x183,x184,x185⟩:=a
obtain ⟨mf26,rfl,h⟩:=Zl hf26 h
dsimp only at h ⊢
refine Zf ?_
refine rg ?_
refine cS h rfl (fun h=>?_) fun h=>?_
refine Zag h fun k27 hk27 h=>?_
refine Zax (α:=Bool×(List ByteArray)) (fun a _=>mkS [(2,.ptr 2 (1,2) 0),(3,.ptr 3 (1,3) 0),(5,.ptr 5 (1,5) 0),(6,.ptr 6 (1,6) 0),(7,.bool a.1),(19,.sl (List.map Group.cs p0.groups)),(20,.int .i64 (p0.groups.length:Int)),(21,.int .i64 x184)] [(2,some ((1,2),.box (Policy.cs p0))),(3,some ((1,3),.box [.str p1])),(5,some ((1,5),.box [.row 10 (1,10)])),(6,some ((1,6),.box [.bool r1])),(10,some ((1,10),.row 9 1 false (List.map csS a.2)))] 2) (fun a=>k27 a.1 a.2=some r) (Zf ?_) (fun a _ h=>?_)
refine bl ?_
refine rg ?_
refine aI Group.cs h fun e202 h=>?_
refine rg ?_
refine aL h (Zbr _ _) fun r203 h=>?_
refine cS h rfl (fun h=>?_) fun h=>?_
exact jn (x183,x185) h (sR [(2,1,2),(3,1,3),(5,1,5),(6,1,6),(10,1,10)])
refine rg ?_
refine ZjB rfl rfl (Zf ?_)
obtain ⟨r204,h145,h⟩:=bnd h
refine ZiV (Zeg _ (fun y0=>ZcI y0 r1 p1 x185) 93 [[.bool r1],[.str p1],[.sl (List.map csS x185)]] (fun y0 r h=>Zji y0 r1 p1 x185 r h) _ h145) rfl rfl rfl (Zf ?_)
refine cS h rfl (fun h=>?_) fun h=>?_
refine rg ?_
refine bM csS ([e202.name]:List ByteArray) ?_
refine pR csS h fun l205 h=>?_
refine rg ?_
exact jn (true,l205) h (sR [(2,1,2),(3,1,3),(5,1,5),(6,1,6),(10,6,4)])
exact jn (x183,x185) h (sR [(2,1,2),(3,1,3),(5,1,5),(6,1,6),(10,1,10)])
obtain ⟨x200,x201⟩:=a
subst hk27
dsimp only at h ⊢
refine Zf ?_
refine rg ?_
exact rn (mf26,x200,(w64 (x184+1)),x201) h (sR [(2,1,2),(3,1,3),(5,1,5),(6,1,6),(10,1,10)])
exact rn (mf23,x183,x185) h (sR [(2,1,2),(3,1,3),(5,1,5),(6,1,6),(10,1,10)])
refine rg ?_
obtain ⟨r206,h147,h⟩:=bnd h
refine Zua (Zho _ _ h147) rfl rfl rfl (Zf ?_)
refine rg ?_
cases h
exact rQ}
end
end Go.Proofs.YtpdaeclbndpabaaGreatDoor
