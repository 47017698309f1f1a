/- Functions of the program as Lean functions. Written by -/
import Derived.Test.YtmgfammllddkhaaGreatDoorCO12
set_option linter.unusedVariables false
set_option maxHeartbeats 4000000
set_option maxRecDepth 100000
namespace Go.Proofs.YtmgfammllddkhaaGreatDoor
section
open VL
def TJ (p0:Int):Q2 Bool:=some (!decide (p0=p0))
theorem o6 (p0:Int) (r:Bool) (h:TJ p0=some r):Zg Tryz.prog 70 [.int .i64 p0] (.bool r):=by{
refine cF (fun r=>.bool r) h mix Tryz.func70 fun r h=>?_
unfold TJ at h
refine Zj ?_
refine rg ?_
refine rg ?_
cases h
exact rQ}
def cmp_Compare_int (p0:Int) (p1:Int):Q2 Int:=(TJ p0).bind fun r1=>(TJ p1).bind fun r2=>if r1 then if r2 then some 0 else some (-1) else if r2 then some 1 else if decide (p0<p1) then some (-1) else if decide (p1<p0) then some 1 else some 0
theorem ZjJ (p0:Int) (p1:Int) (r:Int) (h:cmp_Compare_int p0 p1=some r):Zg Tryz.prog 35 [.int .i64 p0,.int .i64 p1] (.int .i64 r):=by{
refine cF (fun r=>.int .i64 r) h mix Tryz.func35 fun r h=>?_
unfold cmp_Compare_int at h
refine Zj ?_
refine rg ?_
refine rg ?_
refine aC h (o6 _) fun r1 h=>?_
refine rg ?_
refine aC h (o6 _) fun r2 h=>?_
refine rg ?_
refine cS h rfl (fun h=>?_) fun h=>?_
refine rg ?_
refine cS h rfl (fun h=>?_) fun h=>?_
refine rg ?_
cases h
exact rQ
refine rg ?_
cases h
exact rQ
refine rg ?_
refine cS h rfl (fun h=>?_) fun h=>?_
refine rg ?_
cases h
exact rQ
refine rg ?_
refine cS h rfl (fun h=>?_) fun h=>?_
refine rg ?_
cases h
exact rQ
refine rg ?_
refine cS h rfl (fun h=>?_) fun h=>?_
refine rg ?_
cases h
exact rQ
refine rg ?_
cases h
exact rQ}
def QF (p0:Q3 Int):Q2 Int:=A3 A9 (fun f2 (x10:Int)=>if decide (x10<(p0.length:Int)) then (atI p0 x10).bind fun e14=>if (!decide (e14=0)) then some e14 else f2 (w64 (x10+1)) else some 0) 0
theorem ZoV (p0:Q3 Int) (r:Int) (h:QF p0=some r):Zg Tryz.prog 34 [.sl (List.map csI p0)] (.int .i64 r):=by{
refine cF (fun r=>.int .i64 r) h mix Tryz.func34 fun r h=>?_
unfold QF at h
refine Zj ?_
refine rg ?_
refine rg ?_
refine rg ?_
refine lM csI p0 ?_
refine bl ?_
refine Zz h fun f2 mf2 hf2 h=>?_
refine Zu (α:=Nat×Int) (fun a _=>mkS [(3,.int .i64 0),(6,.sl (List.map csI p0)),(7,.int .i64 (p0.length:Int)),(8,.int .i64 a.2)] [] 2) (fun a=>A3 a.1 f2 a.2=some r) (fun a=>a.1) (mf2,0) 2 h (sR []) (fun a _ h=>?_)
obtain ⟨mf2,x10⟩:=a
obtain ⟨mf2,rfl,h⟩:=ZA hf2 h
dsimp only at h ⊢
refine Zj ?_
refine rg ?_
refine cS h rfl (fun h=>?_) fun h=>?_
refine bl ?_
refine rg ?_
refine aI csI h fun e14 h=>?_
refine rg ?_
refine cS h rfl (fun h=>?_) fun h=>?_
refine rg ?_
cases h
exact rQ
refine rg ?_
exact rn (mf2,(w64 (x10+1))) h (sR [])
refine rg ?_
cases h
exact rQ}
def TL (p0:Title) (p1:Title):Q2 Int:=(cmp_Compare_int p0.space p1.space).bind fun r1=>(strings_Compare p0.name p1.name).bind fun r2=>(QF [r1,r2]).bind fun r3=>some r3
theorem Zlz (p0:Title) (p1:Title) (r:Int) (h:TL p0 p1=some r):Zg Tryz.prog 36 [p0.pv,p1.pv] (.int .i64 r):=by{
refine cF (fun r=>.int .i64 r) h mix Tryz.func36 fun r h=>?_
unfold TL at h
refine Zj ?_
refine rg ?_
refine rg ?_
refine aC h (ZjJ _ _) fun r1 h=>?_
refine aC h (Zju _ _) fun r2 h=>?_
refine bM csI ([r1,r2]:Q3 Int) ?_
refine aL h (ZoV _) fun r3 h=>?_
cases h
exact rQ}
def M9 (p0:Memb) (p1:Memb):Q2 Int:=(TL p0.category p1.category).bind fun r1=>some r1
theorem X5 (p0:Memb) (p1:Memb) (r:Int) (h:M9 p0 p1=some r):Zg Tryz.prog 38 [p0.pv,p1.pv] (.int .i64 r):=by{
refine cF (fun r=>.int .i64 r) h mix Tryz.func38 fun r h=>?_
unfold M9 at h
refine Zj ?_
refine rg ?_
refine rg ?_
refine aC h (Zlz _ _) fun r1 h=>?_
cases h
exact rQ}
def TM (p0:Memb) (p1:Memb):Q2 Bool:=some (decide (p0.category=p1.category))
theorem o7 (p0:Memb) (p1:Memb) (r:Bool) (h:TM p0 p1=some r):Zg Tryz.prog 40 [p0.pv,p1.pv] (.bool r):=by{
refine cF (fun r=>.bool r) h mix Tryz.func40 fun r h=>?_
unfold TM at h
refine Zj ?_
refine rg ?_
refine rg ?_
refine LF (.inl rfl) rfl rfl rfl rfl rfl (fun W=>b9 p0.category p1.category W) (Zj ?_)
cases h
exact rQ}
end
end Go.Proofs.YtmgfammllddkhaaGreatDoor
