/- Functions of the program as Lean functions. Written by fxgen.py. | A function that hands back a copy of a slice of plain cells. No program is named. | strings.Compare, as the others are written. | Functions of the program as Lean functions. Written by fxgen.py. | Keys as the keys of maps. | strings.ContainsAny at two bytes; what a list is from a place on. | Where a byte stands in a text, as lists. No program is named. -/
import Derived.Test.YtpffimahajgiaaaGreatDoorVV11
import Derived.Test.YtpffimahajgiaaaGreatDoorVV12
import Derived.Test.YtpffimahajgiaaaGreatDoorVV03
import Derived.Test.YtpffimahajgiaaaGreatDoorVV06
import Derived.Test.YtpffimahajgiaaaGreatDoorVV02
import Derived.Lib.IndexAny
set_option linter.unusedVariables false
set_option maxHeartbeats 4000000
set_option maxRecDepth 100000
namespace Go.Proofs.YtpffimahajgiaaaGreatDoor
open VL Go.RowKit
def strings_Compare (a b:ByteArray):Option Int:=some (Lib.compareBytes a.data.toList b.data.toList)
theorem Zep (a b:ByteArray) (r:Int) (h:strings_Compare a b=some r):ZH Tryz.prog 99 [.str a,.str b] (.int .i64 r):=by
 unfold strings_Compare at h
 cases h
 exact Zal (vals:=[.string a,.string b]) (by kernel_rfl) rfl rfl (fun x=>.int _ _) fun w hw=>(Zju a b w).mono fun e w' ⟨h1,h2⟩=>⟨h1,by rw [← h2];exact Below.refl _ _⟩
end Go.Proofs.YtpffimahajgiaaaGreatDoor
namespace Go.Proofs.YtpffimahajgiaaaGreatDoor
open VL
def Zbr (p0:Int):Option Bool:=
 (some (!decide (p0=p0)):Option Bool)
theorem Zc6 (p0:Int) (r:Bool) (h:Zbr p0=some r):ZH Tryz.prog 98 [.int .i64 p0] (.bool r):=by
 refine cF (fun r=>.bool r) h mix Tryz.func98 fun r h=>?_
 unfold Zbr at h
 refine Zac ?_
 refine rg ?_
 refine rg ?_
 cases h
 exact rQ
def ZaM (p0:Int) (p1:Int):Option Int:=
 (Zbr p0).bind fun r1=>
 (Zbr p1).bind fun r2=>
 if r1 then
  if r2 then
   (some 0:Option Int)
  else
  (some (-1):Option Int)
 else
 if r2 then
  (some 1:Option Int)
 else
 if (decide (p0<p1)) then
  (some (-1):Option Int)
 else
 if (decide (p1<p0)) then
  (some 1:Option Int)
 else
 (some 0:Option Int)
theorem ZbB (p0:Int) (p1:Int) (r:Int) (h:ZaM p0 p1=some r):ZH Tryz.prog 48 [.int .i64 p0,.int .i64 p1] (.int .i64 r):=by
 refine cF (fun r=>.int .i64 r) h mix Tryz.func48 fun r h=>?_
 unfold ZaM at h
 refine Zac ?_
 refine rg ?_
 refine rg ?_
 refine aC h (Zc6 _) fun r1 h=>?_
 refine rg ?_
 refine aC h (Zc6 _) fun r2 h=>?_
 refine rg ?_
 refine cS h rfl (fun h=>?_) fun h=>?_
 ·refine rg ?_
  refine cS h rfl (fun h=>?_) fun h=>?_
  ·refine rg ?_
   cases h
   exact rQ
  refine rg ?_
  cases h
  exact rQ
 refine rg ?_
 refine cS h rfl (fun h=>?_) fun h=>?_
 ·refine rg ?_
  cases h
  exact rQ
 refine rg ?_
 refine cS h rfl (fun h=>?_) fun h=>?_
 ·refine rg ?_
  cases h
  exact rQ
 refine rg ?_
 refine cS h rfl (fun h=>?_) fun h=>?_
 ·refine rg ?_
  cases h
  exact rQ
 refine rg ?_
 cases h
 exact rQ
def ZbC (p0:List Int):Option Int:=
 Zbf Zdy (fun f2 (x10:Int)=>
  if (decide (x10<(p0.length:Int))) then
   (atI p0 x10).bind fun e14=>
   if (!decide (e14=0)) then
    (some e14:Option Int)
   else
   f2 (w64 (x10+1))
  else
  (some 0:Option Int)) 0
theorem ZeF (p0:List Int) (r:Int) (h:ZbC p0=some r):ZH Tryz.prog 47 [.sl (List.map csI p0)] (.int .i64 r):=by
 refine cF (fun r=>.int .i64 r) h mix Tryz.func47 fun r h=>?_
 unfold ZbC at h
 refine Zac ?_
 refine rg ?_
 refine rg ?_
 refine rg ?_
 refine lM csI p0 ?_
 refine bl ?_
 refine Zat h fun f2 mf2 hf2 h=>?_
 refine Zah (α:=Nat×Int) (fun a _=>mkS [(3,.int .i64 0),(6,.sl (List.map csI p0)),(7,.int .i64 (p0.length:Int)),(8,.int .i64 a.2)] [] 2) (fun a=>Zbf a.1 f2 a.2=some r) (fun a=>a.1) (mf2,0) 2 h (sR []) (fun a _ h=>?_)
 obtain ⟨mf2,x10⟩:=a
 obtain ⟨mf2,rfl,h⟩:=Zau hf2 h
 dsimp only at h ⊢
 refine Zac ?_
 refine rg ?_
 refine cS h rfl (fun h=>?_) fun h=>?_
 ·refine bl ?_
  refine rg ?_
  refine aI csI h fun e14 h=>?_
  refine rg ?_
  refine cS h rfl (fun h=>?_) fun h=>?_
  ·refine rg ?_
   cases h
   exact rQ
  refine rg ?_
  exact rn (mf2,(w64 (x10+1))) h (sR [])
 refine rg ?_
 cases h
 exact rQ
def Za1 (p0:Title) (p1:Title):Option Int:=
 (ZaM p0.space p1.space).bind fun r1=>
 (strings_Compare p0.name p1.name).bind fun r2=>
 (ZbC [r1,r2]).bind fun r3=>
 (some r3:Option Int)
theorem Zc7 (p0:Title) (p1:Title) (r:Int) (h:Za1 p0 p1=some r):ZH Tryz.prog 49 [p0.pv,p1.pv] (.int .i64 r):=by
 refine cF (fun r=>.int .i64 r) h mix Tryz.func49 fun r h=>?_
 unfold Za1 at h
 refine Zac ?_
 refine rg ?_
 refine rg ?_
 refine aC h (ZbB _ _) fun r1 h=>?_
 refine aC h (Zep _ _) fun r2 h=>?_
 refine bM csI ([r1,r2]:List Int) ?_
 refine aL h (ZeF _) fun r3 h=>?_
 cases h
 exact rQ
end Go.Proofs.YtpffimahajgiaaaGreatDoor
namespace Go.Proofs.YtpffimahajgiaaaGreatDoor
open VL Go.RowKit
theorem Zgz (em:Bool) (n:Nat) (a:Int) (W:World):(Instr.checkKey em (n+1) 3 (.int .i64 a)).run Tryz.prog W = .ok () W:=MapKept.run_checkKey (d:=.int .i64) Tryz.underlying3 (show MapKept.IsKey (.int .i64) (.int .i64 a) from rfl) em n
theorem ZlY (em:Bool) (n:Nat) (a:ByteArray) (W:World):(Instr.checkKey em (n+1) 9 (.string a)).run Tryz.prog W = .ok () W:=MapKept.run_checkKey (d:=.string) Tryz.underlying9 (show MapKept.IsKey .string (.string a) from trivial) em n
theorem Zia (em:Bool) (a:Title) (W:World):(Instr.checkKey em 9999 34 (.agg #[.int .i64 a.space,.string a.name])).run Tryz.prog W = .ok () W:=by
 unfold Instr.checkKey
 go_simp
 rw [Zgz em 9997,Result.andThen_ok,ZlY em 9997]
theorem ZlZ (em:Bool) (a:Key) (W:World):(Instr.checkKey em 10000 36 (.agg #[.int .i64 a.kind,.int .i64 a.title.space,.string a.title.name,.int .i64 a.n])).run Tryz.prog W = .ok () W:=by
 unfold Instr.checkKey
 go_simp
 rw [Zgz em 9998,Result.andThen_ok,Zia em a.title,Result.andThen_ok,Zgz em 9998]
instance:KeyE Tryz.prog 36 Key.pv (fun a=>[.int .i64 a.kind,.int .i64 a.title.space,.string a.title.name,.int .i64 a.n]) where
 desc:=⟨_,Tryz.underlying36⟩
 plain _:=rfl
 eq a b W:=by
  have h:=Zj3 a b W
  rw [run_eql_struct] at h
  show (Op.equalIn 10000 _ _ _).run _ _=_
  generalize (Op.equalIn 10000 36 _ _).run Tryz.prog W=R at h ⊢
  cases R with
  | ok v w=>
    simp only [Result.andThen_ok,Result.ok.injEq,Value.bool.injEq] at h
    rw [h.1,h.2]
  | halt v w=>simp [Result.andThen] at h
 check em a W:=ZlZ em a W
 stays a:=by
  have:(a.title.name == a.title.name)=true:=by rw [beq_toListBytes];simp
  simp [Instr.sameBits,this]
theorem Zet {α:Type} {L:List α} {i:Nat} {a:α} (h:L[i]? = some a):L.drop i=a::L.drop (i+1):=by
 have hlt:i<L.length:=(List.getElem?_eq_some_iff.1 h).1
 rw [List.drop_eq_getElem_cons hlt]
 rw [List.getElem?_eq_getElem hlt] at h
 injection h with h
 rw [h]
theorem Ziw (c:UInt8):∀ l:List UInt8,-1≤Lib.index l [c]∧(0≤Lib.index l [c]↔c ∈ l)
 | []=>by
   have:Lib.index [] [c] = -1:=rfl
   rw [this]
   exact ⟨by decide,fun h=>absurd h (by decide),fun h=>by cases h⟩
 | b::l=>by
   obtain ⟨h1,h2⟩:=Ziw c l
   unfold Lib.index
   have hp : [c].isPrefixOf (b::l)=(c == b):=by simp [List.isPrefixOf]
   rw [hp]
   by_cases hb:c=b
   ·subst hb
    simp
   ·have e:(c == b)=false:=by simpa using hb
    rw [e]
    simp only [Bool.false_eq_true,if_false]
    by_cases hi:Lib.index l [c] = -1
    ·rw [hi]
     have hn:c ∉ l:=fun h=>by have:=h2.2 h;omega
     simp [hb,hn]
    ·have e2:(Lib.index l [c] == -1)=false:=by simpa using hi
     rw [e2]
     have hm:c ∈ l:=h2.1 (by omega)
     simp only [Bool.false_eq_true,if_false]
     exact ⟨by omega,fun _=>List.mem_cons_of_mem _ hm,fun _=>by omega⟩
theorem ZgN (cs:List UInt8):∀ l:List UInt8,-1≤Lib.indexAny l cs∧(0≤Lib.indexAny l cs↔∃ b ∈ l,cs.contains b=true)
 | []=>by
   have:Lib.indexAny [] cs = -1:=rfl
   rw [this]
   exact ⟨by decide,fun h=>absurd h (by decide),fun ⟨b,h,_⟩=>by cases h⟩
 | b::l=>by
   obtain ⟨h1,h2⟩:=ZgN cs l
   unfold Lib.indexAny
   by_cases hb:cs.contains b=true
   ·rw [if_pos hb]
    exact ⟨by decide,fun _=>⟨b,List.mem_cons_self ..,hb⟩,fun _=>by decide⟩
   ·rw [if_neg hb]
    by_cases hi:Lib.indexAny l cs = -1
    ·rw [hi]
     have hn:¬ ∃ b ∈ l,cs.contains b=true:=fun h=>by have:=h2.2 h;omega
     refine ⟨by decide,fun h=>absurd h (by decide),fun ⟨x,hx,hc⟩=>?_⟩
     rcases List.mem_cons.1 hx with rfl | hx
     ·exact absurd hc hb
     ·exact absurd ⟨x,hx,hc⟩ hn
    ·have e2:(Lib.indexAny l cs == -1)=false:=by simpa using hi
     rw [e2]
     simp only [Bool.false_eq_true,if_false]
     obtain ⟨x,hx,hc⟩:=h2.1 (by omega)
     exact ⟨by omega,fun _=>⟨x,List.mem_cons_of_mem _ hx,hc⟩,fun _=>by omega⟩
end Go.Proofs.YtpffimahajgiaaaGreatDoor
