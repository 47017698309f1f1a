/- Functions of the program as Lean functions. Written by fxgen.py. | Strings as lists of bytes. | The tape's texts: they are made, and not long. -/
import Derived.Test.YtpffimahajgiaaaGreatDoorVV07
import Derived.Test.YtpffimahajgiaaaGreatDoorVV03
import Derived.Test.YtpffimahajgiaaaGreatDoorVV04
set_option linter.unusedVariables false
set_option maxHeartbeats 4000000
set_option maxRecDepth 100000
namespace Go.Proofs.YtpffimahajgiaaaGreatDoor
open VL Go.RowKit
theorem ZcZ {α:Type} {x:Option α} {v:α} (h:Tot x (fun r=>r=v)):x=some v:=by
 obtain ⟨w,h1,h2⟩:=h
 rw [h1,h2]
end Go.Proofs.YtpffimahajgiaaaGreatDoor
namespace Go.Proofs.YtpffimahajgiaaaGreatDoor
open VL
structure TapeF.ok (s:TapeF):Prop where
 len:s.l.length≤9223372036854775807
 pos:0≤s.pos
theorem Zoz (v:Int):∃ q:Nat,IntKind.i64.wrap (BitVec.ofInt 64 v &&& BitVec.ofInt 64 16777215).toNat=(q:Int)∧q≤16777215:=by
 have h:(BitVec.ofInt 64 v &&& BitVec.ofInt 64 16777215).toNat≤16777215:=by
  rw [BitVec.toNat_and]
  exact Nat.le_trans Nat.and_le_right (by decide)
 generalize (BitVec.ofInt 64 v &&& BitVec.ofInt 64 16777215).toNat=q at h
 refine ⟨q,?_,h⟩
 rw [IntKind.wrap_i64]
 omega
theorem Zaa (s:TapeF) (n:Int) (hs:s.ok) (h0:0<n):Tot (ZS s n) fun r=>(0≤r.1∧r.1<n)∧r.2.ok:=by
 have hl:=hs.len
 have hp:=hs.pos
 unfold ZS
 refine ZK (fun _=>ZU ⟨⟨Int.le_refl _,h0⟩,hs⟩) fun h=>?_
 refine ZaX hp (by omega) fun e _ _=>?_
 refine ZlX (by omega) ?_
 obtain ⟨q,hq,_⟩:=Zoz e
 have e1:Zoa .and .i64 e 16777215=(q:Int):=hq
 rw [e1]
 refine ZU ⟨⟨Int.tmod_nonneg n (by omega),Int.tmod_lt_of_pos _ h0⟩,⟨hl,?_⟩⟩
 show 0≤w64 (s.pos+1)
 rw [ZaT (by omega) (by omega)]
 omega
theorem Znf {n:Nat} (s:TapeF) (L:List ByteArray) (hs:s.ok) (h0:0<L.length) (h:∀ x ∈ L,x.size≤n):Tot (ZW s L) fun r=>r.1.size≤n∧r.2.ok:=by
 unfold ZW
 refine ZG (Zaa s _ hs (by omega)) fun r hr=>?_
 exact ZaX hr.1.1 hr.1.2 fun e he _=>ZU ⟨h e he,hr.2⟩
theorem Zl7 (s:TapeF) (L:List ByteArray) (hs:s.ok) (h:(decide (0<L.length)&&L.all fun x=>decide (x.size≤30))=true):Tot (ZW s L) fun r=>r.1.size≤30∧r.2.ok:=by
 rw [Bool.and_eq_true] at h
 exact Znf s L hs (of_decide_eq_true h.1) fun x hx=>of_decide_eq_true (List.all_eq_true.1 h.2 x hx)
theorem Zmv (s:TapeF) (hs:s.ok):Tot (ZaZ s) fun r=>r.1.size≤10∧r.2.ok:=by
 unfold ZaZ ZW
 refine ZG (Q:=fun r=>r.1.size≤10∧r.2.ok) (ZG (Zaa s _ hs (by decide)) fun r hr=>ZaX hr.1.1 hr.1.2 fun e he _=>ZU ⟨?_,hr.2⟩) fun r hr=>ZU hr
 have h:∀ x ∈ [(⟨#[97]⟩:ByteArray),(⟨#[120,32,121]⟩:ByteArray),(⟨#[49,50]⟩:ByteArray),(⟨#[]⟩:ByteArray),(⟨#[98]⟩:ByteArray),(⟨#[48]⟩:ByteArray),(⟨#[45,51]⟩:ByteArray),(⟨#[65,98]⟩:ByteArray),(⟨#[32]⟩:ByteArray),(⟨#[122]⟩:ByteArray)],x.size≤10:=by decide
 exact h e he
theorem ZoP {β:Type} {a b:ByteArray} {n m:Nat} {f:ByteArray→Option β} {R:β→Prop} (ha:a.size≤n) (hb:b.size≤m) (h:n+m≤1000000) (k:(a++b).size≤n+m→Tot (f (a++b)) R):Tot ((ZaW a b).bind f) R:=
 Zb4 (by omega) fun hz=>k (by omega)
end Go.Proofs.YtpffimahajgiaaaGreatDoor
