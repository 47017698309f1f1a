/- ProjectOrder in worlds: whatever the list and the text, the law returns true. -/
import Derived.Test.YtphibahplgmgfaaGreatDoorPB30
namespace Go.Proofs.YtphibahplgmgfaaGreatDoor
open VL Go.RowKit
set_option linter.unusedVariables false
theorem slr_len {α:Type} [Enc α] {w:World} {A:Option Addr} {n c:Nat} {xs:List α} (h:SlR w A n c xs):xs.length≤9223372036854775807:=by
 obtain ⟨h1,h2,h3,h4⟩:=h
 omega
theorem args2s {x:Ctx} {p0 p1:PV} {v0 v1:Value} (h0:Rep x p0 v0) (h1:Rep x p1 v1) (i:Nat) (p:PV) (v:Value)
  (hp : [p0,p1][i]? = some p) (hv : #[v0,v1][i]? = some v):Rep x p v:=by
 match i,hp,hv with
 | 0,hp,hv=>injection hp with hp;injection hv with hv;subst hp hv;exact h0
 | 1,hp,hv=>injection hp with hp;injection hv with hv;subst hp hv;exact h1
 | i+2,hp,_=>simp at hp
theorem projectOrder_any {A:Option Addr} {n c:Nat} {l:List Int} (t:ByteArray) (W:World) (hl:SlR W A n c l) (hI:∀ W',Below W.heap.size W W'→WInv.I Tryz.prog W') :
  Calls Tryz.prog 9 #[.slice A n c,.string t] W fun e w'=>e = .returned (.bool true)∧Below W.heap.size W w':=
 calls_bool (w31_ProjectOrder_c l t true (law_order l t (slr_len hl))) rfl (args2s (sl_of_SlR hl) (.str _)) hI
end Go.Proofs.YtphibahplgmgfaaGreatDoor
