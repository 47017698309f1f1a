/- ProjectOnly in worlds: whatever the lists and the numbers, the law returns true. -/
import Derived.Test.YtphibahplgmgfaaGreatDoorPB30
namespace Go.Proofs.YtphibahplgmgfaaGreatDoor
open VL Go.RowKit
set_option linter.unusedVariables false
theorem slr_len {α:Type} [Enc α] {w:World} {A:Option Addr} {n c:Nat} {xs:List α} (h:SlR w A n c xs):xs.length≤9223372036854775807:=by
 obtain ⟨h1,h2,h3,h4⟩:=h
 omega
theorem args3 {x:Ctx} {p0 p1 p2:PV} {v0 v1 v2:Value} (h0:Rep x p0 v0) (h1:Rep x p1 v1) (h2:Rep x p2 v2) (i:Nat) (p:PV) (v:Value)
  (hp : [p0,p1,p2][i]? = some p) (hv : #[v0,v1,v2][i]? = some v):Rep x p v:=by
 match i,hp,hv with
 | 0,hp,hv=>injection hp with hp;injection hv with hv;subst hp hv;exact h0
 | 1,hp,hv=>injection hp with hp;injection hv with hv;subst hp hv;exact h1
 | 2,hp,hv=>injection hp with hp;injection hv with hv;subst hp hv;exact h2
 | i+3,hp,_=>simp at hp
theorem projectOnly_any {A:Option Addr} {n c:Nat} {l:List Int} (i0 i1:Int) (W:World) (hl:SlR W A n c l) (hI:∀ W',Below W.heap.size W W'→WInv.I Tryz.prog W') :
  Calls Tryz.prog 6 #[.slice A n c,.int .i64 i0,.int .i64 i1] W fun e w'=>e = .returned (.bool true)∧Below W.heap.size W w':=
 calls_bool (w31_ProjectOnly_c l i0 i1 true (law_only l i0 i1 (slr_len hl))) rfl (args3 (sl_of_SlR hl) (.int _ _) (.int _ _)) hI
end Go.Proofs.YtphibahplgmgfaaGreatDoor
