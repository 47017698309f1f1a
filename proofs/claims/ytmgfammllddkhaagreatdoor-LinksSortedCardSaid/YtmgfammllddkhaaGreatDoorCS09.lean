/- The parser's text: it is joined to the text before it, or a node is appended. | The parser's pop, open, bar and equal. | The parser's bar and equal. | The parser's nodes. | What is taken off the parser's stack: the call, and the element made plain. No program is named. | Braces that close: the top's rows made plain with the node that is made of them. No program is named. | The parser's closeLink and flatten. | The parser's lastBrace and closeTag. | The parser's closeTag. | The parser's closeBraces. -/
import Derived.Test.YtmgfammllddkhaaGreatDoorCS08
import Derived.Test.YtmgfammllddkhaaGreatDoorCS02
import Derived.Test.YtmgfammllddkhaaGreatDoorCS07
namespace Go.Proofs.YtmgfammllddkhaaGreatDoor
open VL
theorem Zcs {α:Type} (l:List α) (a:α):(l ++ [a]).length=l.length+1:=by simp
set_option maxRecDepth 100000 in
set_option maxHeartbeats 1000000 in
theorem Zpp (e:El) (r:List El):PC 102 [.str ⟨#[]⟩] e r (.tup []) e r:=by
 refine Zz mix Tryz.func102 (by kernel_rfl) rfl (by kernel_rfl) ?_
 rw [ZbZ]
 repeat (first | (refine Zr rfl rfl ?_) | refine Zn rfl (by (conv=>lhs;whnf);try rfl) ?_ | refine Zh2 rfl rfl rfl rfl (by (conv=>lhs;whnf);try rfl) ?_ | refine Zc ?_ | refine Zh ?_ | refine Za ?_ | refine Zba ?_)
 exact Zbt (.inl rfl) νa [] [] rfl rfl trivial rfl rfl
set_option maxRecDepth 100000 in
set_option maxHeartbeats 1000000 in
theorem Zn6 (e:El) (r:List El) (s:ByteArray) (h0:s≠⟨#[]⟩) (hs:small e r) (l':List (List PV)) (ha:e.args=none) (h63:e.list.length≤9223372036854775807) (hR:ZlR e.list s=some l'):PC 102 [.str s] e r (.tup []) ⟨e.kind,e.tag,e.count,l',e.args⟩ r:=by
 refine Zz mix Tryz.func102 (by kernel_rfl) rfl (by kernel_rfl) ?_
 rw [ZbZ]
 have h:e.kind≠3∨e.args=none:=.inr ha
 obtain ⟨kind,tag,count,list,args⟩:=e
 obtain rfl:args=none:=ha
 simp only [] at h63
 repeat (first | refine Zn rfl (by (conv=>lhs;whnf);try rfl) ?_ | refine Zh2 rfl rfl rfl rfl (by (conv=>lhs;whnf);try rfl) ?_ | refine Zc ?_ | refine Zh ?_ | refine Za ?_)
 rw [decide_eq_false h0]
 rcases Ze2 hR with ⟨hl,hR⟩ | ⟨init,n,hl,⟨hk,y,hy,rfl⟩ | ⟨hk,hR⟩⟩
 ·obtain ⟨h1,h2,rfl⟩:=Zc4 hR
  dsimp only at hl
  subst hl
  repeat (first | (refine Zg rfl rfl ?_) | (refine Zac [] νa (Zdo _ r hs.1) rfl rfl rfl rfl rfl rfl ?_) | (refine ZbK [] νa (ZbD _ h hs.2) rfl rfl rfl rfl rfl ?_) | (refine Zbb rfl rfl rfl rfl h1 h2 (by rfl) ?_) | (refine Zat (n:=List.length ([]:List (List PV))) rfl rfl rfl rfl (by simp) ?_) | (refine ZbL rfl rfl rfl (Zbl _ _) rfl rfl rfl rfl (Nat.le_of_ble_eq_true rfl) rfl (ZbU _ _ _) ?_) | (refine ZN rfl ?_) | refine Zn rfl (by (conv=>lhs;whnf);try rfl) ?_ | refine ZB rfl rfl rfl ?_ | refine Zp rfl (by (conv=>lhs;whnf);try rfl) ?_ | refine ZT rfl rfl rfl rfl (by (conv=>lhs;whnf);try rfl) ?_ | refine ZaA rfl rfl ?_ | refine ZgR rfl rfl ?_ | refine ZaH rfl rfl rfl (by (conv=>lhs;whnf);try rfl) (by (conv=>lhs;whnf);try rfl) (by rfl) (by rfl) (Nat.le_of_ble_eq_true rfl) (by (conv=>lhs;whnf);try rfl) ?_ | refine Zbr rfl rfl ?_ | refine Zae rfl rfl rfl (by rfl) (by decide) (by (conv=>lhs;whnf);try rfl) ?_ | refine ZaU rfl rfl (by (conv=>lhs;whnf);try rfl) ?_ | refine Zc ?_ | refine Zb9 (by kernel_rfl) ?_ | refine Zh ?_ | refine Za ?_ | refine ZA ?_ | refine Zx ?_)
  exact ZdQ (.inr rfl) (0,0) (0,1000) (fun k=>if k=1002 then (5,7) else νa k) νa [_,_,_,_] [] rfl rfl trivial rfl rfl (Zk rfl (Zk rfl (Zk rfl (ZP _)))) rfl rfl
 ·dsimp only at hl
  subst hl
  rw [Zcs] at h63
  obtain ⟨k0,t0,s0,ks,ag⟩:=n
  dsimp only at hk hy
  subst hk
  repeat (first | (refine Zg rfl rfl ?_) | (refine Zac [] νa (Zdo _ r hs.1) rfl rfl rfl rfl rfl rfl ?_) | (refine ZbK [] νa (ZbD _ h hs.2) rfl rfl rfl rfl rfl ?_) | (refine Za6 rfl rfl (Zcs _ _) ?_) | refine Zn rfl (by (conv=>lhs;whnf);try rfl) ?_ | refine ZB rfl rfl rfl ?_ | refine Zp rfl (by (conv=>lhs;whnf);try rfl) ?_ | refine ZT rfl rfl rfl rfl (by (conv=>lhs;whnf);try rfl) ?_ | refine ZaA rfl rfl ?_ | refine Zc ?_ | refine Zh ?_ | refine Za ?_ | refine ZA ?_)
  rw [show decide ((0:Int)<((init.length+1:Nat):Int))=true from decide_eq_true (by omega)]
  repeat (first | (refine Zr rfl rfl ?_) | (refine Zf8 rfl rfl rfl (by omega) ?_) | (refine Zat (n:=init.length) rfl rfl rfl rfl (by simp) ?_) | (refine ZfQ rfl rfl rfl (Zbl _ _) rfl ?_) | (refine Zng rfl hy rfl rfl ?_) | (refine ZbL rfl rfl rfl (Zbl _ _) rfl rfl rfl rfl (Nat.le_of_ble_eq_true rfl) rfl (ZbU _ _ _) ?_) | refine Zn rfl (by (conv=>lhs;whnf);try rfl) ?_ | refine ZB rfl rfl rfl ?_ | refine Zi rfl rfl ?_ | refine ZT rfl rfl rfl rfl (by (conv=>lhs;whnf);try rfl) ?_ | refine ZaA rfl rfl ?_ | refine ZaU rfl rfl (by (conv=>lhs;whnf);try rfl) ?_ | refine Zc ?_ | refine Zh ?_ | refine Za ?_ | refine Zba ?_)
  exact ZdQ (.inl rfl) (0,0) (0,1000) νa νa [_] [] rfl rfl trivial rfl rfl (Zk rfl (Zk rfl (Zk rfl (ZP _)))) rfl rfl
 ·obtain ⟨h1,h2,rfl⟩:=Zc4 hR
  dsimp only at hl
  subst hl
  rw [Zcs] at h63
  repeat (first | (refine Zg rfl rfl ?_) | (refine Zac [] νa (Zdo _ r hs.1) rfl rfl rfl rfl rfl rfl ?_) | (refine ZbK [] νa (ZbD _ h hs.2) rfl rfl rfl rfl rfl ?_) | (refine Za6 rfl rfl (Zcs _ _) ?_) | refine Zn rfl (by (conv=>lhs;whnf);try rfl) ?_ | refine ZB rfl rfl rfl ?_ | refine Zp rfl (by (conv=>lhs;whnf);try rfl) ?_ | refine ZT rfl rfl rfl rfl (by (conv=>lhs;whnf);try rfl) ?_ | refine ZaA rfl rfl ?_ | refine Zc ?_ | refine Zh ?_ | refine Za ?_ | refine ZA ?_)
  rw [show decide ((0:Int)<((init.length+1:Nat):Int))=true from decide_eq_true (by omega)]
  repeat (first | (refine Zf8 rfl rfl rfl (by omega) ?_) | (refine Zat (n:=init.length) rfl rfl rfl rfl (by simp) ?_) | (refine ZfQ rfl rfl rfl (Zbl _ _) rfl ?_) | refine Zn rfl (by (conv=>lhs;whnf);try rfl) ?_ | refine ZB rfl rfl rfl ?_ | refine Zi rfl rfl ?_ | refine ZT rfl rfl rfl rfl (by (conv=>lhs;whnf);try rfl) ?_ | refine ZaA rfl rfl ?_ | refine ZaU rfl rfl (by (conv=>lhs;whnf);try rfl) ?_ | refine Zc ?_)
  rw [decide_eq_false hk]
  repeat (first | (refine Zg rfl rfl ?_) | (refine Zbb rfl rfl rfl rfl h1 h2 (by rfl) ?_) | (refine Zat (n:=List.length (init ++ [Node.cs n])) rfl rfl rfl rfl (by simp) ?_) | (refine ZbL rfl rfl rfl (Zbl _ _) rfl rfl rfl rfl (Nat.le_of_ble_eq_true rfl) rfl (ZbU _ _ _) ?_) | refine Zn rfl (by (conv=>lhs;whnf);try rfl) ?_ | refine ZB rfl rfl rfl ?_ | refine ZaA rfl rfl ?_ | refine ZgR rfl rfl ?_ | refine ZaH rfl rfl rfl (by (conv=>lhs;whnf);try rfl) (by (conv=>lhs;whnf);try rfl) (by rfl) (by rfl) (Nat.le_of_ble_eq_true rfl) (by (conv=>lhs;whnf);try rfl) ?_ | refine Zbr rfl rfl ?_ | refine Zae rfl rfl rfl (by rfl) (by decide) (by (conv=>lhs;whnf);try rfl) ?_ | refine Zb9 (by kernel_rfl) ?_ | refine Za ?_ | refine ZA ?_ | refine Zx ?_)
  exact ZdQ (.inr rfl) (0,0) (0,1000) (fun k=>if k=1002 then (5,7) else νa k) νa [_,_,_,_] [] rfl rfl trivial rfl rfl (Zk rfl (Zk rfl (Zk rfl (ZP _)))) rfl rfl
set_option maxRecDepth 100000 in
set_option maxHeartbeats 1000000 in
theorem Zn7 (e:El) (r:List El) (s:ByteArray) (h0:s≠⟨#[]⟩) (hs:small e r) (l':List (List PV)) (h:e.kind≠3∨e.args=none) (ha:e.args≠none) (h63:e.list.length≤9223372036854775807) (hR:ZlR e.list s=some l'):PC 102 [.str s] e r (.tup []) ⟨e.kind,e.tag,e.count,l',e.args⟩ r:=by
 refine Zz mix Tryz.func102 (by kernel_rfl) rfl (by kernel_rfl) ?_
 rw [ZbZ]
 obtain ⟨kind,tag,count,list,args⟩:=e
 rcases args with _ | ⟨pre,a⟩
 ·exact absurd rfl ha
 simp only [] at h63
 repeat (first | refine Zn rfl (by (conv=>lhs;whnf);try rfl) ?_ | refine Zh2 rfl rfl rfl rfl (by (conv=>lhs;whnf);try rfl) ?_ | refine Zc ?_ | refine Zh ?_ | refine Za ?_)
 rw [decide_eq_false h0]
 rcases Ze2 hR with ⟨hl,hR⟩ | ⟨init,n,hl,⟨hk,y,hy,rfl⟩ | ⟨hk,hR⟩⟩
 ·obtain ⟨h1,h2,rfl⟩:=Zc4 hR
  dsimp only at hl
  subst hl
  repeat (first | (refine Zg rfl rfl ?_) | (refine Zac [] νa (Zdo _ r hs.1) rfl rfl rfl rfl rfl rfl ?_) | (refine ZbK [] νa (ZbD _ h hs.2) rfl rfl rfl rfl rfl ?_) | (refine Zbb rfl rfl rfl rfl h1 h2 (by rfl) ?_) | (refine Zat (n:=List.length ([]:List (List PV))) rfl rfl rfl rfl (by simp) ?_) | (refine ZbL rfl rfl rfl (Zbl _ _) rfl rfl rfl rfl (Nat.le_of_ble_eq_true rfl) rfl (ZbU _ _ _) ?_) | (refine ZN rfl ?_) | refine Zn rfl (by (conv=>lhs;whnf);try rfl) ?_ | refine ZB rfl rfl rfl ?_ | refine Zp rfl (by (conv=>lhs;whnf);try rfl) ?_ | refine ZT rfl rfl rfl rfl (by (conv=>lhs;whnf);try rfl) ?_ | refine ZaA rfl rfl ?_ | refine ZgR rfl rfl ?_ | refine ZaH rfl rfl rfl (by (conv=>lhs;whnf);try rfl) (by (conv=>lhs;whnf);try rfl) (by rfl) (by rfl) (Nat.le_of_ble_eq_true rfl) (by (conv=>lhs;whnf);try rfl) ?_ | refine Zbr rfl rfl ?_ | refine Zae rfl rfl rfl (by rfl) (by decide) (by (conv=>lhs;whnf);try rfl) ?_ | refine ZaU rfl rfl (by (conv=>lhs;whnf);try rfl) ?_ | refine Zc ?_ | refine Zb9 (by kernel_rfl) ?_ | refine Zh ?_ | refine Za ?_ | refine ZA ?_ | refine Zx ?_)
  exact ZdQ (.inr rfl) (0,0) (0,1000) (fun k=>if k=1002 then (5,7) else νa k) νa [_,_,_,_] [] rfl rfl trivial rfl rfl (Zk rfl (Zk rfl (Zk rfl (Zk rfl (ZP _))))) rfl rfl
 ·dsimp only at hl
  subst hl
  rw [Zcs] at h63
  obtain ⟨k0,t0,s0,ks,ag⟩:=n
  dsimp only at hk hy
  subst hk
  repeat (first | (refine Zg rfl rfl ?_) | (refine Zac [] νa (Zdo _ r hs.1) rfl rfl rfl rfl rfl rfl ?_) | (refine ZbK [] νa (ZbD _ h hs.2) rfl rfl rfl rfl rfl ?_) | (refine Za6 rfl rfl (Zcs _ _) ?_) | refine Zn rfl (by (conv=>lhs;whnf);try rfl) ?_ | refine ZB rfl rfl rfl ?_ | refine Zp rfl (by (conv=>lhs;whnf);try rfl) ?_ | refine ZT rfl rfl rfl rfl (by (conv=>lhs;whnf);try rfl) ?_ | refine ZaA rfl rfl ?_ | refine Zc ?_ | refine Zh ?_ | refine Za ?_ | refine ZA ?_)
  rw [show decide ((0:Int)<((init.length+1:Nat):Int))=true from decide_eq_true (by omega)]
  repeat (first | (refine Zr rfl rfl ?_) | (refine Zf8 rfl rfl rfl (by omega) ?_) | (refine Zat (n:=init.length) rfl rfl rfl rfl (by simp) ?_) | (refine ZfQ rfl rfl rfl (Zbl _ _) rfl ?_) | (refine Zng rfl hy rfl rfl ?_) | (refine ZbL rfl rfl rfl (Zbl _ _) rfl rfl rfl rfl (Nat.le_of_ble_eq_true rfl) rfl (ZbU _ _ _) ?_) | refine Zn rfl (by (conv=>lhs;whnf);try rfl) ?_ | refine ZB rfl rfl rfl ?_ | refine Zi rfl rfl ?_ | refine ZT rfl rfl rfl rfl (by (conv=>lhs;whnf);try rfl) ?_ | refine ZaA rfl rfl ?_ | refine ZaU rfl rfl (by (conv=>lhs;whnf);try rfl) ?_ | refine Zc ?_ | refine Zh ?_ | refine Za ?_ | refine Zba ?_)
  exact ZdQ (.inl rfl) (0,0) (0,1000) νa νa [_] [] rfl rfl trivial rfl rfl (Zk rfl (Zk rfl (Zk rfl (Zk rfl (ZP _))))) rfl rfl
 ·obtain ⟨h1,h2,rfl⟩:=Zc4 hR
  dsimp only at hl
  subst hl
  rw [Zcs] at h63
  repeat (first | (refine Zg rfl rfl ?_) | (refine Zac [] νa (Zdo _ r hs.1) rfl rfl rfl rfl rfl rfl ?_) | (refine ZbK [] νa (ZbD _ h hs.2) rfl rfl rfl rfl rfl ?_) | (refine Za6 rfl rfl (Zcs _ _) ?_) | refine Zn rfl (by (conv=>lhs;whnf);try rfl) ?_ | refine ZB rfl rfl rfl ?_ | refine Zp rfl (by (conv=>lhs;whnf);try rfl) ?_ | refine ZT rfl rfl rfl rfl (by (conv=>lhs;whnf);try rfl) ?_ | refine ZaA rfl rfl ?_ | refine Zc ?_ | refine Zh ?_ | refine Za ?_ | refine ZA ?_)
  rw [show decide ((0:Int)<((init.length+1:Nat):Int))=true from decide_eq_true (by omega)]
  repeat (first | (refine Zf8 rfl rfl rfl (by omega) ?_) | (refine Zat (n:=init.length) rfl rfl rfl rfl (by simp) ?_) | (refine ZfQ rfl rfl rfl (Zbl _ _) rfl ?_) | refine Zn rfl (by (conv=>lhs;whnf);try rfl) ?_ | refine ZB rfl rfl rfl ?_ | refine Zi rfl rfl ?_ | refine ZT rfl rfl rfl rfl (by (conv=>lhs;whnf);try rfl) ?_ | refine ZaA rfl rfl ?_ | refine ZaU rfl rfl (by (conv=>lhs;whnf);try rfl) ?_ | refine Zc ?_)
  rw [decide_eq_false hk]
  repeat (first | (refine Zg rfl rfl ?_) | (refine Zbb rfl rfl rfl rfl h1 h2 (by rfl) ?_) | (refine Zat (n:=List.length (init ++ [Node.cs n])) rfl rfl rfl rfl (by simp) ?_) | (refine ZbL rfl rfl rfl (Zbl _ _) rfl rfl rfl rfl (Nat.le_of_ble_eq_true rfl) rfl (ZbU _ _ _) ?_) | refine Zn rfl (by (conv=>lhs;whnf);try rfl) ?_ | refine ZB rfl rfl rfl ?_ | refine ZaA rfl rfl ?_ | refine ZgR rfl rfl ?_ | refine ZaH rfl rfl rfl (by (conv=>lhs;whnf);try rfl) (by (conv=>lhs;whnf);try rfl) (by rfl) (by rfl) (Nat.le_of_ble_eq_true rfl) (by (conv=>lhs;whnf);try rfl) ?_ | refine Zbr rfl rfl ?_ | refine Zae rfl rfl rfl (by rfl) (by decide) (by (conv=>lhs;whnf);try rfl) ?_ | refine Zb9 (by kernel_rfl) ?_ | refine Za ?_ | refine ZA ?_ | refine Zx ?_)
  exact ZdQ (.inr rfl) (0,0) (0,1000) (fun k=>if k=1002 then (5,7) else νa k) νa [_,_,_,_] [] rfl rfl trivial rfl rfl (Zk rfl (Zk rfl (Zk rfl (Zk rfl (ZP _))))) rfl rfl
set_option maxRecDepth 100000 in
set_option maxHeartbeats 1000000 in
theorem Zrs (tag count:Int) (list:List (List PV)) (pre:List Arg) (a:Arg) (r:List El) (s:ByteArray) (h0:s≠⟨#[]⟩) (hs:small ⟨3,tag,count,list,some (pre,a)⟩ r) (l':List (List PV)) (h63:a.value.length≤9223372036854775807) (hR:ZlR a.value s=some l') :
  PC 102 [.str s] ⟨3,tag,count,list,some (pre,a)⟩ r (.tup []) ⟨3,tag,count,list,some (pre,⟨a.named,a.name,l'⟩)⟩ r:=by
 refine Zz mix Tryz.func102 (by kernel_rfl) rfl (by kernel_rfl) ?_
 rw [ZbZ]
 obtain ⟨named,name,value⟩:=a
 dsimp only at h63 hR ⊢
 repeat (first | refine Zn rfl (by (conv=>lhs;whnf);try rfl) ?_ | refine Zh2 rfl rfl rfl rfl (by (conv=>lhs;whnf);try rfl) ?_ | refine Zc ?_ | refine Zh ?_ | refine Za ?_)
 rw [decide_eq_false h0]
 rcases Ze2 hR with ⟨hl,hR⟩ | ⟨init,n,hl,⟨hk,y,hy,rfl⟩ | ⟨hk,hR⟩⟩
 ·obtain ⟨h1,h2,rfl⟩:=Zc4 hR
  subst hl
  repeat (first | (refine Zg rfl rfl ?_) | (refine Zac [] νa (Zdo _ r hs.1) rfl rfl rfl rfl rfl rfl ?_) | (refine ZbK [] νa (Zfe _ _ _ _ _ (hs.2 _ rfl)) rfl rfl rfl rfl rfl ?_) | (refine Ziv rfl rfl ?_) | (refine ZcB rfl rfl rfl (ZaX _ _ _ _) rfl ?_) | (refine Zbb rfl rfl rfl rfl h1 h2 (by rfl) ?_) | (refine Zat (n:=List.length ([]:List (List PV))) rfl rfl rfl rfl (by simp) ?_) | (refine ZbL rfl rfl rfl (Zbl _ _) rfl rfl rfl rfl (Nat.le_of_ble_eq_true rfl) rfl (ZbU _ _ _) ?_) | (refine Zin rfl rfl rfl (ZaX _ _ _ _) rfl rfl rfl rfl (Nat.le_of_ble_eq_true rfl) (Zf5 _ _ _ _ _) ?_) | (refine ZN rfl ?_) | refine Zn rfl (by (conv=>lhs;whnf);try rfl) ?_ | refine Zp rfl (by (conv=>lhs;whnf);try rfl) ?_ | refine ZT rfl rfl rfl rfl (by (conv=>lhs;whnf);try rfl) ?_ | refine ZgR rfl rfl ?_ | refine Zbr rfl rfl ?_ | refine Zae rfl rfl rfl (by rfl) (by decide) (by (conv=>lhs;whnf);try rfl) ?_ | refine ZaU rfl rfl (by (conv=>lhs;whnf);try rfl) ?_ | refine Zc ?_ | refine Zb9 (by kernel_rfl) ?_ | refine Zh ?_ | refine Za ?_ | refine ZA ?_ | refine Zx ?_)
  exact ZdQ (.inr rfl) (0,0) (0,1000) (fun k=>if k=1004 then (5,7) else νa k) νa [_,_,_,_] [] rfl rfl trivial rfl rfl (Zk rfl (Zk rfl (Zk rfl (Zk rfl (ZP _))))) rfl rfl
 ·skip
  subst hl
  rw [Zcs] at h63
  obtain ⟨k0,t0,s0,ks,ag⟩:=n
  dsimp only at hk hy
  subst hk
  repeat (first | (refine Zg rfl rfl ?_) | (refine Zac [] νa (Zdo _ r hs.1) rfl rfl rfl rfl rfl rfl ?_) | (refine ZbK [] νa (Zfe _ _ _ _ _ (hs.2 _ rfl)) rfl rfl rfl rfl rfl ?_) | (refine Ziv rfl rfl ?_) | (refine ZcB rfl rfl rfl (ZaX _ _ _ _) rfl ?_) | (refine Za6 rfl rfl (Zcs _ _) ?_) | refine Zn rfl (by (conv=>lhs;whnf);try rfl) ?_ | refine Zp rfl (by (conv=>lhs;whnf);try rfl) ?_ | refine ZT rfl rfl rfl rfl (by (conv=>lhs;whnf);try rfl) ?_ | refine Zc ?_ | refine Zh ?_ | refine Za ?_ | refine ZA ?_)
  rw [show decide ((0:Int)<((init.length+1:Nat):Int))=true from decide_eq_true (by omega)]
  repeat (first | (refine Ziv rfl rfl ?_) | (refine ZcB rfl rfl rfl (ZaX _ _ _ _) rfl ?_) | (refine Zr rfl rfl ?_) | (refine Zf8 rfl rfl rfl (by omega) ?_) | (refine Zat (n:=init.length) rfl rfl rfl rfl (by simp) ?_) | (refine ZfQ rfl rfl rfl (Zbl _ _) rfl ?_) | (refine Zng rfl hy rfl rfl ?_) | (refine ZbL rfl rfl rfl (Zbl _ _) rfl rfl rfl rfl (Nat.le_of_ble_eq_true rfl) rfl (ZbU _ _ _) ?_) | refine Zn rfl (by (conv=>lhs;whnf);try rfl) ?_ | refine Zi rfl rfl ?_ | refine ZT rfl rfl rfl rfl (by (conv=>lhs;whnf);try rfl) ?_ | refine ZaU rfl rfl (by (conv=>lhs;whnf);try rfl) ?_ | refine Zc ?_ | refine Zh ?_ | refine Za ?_ | refine Zba ?_)
  exact ZdQ (.inl rfl) (0,0) (0,1000) νa νa [_] [] rfl rfl trivial rfl rfl (Zk rfl (Zk rfl (Zk rfl (Zk rfl (ZP _))))) rfl rfl
 ·obtain ⟨h1,h2,rfl⟩:=Zc4 hR
  subst hl
  rw [Zcs] at h63
  repeat (first | (refine Zg rfl rfl ?_) | (refine Zac [] νa (Zdo _ r hs.1) rfl rfl rfl rfl rfl rfl ?_) | (refine ZbK [] νa (Zfe _ _ _ _ _ (hs.2 _ rfl)) rfl rfl rfl rfl rfl ?_) | (refine Ziv rfl rfl ?_) | (refine ZcB rfl rfl rfl (ZaX _ _ _ _) rfl ?_) | (refine Za6 rfl rfl (Zcs _ _) ?_) | refine Zn rfl (by (conv=>lhs;whnf);try rfl) ?_ | refine Zp rfl (by (conv=>lhs;whnf);try rfl) ?_ | refine ZT rfl rfl rfl rfl (by (conv=>lhs;whnf);try rfl) ?_ | refine Zc ?_ | refine Zh ?_ | refine Za ?_ | refine ZA ?_)
  rw [show decide ((0:Int)<((init.length+1:Nat):Int))=true from decide_eq_true (by omega)]
  repeat (first | (refine Ziv rfl rfl ?_) | (refine ZcB rfl rfl rfl (ZaX _ _ _ _) rfl ?_) | (refine Zf8 rfl rfl rfl (by omega) ?_) | (refine Zat (n:=init.length) rfl rfl rfl rfl (by simp) ?_) | (refine ZfQ rfl rfl rfl (Zbl _ _) rfl ?_) | refine Zn rfl (by (conv=>lhs;whnf);try rfl) ?_ | refine Zi rfl rfl ?_ | refine ZT rfl rfl rfl rfl (by (conv=>lhs;whnf);try rfl) ?_ | refine ZaU rfl rfl (by (conv=>lhs;whnf);try rfl) ?_ | refine Zc ?_)
  rw [decide_eq_false hk]
  repeat (first | (refine Zg rfl rfl ?_) | (refine Ziv rfl rfl ?_) | (refine ZcB rfl rfl rfl (ZaX _ _ _ _) rfl ?_) | (refine Zbb rfl rfl rfl rfl h1 h2 (by rfl) ?_) | (refine Zat (n:=List.length (init ++ [Node.cs n])) rfl rfl rfl rfl (by simp) ?_) | (refine ZbL rfl rfl rfl (Zbl _ _) rfl rfl rfl rfl (Nat.le_of_ble_eq_true rfl) rfl (ZbU _ _ _) ?_) | (refine Zin rfl rfl rfl (ZaX _ _ _ _) rfl rfl rfl rfl (Nat.le_of_ble_eq_true rfl) (Zf5 _ _ _ _ _) ?_) | refine Zn rfl (by (conv=>lhs;whnf);try rfl) ?_ | refine ZgR rfl rfl ?_ | refine Zbr rfl rfl ?_ | refine Zae rfl rfl rfl (by rfl) (by decide) (by (conv=>lhs;whnf);try rfl) ?_ | refine Zb9 (by kernel_rfl) ?_ | refine Za ?_ | refine ZA ?_ | refine Zx ?_)
  exact ZdQ (.inr rfl) (0,0) (0,1000) (fun k=>if k=1004 then (5,7) else νa k) νa [_,_,_,_] [] rfl rfl trivial rfl rfl (Zk rfl (Zk rfl (Zk rfl (Zk rfl (ZP _))))) rfl rfl
theorem ZbQ (e:El) (r:List El) (s:ByteArray) (hs:small e r) (h63:e.cur.length≤9223372036854775807) (e':El) (h:Zby e s=some e'):PC 102 [.str s] e r (.tup []) e' r:=by
 unfold Zby at h
 split at h
 ·rename_i h0
  injection h with h
  subst h0 h
  exact Zpp e r
 ·rename_i h0
  obtain ⟨l',hR,rfl⟩:=Option.map_eq_some_iff.1 h
  obtain ⟨kind,tag,count,list,args⟩:=e
  rcases args with _ | ⟨pre,a⟩
  ·exact Zn6 _ r s h0 hs l' rfl h63 hR
  ·by_cases hk:kind=3
   ·subst hk
    exact Zrs tag count list pre a r s h0 hs l' h63 hR
   ·have e1:VL.El.cur ⟨kind,tag,count,list,some (pre,a)⟩=list:=if_neg hk
    have e2:VL.El.setCur ⟨kind,tag,count,list,some (pre,a)⟩ l'=⟨kind,tag,count,l',some (pre,a)⟩:=if_neg hk
    rw [e1] at hR h63
    rw [e2]
    exact Zn7 ⟨kind,tag,count,list,some (pre,a)⟩ r s h0 hs l' (.inl hk) (by intro h;cases h) h63 hR
theorem ZgL (e:El) (r:List El) (n:Node) (hs:small e r) (e':El) (h:Zf9 e n=some e'):PC 103 [.agg n.cs] e r (.tup []) e' r:=by
 obtain ⟨l',hR,rfl⟩:=Option.map_eq_some_iff.1 h
 obtain ⟨kind,tag,count,list,args⟩:=e
 rcases args with _ | ⟨pre,a⟩
 ·exact ZlS _ r n hs l' (.inr rfl) hR
 ·by_cases hk:kind=3
  ·subst hk
   exact ZrX tag count list pre a r n hs l' hR
  ·have e1:VL.El.cur ⟨kind,tag,count,list,some (pre,a)⟩=list:=if_neg hk
   have e2:VL.El.setCur ⟨kind,tag,count,list,some (pre,a)⟩ l'=⟨kind,tag,count,l',some (pre,a)⟩:=if_neg hk
   rw [e1] at hR
   rw [e2]
   exact ZlS ⟨kind,tag,count,list,some (pre,a)⟩ r n hs l' (.inl hk) hR
set_option maxRecDepth 100000 in
set_option maxHeartbeats 1000000 in
theorem Zoc (e e2:El) (r:List El) (hr:r.length≤999):ContractG Tryz.prog 111 [.ptr 0 (0,0) 0] (objs (stP νa e (e2::r))) (.ptr 1001 (0,1001) 0) (Zmr 78 111 98 νa (1,1000) e e2 r):=by
 refine Zz mix Tryz.func111 (by kernel_rfl) rfl (by kernel_rfl) ?_
 rw [ZbZ]
 repeat (first | (refine Zac [] νa (Zdo e (e2::r) (by simp;omega)) rfl rfl rfl rfl rfl rfl ?_) | (refine Za6 rfl rfl (ZbW _ _ _) ?_) | (refine Zf8 rfl rfl rfl (by simp;omega) ?_) | (refine Zsc rfl rfl rfl rfl (by rw [ZbW];omega) (Zsf _ _ _) ?_) | refine Zn rfl (by (conv=>lhs;whnf);try rfl) ?_ | refine ZB rfl rfl rfl ?_ | refine Zi rfl rfl ?_ | refine Zp rfl (by (conv=>lhs;whnf);try rfl) ?_ | refine ZaA rfl rfl ?_ | refine ZaH rfl rfl rfl (by (conv=>lhs;whnf);try rfl) (by (conv=>lhs;whnf);try rfl) (by rfl) (by rfl) (Nat.le_of_ble_eq_true rfl) (by (conv=>lhs;whnf);try rfl) ?_ | refine Zc ?_ | refine Zb9 (by kernel_rfl) ?_ | refine Zh ?_ | refine Za ?_ | refine Zba ?_)
 exact Zsg (3,11) [_,_] [(2,.ptr 1001 (0,1001) 0)] rfl rfl ⟨rfl,trivial⟩ rfl rfl rfl rfl
abbrev Zod (k t c:Int):List (Nat×VObj):=[(1,.box [.int .i64 k,.int .i64 t,.int .i64 c,.nil,.nil])]
set_option maxRecDepth 100000 in
set_option maxHeartbeats 1000000 in
theorem Zpw (e e':El) (r:List El) (k t c:Int) (s:ByteArray) (hr:20≤r.length) (hs:small e r) (h63:e.cur.length≤9223372036854775807) (h:Zby e s=some e') :
  ContractG Tryz.prog 104 [.ptr 0 (0,0) 0,.ptr 1 (0,1) 0,.str s] (objs (stP νa e r)++Zod k t c) (.tup []) (stP νb e' r):=by
 refine Zz mix Tryz.func104 (by kernel_rfl) rfl (by kernel_rfl) ?_
 rw [Zqp,ZbZ,Zqv rfl]
 repeat (first | (refine Za6 rfl rfl (ZbW _ _ _) ?_) | refine Zn rfl (by (conv=>lhs;whnf);try rfl) ?_ | refine ZB rfl rfl rfl ?_ | refine Zi rfl rfl ?_ | refine ZT rfl rfl rfl rfl (by (conv=>lhs;whnf);try rfl) ?_ | refine ZaA rfl rfl ?_ | refine Zc ?_ | refine Zh ?_ | refine Za ?_)
 rw [show decide ((20:Int)<((r.length+1:Nat):Int))=true from decide_eq_true (by omega)]
 repeat (first | (refine Zr rfl rfl ?_) | (refine Zw [_] νa (ZbQ e r s hs h63 e' h) rfl rfl rfl rfl rfl rfl ?_) | refine Zn rfl (by (conv=>lhs;whnf);try rfl) ?_ | refine Zc ?_ | refine Zh ?_ | refine Za ?_ | refine Zba ?_)
 exact Zbt (.inl rfl) (νc 2 2) [_] [] rfl rfl trivial rfl rfl
set_option maxRecDepth 100000 in
set_option maxHeartbeats 1000000 in
theorem Zpx (e:El) (r:List El) (k t c:Int) (s:ByteArray) (hr:r.length<20) :
  ContractG Tryz.prog 104 [.ptr 0 (0,0) 0,.ptr 1 (0,1) 0,.str s] (objs (stP νa e r)++Zod k t c) (.tup []) (stP νb ⟨k,t,c,[],none⟩ (e::r)):=by
 refine Zz mix Tryz.func104 (by kernel_rfl) rfl (by kernel_rfl) ?_
 rw [Zqp,ZbZ,Zqv rfl]
 repeat (first | (refine Za6 rfl rfl (ZbW _ _ _) ?_) | refine Zn rfl (by (conv=>lhs;whnf);try rfl) ?_ | refine ZB rfl rfl rfl ?_ | refine Zi rfl rfl ?_ | refine ZT rfl rfl rfl rfl (by (conv=>lhs;whnf);try rfl) ?_ | refine ZaA rfl rfl ?_ | refine Zc ?_ | refine Zh ?_ | refine Za ?_)
 rw [show decide ((20:Int)<((r.length+1:Nat):Int))=false from decide_eq_false (by omega)]
 repeat (first | (refine Zg rfl rfl ?_) | (refine Zio rfl rfl rfl rfl (Nat.le_of_ble_eq_true rfl) rfl ?_) | (refine Zjg (new:=[[.ptr 1 (0,1) 0]]) rfl rfl rfl rfl (by rw [ZbW];simp;omega) (by rw [ZbW];simp;omega) (by simp) ?_) | refine Zn rfl (by (conv=>lhs;whnf);try rfl) ?_ | refine ZB rfl rfl rfl ?_ | refine Zi rfl rfl ?_ | refine ZaA rfl rfl ?_ | refine ZaH rfl rfl rfl (by (conv=>lhs;whnf);try rfl) (by (conv=>lhs;whnf);try rfl) (by rfl) (by rfl) (Nat.le_of_ble_eq_true rfl) (by (conv=>lhs;whnf);try rfl) ?_ | refine Zc ?_ | refine Za ?_ | refine ZA ?_ | refine Zx ?_)
 exact ZdC (Zch 1 5 3 78 5 rfl rfl rfl) (ZdC (Zch 1 6 4 111 3 rfl rfl rfl) (ZdC (Zcn (t:=6) rfl) (Zqw (.inr rfl) (0,0) (2,7) (0,1) (3,0) (4,0) 1 5 6 νa [_,_,_,_,_,_,_,_,_] [] rfl rfl trivial rfl rfl rfl rfl rfl rfl rfl rfl)))
def Zix (e:El):Option El:=match e.args with
 | some (pre,a)=>if e.kind=3∧a.named=false then some ⟨e.kind,e.tag,e.count,e.list,some (pre,⟨true,a.value,[]⟩)⟩ else Zby e ⟨#[61]⟩
 | none=>Zby e ⟨#[61]⟩
set_option maxRecDepth 100000 in
set_option maxHeartbeats 1000000 in
theorem Zrd (e e':El) (r:List El) (hs:small e r) (h63:e.cur.length≤9223372036854775807) (hk:e.kind≠3) (h:Zby e ⟨#[124]⟩=some e'):PC 106 [] e r (.tup []) e' r:=by
 refine Zz mix Tryz.func106 (by kernel_rfl) rfl (by kernel_rfl) ?_
 rw [ZbZ]
 repeat (first | (refine Zac [] νa (Zdo e r hs.1) rfl rfl rfl rfl rfl rfl ?_) | refine Zn rfl (by (conv=>lhs;whnf);try rfl) ?_ | refine ZB rfl rfl rfl ?_ | refine Zi rfl rfl ?_ | refine Zp rfl (by (conv=>lhs;whnf);try rfl) ?_ | refine ZT rfl rfl rfl rfl (by (conv=>lhs;whnf);try rfl) ?_ | refine ZaA rfl rfl ?_ | refine Zc ?_ | refine Zh ?_ | refine Za ?_)
 rw [decide_eq_false hk]
 repeat (first | (refine Zg rfl rfl ?_) | (refine Zw [] νa (ZbQ e r _ hs h63 e' h) rfl rfl rfl rfl rfl rfl ?_) | refine Zn rfl (by (conv=>lhs;whnf);try rfl) ?_ | refine Zc ?_ | refine Za ?_ | refine ZA ?_ | refine Zx ?_)
 exact Zbt (.inr rfl) (νc 3 1) [] [] rfl rfl trivial rfl rfl
set_option maxRecDepth 100000 in
set_option maxHeartbeats 1000000 in
theorem Zre (tag count:Int) (list:List (List PV)) (r:List El) (hr:r.length≤1000):PC 106 [] ⟨3,tag,count,list,none⟩ r (.tup []) ⟨3,tag,count,list,some ([],⟨false,[],[]⟩)⟩ r:=by
 refine Zz mix Tryz.func106 (by kernel_rfl) rfl (by kernel_rfl) ?_
 rw [ZbZ]
 repeat (first | (refine Zac [] νa (Zdo _ r hr) rfl rfl rfl rfl rfl rfl ?_) | (refine Zr rfl rfl ?_) | (refine Zio rfl rfl rfl rfl (Nat.le_of_ble_eq_true rfl) rfl ?_) | (refine Zjg (els:=[]) (new:=[[.bool false,.nil,.nil]]) rfl rfl rfl rfl (by simp) (by simp) (by simp) ?_) | refine Zn rfl (by (conv=>lhs;whnf);try rfl) ?_ | refine ZB rfl rfl rfl ?_ | refine Zi rfl rfl ?_ | refine Zp rfl (by (conv=>lhs;whnf);try rfl) ?_ | refine ZT rfl rfl rfl rfl (by (conv=>lhs;whnf);try rfl) ?_ | refine ZaA rfl rfl ?_ | refine ZaH rfl rfl rfl (by (conv=>lhs;whnf);try rfl) (by (conv=>lhs;whnf);try rfl) (by rfl) (by rfl) (Nat.le_of_ble_eq_true rfl) (by (conv=>lhs;whnf);try rfl) ?_ | refine Zbr rfl rfl ?_ | refine Zc ?_ | refine Zh ?_ | refine Za ?_ | refine Zba ?_)
 exact ZdC (Zdt 1003 0 1 rfl rfl rfl rfl rfl) (ZdC (Zkp 1003 1004 0 2 78 5 rfl rfl rfl rfl rfl) (ZdQ (.inl rfl) (0,0) (0,1000) (fun k=>if k=1003 then (3,7) else if k=1004 then (4,0) else νa k) νa [_,_,_,_,_,_] [] rfl rfl trivial rfl rfl (Zk rfl (Zk rfl (Zk rfl (Zk rfl (ZP _))))) rfl rfl))
theorem Zo1 (pre:List Arg) (a:Arg):(pre.map Arg.cs ++ [a.cs]).length=pre.length+1:=by simp
theorem Zo2 (pre:List Arg) (a:Arg) (x:List PV):(pre.map Arg.cs ++ [a.cs] ++ [x])[pre.length+1]? = some x:=by
 have:=Zbl (pre.map Arg.cs ++ [a.cs]) x
 rwa [Zo1] at this
theorem Zo3 (pre:List Arg) (a:Arg) (x y:List PV):(pre.map Arg.cs ++ [a.cs] ++ [x]).set (pre.length+1) y=pre.map Arg.cs ++ [a.cs] ++ [y]:=by
 have:=ZbU (pre.map Arg.cs ++ [a.cs]) x y
 rwa [Zo1] at this
theorem Zo4 (pre:List Arg) (x:List PV):(pre.map Arg.cs ++ [x])[pre.length]? = some x:=by
 have:=Zbl (pre.map Arg.cs) x
 rwa [List.length_map] at this
theorem Zo5 (pre:List Arg) (x y:List PV):(pre.map Arg.cs ++ [x]).set pre.length y=pre.map Arg.cs ++ [y]:=by
 have:=ZbU (pre.map Arg.cs) x y
 rwa [List.length_map] at this
theorem Zrf (pre:List Arg) (a:Arg) (x y:List PV):(pre.map Arg.cs ++ [a.cs] ++ [x]).set (pre.length+1) y=(pre ++ [a]).map Arg.cs ++ [y]:=by
 rw [Zo3]
 simp
set_option maxRecDepth 100000 in
set_option maxHeartbeats 1000000 in
theorem Zrg (tag count:Int) (list:List (List PV)) (pre:List Arg) (a:Arg) (r:List El) (hs:small ⟨3,tag,count,list,some (pre,a)⟩ r):PC 106 [] ⟨3,tag,count,list,some (pre,a)⟩ r (.tup []) ⟨3,tag,count,list,some (pre ++ [a],⟨false,[],[]⟩)⟩ r:=by
 have hp:pre.length≤1000000:=hs.2 _ rfl
 refine Zz mix Tryz.func106 (by kernel_rfl) rfl (by kernel_rfl) ?_
 rw [ZbZ]
 repeat (first | (refine Zac [] νa (Zdo _ r hs.1) rfl rfl rfl rfl rfl rfl ?_) | refine Zn rfl (by (conv=>lhs;whnf);try rfl) ?_ | refine ZB rfl rfl rfl ?_ | refine Zi rfl rfl ?_ | refine Zp rfl (by (conv=>lhs;whnf);try rfl) ?_ | refine ZT rfl rfl rfl rfl (by (conv=>lhs;whnf);try rfl) ?_ | refine ZaA rfl rfl ?_ | refine Zc ?_ | refine Zh ?_ | refine Za ?_)
 refine Zr rfl rfl ?_
 refine Zas (Zdt 1003 pre.length 2 rfl (ZaX _ _ _ _) rfl rfl (Zf5 _ _ _ _ _)) ?_ (List.cons_ne_nil _ _)
 repeat (first | (refine Zio rfl rfl rfl rfl (Nat.le_of_ble_eq_true rfl) rfl ?_) | (refine Zjg (els:=pre.map Arg.cs ++ [a.cs]) (new:=[[.bool false,.nil,.nil]]) rfl rfl rfl rfl (by simp;omega) (by simp;omega) (by simp) ?_) | refine Zn rfl (by (conv=>lhs;whnf);try rfl) ?_ | refine ZB rfl rfl rfl ?_ | refine Zi rfl rfl ?_ | refine ZaA rfl rfl ?_ | refine ZaH rfl rfl rfl (by (conv=>lhs;whnf);try rfl) (by (conv=>lhs;whnf);try rfl) (by rfl) (by rfl) (Nat.le_of_ble_eq_true rfl) (by (conv=>lhs;whnf);try rfl) ?_ | refine Zbr rfl rfl ?_ | refine Zc ?_ | refine Zh ?_ | refine Za ?_ | refine Zba ?_)
 exact ZdC (Zdt 1003 (pre.length+1) 1 rfl (Zo2 _ _ _) rfl rfl (Zo3 _ _ _ _)) (ZdC (Zkp 1003 1004 (pre.length+1) 2 78 5 rfl rfl (Zo2 _ _ _) rfl (Zrf _ _ _ _)) (ZdQ (.inl rfl) (0,0) (0,1000) (fun k=>if k=1003 then (3,7) else if k=1004 then (4,0) else νa k) νa [_,_,_,_,_,_,_,_] [] rfl rfl trivial rfl rfl (Zk rfl (Zk rfl (Zk rfl (Zk rfl (ZP _))))) rfl rfl))
set_option maxRecDepth 100000 in
set_option maxHeartbeats 1000000 in
theorem ZjT (e e':El) (r:List El) (hs:small e r) (h63:e.cur.length≤9223372036854775807) (hc:e.kind≠3∨e.args=none∨∃ pre a,e.args=some (pre,a)∧a.named=true) (h:Zby e ⟨#[61]⟩=some e'):PC 107 [] e r (.tup []) e' r:=by
 refine Zz mix Tryz.func107 (by kernel_rfl) rfl (by kernel_rfl) ?_
 rw [ZbZ]
 obtain ⟨kind,tag,count,list,args⟩:=e
 rcases args with _ | ⟨pre,a⟩
 ·by_cases hk:kind=3
  ·subst hk
   repeat (first | (refine Zac [] νa (Zdo _ r hs.1) rfl rfl rfl rfl rfl rfl ?_) | (refine Za6 (n:=0) rfl rfl rfl ?_) | (refine ZN rfl ?_) | (refine Zg rfl rfl ?_) | (refine Zw [] νa (ZbQ _ r _ hs h63 e' h) rfl rfl rfl rfl rfl rfl ?_) | refine Zn rfl (by (conv=>lhs;whnf);try rfl) ?_ | refine ZB rfl rfl rfl ?_ | refine Zi rfl rfl ?_ | refine Zp rfl (by (conv=>lhs;whnf);try rfl) ?_ | refine ZT rfl rfl rfl rfl (by (conv=>lhs;whnf);try rfl) ?_ | refine ZaA rfl rfl ?_ | refine ZaU rfl rfl (by (conv=>lhs;whnf);try rfl) ?_ | refine Zc ?_ | refine Zh ?_ | refine Za ?_ | refine ZA ?_ | refine Zx ?_)
   exact Zbt (.inr rfl) (νc 4 1) [] [] rfl rfl trivial rfl rfl
  ·repeat (first | (refine Zac [] νa (Zdo _ r hs.1) rfl rfl rfl rfl rfl rfl ?_) | (refine Za6 (n:=0) rfl rfl rfl ?_) | refine Zn rfl (by (conv=>lhs;whnf);try rfl) ?_ | refine ZB rfl rfl rfl ?_ | refine Zi rfl rfl ?_ | refine Zp rfl (by (conv=>lhs;whnf);try rfl) ?_ | refine ZT rfl rfl rfl rfl (by (conv=>lhs;whnf);try rfl) ?_ | refine ZaA rfl rfl ?_ | refine Zc ?_ | refine Zh ?_ | refine Za ?_)
   rw [decide_eq_false hk]
   repeat (first | (refine ZN rfl ?_) | (refine Zg rfl rfl ?_) | (refine Zw [] νa (ZbQ _ r _ hs h63 e' h) rfl rfl rfl rfl rfl rfl ?_) | refine Zn rfl (by (conv=>lhs;whnf);try rfl) ?_ | refine ZaU rfl rfl (by (conv=>lhs;whnf);try rfl) ?_ | refine Zc ?_ | refine Za ?_ | refine ZA ?_ | refine Zx ?_)
   exact Zbt (.inr rfl) (νc 4 1) [] [] rfl rfl trivial rfl rfl
 ·have hp:pre.length≤1000000:=hs.2 _ rfl
  by_cases hk:kind=3
  ·obtain ⟨named,name,value⟩:=a
   obtain rfl:named=true:=by
    rcases hc with hc | hc | ⟨pre',a',h1,h2⟩
    ·exact absurd hk hc
    ·cases hc
    ·injection h1 with h1
     injection h1 with _ h1
     rw [← h1] at h2
     exact h2
   subst hk
   repeat (first | (refine Zac [] νa (Zdo _ r hs.1) rfl rfl rfl rfl rfl rfl ?_) | (refine Za6 rfl rfl (Zev ..) ?_) | refine Zn rfl (by (conv=>lhs;whnf);try rfl) ?_ | refine ZB rfl rfl rfl ?_ | refine Zi rfl rfl ?_ | refine Zp rfl (by (conv=>lhs;whnf);try rfl) ?_ | refine ZT rfl rfl rfl rfl (by (conv=>lhs;whnf);try rfl) ?_ | refine ZaA rfl rfl ?_ | refine ZaU rfl rfl (by (conv=>lhs;whnf);try rfl) ?_ | refine Zc ?_ | refine Zh ?_ | refine Za ?_)
   rw [show decide ((0:Int)<((pre.length+1:Nat):Int))=true from decide_eq_true (by omega)]
   repeat (first | (refine Zf8 rfl rfl rfl (by omega) ?_) | (refine Zes rfl rfl rfl rfl (by rw [Zev];omega) ?_) | (refine ZcB rfl rfl rfl (ZaX _ _ _ _) rfl ?_) | (refine Zg rfl rfl ?_) | (refine Zw [] νa (ZbQ _ r _ hs h63 e' h) rfl rfl rfl rfl rfl rfl ?_) | refine Zn rfl (by (conv=>lhs;whnf);try rfl) ?_ | refine ZB rfl rfl rfl ?_ | refine Zi rfl rfl ?_ | refine ZaA rfl rfl ?_ | refine Zrb rfl rfl ?_ | refine ZaU rfl rfl (by (conv=>lhs;whnf);try rfl) ?_ | refine Zc ?_ | refine Za ?_ | refine ZA ?_ | refine Zx ?_)
   exact Zbt (.inr rfl) (νc 4 1) [] [] rfl rfl trivial rfl rfl
  ·repeat (first | (refine Zac [] νa (Zdo _ r hs.1) rfl rfl rfl rfl rfl rfl ?_) | (refine Za6 rfl rfl (Zev ..) ?_) | refine Zn rfl (by (conv=>lhs;whnf);try rfl) ?_ | refine ZB rfl rfl rfl ?_ | refine Zi rfl rfl ?_ | refine Zp rfl (by (conv=>lhs;whnf);try rfl) ?_ | refine ZT rfl rfl rfl rfl (by (conv=>lhs;whnf);try rfl) ?_ | refine ZaA rfl rfl ?_ | refine Zc ?_ | refine Zh ?_ | refine Za ?_)
   rw [decide_eq_false hk]
   repeat (first | (refine ZN rfl ?_) | (refine Zg rfl rfl ?_) | (refine Zw [] νa (ZbQ _ r _ hs h63 e' h) rfl rfl rfl rfl rfl rfl ?_) | refine Zn rfl (by (conv=>lhs;whnf);try rfl) ?_ | refine ZaU rfl rfl (by (conv=>lhs;whnf);try rfl) ?_ | refine Zc ?_ | refine Za ?_ | refine ZA ?_ | refine Zx ?_)
   exact Zbt (.inr rfl) (νc 4 1) [] [] rfl rfl trivial rfl rfl
set_option maxRecDepth 100000 in
set_option maxHeartbeats 1000000 in
theorem Zo6 (tag count:Int) (list:List (List PV)) (pre:List Arg) (name value:List (List PV)) (r:List El) (hs:small ⟨3,tag,count,list,some (pre,⟨false,name,value⟩)⟩ r):PC 107 [] ⟨3,tag,count,list,some (pre,⟨false,name,value⟩)⟩ r (.tup []) ⟨3,tag,count,list,some (pre,⟨true,value,[]⟩)⟩ r:=by
 have hp:pre.length≤1000000:=hs.2 _ rfl
 refine Zz mix Tryz.func107 (by kernel_rfl) rfl (by kernel_rfl) ?_
 rw [ZbZ]
 repeat (first | (refine Zac [] νa (Zdo _ r hs.1) rfl rfl rfl rfl rfl rfl ?_) | (refine Za6 rfl rfl (Zev ..) ?_) | refine Zn rfl (by (conv=>lhs;whnf);try rfl) ?_ | refine ZB rfl rfl rfl ?_ | refine Zi rfl rfl ?_ | refine Zp rfl (by (conv=>lhs;whnf);try rfl) ?_ | refine ZT rfl rfl rfl rfl (by (conv=>lhs;whnf);try rfl) ?_ | refine ZaA rfl rfl ?_ | refine ZaU rfl rfl (by (conv=>lhs;whnf);try rfl) ?_ | refine Zc ?_ | refine Zh ?_ | refine Za ?_)
 rw [show decide ((0:Int)<((pre.length+1:Nat):Int))=true from decide_eq_true (by omega)]
 repeat (first | (refine Zf8 rfl rfl rfl (by omega) ?_) | (refine Zes rfl rfl rfl rfl (by rw [Zev];omega) ?_) | (refine ZcB rfl rfl rfl (ZaX _ _ _ _) rfl ?_) | (refine Zr rfl rfl ?_) | (refine Zin rfl rfl rfl (ZaX _ _ _ _) rfl rfl rfl rfl (Nat.le_of_ble_eq_true rfl) (Zf5 _ _ _ _ _) ?_) | refine Zn rfl (by (conv=>lhs;whnf);try rfl) ?_ | refine ZB rfl rfl rfl ?_ | refine Zi rfl rfl ?_ | refine ZaA rfl rfl ?_ | refine Zbr rfl rfl ?_ | refine Zrb rfl rfl ?_ | refine ZaU rfl rfl (by (conv=>lhs;whnf);try rfl) ?_ | refine Zc ?_ | refine Zb9 (by kernel_rfl) ?_ | refine Zh ?_ | refine Za ?_ | refine Zba ?_)
 exact ZdC (Zdt 1003 pre.length 1 rfl (Zo4 _ _) rfl rfl (Zo5 _ _ _)) (ZdC (Zkp 1003 1004 pre.length 2 78 5 rfl rfl (Zo4 _ _) rfl (Zo5 _ _ _)) (ZdQ (.inl rfl) (0,0) (0,1000) (fun k=>if k=1004 then (5,0) else νa k) νa [_,_,_,_,_] [] rfl rfl trivial rfl rfl (Zk rfl (Zk rfl (Zk rfl (Zk rfl (ZP _))))) rfl rfl))
def Zh0:El→List (List PV)→Option El
 | e,[]=>some e
 | e,x::l=>(Ztx x).bind fun n=>(if n.kind=1 then Zby e n.text else Zf9 e n).bind fun e'=>Zh0 e' l
def fit (e:El) (r:List El):Prop:=small e r∧e.cur.length≤9223372036854775807
theorem Zh1 {e:El} {r:List El} {l:List (List PV)} (h:small e r):small (e.setCur l) r:=by
 obtain ⟨kind,tag,count,list,args⟩:=e
 refine ⟨h.1,fun q hq=>?_⟩
 rcases args with _ | ⟨pre,a⟩
 ·cases hq
 ·by_cases hk:kind=3
  ·have e1:VL.El.setCur ⟨kind,tag,count,list,some (pre,a)⟩ l=⟨kind,tag,count,list,some (pre,⟨a.named,a.name,l⟩)⟩:=if_pos hk
   rw [e1] at hq
   injection hq with hq
   rw [← hq]
   exact h.2 (pre,a) rfl
  ·have e1:VL.El.setCur ⟨kind,tag,count,list,some (pre,a)⟩ l=⟨kind,tag,count,l,some (pre,a)⟩:=if_neg hk
   rw [e1] at hq
   exact h.2 q hq
theorem Zkn (e:El) (l:List (List PV)):(e.setCur l).cur=l:=by
 obtain ⟨kind,tag,count,list,args⟩:=e
 rcases args with _ | ⟨pre,a⟩
 ·rfl
 ·by_cases hk:kind=3
  ·have e1:VL.El.setCur ⟨kind,tag,count,list,some (pre,a)⟩ l=⟨kind,tag,count,list,some (pre,⟨a.named,a.name,l⟩)⟩:=if_pos hk
   rw [e1]
   exact if_pos hk
  ·have e1:VL.El.setCur ⟨kind,tag,count,list,some (pre,a)⟩ l=⟨kind,tag,count,l,some (pre,a)⟩:=if_neg hk
   rw [e1]
   exact if_neg hk
theorem Zjv {l l':List (List PV)} {n:Node} (h:Zi8 l n=some l'):l'.length≤9223372036854775807:=by
 obtain ⟨_,h2,rfl⟩:=Zc4 h
 simpa using h2
theorem Zaj {e e':El} {r:List El} {s:ByteArray} (hf:fit e r) (h:Zby e s=some e'):fit e' r:=by
 unfold Zby at h
 split at h
 ·injection h with h
  rw [← h]
  exact hf
 ·obtain ⟨l',hR,rfl⟩:=Option.map_eq_some_iff.1 h
  refine ⟨Zh1 hf.1,?_⟩
  rw [Zkn]
  rcases Ze2 hR with ⟨_,hR⟩ | ⟨init,n,hl,⟨_,y,_,rfl⟩ | ⟨_,hR⟩⟩
  ·exact Zjv hR
  ·have:=hf.2
   rw [hl,Zcs] at this
   rw [Zcs]
   exact this
  ·exact Zjv hR
theorem ZeW {e e':El} {r:List El} {n:Node} (hf:fit e r) (h:Zf9 e n=some e'):fit e' r:=by
 obtain ⟨l',hR,rfl⟩:=Option.map_eq_some_iff.1 h
 exact ⟨Zh1 hf.1,by rw [Zkn];exact Zjv hR⟩
theorem Zko {r:List El}:∀ {l:List (List PV)} {e e':El},fit e r→Zh0 e l=some e'→fit e' r
 | [],e,e',hf,h=>by injection h with h;rw [← h];exact hf
 | x::l,e,e',hf,h=>by
   obtain ⟨n,_,h⟩:=Option.bind_eq_some_iff.1 h
   obtain ⟨e1,h1,h⟩:=Option.bind_eq_some_iff.1 h
   refine Zko (l:=l) (e:=e1) ?_ h
   split at h1
   ·exact Zaj hf h1
   ·exact ZeW hf h1
set_option maxRecDepth 100000 in
set_option maxHeartbeats 1000000 in
theorem ZtV (l:List (List PV)) (e e2:El) (r:List El) (hf:fit e r) (h:Zh0 e l=some e2) (hl:l.length≤4611686018427387904):PC 114 [.sl l] e r (.tup []) e2 r:=by
 refine Zz mix Tryz.func114 (by kernel_rfl) rfl (by kernel_rfl) ?_
 rw [ZbZ]
 repeat (first | refine Zn rfl (by (conv=>lhs;whnf);try rfl) ?_ | refine ZgR rfl rfl ?_ | refine Zc ?_ | refine Zh ?_ | refine Za ?_ | refine Zai ?_)
 refine ZH (fun (a:Nat×El) _=>mkS [(0,.ptr 0 (0,0) 0),(6,.sl l),(7,.int .i64 (l.length:Int)),(8,.int .i64 ((a.1:Nat):Int))] (somes (stP νb a.2 r)) 2) (fun a=>a.1≤l.length∧fit a.2 r∧Zh0 a.2 (l.drop a.1)=some e2) (fun a=>l.length - a.1) (0,e) 2 ⟨Nat.zero_le _,hf,h⟩
  (ZaV νa [] (fun k=>(k,νa k)) (fun _ _=>rfl) rfl ⟨rfl,rfl,rfl,rfl,trivial⟩ (x:=[]) (x':=[]) rfl rfl rfl (ZP _) rfl) (fun a ng hJ=>?_)
 obtain ⟨q,e1⟩:=a
 obtain ⟨hq,hf1,hn⟩:=hJ
 dsimp only at hq hf1 hn ⊢
 repeat (first | refine ZT rfl rfl rfl rfl (by (conv=>lhs;whnf);try rfl) ?_ | refine Zc ?_ | refine Zh ?_ | refine Za ?_)
 by_cases hlt:q<l.length
 ·refine Zr (by (conv=>lhs;whnf);try rfl) (by simp;omega) ?_
  rw [List.drop_eq_getElem_cons hlt] at hn
  obtain ⟨n,hx,hn⟩:=Option.bind_eq_some_iff.1 hn
  obtain ⟨e3,h3,hn⟩:=Option.bind_eq_some_iff.1 hn
  have hcs:l[q]? = some n.cs:=by rw [List.getElem?_eq_getElem hlt,ZlQ hx]
  by_cases hk:n.kind=1
  ·rw [if_pos hk] at h3
   repeat (first | (refine ZdI rfl rfl rfl hcs rfl ?_) | refine ZB rfl rfl rfl ?_ | refine Zi rfl rfl ?_ | refine ZT rfl rfl rfl rfl (by (conv=>lhs;whnf);try rfl) ?_ | refine ZcV rfl rfl ?_ | refine ZaH rfl rfl rfl (by (conv=>lhs;whnf);try rfl) (by (conv=>lhs;whnf);try rfl) (by rfl) (by rfl) (Nat.le_of_ble_eq_true rfl) (by (conv=>lhs;whnf);try rfl) ?_ | refine Zc ?_ | refine Zh ?_ | refine Za ?_ | refine Zai ?_ | refine ZA ?_)
   rw [decide_eq_true hk]
   repeat (first | (refine Zr rfl rfl ?_) | (refine Zw [_,_] νb (ZbQ e1 r n.text hf1.1 hf1.2 e3 h3) rfl rfl rfl rfl rfl rfl ?_) | refine Zn rfl (by (conv=>lhs;whnf);try rfl) ?_ | refine ZB rfl rfl rfl ?_ | refine Zi rfl rfl ?_ | refine ZmQ rfl rfl (by omega) ?_ | refine Zc ?_ | refine Za ?_ | refine Zx ?_)
   exact Zaf (q+1,e3) 2 ⟨by omega,Zaj hf1 h3,hn⟩ (by dsimp only;omega) (ZaV (νc 5 3) [_,_] (fun k=>(k,νc 5 3 k)) (fun _ _=>rfl) rfl ⟨rfl,rfl,rfl,rfl,trivial⟩ (x:=[]) (x':=[]) rfl rfl rfl (ZP _) rfl)
  ·rw [if_neg hk] at h3
   repeat (first | (refine ZdI rfl rfl rfl hcs rfl ?_) | refine ZB rfl rfl rfl ?_ | refine Zi rfl rfl ?_ | refine ZT rfl rfl rfl rfl (by (conv=>lhs;whnf);try rfl) ?_ | refine ZcV rfl rfl ?_ | refine ZaH rfl rfl rfl (by (conv=>lhs;whnf);try rfl) (by (conv=>lhs;whnf);try rfl) (by rfl) (by rfl) (Nat.le_of_ble_eq_true rfl) (by (conv=>lhs;whnf);try rfl) ?_ | refine Zc ?_ | refine Zh ?_ | refine Za ?_ | refine Zai ?_ | refine ZA ?_)
   rw [decide_eq_false hk]
   repeat (first | (refine Zg rfl rfl ?_) | (refine Zw [_,_] νb (ZgL e1 r n hf1.1 e3 h3) rfl rfl rfl rfl rfl rfl ?_) | refine Zn rfl (by (conv=>lhs;whnf);try rfl) ?_ | refine ZB rfl rfl rfl ?_ | refine ZmQ rfl rfl (by omega) ?_ | refine Zc ?_ | refine Za ?_ | refine Zx ?_)
   exact Zaf (q+1,e3) 2 ⟨by omega,ZeW hf1 h3,hn⟩ (by dsimp only;omega) (ZaV (νc 5 2) [_,_] (fun k=>(k,νc 5 2 k)) (fun _ _=>rfl) rfl ⟨rfl,rfl,rfl,rfl,trivial⟩ (x:=[]) (x':=[]) rfl rfl rfl (ZP _) rfl)
 ·refine Zg (by (conv=>lhs;whnf);try rfl) (by simp;omega) ?_
  repeat (first | refine Za1 ?_ | refine Zx ?_ | refine Zc1 ?_ | refine ZgE ?_)
  obtain rfl:q=l.length:=by omega
  rw [List.drop_length] at hn
  injection hn with hn
  subst hn
  exact Zbt (.inr rfl) νb [] [] rfl rfl trivial rfl rfl
end Go.Proofs.YtmgfammllddkhaaGreatDoor
namespace Go.Proofs.YtmgfammllddkhaaGreatDoor
namespace VL
def El.argL (e:El):List Arg:=match e.args with
 | none=>[]
 | some (pre,a)=>pre ++ [a]
def El.cells (e:El):List PV:=[.int .i64 e.kind,.int .i64 e.tag,.int .i64 e.count,.sl e.list,.sl (e.argL.map Arg.cs)]
section
variable {NT AT ET:Nat}
theorem Zfu {pre:List Arg}:∀ el ∈ pre.map Arg.cs,∀ p ∈ el,p.pure=true:=fun el hel p hp=>by
 obtain ⟨a,_,rfl⟩:=List.mem_map.1 hel
 simp [Arg.cs] at hp
 rcases hp with rfl | rfl | rfl<;>rfl
theorem Zdw {f:Nat→Option (Gen×VObj)} {t E k:Nat} {g:Gen} {els:List (List PV)} (h:f t=some (g,.row E k false els)):Zkl f (.row t g)=some (.sl els,[(t,some (g,.row E k true els))]):=by
 simp [Zkl,ZV,h]
theorem Zlu {b:Nat} {g g1 g2:Gen} {tm:List (Nat×PV)} {ob:List (Nat×Option (Gen×VObj))} {ng:Nat} {k t c:Int} {l els:List (List PV)} (h0:Zm ob b=some (g,.box [.int .i64 k,.int .i64 t,.int .i64 c,.row (b+1) g1,.row (b+2) g2])) (h1:Zm ob (b+1)=some (g1,.row NT 5 false l)) (h2:Zm ob (b+2)=some (g2,.prow AT 3 els))
  (hp:∀ el ∈ els,∀ p ∈ el,p.pure=true):Shift (mkS tm ob ng) (mkS tm ((b,some (g,.box [.int .i64 k,.int .i64 t,.int .i64 c,.sl l,.sl els]))::(b+2,some (g2,.row AT 3 true els))::(b+1,some (g1,.row NT 5 true l))::(b+2,some (g2,.row AT 3 false els))::ob) ng):=by
 have n1:∀ {j i:Nat},j≠i→b+j≠b+i:=fun h e=>h (by omega)
 have e0:Zm ((b+2,some (g2,VObj.row AT 3 false els))::ob) b=some (g,.box [.int .i64 k,.int .i64 t,.int .i64 c,.row (b+1) g1,.row (b+2) g2]):=by
  show (if b=b+2 then _ else Zm ob b)=_
  rw [if_neg (by omega),h0]
 have e1:Zm ((b+2,some (g2,VObj.row AT 3 false els))::ob) (b+1)=some (g1,.row NT 5 false l):=by
  show (if b+1=b+2 then _ else Zm ob (b+1))=_
  rw [if_neg (by omega),h1]
 have e2:Zm ((b+2,some (g2,VObj.row AT 3 false els))::ob) (b+2)=some (g2,.row AT 3 false els):=if_pos rfl
 refine Shift.trans (Zit (b+2) h2 hp) ?_
 exact ZmC b e0 (us:=[(b+1,some (g1,.row NT 5 true l)),(b+2,some (g2,.row AT 3 true els))]) (by
  have r1:=Zdw e1
  have r2:=Zdw e2
  simp only [Zdq]
  rw [r1,r2]
  rfl)
theorem Zhn (n1:Gen) (ν:Nat→Gen) {e e2:El} {r:List El} {tm tm':List (Nat×PV)} {ng:Nat} (h1:Zfz (σf (popf (0,0) n1 (fun _=>(1001,ν 1001)) ν (ZaE r))) tm tm') :
  Shift (mkS tm ((0,some ((0,0),.box [.row 1000 n1]))::(1000,some (n1,.prow ET 1 (ZdD ν (e2::r))))::somes (stO NT AT ET ν e (e2::r))) ng) (mkS tm' (somes ((300,νb 300,.box e.cells)::stO NT AT ET νb e2 r)) 2):=by
 obtain ⟨k,t,c,l,args⟩:=e
 have hx:∀ e:El,ZaY (σf (popf (0,0) n1 (fun _=>(1001,ν 1001)) ν (ZaE r))) [(300,νb 300,.box e.cells)]=some [(1001,ν 1001,.box e.cells)]:=fun _=>rfl
 rcases args with _ | ⟨pre,a⟩
 ·refine Shift.trans (Zlu (b:=1001) rfl rfl rfl (fun e he=>absurd he List.not_mem_nil)) ?_
  exact ZgP (0,0) n1 (fun _=>(1001,ν 1001)) ν tm' h1 rfl rfl (hx ⟨k,t,c,l,none⟩) (fun q hq=>by rw [List.mem_singleton.1 hq];exact ⟨by show 1001≠0;omega,by show 1001≠1000;omega,by show 1001<2000;omega⟩) (by simp) (Zk rfl (ZP _)) (ZcU (A:=[_,_,_,_,_,_]) rfl)
 ·have hset:(Zgc 1001 ν (some (pre,a))).set pre.length (Zam [.bool a.named,.sl a.name,.row (1001+3) (ν (1001+3))] 2 [.sl a.value])=(pre ++ [a]).map Arg.cs:=by
   have:=ZbU (pre.map Arg.cs) [.bool a.named,.sl a.name,.row (1001+3) (ν (1001+3))] a.cs
   rw [List.length_map] at this
   rw [List.map_append]
   exact this
  have hget:(Zgc 1001 ν (some (pre,a)))[pre.length]? = some [.bool a.named,.sl a.name,.row (1001+3) (ν (1001+3))]:=by
   have:=Zbl (pre.map Arg.cs) [.bool a.named,.sl a.name,.row (1001+3) (ν (1001+3))]
   rwa [List.length_map] at this
  refine Shift.trans (Zdt 1003 pre.length 2 rfl hget rfl (Zdw rfl) hset) ?_
  refine Shift.trans (Zlu (b:=1001) rfl rfl rfl Zfu) ?_
  exact ZgP (0,0) n1 (fun _=>(1001,ν 1001)) ν tm' h1 rfl rfl (hx ⟨k,t,c,l,some (pre,a)⟩) (fun q hq=>by rw [List.mem_singleton.1 hq];exact ⟨by show 1001≠0;omega,by show 1001≠1000;omega,by show 1001<2000;omega⟩) (by simp) (Zk rfl (ZP _)) (ZcU (A:=[_,_,_,_,_,_,_,_]) rfl)
end
section
variable {NT AT ET:Nat} {P:Program} [WInv P] {ops:Array Oper} {draw:Bool} {i:Nat} {L:List Oper} {acc:List (List Nat×List Nat)} {K:FS→Prop} {tm:List (Nat×PV)} {ob:List (Nat×Option (Gen×VObj))} {ng:Nat}
 {d:Option Tmp} {ty:TypeId} {pos:String} {after:Array Edge} {gd:Option (Nat×Bool)}
theorem ZeF {f:FuncId} {es:Array Operand} {ts:Array TypeId} {e e2:El} {r:List El} (lits:List (Nat×Option (Gen×VObj))) (ν:Nat→Gen) (hc:ContractG P f [.ptr 0 (0,0) 0] (objs (stO NT AT ET νa e (e2::r))) (.ptr 1001 (0,1001) 0) (Zmr NT AT ET νa (1,1000) e e2 r)) (hob:ob=lits++somes (stO NT AT ET ν e (e2::r))) (hl:(lits.all fun q=>!Zbi q.1)=true)
  (hw:Zf ops (mkS tm ob ng) ⟨d,.call ⟨.value (.func f),es,ts⟩,ty,pos,after,gd⟩=some true) (he:es.toList.map (evL tm) = [.ptr 0 (ν 0) 0])
  (k:GoL P ops draw (i+1) L (acc ++ [(Zy (mkS tm ob ng) ⟨d,.call ⟨.value (.func f),es,ts⟩,ty,pos,after,gd⟩,(usG (κp id) (objs (stO NT AT ET νa e (e2::r))) (Zmr NT AT ET ν (ng,i+1000000 * (1000+1)) e e2 r)).map (·.1))]) (mkS (Za3 d (.ptr 1001 (ν 1001) 0) tm) ((0,some (ν 0,.box [.row 1000 (ng,i+1000000 * (1000+1))]))::(1000,some ((ng,i+1000000 * (1000+1)),.prow ET 1 (ZdD ν (e2::r))))::ob) ng) K) :
  GoL P ops draw i (⟨d,.call ⟨.value (.func f),es,ts⟩,ty,pos,after,gd⟩::L) acc (mkS tm ob ng) K:=by
 have hHas:Has ob (stO NT AT ET ν e (e2::r)):=by rw [hob];exact Za8 hl
 have hk:=ZoY (NT:=NT) (AT:=AT) (ET:=ET) ν ng i e (e2::r)
 have hn:∀ (ν:Nat→Gen) (n1:Gen),((Zmr NT AT ET ν n1 e e2 r).map (·.1)).Nodup:=fun ν n1=>by rw [Zji];exact ZaP _ _ _
 have hlow:∀ q ∈ Zfm NT AT νa (e2::r),σ1 (Zmq (objs (stO NT AT ET νa e (e2::r)))) (κp id) (γp ν ν) id ng i (νa q.1)=some (q.1,ν q.1):=fun q hq=>hk q (List.mem_cons_of_mem _ (List.mem_cons_of_mem _ (List.mem_append_right _ hq)))
 have hX:ZaY (σ1 (Zmq (objs (stO NT AT ET νa e (e2::r)))) (κp id) (γp ν ν) id ng i) (Zmr NT AT ET νa (1,1000) e e2 r)=some (Zmr NT AT ET ν (ng,i+1000000 * (1000+1)) e e2 r):=by
  have e0:=hk _ (List.mem_cons_self ..)
  have e1:σ1 (Zmq (objs (stO NT AT ET νa e (e2::r)))) (κp id) (γp ν ν) id ng i (1,1000)=some (1000,(ng,i+1000000 * (1000+1))):=by simp [σ1]
  have hp:=Zkw hlow
  have he:=Zaw (Zmv (NT:=NT) (AT:=AT) (b:=1001) (ν:=νa) (ν':=ν) (e:=e) fun q hq=>hk q (List.mem_cons_of_mem _ (List.mem_cons_of_mem _ (List.mem_append_left _ hq)))) (Zkv hlow)
  simp only [Zmr,ZaY,rnO,rnL,rn1,e0,e1,Option.map_some,hp,he]
 have hp:rnP (σ1 (Zmq (objs (stO NT AT ET νa e (e2::r)))) (κp id) (γp ν ν) id ng i) (.ptr 1001 (0,1001) 0)=some (.ptr 1001 (ν 1001) 0):=by
  have e1:=hk _ (List.mem_cons_of_mem _ (List.mem_cons_of_mem _ (List.mem_append_left _ (List.mem_cons_self ..))))
  have e2:σ1 (Zmq (objs (stO NT AT ET νa e (e2::r)))) (κp id) (γp ν ν) id ng i (0,1001)=some (1001,ν 1001):=e1
  simp only [rnP,rn1,e2,Option.map_some]
 refine ZjS lits ν hc hob hl hw he rfl hp hX (hn _ _) (fun t=>?_) k
 rw [Zid (hn _ _)]
 by_cases h1:∃ q ∈ Zmr NT AT ET ν (ng,i+1000000 * (1000+1)) e e2 r,q.1=t
 ·rw [if_pos h1]
  obtain ⟨⟨t',g,o⟩,hq,rfl⟩:=h1
  have w:=ZbI [] (hn _ _) hq
  rw [List.append_nil] at w
  rw [w]
  rcases List.mem_cons.1 hq with e1 | hq
  ·injection e1 with e1 e2;injection e2 with e2 e3;subst e1 e2 e3;rfl
  ·rcases List.mem_cons.1 hq with e1 | hq
   ·injection e1 with e1 e2;injection e2 with e2 e3;subst e1 e2 e3;rfl
   ·have hk2:1001≤t':=by
     rcases List.mem_append.1 hq with h | h
     ·exact (Zc7 h).1
     ·have:=(ZcH h).1;change 2000≤t' at this;omega
    show _=if t'=0 then _ else if t'=1000 then _ else Zm ob t'
    rw [if_neg (by omega),if_neg (by omega)]
    exact (hHas _ _ _ (List.mem_cons_of_mem _ (List.mem_cons_of_mem _ hq))).symm
 ·rw [if_neg h1,if_neg fun ⟨q,hq,e3⟩=>h1 (by
   obtain ⟨g,hg⟩:=ZfW (l:=stO NT AT ET νa e (e2::r)) (t:=q.1) (o:=q.2) hq
   have hm2:q.1 ∈ (Zmr NT AT ET ν (ng,i+1000000 * (1000+1)) e e2 r).map (·.1):=by
    rw [Zji,ZeG ν νa]
    exact List.mem_map.2 ⟨_,hg,rfl⟩
   obtain ⟨q2,hq2,e4⟩:=List.mem_map.1 hm2
   have hk:κp id q.1=q.1:=by simp [κp]
   exact ⟨q2,hq2,by rw [e4,← hk];exact e3⟩)]
  have t0:¬ t=0:=fun e=>h1 ⟨_,List.mem_cons_self ..,e.symm⟩
  have t1:¬ t=1000:=fun e=>h1 ⟨_,List.mem_cons_of_mem _ (List.mem_cons_self ..),e.symm⟩
  show _=if t=0 then _ else if t=1000 then _ else Zm ob t
  rw [if_neg t0,if_neg t1]
end
end VL
end Go.Proofs.YtmgfammllddkhaaGreatDoor
namespace Go.Proofs.YtmgfammllddkhaaGreatDoor
namespace VL
section
variable {NT AT ET:Nat}
theorem Zlt {f:Nat→Option (Gen×VObj)} {t E k:Nat} {g:Gen} {els:List (List PV)} (h:f t=some (g,.row E k true els)):Zkl f (.row t g)=some (.sl els,[]):=by
 simp [Zkl,ZV,h]
theorem Zgp {ν:Nat→Gen} {kind tag count m:Int} {list:List (List PV)} {args:Option (List Arg×Arg)} {r:List El} {lits:List (Nat×Option (Gen×VObj))} {tm:List (Nat×PV)} {ng:Nat} (hl:(lits.all fun q=>!Zbi q.1)=true) :
  Shift (mkS tm ((1001,some (ν 1001,.box [.int .i64 kind,.int .i64 tag,.int .i64 m,.row 1002 (ν 1002),.row 1003 (ν 1003)]))::(lits++somes (stO NT AT ET ν ⟨kind,tag,count,list,args⟩ r))) ng) (mkS tm (lits++somes (stO NT AT ET ν ⟨kind,tag,m,list,args⟩ r)) ng):=by
 rw [Zfw (ob':=lits++somes (stO NT AT ET ν ⟨kind,tag,m,list,args⟩ r)) fun t=>?_]
 ·exact Shift.refl _
 ·show (if t=1001 then _ else Zm (lits++somes (stO NT AT ET ν ⟨kind,tag,count,list,args⟩ r)) t)=_
  by_cases ht:t=1001
  ·rw [if_pos ht,ht]
   have hm:(1001,ν 1001,VObj.box [.int .i64 kind,.int .i64 tag,.int .i64 m,.row 1002 (ν 1002),.row 1003 (ν 1003)]) ∈ stO NT AT ET ν ⟨kind,tag,m,list,args⟩ r:=List.mem_cons_of_mem _ (List.mem_cons_of_mem _ (List.mem_append_left _ (List.mem_cons_self ..)))
   exact (Za8 hl _ _ _ hm).symm
  ·rw [if_neg ht]
   have two:∀ (a:List (Nat×Option (Gen×VObj))),Zm (a++somes (stO NT AT ET ν ⟨kind,tag,count,list,args⟩ r)) t=Zm (a++somes (stO NT AT ET ν ⟨kind,tag,m,list,args⟩ r)) t:=fun a=>by
    induction a with
    | nil=>
      show (if t=0 then _ else if t=1000 then _ else if t=1001 then _ else _)=(if t=0 then _ else if t=1000 then _ else if t=1001 then _ else _)
      by_cases h0:t=0
      ·rw [if_pos h0,if_pos h0]
      ·rw [if_neg h0,if_neg h0]
       by_cases h1:t=1000
       ·rw [if_pos h1,if_pos h1]
       ·rw [if_neg h1,if_neg h1,if_neg ht,if_neg ht]
    | cons q a ih=>
      show (if t=q.1 then q.2 else Zm (a++_) t)=if t=q.1 then q.2 else Zm (a++_) t
      rw [ih]
   exact two lits
theorem Zen {b u:Nat} {g g1 g2:Gen} {tm:List (Nat×PV)} {ob:List (Nat×Option (Gen×VObj))} {ng:Nat} {k t:Int} {s:ByteArray} {l els:List (List PV)} (hu:u≠b+2) (h0:Zm ob u=some (g,.box [.int .i64 k,.int .i64 t,.str s,.row (b+1) g1,.row (b+2) g2])) (h1:Zm ob (b+1)=some (g1,.row NT 5 false l)) (h2:Zm ob (b+2)=some (g2,.prow AT 3 els))
  (hp:∀ el ∈ els,∀ p ∈ el,p.pure=true):Shift (mkS tm ob ng) (mkS tm ((u,some (g,.box [.int .i64 k,.int .i64 t,.str s,.sl l,.sl els]))::(b+2,some (g2,.row AT 3 true els))::(b+1,some (g1,.row NT 5 true l))::(b+2,some (g2,.row AT 3 false els))::ob) ng):=by
 have e0:Zm ((b+2,some (g2,VObj.row AT 3 false els))::ob) u=some (g,.box [.int .i64 k,.int .i64 t,.str s,.row (b+1) g1,.row (b+2) g2]):=by
  show (if u=b+2 then _ else Zm ob u)=_
  rw [if_neg hu,h0]
 have e1:Zm ((b+2,some (g2,VObj.row AT 3 false els))::ob) (b+1)=some (g1,.row NT 5 false l):=by
  show (if b+1=b+2 then _ else Zm ob (b+1))=_
  rw [if_neg (by omega),h1]
 have e2:Zm ((b+2,some (g2,VObj.row AT 3 false els))::ob) (b+2)=some (g2,.row AT 3 false els):=if_pos rfl
 refine Shift.trans (Zit (b+2) h2 hp) ?_
 exact ZmC u e0 (us:=[(b+1,some (g1,.row NT 5 true l)),(b+2,some (g2,.row AT 3 true els))]) (by
  have r1:=Zdw e1
  have r2:=Zdw e2
  simp only [Zdq]
  rw [r1,r2]
  rfl)
theorem Znn {b:Nat} {g g1 g2:Gen} {tm:List (Nat×PV)} {ob:List (Nat×Option (Gen×VObj))} {ng:Nat} {k t c:Int} {l els:List (List PV)} (h0:Zm ob b=some (g,.box [.int .i64 k,.int .i64 t,.int .i64 c,.row (b+1) g1,.row (b+2) g2])) (h1:Zm ob (b+1)=some (g1,.row NT 5 true l)) (h2:Zm ob (b+2)=some (g2,.row AT 3 true els)) :
  Shift (mkS tm ob ng) (mkS tm ((b,some (g,.box [.int .i64 k,.int .i64 t,.int .i64 c,.sl l,.sl els]))::ob) ng):=
 ZmC b h0 (us:=[]) (by
  have r1:=Zlt h1
  have r2:=Zlt h2
  simp only [Zdq]
  rw [r1,r2]
  rfl)
theorem Zhm (n1 g8:Gen) (ν:Nat→Gen) {e e2:El} {r:List El} {k t:Int} {s:ByteArray} {tm tm':List (Nat×PV)} {ng:Nat} (h1:Zfz (σf (popf (0,0) n1 (fun k=>if k=8 then (8,g8) else (1001,ν 1001)) ν (ZaE r))) tm tm') :
  Shift (mkS tm ((0,some ((0,0),.box [.row 1000 n1]))::(1000,some (n1,.prow ET 1 (ZdD ν (e2::r))))::(8,some (g8,.box [.int .i64 k,.int .i64 t,.str s,.row 1002 (ν 1002),.row 1003 (ν 1003)]))::somes (stO NT AT ET ν e (e2::r))) ng)
   (mkS tm' (somes ((8,νb 8,.box [.int .i64 k,.int .i64 t,.str s,.sl e.list,.sl (e.argL.map Arg.cs)])::(300,νb 300,.box e.cells)::stO NT AT ET νb e2 r)) 2):=by
 obtain ⟨k1,t1,c,l,args⟩:=e
 have hx:∀ e:El,ZaY (σf (popf (0,0) n1 (fun k=>if k=8 then (8,g8) else (1001,ν 1001)) ν (ZaE r))) [(8,νb 8,.box [.int .i64 k,.int .i64 t,.str s,.sl e.list,.sl (e.argL.map Arg.cs)]),(300,νb 300,.box e.cells)]=some [(8,g8,.box [.int .i64 k,.int .i64 t,.str s,.sl e.list,.sl (e.argL.map Arg.cs)]),(1001,ν 1001,.box e.cells)]:=fun _=>rfl
 have hX:∀ e:El,∀ q ∈ [(8,g8,VObj.box [.int .i64 k,.int .i64 t,.str s,.sl e.list,.sl (e.argL.map Arg.cs)]),(1001,ν 1001,.box e.cells)],q.1≠0∧q.1≠1000∧q.1<2000:=fun e q hq=>by
  rcases List.mem_cons.1 hq with rfl | hq
  ·exact ⟨by show 8≠0;omega,by show 8≠1000;omega,by show 8<2000;omega⟩
  ·rw [List.mem_singleton.1 hq]
   exact ⟨by show 1001≠0;omega,by show 1001≠1000;omega,by show 1001<2000;omega⟩
 rcases args with _ | ⟨pre,a⟩
 ·refine Shift.trans (Zen (b:=1001) (u:=8) (by omega) rfl rfl rfl (fun e he=>absurd he List.not_mem_nil)) ?_
  refine Shift.trans (Znn (b:=1001) rfl rfl rfl) ?_
  exact ZgP (0,0) n1 _ ν tm' h1 rfl rfl (hx ⟨k1,t1,c,l,none⟩) (hX ⟨k1,t1,c,l,none⟩) (by simp) (Zk rfl (Zk rfl (ZP _))) (ZcU (A:=[_,_,_,_,_,_,_,_]) rfl)
 ·have hset:(Zgc 1001 ν (some (pre,a))).set pre.length (Zam [.bool a.named,.sl a.name,.row (1001+3) (ν (1001+3))] 2 [.sl a.value])=(pre ++ [a]).map Arg.cs:=by
   have:=ZbU (pre.map Arg.cs) [.bool a.named,.sl a.name,.row (1001+3) (ν (1001+3))] a.cs
   rw [List.length_map] at this
   rw [List.map_append]
   exact this
  have hget:(Zgc 1001 ν (some (pre,a)))[pre.length]? = some [.bool a.named,.sl a.name,.row (1001+3) (ν (1001+3))]:=by
   have:=Zbl (pre.map Arg.cs) [.bool a.named,.sl a.name,.row (1001+3) (ν (1001+3))]
   rwa [List.length_map] at this
  refine Shift.trans (Zdt 1003 pre.length 2 rfl hget rfl (Zdw rfl) hset) ?_
  refine Shift.trans (Zen (b:=1001) (u:=8) (by omega) rfl rfl rfl Zfu) ?_
  refine Shift.trans (Znn (b:=1001) rfl rfl rfl) ?_
  exact ZgP (0,0) n1 _ ν tm' h1 rfl rfl (hx ⟨k1,t1,c,l,some (pre,a)⟩) (hX ⟨k1,t1,c,l,some (pre,a)⟩) (by simp) (Zk rfl (Zk rfl (ZP _))) (ZcU (A:=[_,_,_,_,_,_,_,_,_,_]) rfl)
def newf (m2 m3:Gen) (k2 k3:Nat) (ν:Nat→Gen) (k:Nat):Nat×Gen:=if k=1002 then (k2,m2) else if k=1003 then (k3,m3) else (k,ν k)
theorem Zck (m2 m3:Gen) (k2 k3:Nat) (ν:Nat→Gen) (h00:ν 0=(0,0)) {r:List El} {kind tag count:Int} {list:List (List PV)} {tm tm':List (Nat×PV)} {ob:List (Nat×Option (Gen×VObj))} {ng:Nat} (h1:Zfz (σf (newf m2 m3 k2 k3 ν)) tm tm') (a0:Zm ob 0=some (ν 0,.box [.row 1000 (ν 1000)])) (a1:Zm ob 1000=some (ν 1000,.prow ET 1 (ZdD ν r ++ [[.ptr 1001 (ν 1001) 0]])))
  (b1:Zm ob 1001=some (ν 1001,.box [.int .i64 kind,.int .i64 tag,.int .i64 count,.row k2 m2,.row k3 m3])) (b2:Zm ob k2=some (m2,.row NT 5 false list)) (b3:Zm ob k3=some (m3,.prow AT 3 [])) (hk:(decide ([k2,k3].Nodup) && [k2,k3].all fun k=>!Zbi k)=true) (a3:Has ob (Zfm NT AT ν r)) :
  Shift (mkS tm ob ng) (mkS tm' (somes (stO NT AT ET νb ⟨kind,tag,count,list,none⟩ r)) 2):=by
 have hl:∀ k,2000≤k→σf (newf m2 m3 k2 k3 ν) (νb k)=some (k,ν k):=fun k hk=>by
  have h1:¬ k=0:=by omega
  have h2:¬ k=1002:=by omega
  have h3:¬ k=1003:=by omega
  simp [σf,νb,newf,h1,h2,h3]
 have e0:σf (newf m2 m3 k2 k3 ν) (νb 0)=some (0,ν 0):=by rw [h00];rfl
 have e1:σf (newf m2 m3 k2 k3 ν) (νb 1000)=some (1000,ν 1000):=rfl
 have e2:σf (newf m2 m3 k2 k3 ν) (νb 1001)=some (1001,ν 1001):=rfl
 have e3:σf (newf m2 m3 k2 k3 ν) (νb (1001+1))=some (k2,m2):=rfl
 have e4:σf (newf m2 m3 k2 k3 ν) (νb (1001+2))=some (k3,m3):=rfl
 have hp:Zfh (σf (newf m2 m3 k2 k3 ν)) (ZdD νb r ++ [[.ptr 1001 (νb 1001) 0]])=some (ZdD ν r ++ [[.ptr 1001 (ν 1001) 0]]):=ZaR (ZhG hl r) (by simp only [Zfh,rnL,rn1,e2,Option.map_some])
 have he:=ZhF (NT:=NT) (AT:=AT) hl r
 have h2:ZaY (σf (newf m2 m3 k2 k3 ν)) (stO NT AT ET νb ⟨kind,tag,count,list,none⟩ r)=some ((0,ν 0,.box [.row 1000 (ν 1000)])::(1000,ν 1000,.prow ET 1 (ZdD ν r ++ [[.ptr 1001 (ν 1001) 0]]))::(1001,ν 1001,.box [.int .i64 kind,.int .i64 tag,.int .i64 count,.row k2 m2,.row k3 m3])::(k2,m2,.row NT 5 false list)::(k3,m3,.prow AT 3 [])::Zfm NT AT ν r):=by
  have key:∀ X,elO NT AT 1001 νb ⟨kind,tag,count,list,none⟩++X=(1001,νb 1001,.box [.int .i64 kind,.int .i64 tag,.int .i64 count,.row (1001+1) (νb (1001+1)),.row (1001+2) (νb (1001+2))])::(1001+1,νb (1001+1),.row NT 5 false list)::(1001+2,νb (1001+2),.prow AT 3 [])::X:=fun _=>rfl
  unfold stO
  rw [key]
  simp only [ZaY,rnO,rnL,Zfh,rn1,e0,e1,e2,e3,e4,Option.map_some,hp,he]
 simp only [Bool.and_eq_true,decide_eq_true_eq,List.all_eq_true,Bool.not_eq_true'] at hk
 obtain ⟨hn,hpk⟩:=hk
 have hpk':∀ k ∈ [k2,k3],¬ (k=0∨1000≤k):=fun k hk h=>by
  have:=hpk k hk
  rw [Zdd h] at this
  cases this
 refine Ze5 _ h1 h2 (Zk a0 (Zk a1 (Zk b1 (Zk b2 (Zk b3 a3))))) ?_
 have hrest:∀ k ∈ (Zfm NT AT ν r).map (·.1),2000≤k:=fun k hk=>by
  obtain ⟨q,hq,rfl⟩:=List.mem_map.1 hk
  exact (ZcH hq).1
 have p2:=hpk' k2 (by simp)
 have p3:=hpk' k3 (by simp)
 simp only [List.nodup_cons,List.mem_cons,List.not_mem_nil,or_false] at hn
 obtain ⟨n23,_⟩:=hn
 simp only [List.map_cons,List.nodup_cons,List.mem_cons,not_or]
 refine ⟨⟨by omega,by omega,by omega,by omega,fun h=>by have:=hrest _ h;omega⟩,⟨by omega,by omega,by omega,fun h=>by have:=hrest _ h;omega⟩,⟨by omega,by omega,fun h=>by have:=hrest _ h;omega⟩,⟨n23,fun h=>by have:=hrest _ h;omega⟩,fun h=>by have:=hrest _ h;omega,Zf3 ν r⟩
end
end VL
end Go.Proofs.YtmgfammllddkhaaGreatDoor
namespace Go.Proofs.YtmgfammllddkhaaGreatDoor
open VL
def Zdr (e:El) (l:List (List PV)):Option El:=if l.length≤4611686018427387904 then Zh0 e l else none
theorem ZcO {r:List El} {l:List (List PV)} {e e':El} (hf:fit e r) (h:Zdr e l=some e'):fit e' r:=by
 unfold Zdr at h
 split at h
 ·exact Zko hf h
 ·cases h
theorem ZgJ (l:List (List PV)) (e e2:El) (r:List El) (hf:fit e r) (h:Zdr e l=some e2):PC 114 [.sl l] e r (.tup []) e2 r:=by
 unfold Zdr at h
 split at h
 ·rename_i hl
  exact ZtV l e e2 r hf h hl
 ·cases h
def ZcP (e:El) (r:List El):Option (El×List El):=if e.kind=1 then match r with
  | []=>none
  | e2::r=>(Zby e2 ⟨#[91,91]⟩).bind fun a=>(Zdr a e.list).bind fun b=>(Zby b ⟨#[93,93]⟩).map fun c=>(c,r)
 else (Zby e ⟨#[93,93]⟩).map fun c=>(c,r)
set_option maxRecDepth 100000 in
set_option maxHeartbeats 1000000 in
theorem ZjB (e e':El) (r:List El) (hf:fit e r) (hk:e.kind≠1) (h:Zby e ⟨#[93,93]⟩=some e'):PC 108 [] e r (.tup []) e' r:=by
 refine Zz mix Tryz.func108 (by kernel_rfl) rfl (by kernel_rfl) ?_
 rw [ZbZ]
 repeat (first | (refine Zac [] νa (Zdo e r hf.1.1) rfl rfl rfl rfl rfl rfl ?_) | refine Zn rfl (by (conv=>lhs;whnf);try rfl) ?_ | refine ZB rfl rfl rfl ?_ | refine Zi rfl rfl ?_ | refine ZT rfl rfl rfl rfl (by (conv=>lhs;whnf);try rfl) ?_ | refine ZaA rfl rfl ?_ | refine Zc ?_ | refine Zh ?_ | refine Za ?_)
 rw [decide_eq_false hk]
 repeat (first | (refine Zr rfl rfl ?_) | (refine Zw [] νa (ZbQ e r _ hf.1 hf.2 e' h) rfl rfl rfl rfl rfl rfl ?_) | refine Zn rfl (by (conv=>lhs;whnf);try rfl) ?_ | refine Zc ?_ | refine Zh ?_ | refine Za ?_ | refine Zba ?_)
 exact Zbt (.inl rfl) (νc 2 1) [] [] rfl rfl trivial rfl rfl
set_option maxRecDepth 100000 in
set_option maxHeartbeats 1000000 in
theorem ZkC (tag count:Int) (list:List (List PV)) (args:Option (List Arg×Arg)) (e2 a b c:El) (r:List El) (hr:r.length≤999) (hf:fit e2 r) (h1:Zby e2 ⟨#[91,91]⟩=some a) (h2:Zdr a list=some b) (h3:Zby b ⟨#[93,93]⟩=some c) :
  PC 108 [] ⟨1,tag,count,list,args⟩ (e2::r) (.tup []) c r:=by
 have hfa:=Zaj hf h1
 have hfb:=ZcO hfa h2
 refine Zz mix Tryz.func108 (by kernel_rfl) rfl (by kernel_rfl) ?_
 rw [ZbZ]
 repeat (first | (refine Zac [] νa (Zdo _ (e2::r) (by simp;omega)) rfl rfl rfl rfl rfl rfl ?_) | (refine Zg rfl rfl ?_) | refine Zn rfl (by (conv=>lhs;whnf);try rfl) ?_ | refine ZB rfl rfl rfl ?_ | refine Zi rfl rfl ?_ | refine ZT rfl rfl rfl rfl (by (conv=>lhs;whnf);try rfl) ?_ | refine ZaA rfl rfl ?_ | refine Zc ?_ | refine Zh ?_ | refine Za ?_ | refine ZA ?_)
 refine ZeF [] νa (Zoc _ e2 r hr) rfl rfl rfl rfl ?_
 iterate 2 (refine ZhE ?_)
 refine Zas (Zhn (2,1+1000000 * (1000+1)) νa (tm':=[(0,.ptr 0 (0,0) 0),(2,.ptr 300 (1,300) 0)]) ⟨rfl,rfl,trivial⟩) ?_ (List.cons_ne_nil _ _)
 repeat (first | (refine Zw [_] νb (ZbQ e2 r _ hf.1 hf.2 a h1) rfl rfl rfl rfl rfl rfl ?_) | (refine Zw [_] (νc _ _) (ZgJ list a b r hfa h2) rfl rfl rfl rfl rfl rfl ?_) | (refine Zw [_] (νc _ _) (ZbQ b r _ hfb.1 hfb.2 c h3) rfl rfl rfl rfl rfl rfl ?_) | refine Zn rfl (by (conv=>lhs;whnf);try rfl) ?_ | refine ZB rfl rfl rfl ?_ | refine Zi rfl rfl ?_ | refine ZaA rfl rfl ?_ | refine Zc ?_ | refine Zh ?_ | refine Za ?_ | refine Zx ?_)
 exact Zbt (.inr rfl) (νc 4 1) [_] [] rfl rfl trivial rfl rfl
def ZfR (e e2:El):Option El:=if e.kind=1 then Zby e2 ⟨#[91,91]⟩ else if e.kind=2 then (Zdv e.tag).bind fun s=>Zby e2 s else if e.kind=3 then (strings_Repeat ⟨#[123]⟩ e.count).bind fun s=>Zby e2 s else some e2
def ZiE (e:El) (a:Arg):Option El:=(Zby e ⟨#[124]⟩).bind fun b=>((if a.named=true then (Zdr b a.name).bind fun c=>Zby c ⟨#[61]⟩ else some b):Option El).bind fun d=>Zdr d a.value
def Zem:El→List Arg→Option El
 | e,[]=>some e
 | e,a::l=>(ZiE e a).bind fun e'=>Zem e' l
def ZfS (e e2:El):Option El:=(ZfR e e2).bind fun a=>(Zdr a e.list).bind fun b=>if e.argL.length≤4611686018427387904 then Zem b e.argL else none
theorem ZhN {e e2 a:El} {r:List El} (hf:fit e2 r) (h:ZfR e e2=some a):fit a r:=by
 unfold ZfR at h
 split at h
 ·exact Zaj hf h
 ·split at h
  ·obtain ⟨s,_,h⟩:=Option.bind_eq_some_iff.1 h
   exact Zaj hf h
  ·split at h
   ·obtain ⟨s,_,h⟩:=Option.bind_eq_some_iff.1 h
    exact Zaj hf h
   ·injection h with h
    rw [← h]
    exact hf
theorem ZiF {e e':El} {a:Arg} {r:List El} (hf:fit e r) (h:ZiE e a=some e'):fit e' r:=by
 obtain ⟨b,hb,h⟩:=Option.bind_eq_some_iff.1 h
 obtain ⟨d,hd,h⟩:=Option.bind_eq_some_iff.1 h
 refine ZcO ?_ h
 split at hd
 ·obtain ⟨c,hc,hd⟩:=Option.bind_eq_some_iff.1 hd
  exact Zaj (ZcO (Zaj hf hb) hc) hd
 ·injection hd with hd
  rw [← hd]
  exact Zaj hf hb
abbrev Zum (ν:Nat→Gen) (k:Nat):Nat×Gen:=if k=300 then (300,νb 300) else (k,ν k)
theorem Zib {ν:Nat→Gen} (k:Nat) (h:k=0∨1000≤k):Zum ν k=(k,ν k):=if_neg (by omega)
set_option maxRecDepth 100000 in
set_option maxHeartbeats 1000000 in
theorem ZiG (e e2 e3:El) (r:List El) (hr:r.length≤999) (hf:fit e2 r) (h:ZfS e e2=some e3):PC 64 [] e (e2::r) (.tup []) e3 r:=by
 obtain ⟨a0,ha0,h⟩:=Option.bind_eq_some_iff.1 h
 obtain ⟨b0,hb0,h4⟩:=Option.bind_eq_some_iff.1 h
 by_cases hal:e.argL.length≤4611686018427387904
 rotate_left
 ·rw [if_neg hal] at h4
  cases h4
 rw [if_pos hal] at h4
 have hfa:=ZhN hf ha0
 have hfb:=ZcO hfa hb0
 refine Zz mix Tryz.func64 (by kernel_rfl) rfl (by kernel_rfl) ?_
 rw [ZbZ]
 repeat (first | refine Zn rfl (by (conv=>lhs;whnf);try rfl) ?_ | refine Zh ?_ | refine Za ?_)
 refine ZeF [] νa (Zoc e e2 r hr) rfl rfl rfl rfl ?_
 iterate 2 (refine ZhE ?_)
 refine Zas (Zhn (1,1+1000000 * (1000+1)) νa (tm':=[(0,.ptr 0 (0,0) 0),(2,.ptr 300 (1,300) 0)]) ⟨rfl,rfl,trivial⟩) ?_ (List.cons_ne_nil _ _)
 repeat (first | (refine Zb3 (α:=El) (c:=.block 0 _) (fun a _=>mkS [(0,.ptr 0 (0,0) 0),(2,.ptr 300 (1,300) 0)] (somes ((300,νb 300,.box e.cells)::stP νb a r)) 2) (fun a=>a=a0) ?_ (fun a _ hJ=>?_)) | refine Zn rfl (by (conv=>lhs;whnf);try rfl) ?_ | refine ZB rfl rfl rfl ?_ | refine Zi rfl rfl ?_ | refine Zp rfl (by (conv=>lhs;whnf);try rfl) ?_ | refine ZT rfl rfl rfl rfl (by (conv=>lhs;whnf);try rfl) ?_ | refine ZaA rfl rfl ?_ | refine Zc ?_ | refine Zh ?_ | refine Za ?_ | refine Zai ?_)
 ·unfold ZfR at ha0
  by_cases h1:e.kind=1
  ·rw [if_pos h1] at ha0
   rw [decide_eq_true h1]
   repeat (first | (refine Zr rfl rfl ?_) | (refine Zw [_] νb (ZbQ e2 r _ hf.1 hf.2 a0 ha0) rfl rfl rfl rfl rfl rfl ?_) | refine Zn rfl (by (conv=>lhs;whnf);try rfl) ?_ | refine Zc ?_ | refine Za ?_ | refine Zx ?_ | refine ZQ ?_)
   exact Zc8 a0 2 rfl (ZaV (νc 4 1) [_] (Zum (νc 4 1)) Zib rfl ⟨rfl,rfl,trivial⟩ (x:=[(300,νb 300,.box e.cells)]) (x':=[(300,νb 300,.box e.cells)]) rfl rfl rfl (Zk rfl (ZP _)) rfl)
  ·rw [if_neg h1] at ha0
   rw [decide_eq_false h1]
   repeat (first | (refine Zg rfl rfl ?_) | refine Zp rfl (by (conv=>lhs;whnf);try rfl) ?_ | refine ZT rfl rfl rfl rfl (by (conv=>lhs;whnf);try rfl) ?_ | refine Zc ?_ | refine Zh ?_ | refine Za ?_)
   by_cases h2:e.kind=2
   ·rw [if_pos h2] at ha0
    obtain ⟨s,hs,ha0⟩:=Option.bind_eq_some_iff.1 ha0
    rw [decide_eq_true h2]
    repeat (first | (refine Zr rfl rfl ?_) | (refine Zff (ZiI _ _ hs) rfl rfl ?_) | (refine Zw [_] νb (ZbQ e2 r s hf.1 hf.2 a0 ha0) rfl rfl rfl rfl rfl rfl ?_) | refine Zn rfl (by (conv=>lhs;whnf);try rfl) ?_ | refine ZB rfl rfl rfl ?_ | refine Zi rfl rfl ?_ | refine ZaA rfl rfl ?_ | refine Zc ?_ | refine Za ?_ | refine Zx ?_ | refine ZQ ?_)
    exact Zc8 a0 2 rfl (ZaV (νc 5 6) [_] (Zum (νc 5 6)) Zib rfl ⟨rfl,rfl,trivial⟩ (x:=[(300,νb 300,.box e.cells)]) (x':=[(300,νb 300,.box e.cells)]) rfl rfl rfl (Zk rfl (ZP _)) rfl)
   ·rw [if_neg h2] at ha0
    rw [decide_eq_false h2]
    repeat (first | (refine Zg rfl rfl ?_) | refine Zp rfl (by (conv=>lhs;whnf);try rfl) ?_ | refine ZT rfl rfl rfl rfl (by (conv=>lhs;whnf);try rfl) ?_ | refine Zc ?_ | refine Zh ?_ | refine Za ?_)
    by_cases h3:e.kind=3
    ·rw [if_pos h3] at ha0
     obtain ⟨s,hs,ha0⟩:=Option.bind_eq_some_iff.1 ha0
     rw [decide_eq_true h3]
     repeat (first | (refine Zr rfl rfl ?_) | (refine Zff (Zdm _ _ _ hs) rfl rfl ?_) | (refine Zw [_] νb (ZbQ e2 r s hf.1 hf.2 a0 ha0) rfl rfl rfl rfl rfl rfl ?_) | refine Zn rfl (by (conv=>lhs;whnf);try rfl) ?_ | refine ZB rfl rfl rfl ?_ | refine Zi rfl rfl ?_ | refine ZaA rfl rfl ?_ | refine Zc ?_ | refine Za ?_ | refine Zx ?_ | refine ZQ ?_)
     exact Zc8 a0 2 rfl (ZaV (νc 6 6) [_] (Zum (νc 6 6)) Zib rfl ⟨rfl,rfl,trivial⟩ (x:=[(300,νb 300,.box e.cells)]) (x':=[(300,νb 300,.box e.cells)]) rfl rfl rfl (Zk rfl (ZP _)) rfl)
    ·rw [if_neg h3] at ha0
     injection ha0 with ha0
     subst ha0
     rw [decide_eq_false h3]
     repeat (first | (refine Zg rfl rfl ?_) | refine ZA ?_ | refine Zx ?_ | refine ZQ ?_)
     exact Zc8 e2 2 rfl (ZaV (νb) [_] (Zum (νb)) Zib rfl ⟨rfl,rfl,trivial⟩ (x:=[(300,νb 300,.box e.cells)]) (x':=[(300,νb 300,.box e.cells)]) rfl rfl rfl (Zk rfl (ZP _)) rfl)
 ·subst hJ
  repeat (first | (refine Zw [_] νb (ZgJ e.list _ b0 r hfa hb0) rfl rfl rfl rfl rfl rfl ?_) | refine Zn rfl (by (conv=>lhs;whnf);try rfl) ?_ | refine ZB rfl rfl rfl ?_ | refine Zi rfl rfl ?_ | refine ZaA rfl rfl ?_ | refine ZgR rfl rfl ?_ | refine Zc ?_ | refine Zh ?_ | refine Za ?_ | refine Zai ?_)
  refine ZH (fun (a:Nat×El) _=>mkS [(0,.ptr 0 (0,0) 0),(42,.sl (e.argL.map Arg.cs)),(43,.int .i64 ((e.argL.map Arg.cs).length:Int)),(44,.int .i64 ((a.1:Nat):Int))] (somes (stP νb a.2 r)) 2) (fun a=>a.1≤e.argL.length∧fit a.2 r∧Zem a.2 (e.argL.drop a.1)=some e3) (fun a=>e.argL.length - a.1) (0,b0) 2 ⟨Nat.zero_le _,hfb,h4⟩
   (ZaV (νc 2 5) [_] (fun k=>(k,νc 2 5 k)) (fun _ _=>rfl) rfl ⟨rfl,rfl,rfl,rfl,trivial⟩ (x:=[]) (x':=[]) rfl rfl rfl (ZP _) rfl) (fun a ng hJ=>?_)
  obtain ⟨q,e1⟩:=a
  obtain ⟨hq,hf1,hn⟩:=hJ
  dsimp only at hq hf1 hn ⊢
  repeat (first | refine ZT rfl rfl rfl rfl (by (conv=>lhs;whnf);try rfl) ?_ | refine Zc ?_ | refine Zh ?_ | refine Za ?_)
  by_cases hlt:q<e.argL.length
  ·refine Zr (by (conv=>lhs;whnf);try rfl) (by simp;omega) ?_
   rw [List.drop_eq_getElem_cons hlt] at hn
   obtain ⟨e5,h5,hn⟩:=Option.bind_eq_some_iff.1 hn
   have hf5:=ZiF hf1 h5
   have hcs:(e.argL.map Arg.cs)[q]? = some (Arg.cs e.argL[q]):=by rw [List.getElem?_map,List.getElem?_eq_getElem hlt];rfl
   generalize e.argL[q]=ar at hcs h5
   obtain ⟨named,name,value⟩:=ar
   obtain ⟨b,hb,h5⟩:=Option.bind_eq_some_iff.1 h5
   obtain ⟨d,hd,h5⟩:=Option.bind_eq_some_iff.1 h5
   have hfb2:=Zaj hf1 hb
   cases named with
   | true=>
     rw [if_pos rfl] at hd
     obtain ⟨c,hc,hd⟩:=Option.bind_eq_some_iff.1 hd
     have hfc:=ZcO hfb2 hc
     have hfd:=Zaj hfc hd
     repeat (first | (refine ZdI rfl rfl rfl hcs rfl ?_) | (refine Zr rfl rfl ?_) | (refine Zw [_,_] νb (ZbQ e1 r _ hf1.1 hf1.2 b hb) rfl rfl rfl rfl rfl rfl ?_) | (refine Zw [_,_] (νc _ _) (ZgJ name b c r hfb2 hc) rfl rfl rfl rfl rfl rfl ?_) | (refine Zw [_,_] (νc _ _) (ZbQ c r _ hfc.1 hfc.2 d hd) rfl rfl rfl rfl rfl rfl ?_) | (refine Zw [_,_] (νc _ _) (ZgJ value d e5 r hfd h5) rfl rfl rfl rfl rfl rfl ?_) | refine Zn rfl (by (conv=>lhs;whnf);try rfl) ?_ | refine ZB rfl rfl rfl ?_ | refine Zi rfl rfl ?_ | refine ZmQ rfl rfl (by omega) ?_ | refine ZcV rfl rfl ?_ | refine ZaH rfl rfl rfl (by (conv=>lhs;whnf);try rfl) (by (conv=>lhs;whnf);try rfl) (by rfl) (by rfl) (Nat.le_of_ble_eq_true rfl) (by (conv=>lhs;whnf);try rfl) ?_ | refine Zc ?_ | refine Zh ?_ | refine Za ?_ | refine Zai ?_ | refine ZA ?_ | refine Zx ?_)
     exact Zaf (q+1,e5) 2 ⟨by omega,hf5,hn⟩ (by dsimp only;omega) (ZaV (νc 8 3) [_,_] (fun k=>(k,νc 8 3 k)) (fun _ _=>rfl) rfl ⟨rfl,rfl,rfl,rfl,trivial⟩ (x:=[]) (x':=[]) rfl rfl rfl (ZP _) rfl)
   | false=>
     rw [if_neg Bool.false_ne_true] at hd
     injection hd with hd
     subst hd
     repeat (first | (refine ZdI rfl rfl rfl hcs rfl ?_) | (refine Zg rfl rfl ?_) | (refine Zw [_,_] νb (ZbQ e1 r _ hf1.1 hf1.2 b hb) rfl rfl rfl rfl rfl rfl ?_) | (refine Zw [_,_] (νc _ _) (ZgJ value b e5 r hfb2 h5) rfl rfl rfl rfl rfl rfl ?_) | refine Zn rfl (by (conv=>lhs;whnf);try rfl) ?_ | refine ZB rfl rfl rfl ?_ | refine Zi rfl rfl ?_ | refine ZmQ rfl rfl (by omega) ?_ | refine ZcV rfl rfl ?_ | refine ZaH rfl rfl rfl (by (conv=>lhs;whnf);try rfl) (by (conv=>lhs;whnf);try rfl) (by rfl) (by rfl) (Nat.le_of_ble_eq_true rfl) (by (conv=>lhs;whnf);try rfl) ?_ | refine Zc ?_ | refine Zh ?_ | refine Za ?_ | refine Zai ?_ | refine ZA ?_ | refine Zx ?_)
     exact Zaf (q+1,e5) 2 ⟨by omega,hf5,hn⟩ (by dsimp only;omega) (ZaV (νc 6 3) [_,_] (fun k=>(k,νc 6 3 k)) (fun _ _=>rfl) rfl ⟨rfl,rfl,rfl,rfl,trivial⟩ (x:=[]) (x':=[]) rfl rfl rfl (ZP _) rfl)
  ·refine Zg (by (conv=>lhs;whnf);try rfl) (by simp;omega) ?_
   repeat (first | refine Za1 ?_ | refine Zx ?_ | refine Zc1 ?_ | refine ZgE ?_)
   obtain rfl:q=e.argL.length:=by omega
   rw [List.drop_length] at hn
   injection hn with hn
   subst hn
   exact Zbt (.inr rfl) νb [] [] rfl rfl trivial rfl rfl
end Go.Proofs.YtmgfammllddkhaaGreatDoor
namespace Go.Proofs.YtmgfammllddkhaaGreatDoor
namespace VL
section
variable {P:Program} [WInv P] {ops:Array Oper} {draw:Bool} {i:Nat} {L:List Oper} {acc:List (List Nat×List Nat)} {K:FS→Prop} {tm:List (Nat×PV)} {ob:List (Nat×Option (Gen×VObj))} {ng:Nat}
 {d:Option Tmp} {ty:TypeId} {pos:String} {after:Array Edge} {gd:Option (Nat×Bool)}
theorem Zky {x:Operand} {T:TypeId} {agg:Bool} {n:Nat} [h:Ld P T agg n] (hw:Zf ops (mkS tm ob ng) ⟨d,.load T x,ty,pos,after,gd⟩=some true) {cs:List PV} {t off:Nat} {g:Gen} {v:PV} (hx:evL tm x = .ptr t g off) (hb:Zm ob t=some (g,.box cs)) (hv:ZlD agg n (cs.drop off)=some v)
  (k:GoL P ops draw (i+1) L (acc ++ [(Zy (mkS tm ob ng) ⟨d,.load T x,ty,pos,after,gd⟩,[])]) (mkS (Za3 d v tm) ob ng) K):GoL P ops draw i (⟨d,.load T x,ty,pos,after,gd⟩::L) acc (mkS tm ob ng) K:=by
 refine ZB (cs:=cs.drop off) hw ?_ hv k
 rw [hx]
 simp only [ZeU,ZV,hb,if_true]
end
theorem Zsu {ν:Nat→Gen} {NT AT:Nat} {e':El} {r':List El}:∀ {r:List El},(e'::r') <:+ r→(ZdD ν r)[r'.length]? = some [.ptr (ZaE r') (ν (ZaE r')) 0]∧(ZaE r',ν (ZaE r'),VObj.box [.int .i64 e'.kind,.int .i64 e'.tag,.int .i64 e'.count,.row (ZaE r'+1) (ν (ZaE r'+1)),.row (ZaE r'+2) (ν (ZaE r'+2))]) ∈ Zfm NT AT ν r
 | [],h=>by cases List.suffix_nil.1 h
 | x::r,h=>by
   rcases List.suffix_cons_iff.1 h with h | h
   ·injection h with h1 h2
    subst h1 h2
    exact ⟨by unfold ZdD;have:=ZmB ν r' [.ptr (ZaE r') (ν (ZaE r')) 0];exact this,List.mem_append_left _ (List.mem_cons_self ..)⟩
   ·obtain ⟨h1,h2⟩:=Zsu (NT:=NT) (AT:=AT) h
    refine ⟨?_,List.mem_append_right _ h2⟩
    unfold ZdD
    rw [List.getElem?_append_left (List.getElem?_eq_some_iff.1 h1).1]
    exact h1
theorem Zsv {ν:Nat→Gen} {NT AT ET:Nat} {e e':El} {r r':List El} (h:(e'::r') <:+ (e::r)):∃ b c1 c2,(ZdD ν r ++ [[.ptr 1001 (ν 1001) 0]])[r'.length]? = some [.ptr b (ν b) 0]∧(b,ν b,VObj.box [.int .i64 e'.kind,.int .i64 e'.tag,.int .i64 e'.count,c1,c2]) ∈ stO NT AT ET ν e r:=by
 rcases List.suffix_cons_iff.1 h with h | h
 ·injection h with h1 h2
  subst h1 h2
  exact ⟨1001,_,_,ZmB ν r' _,List.mem_cons_of_mem _ (List.mem_cons_of_mem _ (List.mem_append_left _ (List.mem_cons_self ..)))⟩
 ·obtain ⟨h1,h2⟩:=Zsu (NT:=NT) (AT:=AT) (ν:=ν) h
  refine ⟨_,_,_,?_,List.mem_cons_of_mem _ (List.mem_cons_of_mem _ (List.mem_append_right _ h2))⟩
  rw [List.getElem?_append_left (List.getElem?_eq_some_iff.1 h1).1]
  exact h1
end VL
open VL
def Zay:El→List El→Nat
 | _,[]=>0
 | e,e2::r=>if e.kind=2 then 0 else if e.kind=3 then r.length+1 else Zay e2 r
def ZaZ (k:Int):El→List El→Nat
 | _,[]=>0
 | e,e2::r=>if e.kind=2∧e.tag=k then r.length+1 else ZaZ k e2 r
theorem Zgi {e:El} {r:List El} {tm tm':List (Nat×PV)} {ng:Nat} (h1:Zfz (σf fun k=>(k,νa k)) tm tm'):Shift (mkS tm (somes (stP νa e r)) ng) (mkS tm' (somes (stP νa e r)) 2):=
 Ze5 _ h1 (Zkk (ν:=νa) (ν':=νa) (fun _ _=>rfl) e r) (Za8 (lits:=[]) rfl) (ZaP _ _ _)
set_option maxRecDepth 100000 in
set_option maxHeartbeats 1000000 in
theorem Zmw (e:El) (r:List El) (hr:r.length≤1000):ContractG Tryz.prog 171 [.ptr 0 (0,0) 0] (objs (stP νa e r)) (.int .i64 (Zay e r:Int)) (stP νa e r):=by
 refine Zz mix Tryz.func171 (by kernel_rfl) rfl (by kernel_rfl) ?_
 rw [ZbZ]
 repeat (first | (refine Za6 rfl rfl (ZbW _ _ _) ?_) | (refine Zf8 rfl rfl rfl (by omega) ?_) | refine Zn rfl (by (conv=>lhs;whnf);try rfl) ?_ | refine ZB rfl rfl rfl ?_ | refine Zi rfl rfl ?_ | refine Zp rfl (by (conv=>lhs;whnf);try rfl) ?_ | refine ZaA rfl rfl ?_ | refine Zc ?_ | refine Zh ?_ | refine Za ?_ | refine Zai ?_)
 refine ZH (fun (a:El×List El) _=>mkS [(0,.ptr 0 (0,0) 0),(3,.int .i64 (a.2.length:Int))] (somes (stP νa e r)) 2) (fun a=>(a.1::a.2) <:+ (e::r)∧Zay a.1 a.2=Zay e r) (fun a=>a.2.length) (e,r) 2 ⟨List.suffix_refl _,rfl⟩ (Zgi ⟨rfl,rfl,trivial⟩) (fun a ng hJ=>?_)
 obtain ⟨e1,r1⟩:=a
 obtain ⟨hsuf,hlb⟩:=hJ
 dsimp only at hsuf hlb ⊢
 have hlt:r1.length<r.length+1:=by have:=hsuf.length_le;simp at this;omega
 obtain ⟨b,c1,c2,hp,hm⟩:=Zsv (ν:=νa) (NT:=78) (AT:=111) (ET:=98) hsuf
 have hb:=Za8 (lits:=[]) rfl _ _ _ hm
 rcases r1 with _ | ⟨e2,r2⟩
 ·repeat (first | (refine ZN rfl ?_) | (refine Zg rfl rfl ?_) | refine Zn rfl (by (conv=>lhs;whnf);try rfl) ?_ | refine Zp rfl (by (conv=>lhs;whnf);try rfl) ?_ | refine ZT rfl rfl rfl rfl (by (conv=>lhs;whnf);try rfl) ?_ | refine ZaU rfl rfl (by (conv=>lhs;whnf);try rfl) ?_ | refine Zc ?_ | refine Zh ?_ | refine Za ?_ | refine Zba ?_ | refine Za1 ?_)
  rw [← hlb]
  exact Zg1 (Shift.refl _) rfl rfl (Za8 (lits:=[]) rfl)
 ·have h0:decide ((0:Int)<(((e2::r2).length:Nat):Int))=true:=decide_eq_true (by simp)
  repeat (first | refine Zn rfl (by (conv=>lhs;whnf);try rfl) ?_ | refine ZT rfl rfl rfl rfl (by (conv=>lhs;whnf);try rfl) ?_ | refine Zh ?_ | refine Za ?_)
  rw [h0]
  repeat (first | (refine Zes rfl rfl rfl rfl (by rw [ZbW];exact hlt) ?_) | (refine ZcB rfl rfl rfl hp rfl ?_) | (refine Zky rfl rfl hb rfl ?_) | refine Zn rfl (by (conv=>lhs;whnf);try rfl) ?_ | refine ZB rfl rfl rfl ?_ | refine Zi rfl rfl ?_ | refine ZT rfl rfl rfl rfl (by (conv=>lhs;whnf);try rfl) ?_ | refine ZaA rfl rfl ?_ | refine ZaU rfl rfl (by (conv=>lhs;whnf);try rfl) ?_ | refine Zc ?_)
  by_cases h2:e1.kind=2
  ·rw [decide_eq_true h2]
   repeat (first | (refine Zg rfl rfl ?_) | refine Zp rfl (by (conv=>lhs;whnf);try rfl) ?_ | refine Zc ?_ | refine Zh ?_ | refine Za ?_ | refine Zba ?_ | refine Za1 ?_)
   rw [show Zay e r=0 by rw [← hlb];simp only [Zay,if_pos h2]]
   exact Zg1 (Shift.refl _) rfl rfl (Za8 (lits:=[]) rfl)
  ·rw [decide_eq_false h2]
   repeat (first | (refine Zr rfl rfl ?_) | (refine Zes rfl rfl rfl rfl (by rw [ZbW];exact hlt) ?_) | (refine ZcB rfl rfl rfl hp rfl ?_) | (refine Zky rfl rfl hb rfl ?_) | refine Zn rfl (by (conv=>lhs;whnf);try rfl) ?_ | refine ZB rfl rfl rfl ?_ | refine Zi rfl rfl ?_ | refine ZT rfl rfl rfl rfl (by (conv=>lhs;whnf);try rfl) ?_ | refine ZaA rfl rfl ?_ | refine Zc ?_ | refine Zh ?_ | refine Za ?_ | refine Zai ?_ | refine ZA ?_)
   by_cases h3:e1.kind=3
   ·rw [decide_eq_true h3]
    repeat (first | (refine Zr rfl rfl ?_) | refine Zn rfl (by (conv=>lhs;whnf);try rfl) ?_ | refine Zp rfl (by (conv=>lhs;whnf);try rfl) ?_ | refine Zc ?_ | refine Zh ?_ | refine Za ?_ | refine Zba ?_ | refine ZqR ?_ | refine ZqS ?_)
    rw [show Zay e r=r2.length+1 by rw [← hlb];simp only [Zay,if_neg h2,if_pos h3]]
    exact Zg1 (Shift.refl _) rfl rfl (Za8 (lits:=[]) rfl)
   ·rw [decide_eq_false h3]
    repeat (first | (refine Zg rfl rfl ?_) | (refine Zf8 (a:=r2.length) rfl rfl rfl (by simp at hlt;omega) ?_) | refine Zn rfl (by (conv=>lhs;whnf);try rfl) ?_ | refine Zp rfl (by (conv=>lhs;whnf);try rfl) ?_ | refine Zc ?_ | refine Za ?_ | refine ZA ?_ | refine Zx ?_)
    refine Zaf (e2,r2) 2 ⟨(List.suffix_cons _ _).trans hsuf,?_⟩ (by dsimp only;simp) (Zgi ⟨rfl,rfl,trivial⟩)
    rw [← hlb]
    simp only [Zay,if_neg h2,if_neg h3]
end Go.Proofs.YtmgfammllddkhaaGreatDoor
namespace Go.Proofs.YtmgfammllddkhaaGreatDoor
open VL
def ok1 (x:El):Prop:=(∀ q,x.args=some q→q.1.length≤1000000)∧x.cur.length≤9223372036854775807
def fits (e:El) (r:List El):Prop:=r.length≤999∧∀ x ∈ e::r,ok1 x
theorem Zag {e:El} {r:List El} (h:fits e r):fit e r:=⟨⟨by have:=h.1;omega,(h.2 e (List.mem_cons_self ..)).1⟩,(h.2 e (List.mem_cons_self ..)).2⟩
theorem ZaC {e e2:El} {r:List El} (h:fits e (e2::r)):fits e2 r:=⟨by have:=h.1;simp at this;omega,fun x hx=>h.2 x (List.mem_cons_of_mem _ hx)⟩
theorem Zbx {e e':El} {r:List El} (h:fits e r) (h':fit e' r):fits e' r:=⟨h.1,fun x hx=>by
 rcases List.mem_cons.1 hx with rfl | hx
 ·exact ⟨h'.1.2,h'.2⟩
 ·exact h.2 x (List.mem_cons_of_mem _ hx)⟩
theorem ZhX {r:List El}:∀ {l:List Arg} {e e':El},fit e r→Zem e l=some e'→fit e' r
 | [],e,e',hf,h=>by injection h with h;rw [← h];exact hf
 | a::l,e,e',hf,h=>by
   obtain ⟨e1,h1,h⟩:=Option.bind_eq_some_iff.1 h
   exact ZhX (ZiF hf h1) h
theorem ZdA {e e2 e3:El} {r:List El} (hf:fits e (e2::r)) (h:ZfS e e2=some e3):fits e3 r:=by
 refine Zbx (ZaC hf) ?_
 obtain ⟨a,ha,h⟩:=Option.bind_eq_some_iff.1 h
 obtain ⟨b,hb,h⟩:=Option.bind_eq_some_iff.1 h
 split at h
 ·exact ZhX (ZcO (ZhN (Zag (ZaC hf)) ha) hb) h
 ·cases h
def Zfi:Nat→El→List El→Option (El×List El)
 | 0,e,r=>some (e,r)
 | _+1,_,[]=>none
 | n+1,e,e2::r=>(ZfS e e2).bind fun e3=>Zfi n e3 r
theorem ZjL {P:Program} [WInv P] {f:FuncId} {args args':List PV} {obs:List (Nat×VObj)} {res:PV} {obs':List (Nat×Gen×VObj)} (hl:args.length=args'.length) (h:∀ (x:Ctx) (i:Nat) (p p':PV) (v:Value),args[i]? = some p→args'[i]? = some p'→Rep x p v→Rep x p' v)
  (hc:ContractG P f args' obs res obs'):ContractG P f args obs res obs':=by
 refine ⟨hc.isGo,fun x vs hp hI=>hc.calls x vs ⟨hl.symm.trans hp.size,fun i p' v hp' hv=>?_,hp.ob,hp.gen,hp.flt⟩ hI⟩
 have hlt:i<args.length:=by rw [hl];exact (List.getElem?_eq_some_iff.1 hp').1
 exact h x i _ p' v (List.getElem?_eq_getElem hlt) hp' (hp.rep i _ v (List.getElem?_eq_getElem hlt) hv)
theorem ZuI {x:Ctx} {v:Value} (h:Rep x .nil v):Rep x (.sl []) v:=by
 cases h
 exact .sl [] none 0 0 0 0 0 (fun _ _=>undef) rfl (Nat.le_refl _) (by omega) (by simp) (by omega) (fun i j e p he=>by simp at he) (fun i j e p he=>by simp at he)
theorem ZtI {x:Ctx} {v:Value} {cs cs':List PV} (hl:cs.length=cs'.length) (h:∀ (j:Nat) (q q':PV),cs[j]? = some q→cs'[j]? = some q'→q=q'∨(q = .nil∧q' = .sl [])) (hr:Rep x (.agg cs) v):Rep x (.agg cs') v:=by
 cases hr with
 | agg _ vs hl2 hh=>
   refine .agg cs' vs (hl.symm.trans hl2) fun i p' w hp' hw=>?_
   have hlt:i<cs.length:=by rw [hl];exact (List.getElem?_eq_some_iff.1 hp').1
   have hp:=List.getElem?_eq_getElem hlt
   rcases h i _ p' hp hp' with e | ⟨e1,e2⟩
   ·rw [← e]
    exact hh i _ w hp hw
   ·rw [e2]
    have:=hh i _ w hp hw
    rw [e1] at this
    exact ZuI this
theorem Zl3 {e e':El} {r:List El} {n:Node} {cs:List PV} (hl:cs.length=5) (h:∀ (j:Nat) (q q':PV),cs[j]? = some q→n.cs[j]? = some q'→q=q'∨(q = .nil∧q' = .sl [])) (hc:PC 103 [.agg n.cs] e r (.tup []) e' r):PC 103 [.agg cs] e r (.tup []) e' r:=
 ZjL (args':=[.ptr 0 (0,0) 0,.agg n.cs]) rfl (fun x i p p' v hp hp' hr=>by
  match i with
  | 0=>
    injection hp with hp
    injection hp' with hp'
    rw [← hp',hp]
    exact hr
  | 1=>
    injection hp with hp
    injection hp' with hp'
    have hr':Rep x (.agg cs) v:=by rw [hp];exact hr
    rw [← hp']
    exact ZtI (hl.trans rfl) h hr'
  | i+2=>simp at hp) hc
theorem ZtJ (e e':El) (r:List El) (k t:Int) (s:ByteArray) (l:List (List PV)) (hs:small e r) (h:Zf9 e ⟨k,t,s,l,[]⟩=some e'):PC 103 [.agg [.int .i64 k,.int .i64 t,.str s,.sl l,.nil]] e r (.tup []) e' r:=
 Zl3 (n:=⟨k,t,s,l,[]⟩) rfl (fun j q q' hq hq'=>by
  match j with
  | 0=>injection hq with hq;injection hq' with hq';exact .inl (hq.symm.trans hq')
  | 1=>injection hq with hq;injection hq' with hq';exact .inl (hq.symm.trans hq')
  | 2=>injection hq with hq;injection hq' with hq';exact .inl (hq.symm.trans hq')
  | 3=>injection hq with hq;injection hq' with hq';exact .inl (hq.symm.trans hq')
  | 4=>injection hq with hq;injection hq' with hq';exact .inr ⟨hq.symm,hq'.symm⟩
  | j+5=>simp at hq) (ZgL e r _ hs e' h)
theorem Zqq (e e':El) (r:List El) (k t:Int) (s:ByteArray) (hs:small e r) (h:Zf9 e ⟨k,t,s,[],[]⟩=some e'):PC 103 [.agg [.int .i64 k,.int .i64 t,.str s,.nil,.nil]] e r (.tup []) e' r:=
 Zl3 (n:=⟨k,t,s,[],[]⟩) rfl (fun j q q' hq hq'=>by
  match j with
  | 0=>injection hq with hq;injection hq' with hq';exact .inl (hq.symm.trans hq')
  | 1=>injection hq with hq;injection hq' with hq';exact .inl (hq.symm.trans hq')
  | 2=>injection hq with hq;injection hq' with hq';exact .inl (hq.symm.trans hq')
  | 3=>injection hq with hq;injection hq' with hq';exact .inr ⟨hq.symm,hq'.symm⟩
  | 4=>injection hq with hq;injection hq' with hq';exact .inr ⟨hq.symm,hq'.symm⟩
  | j+5=>simp at hq) (ZgL e r _ hs e' h)
theorem Zhz (k:Int):∀ (e:El) (r:List El),ZaZ k e r≤r.length
 | _,[]=>Nat.le_refl _
 | e,e2::r=>by
   unfold ZaZ
   split
   ·simp
   ·have:=Zhz k e2 r
    simp
    omega
def Zd9 (k:Int) (s:ByteArray) (e:El) (r:List El):Option (El×List El):=if ZaZ k e r=0 then (Zby e s).map fun e'=>(e',r) else (Zfi (r.length - ZaZ k e r) e r).bind fun q=>match q.2 with
 | []=>none
 | e2::r2=>(Zf9 e2 ⟨6,k,⟨#[]⟩,q.1.list,[]⟩).map fun e3=>(e3,r2)
set_option maxRecDepth 100000 in
set_option maxHeartbeats 1000000 in
theorem Zox (k:Int) (s:ByteArray) (e e3:El) (r r3:List El) (hf:fits e r) (h:Zd9 k s e r=some (e3,r3)):PC 109 [.int .i64 k,.str s] e r (.tup []) e3 r3:=by
 have hr:=hf.1
 have hat:=Zhz k e r
 refine Zz mix Tryz.func109 (by kernel_rfl) rfl (by kernel_rfl) ?_
 rw [ZbZ]
 repeat (first | (refine Za6 rfl rfl (ZbW _ _ _) ?_) | (refine Zf8 rfl rfl rfl (by omega) ?_) | (refine Zb3 (α:=Unit) (c:=.block 0 _) (fun _ _=>mkS [(0,.ptr 0 (0,0) 0),(1,.int .i64 k),(2,.str s),(6,.int .i64 (ZaZ k e r:Int))] (somes (stP νa e r)) 2) (fun _=>True) ?_ (fun a _ _=>?_)) | refine Zn rfl (by (conv=>lhs;whnf);try rfl) ?_ | refine ZB rfl rfl rfl ?_ | refine Zi rfl rfl ?_ | refine Zp rfl (by (conv=>lhs;whnf);try rfl) ?_ | refine ZaA rfl rfl ?_ | refine Zc ?_ | refine Zh ?_ | refine Za ?_ | refine Zai ?_)
 ·refine ZH (fun (a:El×List El) _=>mkS [(0,.ptr 0 (0,0) 0),(1,.int .i64 k),(2,.str s),(6,.int .i64 (a.2.length:Int))] (somes (stP νa e r)) 2) (fun a=>(a.1::a.2) <:+ (e::r)∧ZaZ k a.1 a.2=ZaZ k e r) (fun a=>a.2.length) (e,r) 2 ⟨List.suffix_refl _,rfl⟩ (Zgi ⟨rfl,rfl,rfl,rfl,trivial⟩) (fun a ng hJ=>?_)
  obtain ⟨e1,r1⟩:=a
  obtain ⟨hsuf,hlb⟩:=hJ
  dsimp only at hsuf hlb ⊢
  have hlt:r1.length<r.length+1:=by have:=hsuf.length_le;simp at this;omega
  obtain ⟨b,c1,c2,hp,hm⟩:=Zsv (ν:=νa) (NT:=78) (AT:=111) (ET:=98) hsuf
  have hb:=Za8 (lits:=[]) rfl _ _ _ hm
  rcases r1 with _ | ⟨e2,r2⟩
  ·repeat (first | (refine ZN rfl ?_) | (refine Zg rfl rfl ?_) | refine Zn rfl (by (conv=>lhs;whnf);try rfl) ?_ | refine ZT rfl rfl rfl rfl (by (conv=>lhs;whnf);try rfl) ?_ | refine ZaU rfl rfl (by (conv=>lhs;whnf);try rfl) ?_ | refine Zc ?_ | refine Zh ?_ | refine Za ?_ | refine Za1 ?_ | refine Zx ?_ | refine Zc1 ?_ | refine ZgE ?_)
   rw [← hlb]
   exact Zc8 () 2 trivial (Zgi ⟨rfl,rfl,rfl,rfl,trivial⟩)
  ·have h0:decide ((0:Int)<(((e2::r2).length:Nat):Int))=true:=decide_eq_true (by simp)
   repeat (first | refine Zn rfl (by (conv=>lhs;whnf);try rfl) ?_ | refine ZT rfl rfl rfl rfl (by (conv=>lhs;whnf);try rfl) ?_ | refine Zh ?_ | refine Za ?_)
   rw [h0]
   repeat (first | (refine Zes rfl rfl rfl rfl (by rw [ZbW];exact hlt) ?_) | (refine ZcB rfl rfl rfl hp rfl ?_) | (refine Zky rfl rfl hb rfl ?_) | refine Zn rfl (by (conv=>lhs;whnf);try rfl) ?_ | refine ZB rfl rfl rfl ?_ | refine Zi rfl rfl ?_ | refine ZT rfl rfl rfl rfl (by (conv=>lhs;whnf);try rfl) ?_ | refine ZaA rfl rfl ?_)
   by_cases h2:e1.kind=2
   ·rw [decide_eq_true h2]
    repeat (first | (refine Zes rfl rfl rfl rfl (by rw [ZbW];exact hlt) ?_) | (refine ZcB rfl rfl rfl hp rfl ?_) | (refine Zky rfl rfl hb rfl ?_) | refine Zn rfl (by (conv=>lhs;whnf);try rfl) ?_ | refine ZB rfl rfl rfl ?_ | refine Zi rfl rfl ?_ | refine ZT rfl rfl rfl rfl (by (conv=>lhs;whnf);try rfl) ?_ | refine ZaA rfl rfl ?_ | refine ZaU rfl rfl (by (conv=>lhs;whnf);try rfl) ?_ | refine Zc ?_)
    by_cases h3:e1.tag=k
    ·rw [decide_eq_true h3]
     repeat (first | (refine Zg rfl rfl ?_) | refine Za1 ?_ | refine Zx ?_ | refine Zc1 ?_ | refine ZgE ?_)
     rw [show ZaZ k e r=r2.length+1 by rw [← hlb];simp only [ZaZ,if_pos (And.intro h2 h3)]]
     exact Zc8 () 2 trivial (Zgi ⟨rfl,rfl,rfl,rfl,trivial⟩)
    ·rw [decide_eq_false h3]
     repeat (first | (refine Zr rfl rfl ?_) | (refine Zf8 (a:=r2.length) rfl rfl rfl (by simp at hlt;omega) ?_) | refine Zn rfl (by (conv=>lhs;whnf);try rfl) ?_ | refine Zp rfl (by (conv=>lhs;whnf);try rfl) ?_ | refine Zc ?_ | refine Za ?_ | refine Zai ?_ | refine ZA ?_ | refine Zx ?_ | refine ZQ ?_)
     refine Zaf (e2,r2) 2 ⟨(List.suffix_cons _ _).trans hsuf,?_⟩ (by dsimp only;simp) (Zgi ⟨rfl,rfl,rfl,rfl,trivial⟩)
     rw [← hlb]
     simp only [ZaZ,if_neg (fun h:e1.kind=2∧e1.tag=k=>h3 h.2)]
   ·rw [decide_eq_false h2]
    repeat (first | (refine ZN rfl ?_) | (refine Zr rfl rfl ?_) | (refine Zf8 (a:=r2.length) rfl rfl rfl (by simp at hlt;omega) ?_) | refine Zn rfl (by (conv=>lhs;whnf);try rfl) ?_ | refine Zp rfl (by (conv=>lhs;whnf);try rfl) ?_ | refine ZaU rfl rfl (by (conv=>lhs;whnf);try rfl) ?_ | refine Zc ?_ | refine Za ?_ | refine Zai ?_ | refine ZA ?_ | refine Zx ?_ | refine ZQ ?_)
    refine Zaf (e2,r2) 2 ⟨(List.suffix_cons _ _).trans hsuf,?_⟩ (by dsimp only;simp) (Zgi ⟨rfl,rfl,rfl,rfl,trivial⟩)
    rw [← hlb]
    simp only [ZaZ,if_neg (fun h:e1.kind=2∧e1.tag=k=>h2 h.1)]
 ·unfold Zd9 at h
  by_cases h0:ZaZ k e r=0
  ·rw [if_pos h0] at h
   obtain ⟨e',he',h⟩:=Option.map_eq_some_iff.1 h
   injection h with q1 q2
   subst q1 q2
   repeat (first | refine Zn rfl (by (conv=>lhs;whnf);try rfl) ?_ | refine ZT rfl rfl rfl rfl (by (conv=>lhs;whnf);try rfl) ?_ | refine Zc ?_ | refine Zh ?_ | refine Za ?_)
   rw [show decide (((ZaZ k e r:Nat):Int)=0)=true from decide_eq_true (by omega)]
   repeat (first | (refine Zr rfl rfl ?_) | (refine Zw [] νa (ZbQ e r s (Zag hf).1 (Zag hf).2 e' he') rfl rfl rfl rfl rfl rfl ?_) | refine Zn rfl (by (conv=>lhs;whnf);try rfl) ?_ | refine Zc ?_ | refine Zh ?_ | refine Za ?_ | refine Zba ?_)
   exact Zbt (.inl rfl) (νc 3 2) [] [] rfl rfl trivial rfl rfl
  ·rw [if_neg h0] at h
   obtain ⟨⟨e4,r4⟩,hfl,h⟩:=Option.bind_eq_some_iff.1 h
   rcases r4 with _ | ⟨e5,r5⟩
   ·cases h
   obtain ⟨e6,he6,h⟩:=Option.map_eq_some_iff.1 h
   injection h with q1 q2
   subst q1 q2
   repeat (first | refine Zn rfl (by (conv=>lhs;whnf);try rfl) ?_ | refine ZT rfl rfl rfl rfl (by (conv=>lhs;whnf);try rfl) ?_ | refine Zc ?_ | refine Zh ?_ | refine Za ?_)
   rw [show decide (((ZaZ k e r:Nat):Int)=0)=false from decide_eq_false (by omega)]
   repeat (first | (refine Zg rfl rfl ?_) | refine Zh ?_ | refine Zai ?_ | refine ZA ?_)
   generalize ZaZ k e r=at_ at hat h0 hfl ⊢
   refine ZH (fun (a:El×List El) _=>mkS [(0,.ptr 0 (0,0) 0),(1,.int .i64 k),(6,.int .i64 (at_:Int))] (somes (stP νb a.1 a.2)) 2) (fun a=>fits a.1 a.2∧at_≤a.2.length∧Zfi (a.2.length - at_) a.1 a.2=some (e4,e5::r5)) (fun a=>a.2.length) (e,r) 2 ⟨hf,hat,hfl⟩
    (ZaV νa [] (fun k=>(k,νa k)) (fun _ _=>rfl) rfl ⟨rfl,rfl,rfl,trivial⟩ (x:=[]) (x':=[]) rfl rfl rfl (ZP _) rfl) (fun a ng hJ=>?_)
   obtain ⟨e1,r1⟩:=a
   obtain ⟨hf1,hle,hft⟩:=hJ
   dsimp only at hf1 hle hft ⊢
   have hr1:=hf1.1
   repeat (first | (refine Za6 rfl rfl (ZbW _ _ _) ?_) | refine Zn rfl (by (conv=>lhs;whnf);try rfl) ?_ | refine ZB rfl rfl rfl ?_ | refine Zi rfl rfl ?_ | refine ZmQ rfl rfl (by omega) ?_ | refine ZT rfl rfl rfl rfl (by (conv=>lhs;whnf);try rfl) ?_ | refine ZaA rfl rfl ?_ | refine Zc ?_ | refine Zh ?_ | refine Za ?_)
   by_cases hgt:at_<r1.length
   ·rw [show decide (((at_+1:Nat):Int)<((r1.length+1:Nat):Int))=true from decide_eq_true (by omega)]
    rcases r1 with _ | ⟨e2,r2⟩
    ·simp at hgt
    simp only [List.length_cons] at hgt hle hft hr1
    rw [show r2.length+1 - at_=(r2.length - at_)+1 by omega] at hft
    obtain ⟨e7,he7,hft⟩:=Option.bind_eq_some_iff.1 hft
    repeat (first | (refine Zr rfl rfl ?_) | (refine Zw [] νb (ZiG e1 e2 e7 r2 (by omega) (Zag (ZaC hf1)) he7) rfl rfl rfl rfl rfl rfl ?_) | refine Zn rfl (by (conv=>lhs;whnf);try rfl) ?_ | refine Zc ?_ | refine Za ?_ | refine Zai ?_ | refine ZA ?_ | refine Zx ?_ | refine ZQ ?_)
    exact Zaf (e7,r2) 2 ⟨ZdA hf1 he7,by dsimp only;omega,hft⟩ (by dsimp only;simp) (ZaV (νc 3 1) [] (fun k=>(k,νc 3 1 k)) (fun _ _=>rfl) rfl ⟨rfl,rfl,rfl,trivial⟩ (x:=[]) (x':=[]) rfl rfl rfl (ZP _) rfl)
   ·rw [show decide (((at_+1:Nat):Int)<((r1.length+1:Nat):Int))=false from decide_eq_false (by omega)]
    rw [show r1.length - at_=0 by omega] at hft
    injection hft with hft
    injection hft with q1 q2
    subst q1 q2
    repeat (first | (refine Zg rfl rfl ?_) | refine Zn rfl (by (conv=>lhs;whnf);try rfl) ?_ | refine Zh ?_ | refine Za ?_ | refine Za1 ?_)
    refine ZeF [] νb (Zoc e1 e5 r5 (by simp at hr1;omega)) rfl rfl rfl rfl ?_
    iterate 2 (refine ZhE ?_)
    refine Zas (Zhn (3,1+1000000 * (1000+1)) νb (tm':=[(0,.ptr 0 (0,0) 0),(1,.int .i64 k),(7,.ptr 300 (1,300) 0)]) ⟨rfl,rfl,rfl,trivial⟩) ?_ (List.cons_ne_nil _ _)
    repeat (first | (refine Zw [_] νb (ZtJ e5 e6 r5 6 k ⟨#[]⟩ e1.list (Zag (ZaC hf1)).1 he6) rfl rfl rfl rfl rfl rfl ?_) | refine Zn rfl (by (conv=>lhs;whnf);try rfl) ?_ | refine ZB rfl rfl rfl ?_ | refine Zi rfl rfl ?_ | refine ZaA rfl rfl ?_ | refine Zbr rfl rfl ?_ | refine Zc ?_ | refine Za ?_ | refine Zx ?_)
    exact Zbt (.inr rfl) (νc 2 7) [_] [] rfl rfl trivial rfl rfl
def ZbT (c count:Int):Int:=if 3≤c∧3≤count then 3 else 2
def Zfl (c:Int) (e:El):Node:=⟨if 3≤c∧3≤e.count then 5 else 4,0,⟨#[]⟩,e.list,e.argL.map Arg.cs⟩
def Zt0 (c:Int) (e:El) (r:List El):Option (El×List El):=(strings_Repeat ⟨#[125]⟩ c).bind fun s=>(Zby e s).map fun e'=>(e',r)
def ZuU (e2:El) (m:Int) (n:Node):Option El:=((if m=1 then Zby e2 ⟨#[123]⟩ else some e2):Option El).bind fun e3=>Zf9 e3 n
def ZaK:Nat→Int→El→List El→Option (El×List El)
 | 0,_,_,_=>none
 | f+1,c,e,r=>if 2≤c then (if Zay e r=0 then Zt0 c e r else
   (Zfi (r.length - Zay e r) e r).bind fun q=>if c≤9223372036854775807∧0≤q.1.count∧q.1.count≤9223372036854775807 then
    (if 2≤q.1.count - ZbT c q.1.count then ZaK f (c - ZbT c q.1.count) ⟨q.1.kind,q.1.tag,q.1.count - ZbT c q.1.count,[(Zfl c q.1).cs],none⟩ q.2
     else match q.2 with
      | []=>none
      | e2::r2=>(ZuU e2 (q.1.count - ZbT c q.1.count) (Zfl c q.1)).bind fun e4=>ZaK f (c - ZbT c q.1.count) e4 r2) else none)
   else Zt0 c e r
theorem Zir {e2 e4:El} {m:Int} {n:Node} {r:List El} (hf:fit e2 r) (h:ZuU e2 m n=some e4):fit e4 r:=by
 obtain ⟨e3,h3,h⟩:=Option.bind_eq_some_iff.1 h
 refine ZeW ?_ h
 split at h3
 ·exact Zaj hf h3
 ·injection h3 with h3
  rw [← h3]
  exact hf
theorem Zfb:∀ {n:Nat} {e e':El} {r r':List El},fits e r→Zfi n e r=some (e',r')→fits e' r'
 | 0,e,e',r,r',hf,h=>by injection h with h;injection h with h1 h2;rw [← h1,← h2];exact hf
 | n+1,e,e',[],r',hf,h=>by cases h
 | n+1,e,e',e2::r,r',hf,h=>by
   obtain ⟨e3,h3,h⟩:=Option.bind_eq_some_iff.1 h
   exact Zfb (ZdA hf h3) h
theorem ZfK:∀ (e:El) (r:List El),Zay e r≤r.length
 | _,[]=>Nat.le_refl _
 | e,e2::r=>by
   unfold Zay
   split
   ·simp
   ·split
    ·simp
    ·have:=ZfK e2 r
     simp
     omega
theorem Zjm (b:Nat) (ν:Nat→Gen) (pre:List Arg) (a:Arg):(Zgc b ν (some (pre,a))).set pre.length (Zam [.bool a.named,.sl a.name,.row (b+3) (ν (b+3))] 2 [.sl a.value])=(pre ++ [a]).map Arg.cs:=by
 have:=Zf5 b ν pre a a.cs
 rw [List.map_append]
 exact this
set_option maxRecDepth 100000 in
set_option maxHeartbeats 2000000 in
theorem Zlc (f:Nat) (c:Int) (e e9:El) (r r9:List El) (hf:fits e r) (h:ZaK f c e r=some (e9,r9)):PC 110 [.int .i64 c] e r (.tup []) e9 r9:=by
 refine Zz mix Tryz.func110 (by kernel_rfl) rfl (by kernel_rfl) ?_
 rw [ZbZ]
 repeat (first | refine Zh ?_ | refine Zai ?_)
 refine ZH (fun (a:Nat×Int×El×List El) _=>mkS [(0,.ptr 0 (0,0) 0),(1,.int .i64 a.2.1)] (somes (stP νb a.2.2.1 a.2.2.2)) 2) (fun a=>fits a.2.2.1 a.2.2.2∧ZaK a.1 a.2.1 a.2.2.1 a.2.2.2=some (e9,r9)) (fun a=>a.1) (f,c,e,r) 2 ⟨hf,h⟩
  (ZaV νa [] (fun k=>(k,νa k)) (fun _ _=>rfl) rfl ⟨rfl,rfl,trivial⟩ (x:=[]) (x':=[]) rfl rfl rfl (ZP _) rfl) (fun a ng hJ=>?_)
 clear h hf
 obtain ⟨f,c,e,r⟩:=a
 obtain ⟨hf,h⟩:=hJ
 dsimp only at hf h ⊢
 rcases f with _ | f
 ·cases h
 have hr:=hf.1
 unfold ZaK at h
 repeat (first | refine Zn rfl (by (conv=>lhs;whnf);try rfl) ?_ | refine ZT rfl rfl rfl rfl (by (conv=>lhs;whnf);try rfl) ?_ | refine Zc ?_ | refine Zh ?_ | refine Za ?_)
 by_cases hc2:2≤c
 rotate_left
 ·rw [if_neg hc2] at h
  obtain ⟨s,hs,h⟩:=Option.bind_eq_some_iff.1 h
  obtain ⟨e',he',h⟩:=Option.map_eq_some_iff.1 h
  injection h with q1 q2
  subst q1 q2
  rw [decide_eq_false hc2]
  repeat (first | (refine Zg rfl rfl ?_) | (refine Zff (Zdm _ _ _ hs) rfl rfl ?_) | (refine Zw [] νb (ZbQ e r s (Zag hf).1 (Zag hf).2 e' he') rfl rfl rfl rfl rfl rfl ?_) | refine Zn rfl (by (conv=>lhs;whnf);try rfl) ?_ | refine Zc ?_ | refine Za ?_ | refine Za1 ?_ | refine Zx ?_)
  exact Zbt (.inr rfl) (νc 3 3) [] [] rfl rfl trivial rfl rfl
 rw [if_pos hc2] at h
 rw [decide_eq_true hc2]
 have hat:=ZfK e r
 have hlb:=Zmw e r (by omega)
 generalize Zay e r=at_ at hat h hlb
 repeat (first | (refine Zr rfl rfl ?_) | (refine Zac [] νb hlb rfl rfl rfl rfl rfl rfl ?_) | refine Zn rfl (by (conv=>lhs;whnf);try rfl) ?_ | refine Zp rfl (by (conv=>lhs;whnf);try rfl) ?_ | refine ZT rfl rfl rfl rfl (by (conv=>lhs;whnf);try rfl) ?_ | refine Zc ?_ | refine Zh ?_ | refine Za ?_ | refine Zai ?_ | refine ZA ?_)
 by_cases h0:at_=0
 ·rw [if_pos h0] at h
  obtain ⟨s,hs,h⟩:=Option.bind_eq_some_iff.1 h
  obtain ⟨e',he',h⟩:=Option.map_eq_some_iff.1 h
  injection h with q1 q2
  subst q1 q2
  rw [show decide ((at_:Int)=0)=true from decide_eq_true (by omega)]
  repeat (first | (refine Zr rfl rfl ?_) | (refine Zff (Zdm _ _ _ hs) rfl rfl ?_) | (refine Zw [] νb (ZbQ e r s (Zag hf).1 (Zag hf).2 e' he') rfl rfl rfl rfl rfl rfl ?_) | refine Zn rfl (by (conv=>lhs;whnf);try rfl) ?_ | refine Zc ?_ | refine Za ?_ | refine Za1 ?_ | refine Zx ?_)
  exact Zbt (.inr rfl) (νc 5 3) [] [] rfl rfl trivial rfl rfl
 rw [if_neg h0] at h
 obtain ⟨⟨e1,r1⟩,hfl,h⟩:=Option.bind_eq_some_iff.1 h
 have hf1:=Zfb hf hfl
 rw [show decide ((at_:Int)=0)=false from decide_eq_false (by omega)]
 repeat (first | (refine Zg rfl rfl ?_) | (refine Zb3 (α:=Unit) (c:=.block 2 _) (fun _ _=>mkS [(0,.ptr 0 (0,0) 0),(1,.int .i64 c)] (somes (stP νb e1 r1)) 2) (fun _=>True) ?_ (fun a _ _=>?_)) | refine Zh ?_ | refine Zai ?_ | refine ZA ?_)
 ·refine ZH (fun (a:El×List El) _=>mkS [(0,.ptr 0 (0,0) 0),(1,.int .i64 c),(4,.int .i64 (at_:Int))] (somes (stP νb a.1 a.2)) 2) (fun a=>fits a.1 a.2∧at_≤a.2.length∧Zfi (a.2.length - at_) a.1 a.2=some (e1,r1)) (fun a=>a.2.length) (e,r) 2 ⟨hf,hat,hfl⟩
   (ZaV νb [] (fun k=>(k,νb k)) (fun _ _=>rfl) rfl ⟨rfl,rfl,rfl,trivial⟩ (x:=[]) (x':=[]) rfl rfl rfl (ZP _) rfl) (fun a ng hJ=>?_)
  obtain ⟨e5,r5⟩:=a
  obtain ⟨hf5,hle,hft⟩:=hJ
  dsimp only at hf5 hle hft ⊢
  have hr5:=hf5.1
  repeat (first | (refine Za6 rfl rfl (ZbW _ _ _) ?_) | refine Zn rfl (by (conv=>lhs;whnf);try rfl) ?_ | refine ZB rfl rfl rfl ?_ | refine Zi rfl rfl ?_ | refine ZmQ rfl rfl (by omega) ?_ | refine ZT rfl rfl rfl rfl (by (conv=>lhs;whnf);try rfl) ?_ | refine ZaA rfl rfl ?_ | refine Zc ?_ | refine Zh ?_ | refine Za ?_)
  by_cases hgt:at_<r5.length
  ·rw [show decide (((at_+1:Nat):Int)<((r5.length+1:Nat):Int))=true from decide_eq_true (by omega)]
   rcases r5 with _ | ⟨e2,r2⟩
   ·simp at hgt
   simp only [List.length_cons] at hgt hle hft hr5
   rw [show r2.length+1 - at_=(r2.length - at_)+1 by omega] at hft
   obtain ⟨e7,he7,hft⟩:=Option.bind_eq_some_iff.1 hft
   repeat (first | (refine Zr rfl rfl ?_) | (refine Zw [] νb (ZiG e5 e2 e7 r2 (by omega) (Zag (ZaC hf5)) he7) rfl rfl rfl rfl rfl rfl ?_) | refine Zn rfl (by (conv=>lhs;whnf);try rfl) ?_ | refine Zc ?_ | refine Za ?_ | refine Zai ?_ | refine ZA ?_ | refine Zx ?_ | refine ZQ ?_)
   exact Zaf (e7,r2) 2 ⟨ZdA hf5 he7,by dsimp only;omega,hft⟩ (by dsimp only;simp) (ZaV (νc 3 1) [] (fun k=>(k,νc 3 1 k)) (fun _ _=>rfl) rfl ⟨rfl,rfl,rfl,trivial⟩ (x:=[]) (x':=[]) rfl rfl rfl (ZP _) rfl)
  ·rw [show decide (((at_+1:Nat):Int)<((r5.length+1:Nat):Int))=false from decide_eq_false (by omega)]
   rw [show r5.length - at_=0 by omega] at hft
   injection hft with hft
   injection hft with q1 q2
   subst q1 q2
   repeat (first | (refine Zg rfl rfl ?_) | refine Za1 ?_ | refine Zx ?_ | refine Zc1 ?_ | refine ZgE ?_)
   exact Zc8 () 2 trivial (ZaV νb [] (fun k=>(k,νb k)) (fun _ _=>rfl) rfl ⟨rfl,rfl,trivial⟩ (x:=[]) (x':=[]) rfl rfl rfl (ZP _) rfl)
 ·split at h
  rotate_left
  ·cases h
  rename_i hb
  obtain ⟨hb1,hb2,hb3⟩:=hb
  clear hfl hat hlb h0 hf hr
  obtain ⟨kind,tag,count,list,args⟩:=e1
  dsimp only at hb2 hb3 h
  have hr1:=hf1.1
  repeat (first | (refine Zac [] νb (Zdo _ r1 (by omega)) rfl rfl rfl rfl rfl rfl ?_) | refine Zn rfl (by (conv=>lhs;whnf);try rfl) ?_ | refine Zp rfl (by (conv=>lhs;whnf);try rfl) ?_ | refine ZT rfl rfl rfl rfl (by (conv=>lhs;whnf);try rfl) ?_ | refine Zc ?_ | refine Zh ?_ | refine Za ?_)
  by_cases hk1:3≤c
  ·by_cases hk2:3≤count
   ·have hK:ZbT c count=3:=if_pos ⟨hk1,hk2⟩
    have hN:Zfl c ⟨kind,tag,count,list,args⟩=⟨5,0,⟨#[]⟩,list,(El.argL ⟨kind,tag,count,list,args⟩).map Arg.cs⟩:=by unfold Zfl;rw [if_pos ⟨hk1,hk2⟩]
    rw [hK,hN] at h
    rw [decide_eq_true hk1]
    repeat (first | refine Zn rfl (by (conv=>lhs;whnf);try rfl) ?_ | refine ZB rfl rfl rfl ?_ | refine Zi rfl rfl ?_ | refine ZT rfl rfl rfl rfl (by (conv=>lhs;whnf);try rfl) ?_ | refine ZaA rfl rfl ?_ | refine ZaU rfl rfl (by (conv=>lhs;whnf);try rfl) ?_ | refine Zc ?_)
    rw [decide_eq_true hk2]
    repeat (first | (refine Zr rfl rfl ?_) | (refine Zks (a:=c) (b:=3) rfl rfl rfl (by omega) (by omega) ?_) | (refine Zks (a:=count) (b:=3) rfl rfl rfl (by omega) (by omega) ?_) | refine Zn rfl (by (conv=>lhs;whnf);try rfl) ?_ | refine ZB rfl rfl rfl ?_ | refine Zi rfl rfl ?_ | refine Zp rfl (by (conv=>lhs;whnf);try rfl) ?_ | refine ZT rfl rfl rfl rfl (by (conv=>lhs;whnf);try rfl) ?_ | refine ZaA rfl rfl ?_ | refine ZcV rfl rfl ?_ | refine ZaH rfl rfl rfl (by (conv=>lhs;whnf);try rfl) (by (conv=>lhs;whnf);try rfl) (by rfl) (by rfl) (Nat.le_of_ble_eq_true rfl) (by (conv=>lhs;whnf);try rfl) ?_ | refine Zbr rfl rfl ?_ | refine Zc ?_ | refine Zb9 (by kernel_rfl) ?_ | refine Zh ?_ | refine Za ?_)
    by_cases hm:2≤count - 3
    ·rw [if_pos hm] at h
     rw [decide_eq_true hm]
     refine Zr rfl rfl ?_
     have hfn:fits ⟨kind,tag,count - 3,[Node.cs ⟨5,0,⟨#[]⟩,list,(El.argL ⟨kind,tag,count,list,args⟩).map Arg.cs⟩],none⟩ r1:=Zbx hf1 ⟨⟨by omega,fun q hq=>by cases hq⟩,by show 1≤9223372036854775807;omega⟩
     rcases args with _ | ⟨pre,a⟩
     ·refine Zas (Zen (b:=1001) (u:=8) (by omega) rfl rfl rfl (fun e he=>absurd he List.not_mem_nil)) ?_ (List.cons_ne_nil _ _)
      repeat (first | refine Zn rfl (by (conv=>lhs;whnf);try rfl) ?_ | refine ZB rfl rfl rfl ?_ | refine Zi rfl rfl ?_ | refine ZaA rfl rfl ?_ | refine ZaH rfl rfl rfl (by (conv=>lhs;whnf);try rfl) (by (conv=>lhs;whnf);try rfl) (by rfl) (by rfl) (Nat.le_of_ble_eq_true rfl) (by (conv=>lhs;whnf);try rfl) ?_ | refine Zae rfl rfl rfl (by rfl) (by decide) (by (conv=>lhs;whnf);try rfl) ?_ | refine Zc ?_ | refine Zh ?_ | refine Za ?_ | refine Za1 ?_ | refine Zx ?_ | refine Zc1 ?_)
      exact Zaf (f,c - 3,⟨kind,tag,count - 3,[Node.cs ⟨5,0,⟨#[]⟩,list,[]⟩],none⟩,r1) 2 ⟨hfn,h⟩ (Nat.lt_succ_self _) (Shift.trans (Zch 1001 66 4 111 3 rfl rfl rfl) (Shift.trans (Zcn (t:=66) rfl) (Zck (10,3) (11,0) 65 66 νb rfl ⟨rfl,rfl,trivial⟩ rfl rfl rfl rfl rfl rfl (ZcU (A:=[_,_,_,_,_,_,_,_,_,_,_,_,_]) rfl))))
     ·refine Zas (Zdt 1003 pre.length 2 rfl (ZaX _ _ _ _) rfl (Zdw rfl) (Zjm _ _ _ _)) ?_ (List.cons_ne_nil _ _)
      refine Zas (Zen (b:=1001) (u:=8) (by omega) rfl rfl rfl Zfu) ?_ (List.cons_ne_nil _ _)
      repeat (first | refine Zn rfl (by (conv=>lhs;whnf);try rfl) ?_ | refine ZB rfl rfl rfl ?_ | refine Zi rfl rfl ?_ | refine ZaA rfl rfl ?_ | refine ZaH rfl rfl rfl (by (conv=>lhs;whnf);try rfl) (by (conv=>lhs;whnf);try rfl) (by rfl) (by rfl) (Nat.le_of_ble_eq_true rfl) (by (conv=>lhs;whnf);try rfl) ?_ | refine Zae rfl rfl rfl (by rfl) (by decide) (by (conv=>lhs;whnf);try rfl) ?_ | refine Zc ?_ | refine Zh ?_ | refine Za ?_ | refine Za1 ?_ | refine Zx ?_ | refine Zc1 ?_)
      exact Zaf (f,c - 3,⟨kind,tag,count - 3,[Node.cs ⟨5,0,⟨#[]⟩,list,(pre ++ [a]).map Arg.cs⟩],none⟩,r1) 2 ⟨hfn,h⟩ (Nat.lt_succ_self _) (Shift.trans (Zch 1001 66 4 111 3 rfl rfl rfl) (Shift.trans (Zcn (t:=66) rfl) (Zck (10,3) (11,0) 65 66 νb rfl ⟨rfl,rfl,trivial⟩ rfl rfl rfl rfl rfl rfl (ZcU (A:=[_,_,_,_,_,_,_,_,_,_,_,_,_,_,_]) rfl))))
    ·rw [if_neg hm] at h
     rcases r1 with _ | ⟨e2,r2⟩
     ·cases h
     obtain ⟨e4,he4,h⟩:=Option.bind_eq_some_iff.1 h
     have hf2:=Zag (ZaC hf1)
     have hf4:=Zbx (ZaC hf1) (Zir hf2 he4)
     rw [decide_eq_false hm]
     refine Zg rfl rfl ?_
     refine Zas (Shift.trans (Zgp (lits:=[_,_]) (m:=count - 3) rfl) (ZaV νb [_,_] (fun k=>if k=8 then (8,(6,10)) else (k,νb k)) (fun k hk=>if_neg (by omega)) rfl (tm':=[(0,.ptr 0 (0,0) 0),(1,.int .i64 (c - 3)),(5,.ptr 1001 (1,1001) 0),(8,.ptr 8 (1,8) 0)]) ⟨rfl,rfl,rfl,rfl,trivial⟩ (x:=[(8,(6,10),.box [.int .i64 5,.int .i64 0,.str ⟨#[]⟩,.row 1002 (νb 1002),.row 1003 (νb 1003)])]) (x':=[(8,νb 8,.box [.int .i64 5,.int .i64 0,.str ⟨#[]⟩,.row 1002 (νb 1002),.row 1003 (νb 1003)])]) rfl rfl rfl (Zk rfl (ZP _)) rfl)) ?_ (List.cons_ne_nil _ _)
     repeat (first | refine Zn rfl (by (conv=>lhs;whnf);try rfl) ?_ | refine Zh ?_ | refine Za ?_ | refine ZA ?_)
     refine ZeF [_] νb (Zoc ⟨kind,tag,count - 3,list,args⟩ e2 r2 (by simp at hr1;omega)) rfl rfl rfl rfl ?_
     refine ZhE ?_
     refine Zas (Zhm (2,1+1000000 * (1000+1)) (1,8) νb (tm':=[(0,.ptr 0 (0,0) 0),(1,.int .i64 (c - 3)),(5,.ptr 300 (1,300) 0),(8,.ptr 8 (1,8) 0)]) ⟨rfl,rfl,rfl,rfl,trivial⟩) ?_ (List.cons_ne_nil _ _)
     repeat (first | refine Zn rfl (by (conv=>lhs;whnf);try rfl) ?_ | refine ZB rfl rfl rfl ?_ | refine Zi rfl rfl ?_ | refine ZT rfl rfl rfl rfl (by (conv=>lhs;whnf);try rfl) ?_ | refine ZaA rfl rfl ?_ | refine Zc ?_ | refine Zh ?_ | refine Za ?_)
     obtain ⟨e3,h3,he4⟩:=Option.bind_eq_some_iff.1 he4
     by_cases h1:count - 3=1
     ·rw [if_pos h1] at h3
      rw [decide_eq_true h1]
      have hf3:=Zaj hf2 h3
      repeat (first | (refine Zr rfl rfl ?_) | (refine Zw [_,_] νb (ZbQ e2 r2 _ hf2.1 hf2.2 e3 h3) rfl rfl rfl rfl rfl rfl ?_) | (refine Zw [_,_] (νc _ _) (ZgL e3 r2 _ hf3.1 e4 he4) rfl rfl rfl rfl rfl rfl ?_) | refine Zn rfl (by (conv=>lhs;whnf);try rfl) ?_ | refine ZB rfl rfl rfl ?_ | refine Zc ?_ | refine Za ?_ | refine Zx ?_ | refine ZQ ?_)
      exact Zaf (f,c - 3,e4,r2) 2 ⟨hf4,h⟩ (Nat.lt_succ_self _) (ZaV (νc 4 2) [_,_] (fun k=>(k,νc 4 2 k)) (fun _ _=>rfl) rfl ⟨rfl,rfl,trivial⟩ (x:=[]) (x':=[]) rfl rfl rfl (ZP _) rfl)
     ·rw [if_neg h1] at h3
      injection h3 with h3
      subst h3
      rw [decide_eq_false h1]
      repeat (first | (refine Zg rfl rfl ?_) | (refine Zw [_,_] νb (ZgL e2 r2 _ hf2.1 e4 he4) rfl rfl rfl rfl rfl rfl ?_) | refine Zn rfl (by (conv=>lhs;whnf);try rfl) ?_ | refine ZB rfl rfl rfl ?_ | refine Zc ?_ | refine Za ?_ | refine ZA ?_ | refine Zx ?_ | refine ZQ ?_)
      exact Zaf (f,c - 3,e4,r2) 2 ⟨hf4,h⟩ (Nat.lt_succ_self _) (ZaV (νc 3 2) [_,_] (fun k=>(k,νc 3 2 k)) (fun _ _=>rfl) rfl ⟨rfl,rfl,trivial⟩ (x:=[]) (x':=[]) rfl rfl rfl (ZP _) rfl)
   ·have hK:ZbT c count=2:=if_neg (fun h=>hk2 h.2)
    have hN:Zfl c ⟨kind,tag,count,list,args⟩=⟨4,0,⟨#[]⟩,list,(El.argL ⟨kind,tag,count,list,args⟩).map Arg.cs⟩:=by unfold Zfl;rw [if_neg (fun h=>hk2 h.2)]
    rw [hK,hN] at h
    rw [decide_eq_true hk1]
    repeat (first | refine Zn rfl (by (conv=>lhs;whnf);try rfl) ?_ | refine ZB rfl rfl rfl ?_ | refine Zi rfl rfl ?_ | refine ZT rfl rfl rfl rfl (by (conv=>lhs;whnf);try rfl) ?_ | refine ZaA rfl rfl ?_ | refine ZaU rfl rfl (by (conv=>lhs;whnf);try rfl) ?_ | refine Zc ?_)
    rw [decide_eq_false hk2]
    repeat (first | (refine Zg rfl rfl ?_) | (refine Zks (a:=c) (b:=2) rfl rfl rfl (by omega) (by omega) ?_) | (refine Zks (a:=count) (b:=2) rfl rfl rfl (by omega) (by omega) ?_) | refine Zn rfl (by (conv=>lhs;whnf);try rfl) ?_ | refine ZB rfl rfl rfl ?_ | refine Zi rfl rfl ?_ | refine Zp rfl (by (conv=>lhs;whnf);try rfl) ?_ | refine ZT rfl rfl rfl rfl (by (conv=>lhs;whnf);try rfl) ?_ | refine ZaA rfl rfl ?_ | refine ZcV rfl rfl ?_ | refine ZaH rfl rfl rfl (by (conv=>lhs;whnf);try rfl) (by (conv=>lhs;whnf);try rfl) (by rfl) (by rfl) (Nat.le_of_ble_eq_true rfl) (by (conv=>lhs;whnf);try rfl) ?_ | refine Zbr rfl rfl ?_ | refine Zc ?_ | refine Zb9 (by kernel_rfl) ?_ | refine Zh ?_ | refine Za ?_ | refine ZA ?_)
    by_cases hm:2≤count - 2
    ·rw [if_pos hm] at h
     rw [decide_eq_true hm]
     refine Zr rfl rfl ?_
     have hfn:fits ⟨kind,tag,count - 2,[Node.cs ⟨4,0,⟨#[]⟩,list,(El.argL ⟨kind,tag,count,list,args⟩).map Arg.cs⟩],none⟩ r1:=Zbx hf1 ⟨⟨by omega,fun q hq=>by cases hq⟩,by show 1≤9223372036854775807;omega⟩
     rcases args with _ | ⟨pre,a⟩
     ·refine Zas (Zen (b:=1001) (u:=8) (by omega) rfl rfl rfl (fun e he=>absurd he List.not_mem_nil)) ?_ (List.cons_ne_nil _ _)
      repeat (first | refine Zn rfl (by (conv=>lhs;whnf);try rfl) ?_ | refine ZB rfl rfl rfl ?_ | refine Zi rfl rfl ?_ | refine ZaA rfl rfl ?_ | refine ZaH rfl rfl rfl (by (conv=>lhs;whnf);try rfl) (by (conv=>lhs;whnf);try rfl) (by rfl) (by rfl) (Nat.le_of_ble_eq_true rfl) (by (conv=>lhs;whnf);try rfl) ?_ | refine Zae rfl rfl rfl (by rfl) (by decide) (by (conv=>lhs;whnf);try rfl) ?_ | refine Zc ?_ | refine Zh ?_ | refine Za ?_ | refine Za1 ?_ | refine Zx ?_ | refine Zc1 ?_)
      exact Zaf (f,c - 2,⟨kind,tag,count - 2,[Node.cs ⟨4,0,⟨#[]⟩,list,[]⟩],none⟩,r1) 2 ⟨hfn,h⟩ (Nat.lt_succ_self _) (Shift.trans (Zch 1001 66 4 111 3 rfl rfl rfl) (Shift.trans (Zcn (t:=66) rfl) (Zck (9,3) (10,0) 65 66 νb rfl ⟨rfl,rfl,trivial⟩ rfl rfl rfl rfl rfl rfl (ZcU (A:=[_,_,_,_,_,_,_,_,_,_,_,_,_]) rfl))))
     ·refine Zas (Zdt 1003 pre.length 2 rfl (ZaX _ _ _ _) rfl (Zdw rfl) (Zjm _ _ _ _)) ?_ (List.cons_ne_nil _ _)
      refine Zas (Zen (b:=1001) (u:=8) (by omega) rfl rfl rfl Zfu) ?_ (List.cons_ne_nil _ _)
      repeat (first | refine Zn rfl (by (conv=>lhs;whnf);try rfl) ?_ | refine ZB rfl rfl rfl ?_ | refine Zi rfl rfl ?_ | refine ZaA rfl rfl ?_ | refine ZaH rfl rfl rfl (by (conv=>lhs;whnf);try rfl) (by (conv=>lhs;whnf);try rfl) (by rfl) (by rfl) (Nat.le_of_ble_eq_true rfl) (by (conv=>lhs;whnf);try rfl) ?_ | refine Zae rfl rfl rfl (by rfl) (by decide) (by (conv=>lhs;whnf);try rfl) ?_ | refine Zc ?_ | refine Zh ?_ | refine Za ?_ | refine Za1 ?_ | refine Zx ?_ | refine Zc1 ?_)
      exact Zaf (f,c - 2,⟨kind,tag,count - 2,[Node.cs ⟨4,0,⟨#[]⟩,list,(pre ++ [a]).map Arg.cs⟩],none⟩,r1) 2 ⟨hfn,h⟩ (Nat.lt_succ_self _) (Shift.trans (Zch 1001 66 4 111 3 rfl rfl rfl) (Shift.trans (Zcn (t:=66) rfl) (Zck (9,3) (10,0) 65 66 νb rfl ⟨rfl,rfl,trivial⟩ rfl rfl rfl rfl rfl rfl (ZcU (A:=[_,_,_,_,_,_,_,_,_,_,_,_,_,_,_]) rfl))))
    ·rw [if_neg hm] at h
     rcases r1 with _ | ⟨e2,r2⟩
     ·cases h
     obtain ⟨e4,he4,h⟩:=Option.bind_eq_some_iff.1 h
     have hf2:=Zag (ZaC hf1)
     have hf4:=Zbx (ZaC hf1) (Zir hf2 he4)
     rw [decide_eq_false hm]
     refine Zg rfl rfl ?_
     refine Zas (Shift.trans (Zgp (lits:=[_,_]) (m:=count - 2) rfl) (ZaV νb [_,_] (fun k=>if k=8 then (8,(5,10)) else (k,νb k)) (fun k hk=>if_neg (by omega)) rfl (tm':=[(0,.ptr 0 (0,0) 0),(1,.int .i64 (c - 2)),(5,.ptr 1001 (1,1001) 0),(8,.ptr 8 (1,8) 0)]) ⟨rfl,rfl,rfl,rfl,trivial⟩ (x:=[(8,(5,10),.box [.int .i64 4,.int .i64 0,.str ⟨#[]⟩,.row 1002 (νb 1002),.row 1003 (νb 1003)])]) (x':=[(8,νb 8,.box [.int .i64 4,.int .i64 0,.str ⟨#[]⟩,.row 1002 (νb 1002),.row 1003 (νb 1003)])]) rfl rfl rfl (Zk rfl (ZP _)) rfl)) ?_ (List.cons_ne_nil _ _)
     repeat (first | refine Zn rfl (by (conv=>lhs;whnf);try rfl) ?_ | refine Zh ?_ | refine Za ?_ | refine ZA ?_)
     refine ZeF [_] νb (Zoc ⟨kind,tag,count - 2,list,args⟩ e2 r2 (by simp at hr1;omega)) rfl rfl rfl rfl ?_
     refine ZhE ?_
     refine Zas (Zhm (2,1+1000000 * (1000+1)) (1,8) νb (tm':=[(0,.ptr 0 (0,0) 0),(1,.int .i64 (c - 2)),(5,.ptr 300 (1,300) 0),(8,.ptr 8 (1,8) 0)]) ⟨rfl,rfl,rfl,rfl,trivial⟩) ?_ (List.cons_ne_nil _ _)
     repeat (first | refine Zn rfl (by (conv=>lhs;whnf);try rfl) ?_ | refine ZB rfl rfl rfl ?_ | refine Zi rfl rfl ?_ | refine ZT rfl rfl rfl rfl (by (conv=>lhs;whnf);try rfl) ?_ | refine ZaA rfl rfl ?_ | refine Zc ?_ | refine Zh ?_ | refine Za ?_)
     obtain ⟨e3,h3,he4⟩:=Option.bind_eq_some_iff.1 he4
     by_cases h1:count - 2=1
     ·rw [if_pos h1] at h3
      rw [decide_eq_true h1]
      have hf3:=Zaj hf2 h3
      repeat (first | (refine Zr rfl rfl ?_) | (refine Zw [_,_] νb (ZbQ e2 r2 _ hf2.1 hf2.2 e3 h3) rfl rfl rfl rfl rfl rfl ?_) | (refine Zw [_,_] (νc _ _) (ZgL e3 r2 _ hf3.1 e4 he4) rfl rfl rfl rfl rfl rfl ?_) | refine Zn rfl (by (conv=>lhs;whnf);try rfl) ?_ | refine ZB rfl rfl rfl ?_ | refine Zc ?_ | refine Za ?_ | refine Zx ?_ | refine ZQ ?_)
      exact Zaf (f,c - 2,e4,r2) 2 ⟨hf4,h⟩ (Nat.lt_succ_self _) (ZaV (νc 4 2) [_,_] (fun k=>(k,νc 4 2 k)) (fun _ _=>rfl) rfl ⟨rfl,rfl,trivial⟩ (x:=[]) (x':=[]) rfl rfl rfl (ZP _) rfl)
     ·rw [if_neg h1] at h3
      injection h3 with h3
      subst h3
      rw [decide_eq_false h1]
      repeat (first | (refine Zg rfl rfl ?_) | (refine Zw [_,_] νb (ZgL e2 r2 _ hf2.1 e4 he4) rfl rfl rfl rfl rfl rfl ?_) | refine Zn rfl (by (conv=>lhs;whnf);try rfl) ?_ | refine ZB rfl rfl rfl ?_ | refine Zc ?_ | refine Za ?_ | refine ZA ?_ | refine Zx ?_ | refine ZQ ?_)
      exact Zaf (f,c - 2,e4,r2) 2 ⟨hf4,h⟩ (Nat.lt_succ_self _) (ZaV (νc 3 2) [_,_] (fun k=>(k,νc 3 2 k)) (fun _ _=>rfl) rfl ⟨rfl,rfl,trivial⟩ (x:=[]) (x':=[]) rfl rfl rfl (ZP _) rfl)
  ·have hK:ZbT c count=2:=if_neg (fun h=>hk1 h.1)
   have hN:Zfl c ⟨kind,tag,count,list,args⟩=⟨4,0,⟨#[]⟩,list,(El.argL ⟨kind,tag,count,list,args⟩).map Arg.cs⟩:=by unfold Zfl;rw [if_neg (fun h=>hk1 h.1)]
   rw [hK,hN] at h
   rw [decide_eq_false hk1]
   repeat (first | (refine ZN rfl ?_) | (refine Zg rfl rfl ?_) | (refine Zks (a:=c) (b:=2) rfl rfl rfl (by omega) (by omega) ?_) | (refine Zks (a:=count) (b:=2) rfl rfl rfl (by omega) (by omega) ?_) | refine Zn rfl (by (conv=>lhs;whnf);try rfl) ?_ | refine ZB rfl rfl rfl ?_ | refine Zi rfl rfl ?_ | refine Zp rfl (by (conv=>lhs;whnf);try rfl) ?_ | refine ZT rfl rfl rfl rfl (by (conv=>lhs;whnf);try rfl) ?_ | refine ZaA rfl rfl ?_ | refine ZcV rfl rfl ?_ | refine ZaH rfl rfl rfl (by (conv=>lhs;whnf);try rfl) (by (conv=>lhs;whnf);try rfl) (by rfl) (by rfl) (Nat.le_of_ble_eq_true rfl) (by (conv=>lhs;whnf);try rfl) ?_ | refine Zbr rfl rfl ?_ | refine ZaU rfl rfl (by (conv=>lhs;whnf);try rfl) ?_ | refine Zc ?_ | refine Zb9 (by kernel_rfl) ?_ | refine Zh ?_ | refine Za ?_ | refine ZA ?_)
   by_cases hm:2≤count - 2
   ·rw [if_pos hm] at h
    rw [decide_eq_true hm]
    refine Zr rfl rfl ?_
    have hfn:fits ⟨kind,tag,count - 2,[Node.cs ⟨4,0,⟨#[]⟩,list,(El.argL ⟨kind,tag,count,list,args⟩).map Arg.cs⟩],none⟩ r1:=Zbx hf1 ⟨⟨by omega,fun q hq=>by cases hq⟩,by show 1≤9223372036854775807;omega⟩
    rcases args with _ | ⟨pre,a⟩
    ·refine Zas (Zen (b:=1001) (u:=8) (by omega) rfl rfl rfl (fun e he=>absurd he List.not_mem_nil)) ?_ (List.cons_ne_nil _ _)
     repeat (first | refine Zn rfl (by (conv=>lhs;whnf);try rfl) ?_ | refine ZB rfl rfl rfl ?_ | refine Zi rfl rfl ?_ | refine ZaA rfl rfl ?_ | refine ZaH rfl rfl rfl (by (conv=>lhs;whnf);try rfl) (by (conv=>lhs;whnf);try rfl) (by rfl) (by rfl) (Nat.le_of_ble_eq_true rfl) (by (conv=>lhs;whnf);try rfl) ?_ | refine Zae rfl rfl rfl (by rfl) (by decide) (by (conv=>lhs;whnf);try rfl) ?_ | refine Zc ?_ | refine Zh ?_ | refine Za ?_ | refine Za1 ?_ | refine Zx ?_ | refine Zc1 ?_)
     exact Zaf (f,c - 2,⟨kind,tag,count - 2,[Node.cs ⟨4,0,⟨#[]⟩,list,[]⟩],none⟩,r1) 2 ⟨hfn,h⟩ (Nat.lt_succ_self _) (Shift.trans (Zch 1001 66 4 111 3 rfl rfl rfl) (Shift.trans (Zcn (t:=66) rfl) (Zck (9,3) (10,0) 65 66 νb rfl ⟨rfl,rfl,trivial⟩ rfl rfl rfl rfl rfl rfl (ZcU (A:=[_,_,_,_,_,_,_,_,_,_,_,_,_]) rfl))))
    ·refine Zas (Zdt 1003 pre.length 2 rfl (ZaX _ _ _ _) rfl (Zdw rfl) (Zjm _ _ _ _)) ?_ (List.cons_ne_nil _ _)
     refine Zas (Zen (b:=1001) (u:=8) (by omega) rfl rfl rfl Zfu) ?_ (List.cons_ne_nil _ _)
     repeat (first | refine Zn rfl (by (conv=>lhs;whnf);try rfl) ?_ | refine ZB rfl rfl rfl ?_ | refine Zi rfl rfl ?_ | refine ZaA rfl rfl ?_ | refine ZaH rfl rfl rfl (by (conv=>lhs;whnf);try rfl) (by (conv=>lhs;whnf);try rfl) (by rfl) (by rfl) (Nat.le_of_ble_eq_true rfl) (by (conv=>lhs;whnf);try rfl) ?_ | refine Zae rfl rfl rfl (by rfl) (by decide) (by (conv=>lhs;whnf);try rfl) ?_ | refine Zc ?_ | refine Zh ?_ | refine Za ?_ | refine Za1 ?_ | refine Zx ?_ | refine Zc1 ?_)
     exact Zaf (f,c - 2,⟨kind,tag,count - 2,[Node.cs ⟨4,0,⟨#[]⟩,list,(pre ++ [a]).map Arg.cs⟩],none⟩,r1) 2 ⟨hfn,h⟩ (Nat.lt_succ_self _) (Shift.trans (Zch 1001 66 4 111 3 rfl rfl rfl) (Shift.trans (Zcn (t:=66) rfl) (Zck (9,3) (10,0) 65 66 νb rfl ⟨rfl,rfl,trivial⟩ rfl rfl rfl rfl rfl rfl (ZcU (A:=[_,_,_,_,_,_,_,_,_,_,_,_,_,_,_]) rfl))))
   ·rw [if_neg hm] at h
    rcases r1 with _ | ⟨e2,r2⟩
    ·cases h
    obtain ⟨e4,he4,h⟩:=Option.bind_eq_some_iff.1 h
    have hf2:=Zag (ZaC hf1)
    have hf4:=Zbx (ZaC hf1) (Zir hf2 he4)
    rw [decide_eq_false hm]
    refine Zg rfl rfl ?_
    refine Zas (Shift.trans (Zgp (lits:=[_,_]) (m:=count - 2) rfl) (ZaV νb [_,_] (fun k=>if k=8 then (8,(5,10)) else (k,νb k)) (fun k hk=>if_neg (by omega)) rfl (tm':=[(0,.ptr 0 (0,0) 0),(1,.int .i64 (c - 2)),(5,.ptr 1001 (1,1001) 0),(8,.ptr 8 (1,8) 0)]) ⟨rfl,rfl,rfl,rfl,trivial⟩ (x:=[(8,(5,10),.box [.int .i64 4,.int .i64 0,.str ⟨#[]⟩,.row 1002 (νb 1002),.row 1003 (νb 1003)])]) (x':=[(8,νb 8,.box [.int .i64 4,.int .i64 0,.str ⟨#[]⟩,.row 1002 (νb 1002),.row 1003 (νb 1003)])]) rfl rfl rfl (Zk rfl (ZP _)) rfl)) ?_ (List.cons_ne_nil _ _)
    repeat (first | refine Zn rfl (by (conv=>lhs;whnf);try rfl) ?_ | refine Zh ?_ | refine Za ?_ | refine ZA ?_)
    refine ZeF [_] νb (Zoc ⟨kind,tag,count - 2,list,args⟩ e2 r2 (by simp at hr1;omega)) rfl rfl rfl rfl ?_
    refine ZhE ?_
    refine Zas (Zhm (2,1+1000000 * (1000+1)) (1,8) νb (tm':=[(0,.ptr 0 (0,0) 0),(1,.int .i64 (c - 2)),(5,.ptr 300 (1,300) 0),(8,.ptr 8 (1,8) 0)]) ⟨rfl,rfl,rfl,rfl,trivial⟩) ?_ (List.cons_ne_nil _ _)
    repeat (first | refine Zn rfl (by (conv=>lhs;whnf);try rfl) ?_ | refine ZB rfl rfl rfl ?_ | refine Zi rfl rfl ?_ | refine ZT rfl rfl rfl rfl (by (conv=>lhs;whnf);try rfl) ?_ | refine ZaA rfl rfl ?_ | refine Zc ?_ | refine Zh ?_ | refine Za ?_)
    obtain ⟨e3,h3,he4⟩:=Option.bind_eq_some_iff.1 he4
    by_cases h1:count - 2=1
    ·rw [if_pos h1] at h3
     rw [decide_eq_true h1]
     have hf3:=Zaj hf2 h3
     repeat (first | (refine Zr rfl rfl ?_) | (refine Zw [_,_] νb (ZbQ e2 r2 _ hf2.1 hf2.2 e3 h3) rfl rfl rfl rfl rfl rfl ?_) | (refine Zw [_,_] (νc _ _) (ZgL e3 r2 _ hf3.1 e4 he4) rfl rfl rfl rfl rfl rfl ?_) | refine Zn rfl (by (conv=>lhs;whnf);try rfl) ?_ | refine ZB rfl rfl rfl ?_ | refine Zc ?_ | refine Za ?_ | refine Zx ?_ | refine ZQ ?_)
     exact Zaf (f,c - 2,e4,r2) 2 ⟨hf4,h⟩ (Nat.lt_succ_self _) (ZaV (νc 4 2) [_,_] (fun k=>(k,νc 4 2 k)) (fun _ _=>rfl) rfl ⟨rfl,rfl,trivial⟩ (x:=[]) (x':=[]) rfl rfl rfl (ZP _) rfl)
    ·rw [if_neg h1] at h3
     injection h3 with h3
     subst h3
     rw [decide_eq_false h1]
     repeat (first | (refine Zg rfl rfl ?_) | (refine Zw [_,_] νb (ZgL e2 r2 _ hf2.1 e4 he4) rfl rfl rfl rfl rfl rfl ?_) | refine Zn rfl (by (conv=>lhs;whnf);try rfl) ?_ | refine ZB rfl rfl rfl ?_ | refine Zc ?_ | refine Za ?_ | refine ZA ?_ | refine Zx ?_ | refine ZQ ?_)
     exact Zaf (f,c - 2,e4,r2) 2 ⟨hf4,h⟩ (Nat.lt_succ_self _) (ZaV (νc 3 2) [_,_] (fun k=>(k,νc 3 2 k)) (fun _ _=>rfl) rfl ⟨rfl,rfl,trivial⟩ (x:=[]) (x':=[]) rfl rfl rfl (ZP _) rfl)
end Go.Proofs.YtmgfammllddkhaaGreatDoor
