/- The parser's text: it is joined to the text before it, or a node is appended. | The parser's pop, open, bar and equal. | The parser's bar and equal. | The parser's nodes. | What is taken off the parser's stack: the call, and the element made plain. No program is named. | Braces that close: the top's rows made plain with the node that is made of them. No program is named. | The parser's closeLink and flatten. | The parser's lastBrace and closeTag. | The parser's closeTag. | The parser's closeBraces. -/
import Derived.Test.YtmgfammllddkhaaGreatDoorCN09
import Derived.Test.YtmgfammllddkhaaGreatDoorCN02
import Derived.Test.YtmgfammllddkhaaGreatDoorCN08
namespace Go.Proofs.YtmgfammllddkhaaGreatDoor
open VL
theorem Zcm {α:Type} (l:List α) (a:α):(l ++ [a]).length=l.length+1:=by simp
set_option maxRecDepth 100000 in
set_option maxHeartbeats 1000000 in
theorem ZoM (e:El) (r:List El):PC 102 [.str ⟨#[]⟩] e r (.tup []) e r:=by
 refine Zx mix Tryz.func102 (by kernel_rfl) rfl (by kernel_rfl) ?_
 rw [ZbR]
 repeat (first | (refine Zr rfl rfl ?_) | refine Zm rfl (by (conv=>lhs;whnf);try rfl) ?_ | refine ZhG rfl rfl rfl rfl (by (conv=>lhs;whnf);try rfl) ?_ | refine Zc ?_ | refine Zh ?_ | refine Za ?_ | refine Za3 ?_)
 exact Zbn (.inl rfl) νa [] [] rfl rfl trivial rfl rfl
set_option maxRecDepth 100000 in
set_option maxHeartbeats 1000000 in
theorem ZnG (e:El) (r:List El) (s:ByteArray) (h0:s≠⟨#[]⟩) (hs:small e r) (l':List (List PV)) (ha:e.args=none) (h63:e.list.length≤9223372036854775807) (hR:Zky e.list s=some l'):PC 102 [.str s] e r (.tup []) ⟨e.kind,e.tag,e.count,l',e.args⟩ r:=by
 refine Zx mix Tryz.func102 (by kernel_rfl) rfl (by kernel_rfl) ?_
 rw [ZbR]
 have h:e.kind≠3∨e.args=none:=.inr ha
 obtain ⟨kind,tag,count,list,args⟩:=e
 obtain rfl:args=none:=ha
 simp only [] at h63
 repeat (first | refine Zm rfl (by (conv=>lhs;whnf);try rfl) ?_ | refine ZhG rfl rfl rfl rfl (by (conv=>lhs;whnf);try rfl) ?_ | refine Zc ?_ | refine Zh ?_ | refine Za ?_)
 rw [decide_eq_false h0]
 rcases ZeQ hR with ⟨hl,hR⟩ | ⟨init,n,hl,⟨hk,y,hy,rfl⟩ | ⟨hk,hR⟩⟩
 ·obtain ⟨h1,h2,rfl⟩:=Zck hR
  dsimp only at hl
  subst hl
  repeat (first | (refine Zg rfl rfl ?_) | (refine ZY [] νa (Zdb _ r hs.1) rfl rfl rfl rfl rfl rfl ?_) | (refine ZbD [] νa (Zbx _ h hs.2) rfl rfl rfl rfl rfl ?_) | (refine Za5 rfl rfl rfl rfl h1 h2 (by rfl) ?_) | (refine Zaq (n:=List.length ([]:List (List PV))) rfl rfl rfl rfl (by simp) ?_) | (refine ZbE rfl rfl rfl (Zbg _ _) rfl rfl rfl rfl (Nat.le_of_ble_eq_true rfl) rfl (ZbM _ _ _) ?_) | (refine ZI rfl ?_) | refine Zm rfl (by (conv=>lhs;whnf);try rfl) ?_ | refine Zz rfl rfl rfl ?_ | refine Zq rfl (by (conv=>lhs;whnf);try rfl) ?_ | refine ZQ rfl rfl rfl rfl (by (conv=>lhs;whnf);try rfl) ?_ | refine Zaz rfl rfl ?_ | refine Zgs rfl rfl ?_ | refine ZaG rfl rfl rfl (by (conv=>lhs;whnf);try rfl) (by (conv=>lhs;whnf);try rfl) (by rfl) (by rfl) (Nat.le_of_ble_eq_true rfl) (by (conv=>lhs;whnf);try rfl) ?_ | refine Zbm rfl rfl ?_ | refine Zaa rfl rfl rfl (by rfl) (by decide) (by (conv=>lhs;whnf);try rfl) ?_ | refine ZaQ rfl rfl (by (conv=>lhs;whnf);try rfl) ?_ | refine Zc ?_ | refine Zb2 (by kernel_rfl) ?_ | refine Zh ?_ | refine Za ?_ | refine Zy ?_ | refine Zw ?_)
  exact Zdw (.inr rfl) (0,0) (0,1000) (fun k=>if k=1002 then (5,7) else νa k) νa [_,_,_,_] [] rfl rfl trivial rfl rfl (Zk rfl (Zk rfl (Zk rfl (ZN _)))) rfl rfl
 ·dsimp only at hl
  subst hl
  rw [Zcm] at h63
  obtain ⟨k0,t0,s0,ks,ag⟩:=n
  dsimp only at hk hy
  subst hk
  repeat (first | (refine Zg rfl rfl ?_) | (refine ZY [] νa (Zdb _ r hs.1) rfl rfl rfl rfl rfl rfl ?_) | (refine ZbD [] νa (Zbx _ h hs.2) rfl rfl rfl rfl rfl ?_) | (refine Za0 rfl rfl (Zcm _ _) ?_) | refine Zm rfl (by (conv=>lhs;whnf);try rfl) ?_ | refine Zz rfl rfl rfl ?_ | refine Zq rfl (by (conv=>lhs;whnf);try rfl) ?_ | refine ZQ rfl rfl rfl rfl (by (conv=>lhs;whnf);try rfl) ?_ | refine Zaz rfl rfl ?_ | refine Zc ?_ | refine Zh ?_ | refine Za ?_ | refine Zy ?_)
  rw [show decide ((0:Int)<((init.length+1:Nat):Int))=true from decide_eq_true (by omega)]
  repeat (first | (refine Zr rfl rfl ?_) | (refine ZfL rfl rfl rfl (by omega) ?_) | (refine Zaq (n:=init.length) rfl rfl rfl rfl (by simp) ?_) | (refine Zft rfl rfl rfl (Zbg _ _) rfl ?_) | (refine ZmO rfl hy rfl rfl ?_) | (refine ZbE rfl rfl rfl (Zbg _ _) rfl rfl rfl rfl (Nat.le_of_ble_eq_true rfl) rfl (ZbM _ _ _) ?_) | refine Zm rfl (by (conv=>lhs;whnf);try rfl) ?_ | refine Zz rfl rfl rfl ?_ | refine Zi rfl rfl ?_ | refine ZQ rfl rfl rfl rfl (by (conv=>lhs;whnf);try rfl) ?_ | refine Zaz rfl rfl ?_ | refine ZaQ rfl rfl (by (conv=>lhs;whnf);try rfl) ?_ | refine Zc ?_ | refine Zh ?_ | refine Za ?_ | refine Za3 ?_)
  exact Zdw (.inl rfl) (0,0) (0,1000) νa νa [_] [] rfl rfl trivial rfl rfl (Zk rfl (Zk rfl (Zk rfl (ZN _)))) rfl rfl
 ·obtain ⟨h1,h2,rfl⟩:=Zck hR
  dsimp only at hl
  subst hl
  rw [Zcm] at h63
  repeat (first | (refine Zg rfl rfl ?_) | (refine ZY [] νa (Zdb _ r hs.1) rfl rfl rfl rfl rfl rfl ?_) | (refine ZbD [] νa (Zbx _ h hs.2) rfl rfl rfl rfl rfl ?_) | (refine Za0 rfl rfl (Zcm _ _) ?_) | refine Zm rfl (by (conv=>lhs;whnf);try rfl) ?_ | refine Zz rfl rfl rfl ?_ | refine Zq rfl (by (conv=>lhs;whnf);try rfl) ?_ | refine ZQ rfl rfl rfl rfl (by (conv=>lhs;whnf);try rfl) ?_ | refine Zaz rfl rfl ?_ | refine Zc ?_ | refine Zh ?_ | refine Za ?_ | refine Zy ?_)
  rw [show decide ((0:Int)<((init.length+1:Nat):Int))=true from decide_eq_true (by omega)]
  repeat (first | (refine ZfL rfl rfl rfl (by omega) ?_) | (refine Zaq (n:=init.length) rfl rfl rfl rfl (by simp) ?_) | (refine Zft rfl rfl rfl (Zbg _ _) rfl ?_) | refine Zm rfl (by (conv=>lhs;whnf);try rfl) ?_ | refine Zz rfl rfl rfl ?_ | refine Zi rfl rfl ?_ | refine ZQ rfl rfl rfl rfl (by (conv=>lhs;whnf);try rfl) ?_ | refine Zaz rfl rfl ?_ | refine ZaQ rfl rfl (by (conv=>lhs;whnf);try rfl) ?_ | refine Zc ?_)
  rw [decide_eq_false hk]
  repeat (first | (refine Zg rfl rfl ?_) | (refine Za5 rfl rfl rfl rfl h1 h2 (by rfl) ?_) | (refine Zaq (n:=List.length (init ++ [Node.cs n])) rfl rfl rfl rfl (by simp) ?_) | (refine ZbE rfl rfl rfl (Zbg _ _) rfl rfl rfl rfl (Nat.le_of_ble_eq_true rfl) rfl (ZbM _ _ _) ?_) | refine Zm rfl (by (conv=>lhs;whnf);try rfl) ?_ | refine Zz rfl rfl rfl ?_ | refine Zaz rfl rfl ?_ | refine Zgs rfl rfl ?_ | refine ZaG rfl rfl rfl (by (conv=>lhs;whnf);try rfl) (by (conv=>lhs;whnf);try rfl) (by rfl) (by rfl) (Nat.le_of_ble_eq_true rfl) (by (conv=>lhs;whnf);try rfl) ?_ | refine Zbm rfl rfl ?_ | refine Zaa rfl rfl rfl (by rfl) (by decide) (by (conv=>lhs;whnf);try rfl) ?_ | refine Zb2 (by kernel_rfl) ?_ | refine Za ?_ | refine Zy ?_ | refine Zw ?_)
  exact Zdw (.inr rfl) (0,0) (0,1000) (fun k=>if k=1002 then (5,7) else νa k) νa [_,_,_,_] [] rfl rfl trivial rfl rfl (Zk rfl (Zk rfl (Zk rfl (ZN _)))) rfl rfl
set_option maxRecDepth 100000 in
set_option maxHeartbeats 1000000 in
theorem ZnH (e:El) (r:List El) (s:ByteArray) (h0:s≠⟨#[]⟩) (hs:small e r) (l':List (List PV)) (h:e.kind≠3∨e.args=none) (ha:e.args≠none) (h63:e.list.length≤9223372036854775807) (hR:Zky e.list s=some l'):PC 102 [.str s] e r (.tup []) ⟨e.kind,e.tag,e.count,l',e.args⟩ r:=by
 refine Zx mix Tryz.func102 (by kernel_rfl) rfl (by kernel_rfl) ?_
 rw [ZbR]
 obtain ⟨kind,tag,count,list,args⟩:=e
 rcases args with _ | ⟨pre,a⟩
 ·exact absurd rfl ha
 simp only [] at h63
 repeat (first | refine Zm rfl (by (conv=>lhs;whnf);try rfl) ?_ | refine ZhG rfl rfl rfl rfl (by (conv=>lhs;whnf);try rfl) ?_ | refine Zc ?_ | refine Zh ?_ | refine Za ?_)
 rw [decide_eq_false h0]
 rcases ZeQ hR with ⟨hl,hR⟩ | ⟨init,n,hl,⟨hk,y,hy,rfl⟩ | ⟨hk,hR⟩⟩
 ·obtain ⟨h1,h2,rfl⟩:=Zck hR
  dsimp only at hl
  subst hl
  repeat (first | (refine Zg rfl rfl ?_) | (refine ZY [] νa (Zdb _ r hs.1) rfl rfl rfl rfl rfl rfl ?_) | (refine ZbD [] νa (Zbx _ h hs.2) rfl rfl rfl rfl rfl ?_) | (refine Za5 rfl rfl rfl rfl h1 h2 (by rfl) ?_) | (refine Zaq (n:=List.length ([]:List (List PV))) rfl rfl rfl rfl (by simp) ?_) | (refine ZbE rfl rfl rfl (Zbg _ _) rfl rfl rfl rfl (Nat.le_of_ble_eq_true rfl) rfl (ZbM _ _ _) ?_) | (refine ZI rfl ?_) | refine Zm rfl (by (conv=>lhs;whnf);try rfl) ?_ | refine Zz rfl rfl rfl ?_ | refine Zq rfl (by (conv=>lhs;whnf);try rfl) ?_ | refine ZQ rfl rfl rfl rfl (by (conv=>lhs;whnf);try rfl) ?_ | refine Zaz rfl rfl ?_ | refine Zgs rfl rfl ?_ | refine ZaG rfl rfl rfl (by (conv=>lhs;whnf);try rfl) (by (conv=>lhs;whnf);try rfl) (by rfl) (by rfl) (Nat.le_of_ble_eq_true rfl) (by (conv=>lhs;whnf);try rfl) ?_ | refine Zbm rfl rfl ?_ | refine Zaa rfl rfl rfl (by rfl) (by decide) (by (conv=>lhs;whnf);try rfl) ?_ | refine ZaQ rfl rfl (by (conv=>lhs;whnf);try rfl) ?_ | refine Zc ?_ | refine Zb2 (by kernel_rfl) ?_ | refine Zh ?_ | refine Za ?_ | refine Zy ?_ | refine Zw ?_)
  exact Zdw (.inr rfl) (0,0) (0,1000) (fun k=>if k=1002 then (5,7) else νa k) νa [_,_,_,_] [] rfl rfl trivial rfl rfl (Zk rfl (Zk rfl (Zk rfl (Zk rfl (ZN _))))) rfl rfl
 ·dsimp only at hl
  subst hl
  rw [Zcm] at h63
  obtain ⟨k0,t0,s0,ks,ag⟩:=n
  dsimp only at hk hy
  subst hk
  repeat (first | (refine Zg rfl rfl ?_) | (refine ZY [] νa (Zdb _ r hs.1) rfl rfl rfl rfl rfl rfl ?_) | (refine ZbD [] νa (Zbx _ h hs.2) rfl rfl rfl rfl rfl ?_) | (refine Za0 rfl rfl (Zcm _ _) ?_) | refine Zm rfl (by (conv=>lhs;whnf);try rfl) ?_ | refine Zz rfl rfl rfl ?_ | refine Zq rfl (by (conv=>lhs;whnf);try rfl) ?_ | refine ZQ rfl rfl rfl rfl (by (conv=>lhs;whnf);try rfl) ?_ | refine Zaz rfl rfl ?_ | refine Zc ?_ | refine Zh ?_ | refine Za ?_ | refine Zy ?_)
  rw [show decide ((0:Int)<((init.length+1:Nat):Int))=true from decide_eq_true (by omega)]
  repeat (first | (refine Zr rfl rfl ?_) | (refine ZfL rfl rfl rfl (by omega) ?_) | (refine Zaq (n:=init.length) rfl rfl rfl rfl (by simp) ?_) | (refine Zft rfl rfl rfl (Zbg _ _) rfl ?_) | (refine ZmO rfl hy rfl rfl ?_) | (refine ZbE rfl rfl rfl (Zbg _ _) rfl rfl rfl rfl (Nat.le_of_ble_eq_true rfl) rfl (ZbM _ _ _) ?_) | refine Zm rfl (by (conv=>lhs;whnf);try rfl) ?_ | refine Zz rfl rfl rfl ?_ | refine Zi rfl rfl ?_ | refine ZQ rfl rfl rfl rfl (by (conv=>lhs;whnf);try rfl) ?_ | refine Zaz rfl rfl ?_ | refine ZaQ rfl rfl (by (conv=>lhs;whnf);try rfl) ?_ | refine Zc ?_ | refine Zh ?_ | refine Za ?_ | refine Za3 ?_)
  exact Zdw (.inl rfl) (0,0) (0,1000) νa νa [_] [] rfl rfl trivial rfl rfl (Zk rfl (Zk rfl (Zk rfl (Zk rfl (ZN _))))) rfl rfl
 ·obtain ⟨h1,h2,rfl⟩:=Zck hR
  dsimp only at hl
  subst hl
  rw [Zcm] at h63
  repeat (first | (refine Zg rfl rfl ?_) | (refine ZY [] νa (Zdb _ r hs.1) rfl rfl rfl rfl rfl rfl ?_) | (refine ZbD [] νa (Zbx _ h hs.2) rfl rfl rfl rfl rfl ?_) | (refine Za0 rfl rfl (Zcm _ _) ?_) | refine Zm rfl (by (conv=>lhs;whnf);try rfl) ?_ | refine Zz rfl rfl rfl ?_ | refine Zq rfl (by (conv=>lhs;whnf);try rfl) ?_ | refine ZQ rfl rfl rfl rfl (by (conv=>lhs;whnf);try rfl) ?_ | refine Zaz rfl rfl ?_ | refine Zc ?_ | refine Zh ?_ | refine Za ?_ | refine Zy ?_)
  rw [show decide ((0:Int)<((init.length+1:Nat):Int))=true from decide_eq_true (by omega)]
  repeat (first | (refine ZfL rfl rfl rfl (by omega) ?_) | (refine Zaq (n:=init.length) rfl rfl rfl rfl (by simp) ?_) | (refine Zft rfl rfl rfl (Zbg _ _) rfl ?_) | refine Zm rfl (by (conv=>lhs;whnf);try rfl) ?_ | refine Zz rfl rfl rfl ?_ | refine Zi rfl rfl ?_ | refine ZQ rfl rfl rfl rfl (by (conv=>lhs;whnf);try rfl) ?_ | refine Zaz rfl rfl ?_ | refine ZaQ rfl rfl (by (conv=>lhs;whnf);try rfl) ?_ | refine Zc ?_)
  rw [decide_eq_false hk]
  repeat (first | (refine Zg rfl rfl ?_) | (refine Za5 rfl rfl rfl rfl h1 h2 (by rfl) ?_) | (refine Zaq (n:=List.length (init ++ [Node.cs n])) rfl rfl rfl rfl (by simp) ?_) | (refine ZbE rfl rfl rfl (Zbg _ _) rfl rfl rfl rfl (Nat.le_of_ble_eq_true rfl) rfl (ZbM _ _ _) ?_) | refine Zm rfl (by (conv=>lhs;whnf);try rfl) ?_ | refine Zz rfl rfl rfl ?_ | refine Zaz rfl rfl ?_ | refine Zgs rfl rfl ?_ | refine ZaG rfl rfl rfl (by (conv=>lhs;whnf);try rfl) (by (conv=>lhs;whnf);try rfl) (by rfl) (by rfl) (Nat.le_of_ble_eq_true rfl) (by (conv=>lhs;whnf);try rfl) ?_ | refine Zbm rfl rfl ?_ | refine Zaa rfl rfl rfl (by rfl) (by decide) (by (conv=>lhs;whnf);try rfl) ?_ | refine Zb2 (by kernel_rfl) ?_ | refine Za ?_ | refine Zy ?_ | refine Zw ?_)
  exact Zdw (.inr rfl) (0,0) (0,1000) (fun k=>if k=1002 then (5,7) else νa k) νa [_,_,_,_] [] rfl rfl trivial rfl rfl (Zk rfl (Zk rfl (Zk rfl (Zk rfl (ZN _))))) rfl rfl
set_option maxRecDepth 100000 in
set_option maxHeartbeats 1000000 in
theorem ZqW (tag count:Int) (list:List (List PV)) (pre:List Arg) (a:Arg) (r:List El) (s:ByteArray) (h0:s≠⟨#[]⟩) (hs:small ⟨3,tag,count,list,some (pre,a)⟩ r) (l':List (List PV)) (h63:a.value.length≤9223372036854775807) (hR:Zky a.value s=some l') :
  PC 102 [.str s] ⟨3,tag,count,list,some (pre,a)⟩ r (.tup []) ⟨3,tag,count,list,some (pre,⟨a.named,a.name,l'⟩)⟩ r:=by
 refine Zx mix Tryz.func102 (by kernel_rfl) rfl (by kernel_rfl) ?_
 rw [ZbR]
 obtain ⟨named,name,value⟩:=a
 dsimp only at h63 hR ⊢
 repeat (first | refine Zm rfl (by (conv=>lhs;whnf);try rfl) ?_ | refine ZhG rfl rfl rfl rfl (by (conv=>lhs;whnf);try rfl) ?_ | refine Zc ?_ | refine Zh ?_ | refine Za ?_)
 rw [decide_eq_false h0]
 rcases ZeQ hR with ⟨hl,hR⟩ | ⟨init,n,hl,⟨hk,y,hy,rfl⟩ | ⟨hk,hR⟩⟩
 ·obtain ⟨h1,h2,rfl⟩:=Zck hR
  subst hl
  repeat (first | (refine Zg rfl rfl ?_) | (refine ZY [] νa (Zdb _ r hs.1) rfl rfl rfl rfl rfl rfl ?_) | (refine ZbD [] νa (ZeY _ _ _ _ _ (hs.2 _ rfl)) rfl rfl rfl rfl rfl ?_) | (refine Zh9 rfl rfl ?_) | (refine Zcr rfl rfl rfl (ZaT _ _ _ _) rfl ?_) | (refine Za5 rfl rfl rfl rfl h1 h2 (by rfl) ?_) | (refine Zaq (n:=List.length ([]:List (List PV))) rfl rfl rfl rfl (by simp) ?_) | (refine ZbE rfl rfl rfl (Zbg _ _) rfl rfl rfl rfl (Nat.le_of_ble_eq_true rfl) rfl (ZbM _ _ _) ?_) | (refine Zh1 rfl rfl rfl (ZaT _ _ _ _) rfl rfl rfl rfl (Nat.le_of_ble_eq_true rfl) (ZfI _ _ _ _ _) ?_) | (refine ZI rfl ?_) | refine Zm rfl (by (conv=>lhs;whnf);try rfl) ?_ | refine Zq rfl (by (conv=>lhs;whnf);try rfl) ?_ | refine ZQ rfl rfl rfl rfl (by (conv=>lhs;whnf);try rfl) ?_ | refine Zgs rfl rfl ?_ | refine Zbm rfl rfl ?_ | refine Zaa rfl rfl rfl (by rfl) (by decide) (by (conv=>lhs;whnf);try rfl) ?_ | refine ZaQ rfl rfl (by (conv=>lhs;whnf);try rfl) ?_ | refine Zc ?_ | refine Zb2 (by kernel_rfl) ?_ | refine Zh ?_ | refine Za ?_ | refine Zy ?_ | refine Zw ?_)
  exact Zdw (.inr rfl) (0,0) (0,1000) (fun k=>if k=1004 then (5,7) else νa k) νa [_,_,_,_] [] rfl rfl trivial rfl rfl (Zk rfl (Zk rfl (Zk rfl (Zk rfl (ZN _))))) rfl rfl
 ·skip
  subst hl
  rw [Zcm] at h63
  obtain ⟨k0,t0,s0,ks,ag⟩:=n
  dsimp only at hk hy
  subst hk
  repeat (first | (refine Zg rfl rfl ?_) | (refine ZY [] νa (Zdb _ r hs.1) rfl rfl rfl rfl rfl rfl ?_) | (refine ZbD [] νa (ZeY _ _ _ _ _ (hs.2 _ rfl)) rfl rfl rfl rfl rfl ?_) | (refine Zh9 rfl rfl ?_) | (refine Zcr rfl rfl rfl (ZaT _ _ _ _) rfl ?_) | (refine Za0 rfl rfl (Zcm _ _) ?_) | refine Zm rfl (by (conv=>lhs;whnf);try rfl) ?_ | refine Zq rfl (by (conv=>lhs;whnf);try rfl) ?_ | refine ZQ rfl rfl rfl rfl (by (conv=>lhs;whnf);try rfl) ?_ | refine Zc ?_ | refine Zh ?_ | refine Za ?_ | refine Zy ?_)
  rw [show decide ((0:Int)<((init.length+1:Nat):Int))=true from decide_eq_true (by omega)]
  repeat (first | (refine Zh9 rfl rfl ?_) | (refine Zcr rfl rfl rfl (ZaT _ _ _ _) rfl ?_) | (refine Zr rfl rfl ?_) | (refine ZfL rfl rfl rfl (by omega) ?_) | (refine Zaq (n:=init.length) rfl rfl rfl rfl (by simp) ?_) | (refine Zft rfl rfl rfl (Zbg _ _) rfl ?_) | (refine ZmO rfl hy rfl rfl ?_) | (refine ZbE rfl rfl rfl (Zbg _ _) rfl rfl rfl rfl (Nat.le_of_ble_eq_true rfl) rfl (ZbM _ _ _) ?_) | refine Zm rfl (by (conv=>lhs;whnf);try rfl) ?_ | refine Zi rfl rfl ?_ | refine ZQ rfl rfl rfl rfl (by (conv=>lhs;whnf);try rfl) ?_ | refine ZaQ rfl rfl (by (conv=>lhs;whnf);try rfl) ?_ | refine Zc ?_ | refine Zh ?_ | refine Za ?_ | refine Za3 ?_)
  exact Zdw (.inl rfl) (0,0) (0,1000) νa νa [_] [] rfl rfl trivial rfl rfl (Zk rfl (Zk rfl (Zk rfl (Zk rfl (ZN _))))) rfl rfl
 ·obtain ⟨h1,h2,rfl⟩:=Zck hR
  subst hl
  rw [Zcm] at h63
  repeat (first | (refine Zg rfl rfl ?_) | (refine ZY [] νa (Zdb _ r hs.1) rfl rfl rfl rfl rfl rfl ?_) | (refine ZbD [] νa (ZeY _ _ _ _ _ (hs.2 _ rfl)) rfl rfl rfl rfl rfl ?_) | (refine Zh9 rfl rfl ?_) | (refine Zcr rfl rfl rfl (ZaT _ _ _ _) rfl ?_) | (refine Za0 rfl rfl (Zcm _ _) ?_) | refine Zm rfl (by (conv=>lhs;whnf);try rfl) ?_ | refine Zq rfl (by (conv=>lhs;whnf);try rfl) ?_ | refine ZQ rfl rfl rfl rfl (by (conv=>lhs;whnf);try rfl) ?_ | refine Zc ?_ | refine Zh ?_ | refine Za ?_ | refine Zy ?_)
  rw [show decide ((0:Int)<((init.length+1:Nat):Int))=true from decide_eq_true (by omega)]
  repeat (first | (refine Zh9 rfl rfl ?_) | (refine Zcr rfl rfl rfl (ZaT _ _ _ _) rfl ?_) | (refine ZfL rfl rfl rfl (by omega) ?_) | (refine Zaq (n:=init.length) rfl rfl rfl rfl (by simp) ?_) | (refine Zft rfl rfl rfl (Zbg _ _) rfl ?_) | refine Zm rfl (by (conv=>lhs;whnf);try rfl) ?_ | refine Zi rfl rfl ?_ | refine ZQ rfl rfl rfl rfl (by (conv=>lhs;whnf);try rfl) ?_ | refine ZaQ rfl rfl (by (conv=>lhs;whnf);try rfl) ?_ | refine Zc ?_)
  rw [decide_eq_false hk]
  repeat (first | (refine Zg rfl rfl ?_) | (refine Zh9 rfl rfl ?_) | (refine Zcr rfl rfl rfl (ZaT _ _ _ _) rfl ?_) | (refine Za5 rfl rfl rfl rfl h1 h2 (by rfl) ?_) | (refine Zaq (n:=List.length (init ++ [Node.cs n])) rfl rfl rfl rfl (by simp) ?_) | (refine ZbE rfl rfl rfl (Zbg _ _) rfl rfl rfl rfl (Nat.le_of_ble_eq_true rfl) rfl (ZbM _ _ _) ?_) | (refine Zh1 rfl rfl rfl (ZaT _ _ _ _) rfl rfl rfl rfl (Nat.le_of_ble_eq_true rfl) (ZfI _ _ _ _ _) ?_) | refine Zm rfl (by (conv=>lhs;whnf);try rfl) ?_ | refine Zgs rfl rfl ?_ | refine Zbm rfl rfl ?_ | refine Zaa rfl rfl rfl (by rfl) (by decide) (by (conv=>lhs;whnf);try rfl) ?_ | refine Zb2 (by kernel_rfl) ?_ | refine Za ?_ | refine Zy ?_ | refine Zw ?_)
  exact Zdw (.inr rfl) (0,0) (0,1000) (fun k=>if k=1004 then (5,7) else νa k) νa [_,_,_,_] [] rfl rfl trivial rfl rfl (Zk rfl (Zk rfl (Zk rfl (Zk rfl (ZN _))))) rfl rfl
theorem ZbK (e:El) (r:List El) (s:ByteArray) (hs:small e r) (h63:e.cur.length≤9223372036854775807) (e':El) (h:ZaY e s=some e'):PC 102 [.str s] e r (.tup []) e' r:=by
 unfold ZaY at h
 split at h
 ·rename_i h0
  injection h with h
  subst h0 h
  exact ZoM e r
 ·rename_i h0
  obtain ⟨l',hR,rfl⟩:=Option.map_eq_some_iff.1 h
  obtain ⟨kind,tag,count,list,args⟩:=e
  rcases args with _ | ⟨pre,a⟩
  ·exact ZnG _ r s h0 hs l' rfl h63 hR
  ·by_cases hk:kind=3
   ·subst hk
    exact ZqW tag count list pre a r s h0 hs l' h63 hR
   ·have e1:VL.El.cur ⟨kind,tag,count,list,some (pre,a)⟩=list:=if_neg hk
    have e2:VL.El.setCur ⟨kind,tag,count,list,some (pre,a)⟩ l'=⟨kind,tag,count,l',some (pre,a)⟩:=if_neg hk
    rw [e1] at hR h63
    rw [e2]
    exact ZnH ⟨kind,tag,count,list,some (pre,a)⟩ r s h0 hs l' (.inl hk) (by intro h;cases h) h63 hR
theorem Zgl (e:El) (r:List El) (n:Node) (hs:small e r) (e':El) (h:ZfN e n=some e'):PC 103 [.agg n.cs] e r (.tup []) e' r:=by
 obtain ⟨l',hR,rfl⟩:=Option.map_eq_some_iff.1 h
 obtain ⟨kind,tag,count,list,args⟩:=e
 rcases args with _ | ⟨pre,a⟩
 ·exact Zlu _ r n hs l' (.inr rfl) hR
 ·by_cases hk:kind=3
  ·subst hk
   exact Zry tag count list pre a r n hs l' hR
  ·have e1:VL.El.cur ⟨kind,tag,count,list,some (pre,a)⟩=list:=if_neg hk
   have e2:VL.El.setCur ⟨kind,tag,count,list,some (pre,a)⟩ l'=⟨kind,tag,count,l',some (pre,a)⟩:=if_neg hk
   rw [e1] at hR
   rw [e2]
   exact Zlu ⟨kind,tag,count,list,some (pre,a)⟩ r n hs l' (.inl hk) hR
set_option maxRecDepth 100000 in
set_option maxHeartbeats 1000000 in
theorem ZnK (e e2:El) (r:List El) (hr:r.length≤999):ContractG Tryz.prog 111 [.ptr 0 (0,0) 0] (objs (stP νa e (e2::r))) (.ptr 1001 (0,1001) 0) (Zl3 78 111 98 νa (1,1000) e e2 r):=by
 refine Zx mix Tryz.func111 (by kernel_rfl) rfl (by kernel_rfl) ?_
 rw [ZbR]
 repeat (first | (refine ZY [] νa (Zdb e (e2::r) (by simp;omega)) rfl rfl rfl rfl rfl rfl ?_) | (refine Za0 rfl rfl (ZbN _ _ _) ?_) | (refine ZfL rfl rfl rfl (by simp;omega) ?_) | (refine ZrN rfl rfl rfl rfl (by rw [ZbN];omega) (ZrR _ _ _) ?_) | refine Zm rfl (by (conv=>lhs;whnf);try rfl) ?_ | refine Zz rfl rfl rfl ?_ | refine Zi rfl rfl ?_ | refine Zq rfl (by (conv=>lhs;whnf);try rfl) ?_ | refine Zaz rfl rfl ?_ | refine ZaG rfl rfl rfl (by (conv=>lhs;whnf);try rfl) (by (conv=>lhs;whnf);try rfl) (by rfl) (by rfl) (Nat.le_of_ble_eq_true rfl) (by (conv=>lhs;whnf);try rfl) ?_ | refine Zc ?_ | refine Zb2 (by kernel_rfl) ?_ | refine Zh ?_ | refine Za ?_ | refine Za3 ?_)
 exact ZrS (3,11) [_,_] [(2,.ptr 1001 (0,1001) 0)] rfl rfl ⟨rfl,trivial⟩ rfl rfl rfl rfl
abbrev ZnL (k t c:Int):List (Nat×VObj):=[(1,.box [.int .i64 k,.int .i64 t,.int .i64 c,.nil,.nil])]
set_option maxRecDepth 100000 in
set_option maxHeartbeats 1000000 in
theorem ZoU (e e':El) (r:List El) (k t c:Int) (s:ByteArray) (hr:20≤r.length) (hs:small e r) (h63:e.cur.length≤9223372036854775807) (h:ZaY e s=some e') :
  ContractG Tryz.prog 104 [.ptr 0 (0,0) 0,.ptr 1 (0,1) 0,.str s] (objs (stP νa e r)++ZnL k t c) (.tup []) (stP νb e' r):=by
 refine Zx mix Tryz.func104 (by kernel_rfl) rfl (by kernel_rfl) ?_
 rw [Zp0,ZbR,Zp5 rfl]
 repeat (first | (refine Za0 rfl rfl (ZbN _ _ _) ?_) | refine Zm rfl (by (conv=>lhs;whnf);try rfl) ?_ | refine Zz rfl rfl rfl ?_ | refine Zi rfl rfl ?_ | refine ZQ rfl rfl rfl rfl (by (conv=>lhs;whnf);try rfl) ?_ | refine Zaz rfl rfl ?_ | refine Zc ?_ | refine Zh ?_ | refine Za ?_)
 rw [show decide ((20:Int)<((r.length+1:Nat):Int))=true from decide_eq_true (by omega)]
 repeat (first | (refine Zr rfl rfl ?_) | (refine Zv [_] νa (ZbK e r s hs h63 e' h) rfl rfl rfl rfl rfl rfl ?_) | refine Zm rfl (by (conv=>lhs;whnf);try rfl) ?_ | refine Zc ?_ | refine Zh ?_ | refine Za ?_ | refine Za3 ?_)
 exact Zbn (.inl rfl) (νc 2 2) [_] [] rfl rfl trivial rfl rfl
set_option maxRecDepth 100000 in
set_option maxHeartbeats 1000000 in
theorem ZoV (e:El) (r:List El) (k t c:Int) (s:ByteArray) (hr:r.length<20) :
  ContractG Tryz.prog 104 [.ptr 0 (0,0) 0,.ptr 1 (0,1) 0,.str s] (objs (stP νa e r)++ZnL k t c) (.tup []) (stP νb ⟨k,t,c,[],none⟩ (e::r)):=by
 refine Zx mix Tryz.func104 (by kernel_rfl) rfl (by kernel_rfl) ?_
 rw [Zp0,ZbR,Zp5 rfl]
 repeat (first | (refine Za0 rfl rfl (ZbN _ _ _) ?_) | refine Zm rfl (by (conv=>lhs;whnf);try rfl) ?_ | refine Zz rfl rfl rfl ?_ | refine Zi rfl rfl ?_ | refine ZQ rfl rfl rfl rfl (by (conv=>lhs;whnf);try rfl) ?_ | refine Zaz rfl rfl ?_ | refine Zc ?_ | refine Zh ?_ | refine Za ?_)
 rw [show decide ((20:Int)<((r.length+1:Nat):Int))=false from decide_eq_false (by omega)]
 repeat (first | (refine Zg rfl rfl ?_) | (refine Zh2 rfl rfl rfl rfl (Nat.le_of_ble_eq_true rfl) rfl ?_) | (refine ZiO (new:=[[.ptr 1 (0,1) 0]]) rfl rfl rfl rfl (by rw [ZbN];simp;omega) (by rw [ZbN];simp;omega) (by simp) ?_) | refine Zm rfl (by (conv=>lhs;whnf);try rfl) ?_ | refine Zz rfl rfl rfl ?_ | refine Zi rfl rfl ?_ | refine Zaz rfl rfl ?_ | refine ZaG rfl rfl rfl (by (conv=>lhs;whnf);try rfl) (by (conv=>lhs;whnf);try rfl) (by rfl) (by rfl) (Nat.le_of_ble_eq_true rfl) (by (conv=>lhs;whnf);try rfl) ?_ | refine Zc ?_ | refine Za ?_ | refine Zy ?_ | refine Zw ?_)
 exact Zdl (Zb8 1 5 3 78 5 rfl rfl rfl) (Zdl (Zb8 1 6 4 111 3 rfl rfl rfl) (Zdl (Zci (t:=6) rfl) (Zp6 (.inr rfl) (0,0) (2,7) (0,1) (3,0) (4,0) 1 5 6 νa [_,_,_,_,_,_,_,_,_] [] rfl rfl trivial rfl rfl rfl rfl rfl rfl rfl rfl)))
def ZfS (e:El):Option El:=match e.args with
 | some (pre,a)=>if e.kind=3∧a.named=false then some ⟨e.kind,e.tag,e.count,e.list,some (pre,⟨true,a.value,[]⟩)⟩ else ZaY e ⟨#[61]⟩
 | none=>ZaY e ⟨#[61]⟩
set_option maxRecDepth 100000 in
set_option maxHeartbeats 1000000 in
theorem ZqM (e e':El) (r:List El) (hs:small e r) (h63:e.cur.length≤9223372036854775807) (hk:e.kind≠3) (h:ZaY e ⟨#[124]⟩=some e'):PC 106 [] e r (.tup []) e' r:=by
 refine Zx mix Tryz.func106 (by kernel_rfl) rfl (by kernel_rfl) ?_
 rw [ZbR]
 repeat (first | (refine ZY [] νa (Zdb e r hs.1) rfl rfl rfl rfl rfl rfl ?_) | refine Zm rfl (by (conv=>lhs;whnf);try rfl) ?_ | refine Zz rfl rfl rfl ?_ | refine Zi rfl rfl ?_ | refine Zq rfl (by (conv=>lhs;whnf);try rfl) ?_ | refine ZQ rfl rfl rfl rfl (by (conv=>lhs;whnf);try rfl) ?_ | refine Zaz rfl rfl ?_ | refine Zc ?_ | refine Zh ?_ | refine Za ?_)
 rw [decide_eq_false hk]
 repeat (first | (refine Zg rfl rfl ?_) | (refine Zv [] νa (ZbK e r _ hs h63 e' h) rfl rfl rfl rfl rfl rfl ?_) | refine Zm rfl (by (conv=>lhs;whnf);try rfl) ?_ | refine Zc ?_ | refine Za ?_ | refine Zy ?_ | refine Zw ?_)
 exact Zbn (.inr rfl) (νc 3 1) [] [] rfl rfl trivial rfl rfl
set_option maxRecDepth 100000 in
set_option maxHeartbeats 1000000 in
theorem ZqN (tag count:Int) (list:List (List PV)) (r:List El) (hr:r.length≤1000):PC 106 [] ⟨3,tag,count,list,none⟩ r (.tup []) ⟨3,tag,count,list,some ([],⟨false,[],[]⟩)⟩ r:=by
 refine Zx mix Tryz.func106 (by kernel_rfl) rfl (by kernel_rfl) ?_
 rw [ZbR]
 repeat (first | (refine ZY [] νa (Zdb _ r hr) rfl rfl rfl rfl rfl rfl ?_) | (refine Zr rfl rfl ?_) | (refine Zh2 rfl rfl rfl rfl (Nat.le_of_ble_eq_true rfl) rfl ?_) | (refine ZiO (els:=[]) (new:=[[.bool false,.nil,.nil]]) rfl rfl rfl rfl (by simp) (by simp) (by simp) ?_) | refine Zm rfl (by (conv=>lhs;whnf);try rfl) ?_ | refine Zz rfl rfl rfl ?_ | refine Zi rfl rfl ?_ | refine Zq rfl (by (conv=>lhs;whnf);try rfl) ?_ | refine ZQ rfl rfl rfl rfl (by (conv=>lhs;whnf);try rfl) ?_ | refine Zaz rfl rfl ?_ | refine ZaG rfl rfl rfl (by (conv=>lhs;whnf);try rfl) (by (conv=>lhs;whnf);try rfl) (by rfl) (by rfl) (Nat.le_of_ble_eq_true rfl) (by (conv=>lhs;whnf);try rfl) ?_ | refine Zbm rfl rfl ?_ | refine Zc ?_ | refine Zh ?_ | refine Za ?_ | refine Za3 ?_)
 exact Zdl (Zde 1003 0 1 rfl rfl rfl rfl rfl) (Zdl (ZjZ 1003 1004 0 2 78 5 rfl rfl rfl rfl rfl) (Zdw (.inl rfl) (0,0) (0,1000) (fun k=>if k=1003 then (3,7) else if k=1004 then (4,0) else νa k) νa [_,_,_,_,_,_] [] rfl rfl trivial rfl rfl (Zk rfl (Zk rfl (Zk rfl (Zk rfl (ZN _))))) rfl rfl))
theorem Zou (pre:List Arg) (a:Arg):(pre.map Arg.cs ++ [a.cs]).length=pre.length+1:=by simp
theorem Zov (pre:List Arg) (a:Arg) (x:List PV):(pre.map Arg.cs ++ [a.cs] ++ [x])[pre.length+1]? = some x:=by
 have:=Zbg (pre.map Arg.cs ++ [a.cs]) x
 rwa [Zou] at this
theorem Zow (pre:List Arg) (a:Arg) (x y:List PV):(pre.map Arg.cs ++ [a.cs] ++ [x]).set (pre.length+1) y=pre.map Arg.cs ++ [a.cs] ++ [y]:=by
 have:=ZbM (pre.map Arg.cs ++ [a.cs]) x y
 rwa [Zou] at this
theorem Zox (pre:List Arg) (x:List PV):(pre.map Arg.cs ++ [x])[pre.length]? = some x:=by
 have:=Zbg (pre.map Arg.cs) x
 rwa [List.length_map] at this
theorem Zoy (pre:List Arg) (x y:List PV):(pre.map Arg.cs ++ [x]).set pre.length y=pre.map Arg.cs ++ [y]:=by
 have:=ZbM (pre.map Arg.cs) x y
 rwa [List.length_map] at this
theorem ZqO (pre:List Arg) (a:Arg) (x y:List PV):(pre.map Arg.cs ++ [a.cs] ++ [x]).set (pre.length+1) y=(pre ++ [a]).map Arg.cs ++ [y]:=by
 rw [Zow]
 simp
set_option maxRecDepth 100000 in
set_option maxHeartbeats 1000000 in
theorem ZqP (tag count:Int) (list:List (List PV)) (pre:List Arg) (a:Arg) (r:List El) (hs:small ⟨3,tag,count,list,some (pre,a)⟩ r):PC 106 [] ⟨3,tag,count,list,some (pre,a)⟩ r (.tup []) ⟨3,tag,count,list,some (pre ++ [a],⟨false,[],[]⟩)⟩ r:=by
 have hp:pre.length≤1000000:=hs.2 _ rfl
 refine Zx mix Tryz.func106 (by kernel_rfl) rfl (by kernel_rfl) ?_
 rw [ZbR]
 repeat (first | (refine ZY [] νa (Zdb _ r hs.1) rfl rfl rfl rfl rfl rfl ?_) | refine Zm rfl (by (conv=>lhs;whnf);try rfl) ?_ | refine Zz rfl rfl rfl ?_ | refine Zi rfl rfl ?_ | refine Zq rfl (by (conv=>lhs;whnf);try rfl) ?_ | refine ZQ rfl rfl rfl rfl (by (conv=>lhs;whnf);try rfl) ?_ | refine Zaz rfl rfl ?_ | refine Zc ?_ | refine Zh ?_ | refine Za ?_)
 refine Zr rfl rfl ?_
 refine Zao (Zde 1003 pre.length 2 rfl (ZaT _ _ _ _) rfl rfl (ZfI _ _ _ _ _)) ?_ (List.cons_ne_nil _ _)
 repeat (first | (refine Zh2 rfl rfl rfl rfl (Nat.le_of_ble_eq_true rfl) rfl ?_) | (refine ZiO (els:=pre.map Arg.cs ++ [a.cs]) (new:=[[.bool false,.nil,.nil]]) rfl rfl rfl rfl (by simp;omega) (by simp;omega) (by simp) ?_) | refine Zm rfl (by (conv=>lhs;whnf);try rfl) ?_ | refine Zz rfl rfl rfl ?_ | refine Zi rfl rfl ?_ | refine Zaz rfl rfl ?_ | refine ZaG rfl rfl rfl (by (conv=>lhs;whnf);try rfl) (by (conv=>lhs;whnf);try rfl) (by rfl) (by rfl) (Nat.le_of_ble_eq_true rfl) (by (conv=>lhs;whnf);try rfl) ?_ | refine Zbm rfl rfl ?_ | refine Zc ?_ | refine Zh ?_ | refine Za ?_ | refine Za3 ?_)
 exact Zdl (Zde 1003 (pre.length+1) 1 rfl (Zov _ _ _) rfl rfl (Zow _ _ _ _)) (Zdl (ZjZ 1003 1004 (pre.length+1) 2 78 5 rfl rfl (Zov _ _ _) rfl (ZqO _ _ _ _)) (Zdw (.inl rfl) (0,0) (0,1000) (fun k=>if k=1003 then (3,7) else if k=1004 then (4,0) else νa k) νa [_,_,_,_,_,_,_,_] [] rfl rfl trivial rfl rfl (Zk rfl (Zk rfl (Zk rfl (Zk rfl (ZN _))))) rfl rfl))
set_option maxRecDepth 100000 in
set_option maxHeartbeats 1000000 in
theorem Zju (e e':El) (r:List El) (hs:small e r) (h63:e.cur.length≤9223372036854775807) (hc:e.kind≠3∨e.args=none∨∃ pre a,e.args=some (pre,a)∧a.named=true) (h:ZaY e ⟨#[61]⟩=some e'):PC 107 [] e r (.tup []) e' r:=by
 refine Zx mix Tryz.func107 (by kernel_rfl) rfl (by kernel_rfl) ?_
 rw [ZbR]
 obtain ⟨kind,tag,count,list,args⟩:=e
 rcases args with _ | ⟨pre,a⟩
 ·by_cases hk:kind=3
  ·subst hk
   repeat (first | (refine ZY [] νa (Zdb _ r hs.1) rfl rfl rfl rfl rfl rfl ?_) | (refine Za0 (n:=0) rfl rfl rfl ?_) | (refine ZI rfl ?_) | (refine Zg rfl rfl ?_) | (refine Zv [] νa (ZbK _ r _ hs h63 e' h) rfl rfl rfl rfl rfl rfl ?_) | refine Zm rfl (by (conv=>lhs;whnf);try rfl) ?_ | refine Zz rfl rfl rfl ?_ | refine Zi rfl rfl ?_ | refine Zq rfl (by (conv=>lhs;whnf);try rfl) ?_ | refine ZQ rfl rfl rfl rfl (by (conv=>lhs;whnf);try rfl) ?_ | refine Zaz rfl rfl ?_ | refine ZaQ rfl rfl (by (conv=>lhs;whnf);try rfl) ?_ | refine Zc ?_ | refine Zh ?_ | refine Za ?_ | refine Zy ?_ | refine Zw ?_)
   exact Zbn (.inr rfl) (νc 4 1) [] [] rfl rfl trivial rfl rfl
  ·repeat (first | (refine ZY [] νa (Zdb _ r hs.1) rfl rfl rfl rfl rfl rfl ?_) | (refine Za0 (n:=0) rfl rfl rfl ?_) | refine Zm rfl (by (conv=>lhs;whnf);try rfl) ?_ | refine Zz rfl rfl rfl ?_ | refine Zi rfl rfl ?_ | refine Zq rfl (by (conv=>lhs;whnf);try rfl) ?_ | refine ZQ rfl rfl rfl rfl (by (conv=>lhs;whnf);try rfl) ?_ | refine Zaz rfl rfl ?_ | refine Zc ?_ | refine Zh ?_ | refine Za ?_)
   rw [decide_eq_false hk]
   repeat (first | (refine ZI rfl ?_) | (refine Zg rfl rfl ?_) | (refine Zv [] νa (ZbK _ r _ hs h63 e' h) rfl rfl rfl rfl rfl rfl ?_) | refine Zm rfl (by (conv=>lhs;whnf);try rfl) ?_ | refine ZaQ rfl rfl (by (conv=>lhs;whnf);try rfl) ?_ | refine Zc ?_ | refine Za ?_ | refine Zy ?_ | refine Zw ?_)
   exact Zbn (.inr rfl) (νc 4 1) [] [] rfl rfl trivial rfl rfl
 ·have hp:pre.length≤1000000:=hs.2 _ rfl
  by_cases hk:kind=3
  ·obtain ⟨named,name,value⟩:=a
   obtain rfl:named=true:=by
    rcases hc with hc | hc | ⟨pre',a',h1,h2⟩
    ·exact absurd hk hc
    ·cases hc
    ·injection h1 with h1
     injection h1 with _ h1
     rw [← h1] at h2
     exact h2
   subst hk
   repeat (first | (refine ZY [] νa (Zdb _ r hs.1) rfl rfl rfl rfl rfl rfl ?_) | (refine Za0 rfl rfl (Zeb ..) ?_) | refine Zm rfl (by (conv=>lhs;whnf);try rfl) ?_ | refine Zz rfl rfl rfl ?_ | refine Zi rfl rfl ?_ | refine Zq rfl (by (conv=>lhs;whnf);try rfl) ?_ | refine ZQ rfl rfl rfl rfl (by (conv=>lhs;whnf);try rfl) ?_ | refine Zaz rfl rfl ?_ | refine ZaQ rfl rfl (by (conv=>lhs;whnf);try rfl) ?_ | refine Zc ?_ | refine Zh ?_ | refine Za ?_)
   rw [show decide ((0:Int)<((pre.length+1:Nat):Int))=true from decide_eq_true (by omega)]
   repeat (first | (refine ZfL rfl rfl rfl (by omega) ?_) | (refine Zd7 rfl rfl rfl rfl (by rw [Zeb];omega) ?_) | (refine Zcr rfl rfl rfl (ZaT _ _ _ _) rfl ?_) | (refine Zg rfl rfl ?_) | (refine Zv [] νa (ZbK _ r _ hs h63 e' h) rfl rfl rfl rfl rfl rfl ?_) | refine Zm rfl (by (conv=>lhs;whnf);try rfl) ?_ | refine Zz rfl rfl rfl ?_ | refine Zi rfl rfl ?_ | refine Zaz rfl rfl ?_ | refine ZqK rfl rfl ?_ | refine ZaQ rfl rfl (by (conv=>lhs;whnf);try rfl) ?_ | refine Zc ?_ | refine Za ?_ | refine Zy ?_ | refine Zw ?_)
   exact Zbn (.inr rfl) (νc 4 1) [] [] rfl rfl trivial rfl rfl
  ·repeat (first | (refine ZY [] νa (Zdb _ r hs.1) rfl rfl rfl rfl rfl rfl ?_) | (refine Za0 rfl rfl (Zeb ..) ?_) | refine Zm rfl (by (conv=>lhs;whnf);try rfl) ?_ | refine Zz rfl rfl rfl ?_ | refine Zi rfl rfl ?_ | refine Zq rfl (by (conv=>lhs;whnf);try rfl) ?_ | refine ZQ rfl rfl rfl rfl (by (conv=>lhs;whnf);try rfl) ?_ | refine Zaz rfl rfl ?_ | refine Zc ?_ | refine Zh ?_ | refine Za ?_)
   rw [decide_eq_false hk]
   repeat (first | (refine ZI rfl ?_) | (refine Zg rfl rfl ?_) | (refine Zv [] νa (ZbK _ r _ hs h63 e' h) rfl rfl rfl rfl rfl rfl ?_) | refine Zm rfl (by (conv=>lhs;whnf);try rfl) ?_ | refine ZaQ rfl rfl (by (conv=>lhs;whnf);try rfl) ?_ | refine Zc ?_ | refine Za ?_ | refine Zy ?_ | refine Zw ?_)
   exact Zbn (.inr rfl) (νc 4 1) [] [] rfl rfl trivial rfl rfl
set_option maxRecDepth 100000 in
set_option maxHeartbeats 1000000 in
theorem Zoz (tag count:Int) (list:List (List PV)) (pre:List Arg) (name value:List (List PV)) (r:List El) (hs:small ⟨3,tag,count,list,some (pre,⟨false,name,value⟩)⟩ r):PC 107 [] ⟨3,tag,count,list,some (pre,⟨false,name,value⟩)⟩ r (.tup []) ⟨3,tag,count,list,some (pre,⟨true,value,[]⟩)⟩ r:=by
 have hp:pre.length≤1000000:=hs.2 _ rfl
 refine Zx mix Tryz.func107 (by kernel_rfl) rfl (by kernel_rfl) ?_
 rw [ZbR]
 repeat (first | (refine ZY [] νa (Zdb _ r hs.1) rfl rfl rfl rfl rfl rfl ?_) | (refine Za0 rfl rfl (Zeb ..) ?_) | refine Zm rfl (by (conv=>lhs;whnf);try rfl) ?_ | refine Zz rfl rfl rfl ?_ | refine Zi rfl rfl ?_ | refine Zq rfl (by (conv=>lhs;whnf);try rfl) ?_ | refine ZQ rfl rfl rfl rfl (by (conv=>lhs;whnf);try rfl) ?_ | refine Zaz rfl rfl ?_ | refine ZaQ rfl rfl (by (conv=>lhs;whnf);try rfl) ?_ | refine Zc ?_ | refine Zh ?_ | refine Za ?_)
 rw [show decide ((0:Int)<((pre.length+1:Nat):Int))=true from decide_eq_true (by omega)]
 repeat (first | (refine ZfL rfl rfl rfl (by omega) ?_) | (refine Zd7 rfl rfl rfl rfl (by rw [Zeb];omega) ?_) | (refine Zcr rfl rfl rfl (ZaT _ _ _ _) rfl ?_) | (refine Zr rfl rfl ?_) | (refine Zh1 rfl rfl rfl (ZaT _ _ _ _) rfl rfl rfl rfl (Nat.le_of_ble_eq_true rfl) (ZfI _ _ _ _ _) ?_) | refine Zm rfl (by (conv=>lhs;whnf);try rfl) ?_ | refine Zz rfl rfl rfl ?_ | refine Zi rfl rfl ?_ | refine Zaz rfl rfl ?_ | refine Zbm rfl rfl ?_ | refine ZqK rfl rfl ?_ | refine ZaQ rfl rfl (by (conv=>lhs;whnf);try rfl) ?_ | refine Zc ?_ | refine Zb2 (by kernel_rfl) ?_ | refine Zh ?_ | refine Za ?_ | refine Za3 ?_)
 exact Zdl (Zde 1003 pre.length 1 rfl (Zox _ _) rfl rfl (Zoy _ _ _)) (Zdl (ZjZ 1003 1004 pre.length 2 78 5 rfl rfl (Zox _ _) rfl (Zoy _ _ _)) (Zdw (.inl rfl) (0,0) (0,1000) (fun k=>if k=1004 then (5,0) else νa k) νa [_,_,_,_,_] [] rfl rfl trivial rfl rfl (Zk rfl (Zk rfl (Zk rfl (Zk rfl (ZN _))))) rfl rfl))
def ZhE:El→List (List PV)→Option El
 | e,[]=>some e
 | e,x::l=>(ZsX x).bind fun n=>(if n.kind=1 then ZaY e n.text else ZfN e n).bind fun e'=>ZhE e' l
def fit (e:El) (r:List El):Prop:=small e r∧e.cur.length≤9223372036854775807
theorem ZhF {e:El} {r:List El} {l:List (List PV)} (h:small e r):small (e.setCur l) r:=by
 obtain ⟨kind,tag,count,list,args⟩:=e
 refine ⟨h.1,fun q hq=>?_⟩
 rcases args with _ | ⟨pre,a⟩
 ·cases hq
 ·by_cases hk:kind=3
  ·have e1:VL.El.setCur ⟨kind,tag,count,list,some (pre,a)⟩ l=⟨kind,tag,count,list,some (pre,⟨a.named,a.name,l⟩)⟩:=if_pos hk
   rw [e1] at hq
   injection hq with hq
   rw [← hq]
   exact h.2 (pre,a) rfl
  ·have e1:VL.El.setCur ⟨kind,tag,count,list,some (pre,a)⟩ l=⟨kind,tag,count,l,some (pre,a)⟩:=if_neg hk
   rw [e1] at hq
   exact h.2 q hq
theorem ZjW (e:El) (l:List (List PV)):(e.setCur l).cur=l:=by
 obtain ⟨kind,tag,count,list,args⟩:=e
 rcases args with _ | ⟨pre,a⟩
 ·rfl
 ·by_cases hk:kind=3
  ·have e1:VL.El.setCur ⟨kind,tag,count,list,some (pre,a)⟩ l=⟨kind,tag,count,list,some (pre,⟨a.named,a.name,l⟩)⟩:=if_pos hk
   rw [e1]
   exact if_pos hk
  ·have e1:VL.El.setCur ⟨kind,tag,count,list,some (pre,a)⟩ l=⟨kind,tag,count,l,some (pre,a)⟩:=if_neg hk
   rw [e1]
   exact if_neg hk
theorem Zi6 {l l':List (List PV)} {n:Node} (h:Zg6 l n=some l'):l'.length≤9223372036854775807:=by
 obtain ⟨_,h2,rfl⟩:=Zck h
 simpa using h2
theorem Zah {e e':El} {r:List El} {s:ByteArray} (hf:fit e r) (h:ZaY e s=some e'):fit e' r:=by
 unfold ZaY at h
 split at h
 ·injection h with h
  rw [← h]
  exact hf
 ·obtain ⟨l',hR,rfl⟩:=Option.map_eq_some_iff.1 h
  refine ⟨ZhF hf.1,?_⟩
  rw [ZjW]
  rcases ZeQ hR with ⟨_,hR⟩ | ⟨init,n,hl,⟨_,y,_,rfl⟩ | ⟨_,hR⟩⟩
  ·exact Zi6 hR
  ·have:=hf.2
   rw [hl,Zcm] at this
   rw [Zcm]
   exact this
  ·exact Zi6 hR
theorem ZeJ {e e':El} {r:List El} {n:Node} (hf:fit e r) (h:ZfN e n=some e'):fit e' r:=by
 obtain ⟨l',hR,rfl⟩:=Option.map_eq_some_iff.1 h
 exact ⟨ZhF hf.1,by rw [ZjW];exact Zi6 hR⟩
theorem ZjX {r:List El}:∀ {l:List (List PV)} {e e':El},fit e r→ZhE e l=some e'→fit e' r
 | [],e,e',hf,h=>by injection h with h;rw [← h];exact hf
 | x::l,e,e',hf,h=>by
   obtain ⟨n,_,h⟩:=Option.bind_eq_some_iff.1 h
   obtain ⟨e1,h1,h⟩:=Option.bind_eq_some_iff.1 h
   refine ZjX (l:=l) (e:=e1) ?_ h
   split at h1
   ·exact Zah hf h1
   ·exact ZeJ hf h1
set_option maxRecDepth 100000 in
set_option maxHeartbeats 1000000 in
theorem Ztm (l:List (List PV)) (e e2:El) (r:List El) (hf:fit e r) (h:ZhE e l=some e2) (hl:l.length≤4611686018427387904):PC 114 [.sl l] e r (.tup []) e2 r:=by
 refine Zx mix Tryz.func114 (by kernel_rfl) rfl (by kernel_rfl) ?_
 rw [ZbR]
 repeat (first | refine Zm rfl (by (conv=>lhs;whnf);try rfl) ?_ | refine Zgs rfl rfl ?_ | refine Zc ?_ | refine Zh ?_ | refine Za ?_ | refine Zag ?_)
 refine ZE (fun (a:Nat×El) _=>mkS [(0,.ptr 0 (0,0) 0),(6,.sl l),(7,.int .i64 (l.length:Int)),(8,.int .i64 ((a.1:Nat):Int))] (somes (stP νb a.2 r)) 2) (fun a=>a.1≤l.length∧fit a.2 r∧ZhE a.2 (l.drop a.1)=some e2) (fun a=>l.length - a.1) (0,e) 2 ⟨Nat.zero_le _,hf,h⟩
  (ZaR νa [] (fun k=>(k,νa k)) (fun _ _=>rfl) rfl ⟨rfl,rfl,rfl,rfl,trivial⟩ (x:=[]) (x':=[]) rfl rfl rfl (ZN _) rfl) (fun a ng hJ=>?_)
 obtain ⟨q,e1⟩:=a
 obtain ⟨hq,hf1,hn⟩:=hJ
 dsimp only at hq hf1 hn ⊢
 repeat (first | refine ZQ rfl rfl rfl rfl (by (conv=>lhs;whnf);try rfl) ?_ | refine Zc ?_ | refine Zh ?_ | refine Za ?_)
 by_cases hlt:q<l.length
 ·refine Zr (by (conv=>lhs;whnf);try rfl) (by simp;omega) ?_
  rw [List.drop_eq_getElem_cons hlt] at hn
  obtain ⟨n,hx,hn⟩:=Option.bind_eq_some_iff.1 hn
  obtain ⟨e3,h3,hn⟩:=Option.bind_eq_some_iff.1 hn
  have hcs:l[q]? = some n.cs:=by rw [List.getElem?_eq_getElem hlt,Zlt hx]
  by_cases hk:n.kind=1
  ·rw [if_pos hk] at h3
   repeat (first | (refine Zdr rfl rfl rfl hcs rfl ?_) | refine Zz rfl rfl rfl ?_ | refine Zi rfl rfl ?_ | refine ZQ rfl rfl rfl rfl (by (conv=>lhs;whnf);try rfl) ?_ | refine ZcK rfl rfl ?_ | refine ZaG rfl rfl rfl (by (conv=>lhs;whnf);try rfl) (by (conv=>lhs;whnf);try rfl) (by rfl) (by rfl) (Nat.le_of_ble_eq_true rfl) (by (conv=>lhs;whnf);try rfl) ?_ | refine Zc ?_ | refine Zh ?_ | refine Za ?_ | refine Zag ?_ | refine Zy ?_)
   rw [decide_eq_true hk]
   repeat (first | (refine Zr rfl rfl ?_) | (refine Zv [_,_] νb (ZbK e1 r n.text hf1.1 hf1.2 e3 h3) rfl rfl rfl rfl rfl rfl ?_) | refine Zm rfl (by (conv=>lhs;whnf);try rfl) ?_ | refine Zz rfl rfl rfl ?_ | refine Zi rfl rfl ?_ | refine Zms rfl rfl (by omega) ?_ | refine Zc ?_ | refine Za ?_ | refine Zw ?_)
   exact Zab (q+1,e3) 2 ⟨by omega,Zah hf1 h3,hn⟩ (by dsimp only;omega) (ZaR (νc 5 3) [_,_] (fun k=>(k,νc 5 3 k)) (fun _ _=>rfl) rfl ⟨rfl,rfl,rfl,rfl,trivial⟩ (x:=[]) (x':=[]) rfl rfl rfl (ZN _) rfl)
  ·rw [if_neg hk] at h3
   repeat (first | (refine Zdr rfl rfl rfl hcs rfl ?_) | refine Zz rfl rfl rfl ?_ | refine Zi rfl rfl ?_ | refine ZQ rfl rfl rfl rfl (by (conv=>lhs;whnf);try rfl) ?_ | refine ZcK rfl rfl ?_ | refine ZaG rfl rfl rfl (by (conv=>lhs;whnf);try rfl) (by (conv=>lhs;whnf);try rfl) (by rfl) (by rfl) (Nat.le_of_ble_eq_true rfl) (by (conv=>lhs;whnf);try rfl) ?_ | refine Zc ?_ | refine Zh ?_ | refine Za ?_ | refine Zag ?_ | refine Zy ?_)
   rw [decide_eq_false hk]
   repeat (first | (refine Zg rfl rfl ?_) | (refine Zv [_,_] νb (Zgl e1 r n hf1.1 e3 h3) rfl rfl rfl rfl rfl rfl ?_) | refine Zm rfl (by (conv=>lhs;whnf);try rfl) ?_ | refine Zz rfl rfl rfl ?_ | refine Zms rfl rfl (by omega) ?_ | refine Zc ?_ | refine Za ?_ | refine Zw ?_)
   exact Zab (q+1,e3) 2 ⟨by omega,ZeJ hf1 h3,hn⟩ (by dsimp only;omega) (ZaR (νc 5 2) [_,_] (fun k=>(k,νc 5 2 k)) (fun _ _=>rfl) rfl ⟨rfl,rfl,rfl,rfl,trivial⟩ (x:=[]) (x':=[]) rfl rfl rfl (ZN _) rfl)
 ·refine Zg (by (conv=>lhs;whnf);try rfl) (by simp;omega) ?_
  repeat (first | refine ZaX ?_ | refine Zw ?_ | refine ZcR ?_ | refine Zgh ?_)
  obtain rfl:q=l.length:=by omega
  rw [List.drop_length] at hn
  injection hn with hn
  subst hn
  exact Zbn (.inr rfl) νb [] [] rfl rfl trivial rfl rfl
end Go.Proofs.YtmgfammllddkhaaGreatDoor
namespace Go.Proofs.YtmgfammllddkhaaGreatDoor
namespace VL
def El.argL (e:El):List Arg:=match e.args with
 | none=>[]
 | some (pre,a)=>pre ++ [a]
def El.cells (e:El):List PV:=[.int .i64 e.kind,.int .i64 e.tag,.int .i64 e.count,.sl e.list,.sl (e.argL.map Arg.cs)]
section
variable {NT AT ET:Nat}
theorem Zfe {pre:List Arg}:∀ el ∈ pre.map Arg.cs,∀ p ∈ el,p.pure=true:=fun el hel p hp=>by
 obtain ⟨a,_,rfl⟩:=List.mem_map.1 hel
 simp [Arg.cs] at hp
 rcases hp with rfl | rfl | rfl<;>rfl
theorem Zdh {f:Nat→Option (Gen×VObj)} {t E k:Nat} {g:Gen} {els:List (List PV)} (h:f t=some (g,.row E k false els)):ZkP f (.row t g)=some (.sl els,[(t,some (g,.row E k true els))]):=by
 simp [ZkP,ZT,h]
theorem Zk5 {b:Nat} {g g1 g2:Gen} {tm:List (Nat×PV)} {ob:List (Nat×Option (Gen×VObj))} {ng:Nat} {k t c:Int} {l els:List (List PV)} (h0:Zo ob b=some (g,.box [.int .i64 k,.int .i64 t,.int .i64 c,.row (b+1) g1,.row (b+2) g2])) (h1:Zo ob (b+1)=some (g1,.row NT 5 false l)) (h2:Zo ob (b+2)=some (g2,.prow AT 3 els))
  (hp:∀ el ∈ els,∀ p ∈ el,p.pure=true):Shift (mkS tm ob ng) (mkS tm ((b,some (g,.box [.int .i64 k,.int .i64 t,.int .i64 c,.sl l,.sl els]))::(b+2,some (g2,.row AT 3 true els))::(b+1,some (g1,.row NT 5 true l))::(b+2,some (g2,.row AT 3 false els))::ob) ng):=by
 have n1:∀ {j i:Nat},j≠i→b+j≠b+i:=fun h e=>h (by omega)
 have e0:Zo ((b+2,some (g2,VObj.row AT 3 false els))::ob) b=some (g,.box [.int .i64 k,.int .i64 t,.int .i64 c,.row (b+1) g1,.row (b+2) g2]):=by
  show (if b=b+2 then _ else Zo ob b)=_
  rw [if_neg (by omega),h0]
 have e1:Zo ((b+2,some (g2,VObj.row AT 3 false els))::ob) (b+1)=some (g1,.row NT 5 false l):=by
  show (if b+1=b+2 then _ else Zo ob (b+1))=_
  rw [if_neg (by omega),h1]
 have e2:Zo ((b+2,some (g2,VObj.row AT 3 false els))::ob) (b+2)=some (g2,.row AT 3 false els):=if_pos rfl
 refine Shift.trans (Zh8 (b+2) h2 hp) ?_
 exact Zmc b e0 (us:=[(b+1,some (g1,.row NT 5 true l)),(b+2,some (g2,.row AT 3 true els))]) (by
  have r1:=Zdh e1
  have r2:=Zdh e2
  simp only [ZeF]
  rw [r1,r2]
  rfl)
theorem ZgZ (n1:Gen) (ν:Nat→Gen) {e e2:El} {r:List El} {tm tm':List (Nat×PV)} {ng:Nat} (h1:Zfi (σf (popf (0,0) n1 (fun _=>(1001,ν 1001)) ν (Za7 r))) tm tm') :
  Shift (mkS tm ((0,some ((0,0),.box [.row 1000 n1]))::(1000,some (n1,.prow ET 1 (Zdm ν (e2::r))))::somes (stO NT AT ET ν e (e2::r))) ng) (mkS tm' (somes ((300,νb 300,.box e.cells)::stO NT AT ET νb e2 r)) 2):=by
 obtain ⟨k,t,c,l,args⟩:=e
 have hx:∀ e:El,ZaU (σf (popf (0,0) n1 (fun _=>(1001,ν 1001)) ν (Za7 r))) [(300,νb 300,.box e.cells)]=some [(1001,ν 1001,.box e.cells)]:=fun _=>rfl
 rcases args with _ | ⟨pre,a⟩
 ·refine Shift.trans (Zk5 (b:=1001) rfl rfl rfl (fun e he=>absurd he List.not_mem_nil)) ?_
  exact Zgp (0,0) n1 (fun _=>(1001,ν 1001)) ν tm' h1 rfl rfl (hx ⟨k,t,c,l,none⟩) (fun q hq=>by rw [List.mem_singleton.1 hq];exact ⟨by show 1001≠0;omega,by show 1001≠1000;omega,by show 1001<2000;omega⟩) (by simp) (Zk rfl (ZN _)) (ZcJ (A:=[_,_,_,_,_,_]) rfl)
 ·have hset:(ZfR 1001 ν (some (pre,a))).set pre.length (Zal [.bool a.named,.sl a.name,.row (1001+3) (ν (1001+3))] 2 [.sl a.value])=(pre ++ [a]).map Arg.cs:=by
   have:=ZbM (pre.map Arg.cs) [.bool a.named,.sl a.name,.row (1001+3) (ν (1001+3))] a.cs
   rw [List.length_map] at this
   rw [List.map_append]
   exact this
  have hget:(ZfR 1001 ν (some (pre,a)))[pre.length]? = some [.bool a.named,.sl a.name,.row (1001+3) (ν (1001+3))]:=by
   have:=Zbg (pre.map Arg.cs) [.bool a.named,.sl a.name,.row (1001+3) (ν (1001+3))]
   rwa [List.length_map] at this
  refine Shift.trans (Zde 1003 pre.length 2 rfl hget rfl (Zdh rfl) hset) ?_
  refine Shift.trans (Zk5 (b:=1001) rfl rfl rfl Zfe) ?_
  exact Zgp (0,0) n1 (fun _=>(1001,ν 1001)) ν tm' h1 rfl rfl (hx ⟨k,t,c,l,some (pre,a)⟩) (fun q hq=>by rw [List.mem_singleton.1 hq];exact ⟨by show 1001≠0;omega,by show 1001≠1000;omega,by show 1001<2000;omega⟩) (by simp) (Zk rfl (ZN _)) (ZcJ (A:=[_,_,_,_,_,_,_,_]) rfl)
end
section
variable {NT AT ET:Nat} {P:Program} [WInv P] {ops:Array Oper} {draw:Bool} {i:Nat} {L:List Oper} {acc:List (List Nat×List Nat)} {K:FS→Prop} {tm:List (Nat×PV)} {ob:List (Nat×Option (Gen×VObj))} {ng:Nat}
 {d:Option Tmp} {ty:TypeId} {pos:String} {after:Array Edge} {gd:Option (Nat×Bool)}
theorem Zep {f:FuncId} {es:Array Operand} {ts:Array TypeId} {e e2:El} {r:List El} (lits:List (Nat×Option (Gen×VObj))) (ν:Nat→Gen) (hc:ContractG P f [.ptr 0 (0,0) 0] (objs (stO NT AT ET νa e (e2::r))) (.ptr 1001 (0,1001) 0) (Zl3 NT AT ET νa (1,1000) e e2 r)) (hob:ob=lits++somes (stO NT AT ET ν e (e2::r))) (hl:(lits.all fun q=>!Zbd q.1)=true)
  (hw:Zf ops (mkS tm ob ng) ⟨d,.call ⟨.value (.func f),es,ts⟩,ty,pos,after,gd⟩=some true) (he:es.toList.map (evL tm) = [.ptr 0 (ν 0) 0])
  (k:GoL P ops draw (i+1) L (acc ++ [(ZA (mkS tm ob ng) ⟨d,.call ⟨.value (.func f),es,ts⟩,ty,pos,after,gd⟩,(usG (κp id) (objs (stO NT AT ET νa e (e2::r))) (Zl3 NT AT ET ν (ng,i+1000000 * (1000+1)) e e2 r)).map (·.1))]) (mkS (Za6 d (.ptr 1001 (ν 1001) 0) tm) ((0,some (ν 0,.box [.row 1000 (ng,i+1000000 * (1000+1))]))::(1000,some ((ng,i+1000000 * (1000+1)),.prow ET 1 (Zdm ν (e2::r))))::ob) ng) K) :
  GoL P ops draw i (⟨d,.call ⟨.value (.func f),es,ts⟩,ty,pos,after,gd⟩::L) acc (mkS tm ob ng) K:=by
 have hHas:Has ob (stO NT AT ET ν e (e2::r)):=by rw [hob];exact Za2 hl
 have hk:=Zor (NT:=NT) (AT:=AT) (ET:=ET) ν ng i e (e2::r)
 have hn:∀ (ν:Nat→Gen) (n1:Gen),((Zl3 NT AT ET ν n1 e e2 r).map (·.1)).Nodup:=fun ν n1=>by rw [ZiR];exact ZaM _ _ _
 have hlow:∀ q ∈ Ze4 NT AT νa (e2::r),σ1 (Zl2 (objs (stO NT AT ET νa e (e2::r)))) (κp id) (γp ν ν) id ng i (νa q.1)=some (q.1,ν q.1):=fun q hq=>hk q (List.mem_cons_of_mem _ (List.mem_cons_of_mem _ (List.mem_append_right _ hq)))
 have hX:ZaU (σ1 (Zl2 (objs (stO NT AT ET νa e (e2::r)))) (κp id) (γp ν ν) id ng i) (Zl3 NT AT ET νa (1,1000) e e2 r)=some (Zl3 NT AT ET ν (ng,i+1000000 * (1000+1)) e e2 r):=by
  have e0:=hk _ (List.mem_cons_self ..)
  have e1:σ1 (Zl2 (objs (stO NT AT ET νa e (e2::r)))) (κp id) (γp ν ν) id ng i (1,1000)=some (1000,(ng,i+1000000 * (1000+1))):=by simp [σ1]
  have hp:=Zj6 hlow
  have he:=Zat (Zl7 (NT:=NT) (AT:=AT) (b:=1001) (ν:=νa) (ν':=ν) (e:=e) fun q hq=>hk q (List.mem_cons_of_mem _ (List.mem_cons_of_mem _ (List.mem_append_left _ hq)))) (Zj5 hlow)
  simp only [Zl3,ZaU,rnO,rnL,rn1,e0,e1,Option.map_some,hp,he]
 have hp:rnP (σ1 (Zl2 (objs (stO NT AT ET νa e (e2::r)))) (κp id) (γp ν ν) id ng i) (.ptr 1001 (0,1001) 0)=some (.ptr 1001 (ν 1001) 0):=by
  have e1:=hk _ (List.mem_cons_of_mem _ (List.mem_cons_of_mem _ (List.mem_append_left _ (List.mem_cons_self ..))))
  have e2:σ1 (Zl2 (objs (stO NT AT ET νa e (e2::r)))) (κp id) (γp ν ν) id ng i (0,1001)=some (1001,ν 1001):=e1
  simp only [rnP,rn1,e2,Option.map_some]
 refine Zjt lits ν hc hob hl hw he rfl hp hX (hn _ _) (fun t=>?_) k
 rw [ZhR (hn _ _)]
 by_cases h1:∃ q ∈ Zl3 NT AT ET ν (ng,i+1000000 * (1000+1)) e e2 r,q.1=t
 ·rw [if_pos h1]
  obtain ⟨⟨t',g,o⟩,hq,rfl⟩:=h1
  have w:=ZbC [] (hn _ _) hq
  rw [List.append_nil] at w
  rw [w]
  rcases List.mem_cons.1 hq with e1 | hq
  ·injection e1 with e1 e2;injection e2 with e2 e3;subst e1 e2 e3;rfl
  ·rcases List.mem_cons.1 hq with e1 | hq
   ·injection e1 with e1 e2;injection e2 with e2 e3;subst e1 e2 e3;rfl
   ·have hk2:1001≤t':=by
     rcases List.mem_append.1 hq with h | h
     ·exact (ZcW h).1
     ·have:=(Zcx h).1;change 2000≤t' at this;omega
    show _=if t'=0 then _ else if t'=1000 then _ else Zo ob t'
    rw [if_neg (by omega),if_neg (by omega)]
    exact (hHas _ _ _ (List.mem_cons_of_mem _ (List.mem_cons_of_mem _ hq))).symm
 ·rw [if_neg h1,if_neg fun ⟨q,hq,e3⟩=>h1 (by
   obtain ⟨g,hg⟩:=ZfA (l:=stO NT AT ET νa e (e2::r)) (t:=q.1) (o:=q.2) hq
   have hm2:q.1 ∈ (Zl3 NT AT ET ν (ng,i+1000000 * (1000+1)) e e2 r).map (·.1):=by
    rw [ZiR,Zeq ν νa]
    exact List.mem_map.2 ⟨_,hg,rfl⟩
   obtain ⟨q2,hq2,e4⟩:=List.mem_map.1 hm2
   have hk:κp id q.1=q.1:=by simp [κp]
   exact ⟨q2,hq2,by rw [e4,← hk];exact e3⟩)]
  have t0:¬ t=0:=fun e=>h1 ⟨_,List.mem_cons_self ..,e.symm⟩
  have t1:¬ t=1000:=fun e=>h1 ⟨_,List.mem_cons_of_mem _ (List.mem_cons_self ..),e.symm⟩
  show _=if t=0 then _ else if t=1000 then _ else Zo ob t
  rw [if_neg t0,if_neg t1]
end
end VL
end Go.Proofs.YtmgfammllddkhaaGreatDoor
namespace Go.Proofs.YtmgfammllddkhaaGreatDoor
namespace VL
section
variable {NT AT ET:Nat}
theorem Zk4 {f:Nat→Option (Gen×VObj)} {t E k:Nat} {g:Gen} {els:List (List PV)} (h:f t=some (g,.row E k true els)):ZkP f (.row t g)=some (.sl els,[]):=by
 simp [ZkP,ZT,h]
theorem Zf4 {ν:Nat→Gen} {kind tag count m:Int} {list:List (List PV)} {args:Option (List Arg×Arg)} {r:List El} {lits:List (Nat×Option (Gen×VObj))} {tm:List (Nat×PV)} {ng:Nat} (hl:(lits.all fun q=>!Zbd q.1)=true) :
  Shift (mkS tm ((1001,some (ν 1001,.box [.int .i64 kind,.int .i64 tag,.int .i64 m,.row 1002 (ν 1002),.row 1003 (ν 1003)]))::(lits++somes (stO NT AT ET ν ⟨kind,tag,count,list,args⟩ r))) ng) (mkS tm (lits++somes (stO NT AT ET ν ⟨kind,tag,m,list,args⟩ r)) ng):=by
 rw [Zff (ob':=lits++somes (stO NT AT ET ν ⟨kind,tag,m,list,args⟩ r)) fun t=>?_]
 ·exact Shift.refl _
 ·show (if t=1001 then _ else Zo (lits++somes (stO NT AT ET ν ⟨kind,tag,count,list,args⟩ r)) t)=_
  by_cases ht:t=1001
  ·rw [if_pos ht,ht]
   have hm:(1001,ν 1001,VObj.box [.int .i64 kind,.int .i64 tag,.int .i64 m,.row 1002 (ν 1002),.row 1003 (ν 1003)]) ∈ stO NT AT ET ν ⟨kind,tag,m,list,args⟩ r:=List.mem_cons_of_mem _ (List.mem_cons_of_mem _ (List.mem_append_left _ (List.mem_cons_self ..)))
   exact (Za2 hl _ _ _ hm).symm
  ·rw [if_neg ht]
   have two:∀ (a:List (Nat×Option (Gen×VObj))),Zo (a++somes (stO NT AT ET ν ⟨kind,tag,count,list,args⟩ r)) t=Zo (a++somes (stO NT AT ET ν ⟨kind,tag,m,list,args⟩ r)) t:=fun a=>by
    induction a with
    | nil=>
      show (if t=0 then _ else if t=1000 then _ else if t=1001 then _ else _)=(if t=0 then _ else if t=1000 then _ else if t=1001 then _ else _)
      by_cases h0:t=0
      ·rw [if_pos h0,if_pos h0]
      ·rw [if_neg h0,if_neg h0]
       by_cases h1:t=1000
       ·rw [if_pos h1,if_pos h1]
       ·rw [if_neg h1,if_neg h1,if_neg ht,if_neg ht]
    | cons q a ih=>
      show (if t=q.1 then q.2 else Zo (a++_) t)=if t=q.1 then q.2 else Zo (a++_) t
      rw [ih]
   exact two lits
theorem Zd3 {b u:Nat} {g g1 g2:Gen} {tm:List (Nat×PV)} {ob:List (Nat×Option (Gen×VObj))} {ng:Nat} {k t:Int} {s:ByteArray} {l els:List (List PV)} (hu:u≠b+2) (h0:Zo ob u=some (g,.box [.int .i64 k,.int .i64 t,.str s,.row (b+1) g1,.row (b+2) g2])) (h1:Zo ob (b+1)=some (g1,.row NT 5 false l)) (h2:Zo ob (b+2)=some (g2,.prow AT 3 els))
  (hp:∀ el ∈ els,∀ p ∈ el,p.pure=true):Shift (mkS tm ob ng) (mkS tm ((u,some (g,.box [.int .i64 k,.int .i64 t,.str s,.sl l,.sl els]))::(b+2,some (g2,.row AT 3 true els))::(b+1,some (g1,.row NT 5 true l))::(b+2,some (g2,.row AT 3 false els))::ob) ng):=by
 have e0:Zo ((b+2,some (g2,VObj.row AT 3 false els))::ob) u=some (g,.box [.int .i64 k,.int .i64 t,.str s,.row (b+1) g1,.row (b+2) g2]):=by
  show (if u=b+2 then _ else Zo ob u)=_
  rw [if_neg hu,h0]
 have e1:Zo ((b+2,some (g2,VObj.row AT 3 false els))::ob) (b+1)=some (g1,.row NT 5 false l):=by
  show (if b+1=b+2 then _ else Zo ob (b+1))=_
  rw [if_neg (by omega),h1]
 have e2:Zo ((b+2,some (g2,VObj.row AT 3 false els))::ob) (b+2)=some (g2,.row AT 3 false els):=if_pos rfl
 refine Shift.trans (Zh8 (b+2) h2 hp) ?_
 exact Zmc u e0 (us:=[(b+1,some (g1,.row NT 5 true l)),(b+2,some (g2,.row AT 3 true els))]) (by
  have r1:=Zdh e1
  have r2:=Zdh e2
  simp only [ZeF]
  rw [r1,r2]
  rfl)
theorem ZmX {b:Nat} {g g1 g2:Gen} {tm:List (Nat×PV)} {ob:List (Nat×Option (Gen×VObj))} {ng:Nat} {k t c:Int} {l els:List (List PV)} (h0:Zo ob b=some (g,.box [.int .i64 k,.int .i64 t,.int .i64 c,.row (b+1) g1,.row (b+2) g2])) (h1:Zo ob (b+1)=some (g1,.row NT 5 true l)) (h2:Zo ob (b+2)=some (g2,.row AT 3 true els)) :
  Shift (mkS tm ob ng) (mkS tm ((b,some (g,.box [.int .i64 k,.int .i64 t,.int .i64 c,.sl l,.sl els]))::ob) ng):=
 Zmc b h0 (us:=[]) (by
  have r1:=Zk4 h1
  have r2:=Zk4 h2
  simp only [ZeF]
  rw [r1,r2]
  rfl)
theorem ZgY (n1 g8:Gen) (ν:Nat→Gen) {e e2:El} {r:List El} {k t:Int} {s:ByteArray} {tm tm':List (Nat×PV)} {ng:Nat} (h1:Zfi (σf (popf (0,0) n1 (fun k=>if k=8 then (8,g8) else (1001,ν 1001)) ν (Za7 r))) tm tm') :
  Shift (mkS tm ((0,some ((0,0),.box [.row 1000 n1]))::(1000,some (n1,.prow ET 1 (Zdm ν (e2::r))))::(8,some (g8,.box [.int .i64 k,.int .i64 t,.str s,.row 1002 (ν 1002),.row 1003 (ν 1003)]))::somes (stO NT AT ET ν e (e2::r))) ng)
   (mkS tm' (somes ((8,νb 8,.box [.int .i64 k,.int .i64 t,.str s,.sl e.list,.sl (e.argL.map Arg.cs)])::(300,νb 300,.box e.cells)::stO NT AT ET νb e2 r)) 2):=by
 obtain ⟨k1,t1,c,l,args⟩:=e
 have hx:∀ e:El,ZaU (σf (popf (0,0) n1 (fun k=>if k=8 then (8,g8) else (1001,ν 1001)) ν (Za7 r))) [(8,νb 8,.box [.int .i64 k,.int .i64 t,.str s,.sl e.list,.sl (e.argL.map Arg.cs)]),(300,νb 300,.box e.cells)]=some [(8,g8,.box [.int .i64 k,.int .i64 t,.str s,.sl e.list,.sl (e.argL.map Arg.cs)]),(1001,ν 1001,.box e.cells)]:=fun _=>rfl
 have hX:∀ e:El,∀ q ∈ [(8,g8,VObj.box [.int .i64 k,.int .i64 t,.str s,.sl e.list,.sl (e.argL.map Arg.cs)]),(1001,ν 1001,.box e.cells)],q.1≠0∧q.1≠1000∧q.1<2000:=fun e q hq=>by
  rcases List.mem_cons.1 hq with rfl | hq
  ·exact ⟨by show 8≠0;omega,by show 8≠1000;omega,by show 8<2000;omega⟩
  ·rw [List.mem_singleton.1 hq]
   exact ⟨by show 1001≠0;omega,by show 1001≠1000;omega,by show 1001<2000;omega⟩
 rcases args with _ | ⟨pre,a⟩
 ·refine Shift.trans (Zd3 (b:=1001) (u:=8) (by omega) rfl rfl rfl (fun e he=>absurd he List.not_mem_nil)) ?_
  refine Shift.trans (ZmX (b:=1001) rfl rfl rfl) ?_
  exact Zgp (0,0) n1 _ ν tm' h1 rfl rfl (hx ⟨k1,t1,c,l,none⟩) (hX ⟨k1,t1,c,l,none⟩) (by simp) (Zk rfl (Zk rfl (ZN _))) (ZcJ (A:=[_,_,_,_,_,_,_,_]) rfl)
 ·have hset:(ZfR 1001 ν (some (pre,a))).set pre.length (Zal [.bool a.named,.sl a.name,.row (1001+3) (ν (1001+3))] 2 [.sl a.value])=(pre ++ [a]).map Arg.cs:=by
   have:=ZbM (pre.map Arg.cs) [.bool a.named,.sl a.name,.row (1001+3) (ν (1001+3))] a.cs
   rw [List.length_map] at this
   rw [List.map_append]
   exact this
  have hget:(ZfR 1001 ν (some (pre,a)))[pre.length]? = some [.bool a.named,.sl a.name,.row (1001+3) (ν (1001+3))]:=by
   have:=Zbg (pre.map Arg.cs) [.bool a.named,.sl a.name,.row (1001+3) (ν (1001+3))]
   rwa [List.length_map] at this
  refine Shift.trans (Zde 1003 pre.length 2 rfl hget rfl (Zdh rfl) hset) ?_
  refine Shift.trans (Zd3 (b:=1001) (u:=8) (by omega) rfl rfl rfl Zfe) ?_
  refine Shift.trans (ZmX (b:=1001) rfl rfl rfl) ?_
  exact Zgp (0,0) n1 _ ν tm' h1 rfl rfl (hx ⟨k1,t1,c,l,some (pre,a)⟩) (hX ⟨k1,t1,c,l,some (pre,a)⟩) (by simp) (Zk rfl (Zk rfl (ZN _))) (ZcJ (A:=[_,_,_,_,_,_,_,_,_,_]) rfl)
def newf (m2 m3:Gen) (k2 k3:Nat) (ν:Nat→Gen) (k:Nat):Nat×Gen:=if k=1002 then (k2,m2) else if k=1003 then (k3,m3) else (k,ν k)
theorem Zce (m2 m3:Gen) (k2 k3:Nat) (ν:Nat→Gen) (h00:ν 0=(0,0)) {r:List El} {kind tag count:Int} {list:List (List PV)} {tm tm':List (Nat×PV)} {ob:List (Nat×Option (Gen×VObj))} {ng:Nat} (h1:Zfi (σf (newf m2 m3 k2 k3 ν)) tm tm') (a0:Zo ob 0=some (ν 0,.box [.row 1000 (ν 1000)])) (a1:Zo ob 1000=some (ν 1000,.prow ET 1 (Zdm ν r ++ [[.ptr 1001 (ν 1001) 0]])))
  (b1:Zo ob 1001=some (ν 1001,.box [.int .i64 kind,.int .i64 tag,.int .i64 count,.row k2 m2,.row k3 m3])) (b2:Zo ob k2=some (m2,.row NT 5 false list)) (b3:Zo ob k3=some (m3,.prow AT 3 [])) (hk:(decide ([k2,k3].Nodup) && [k2,k3].all fun k=>!Zbd k)=true) (a3:Has ob (Ze4 NT AT ν r)) :
  Shift (mkS tm ob ng) (mkS tm' (somes (stO NT AT ET νb ⟨kind,tag,count,list,none⟩ r)) 2):=by
 have hl:∀ k,2000≤k→σf (newf m2 m3 k2 k3 ν) (νb k)=some (k,ν k):=fun k hk=>by
  have h1:¬ k=0:=by omega
  have h2:¬ k=1002:=by omega
  have h3:¬ k=1003:=by omega
  simp [σf,νb,newf,h1,h2,h3]
 have e0:σf (newf m2 m3 k2 k3 ν) (νb 0)=some (0,ν 0):=by rw [h00];rfl
 have e1:σf (newf m2 m3 k2 k3 ν) (νb 1000)=some (1000,ν 1000):=rfl
 have e2:σf (newf m2 m3 k2 k3 ν) (νb 1001)=some (1001,ν 1001):=rfl
 have e3:σf (newf m2 m3 k2 k3 ν) (νb (1001+1))=some (k2,m2):=rfl
 have e4:σf (newf m2 m3 k2 k3 ν) (νb (1001+2))=some (k3,m3):=rfl
 have hp:Ze2 (σf (newf m2 m3 k2 k3 ν)) (Zdm νb r ++ [[.ptr 1001 (νb 1001) 0]])=some (Zdm ν r ++ [[.ptr 1001 (ν 1001) 0]]):=ZaO (Zhk hl r) (by simp only [Ze2,rnL,rn1,e2,Option.map_some])
 have he:=Zhj (NT:=NT) (AT:=AT) hl r
 have h2:ZaU (σf (newf m2 m3 k2 k3 ν)) (stO NT AT ET νb ⟨kind,tag,count,list,none⟩ r)=some ((0,ν 0,.box [.row 1000 (ν 1000)])::(1000,ν 1000,.prow ET 1 (Zdm ν r ++ [[.ptr 1001 (ν 1001) 0]]))::(1001,ν 1001,.box [.int .i64 kind,.int .i64 tag,.int .i64 count,.row k2 m2,.row k3 m3])::(k2,m2,.row NT 5 false list)::(k3,m3,.prow AT 3 [])::Ze4 NT AT ν r):=by
  have key:∀ X,elO NT AT 1001 νb ⟨kind,tag,count,list,none⟩++X=(1001,νb 1001,.box [.int .i64 kind,.int .i64 tag,.int .i64 count,.row (1001+1) (νb (1001+1)),.row (1001+2) (νb (1001+2))])::(1001+1,νb (1001+1),.row NT 5 false list)::(1001+2,νb (1001+2),.prow AT 3 [])::X:=fun _=>rfl
  unfold stO
  rw [key]
  simp only [ZaU,rnO,rnL,Ze2,rn1,e0,e1,e2,e3,e4,Option.map_some,hp,he]
 simp only [Bool.and_eq_true,decide_eq_true_eq,List.all_eq_true,Bool.not_eq_true'] at hk
 obtain ⟨hn,hpk⟩:=hk
 have hpk':∀ k ∈ [k2,k3],¬ (k=0∨1000≤k):=fun k hk h=>by
  have:=hpk k hk
  rw [Zc1 h] at this
  cases this
 refine ZeS _ h1 h2 (Zk a0 (Zk a1 (Zk b1 (Zk b2 (Zk b3 a3))))) ?_
 have hrest:∀ k ∈ (Ze4 NT AT ν r).map (·.1),2000≤k:=fun k hk=>by
  obtain ⟨q,hq,rfl⟩:=List.mem_map.1 hk
  exact (Zcx hq).1
 have p2:=hpk' k2 (by simp)
 have p3:=hpk' k3 (by simp)
 simp only [List.nodup_cons,List.mem_cons,List.not_mem_nil,or_false] at hn
 obtain ⟨n23,_⟩:=hn
 simp only [List.map_cons,List.nodup_cons,List.mem_cons,not_or]
 refine ⟨⟨by omega,by omega,by omega,by omega,fun h=>by have:=hrest _ h;omega⟩,⟨by omega,by omega,by omega,fun h=>by have:=hrest _ h;omega⟩,⟨by omega,by omega,fun h=>by have:=hrest _ h;omega⟩,⟨n23,fun h=>by have:=hrest _ h;omega⟩,fun h=>by have:=hrest _ h;omega,ZfG ν r⟩
end
end VL
end Go.Proofs.YtmgfammllddkhaaGreatDoor
namespace Go.Proofs.YtmgfammllddkhaaGreatDoor
open VL
def Zcl (e:El) (l:List (List PV)):Option El:=if l.length≤4611686018427387904 then ZhE e l else none
theorem ZcE {r:List El} {l:List (List PV)} {e e':El} (hf:fit e r) (h:Zcl e l=some e'):fit e' r:=by
 unfold Zcl at h
 split at h
 ·exact ZjX hf h
 ·cases h
theorem Zgk (l:List (List PV)) (e e2:El) (r:List El) (hf:fit e r) (h:Zcl e l=some e2):PC 114 [.sl l] e r (.tup []) e2 r:=by
 unfold Zcl at h
 split at h
 ·rename_i hl
  exact Ztm l e e2 r hf h hl
 ·cases h
def ZbU (e:El) (r:List El):Option (El×List El):=if e.kind=1 then match r with
  | []=>none
  | e2::r=>(ZaY e2 ⟨#[91,91]⟩).bind fun a=>(Zcl a e.list).bind fun b=>(ZaY b ⟨#[93,93]⟩).map fun c=>(c,r)
 else (ZaY e ⟨#[93,93]⟩).map fun c=>(c,r)
set_option maxRecDepth 100000 in
set_option maxHeartbeats 1000000 in
theorem Zja (e e':El) (r:List El) (hf:fit e r) (hk:e.kind≠1) (h:ZaY e ⟨#[93,93]⟩=some e'):PC 108 [] e r (.tup []) e' r:=by
 refine Zx mix Tryz.func108 (by kernel_rfl) rfl (by kernel_rfl) ?_
 rw [ZbR]
 repeat (first | (refine ZY [] νa (Zdb e r hf.1.1) rfl rfl rfl rfl rfl rfl ?_) | refine Zm rfl (by (conv=>lhs;whnf);try rfl) ?_ | refine Zz rfl rfl rfl ?_ | refine Zi rfl rfl ?_ | refine ZQ rfl rfl rfl rfl (by (conv=>lhs;whnf);try rfl) ?_ | refine Zaz rfl rfl ?_ | refine Zc ?_ | refine Zh ?_ | refine Za ?_)
 rw [decide_eq_false hk]
 repeat (first | (refine Zr rfl rfl ?_) | (refine Zv [] νa (ZbK e r _ hf.1 hf.2 e' h) rfl rfl rfl rfl rfl rfl ?_) | refine Zm rfl (by (conv=>lhs;whnf);try rfl) ?_ | refine Zc ?_ | refine Zh ?_ | refine Za ?_ | refine Za3 ?_)
 exact Zbn (.inl rfl) (νc 2 1) [] [] rfl rfl trivial rfl rfl
set_option maxRecDepth 100000 in
set_option maxHeartbeats 1000000 in
theorem Zka (tag count:Int) (list:List (List PV)) (args:Option (List Arg×Arg)) (e2 a b c:El) (r:List El) (hr:r.length≤999) (hf:fit e2 r) (h1:ZaY e2 ⟨#[91,91]⟩=some a) (h2:Zcl a list=some b) (h3:ZaY b ⟨#[93,93]⟩=some c) :
  PC 108 [] ⟨1,tag,count,list,args⟩ (e2::r) (.tup []) c r:=by
 have hfa:=Zah hf h1
 have hfb:=ZcE hfa h2
 refine Zx mix Tryz.func108 (by kernel_rfl) rfl (by kernel_rfl) ?_
 rw [ZbR]
 repeat (first | (refine ZY [] νa (Zdb _ (e2::r) (by simp;omega)) rfl rfl rfl rfl rfl rfl ?_) | (refine Zg rfl rfl ?_) | refine Zm rfl (by (conv=>lhs;whnf);try rfl) ?_ | refine Zz rfl rfl rfl ?_ | refine Zi rfl rfl ?_ | refine ZQ rfl rfl rfl rfl (by (conv=>lhs;whnf);try rfl) ?_ | refine Zaz rfl rfl ?_ | refine Zc ?_ | refine Zh ?_ | refine Za ?_ | refine Zy ?_)
 refine Zep [] νa (ZnK _ e2 r hr) rfl rfl rfl rfl ?_
 iterate 2 (refine Zhi ?_)
 refine Zao (ZgZ (2,1+1000000 * (1000+1)) νa (tm':=[(0,.ptr 0 (0,0) 0),(2,.ptr 300 (1,300) 0)]) ⟨rfl,rfl,trivial⟩) ?_ (List.cons_ne_nil _ _)
 repeat (first | (refine Zv [_] νb (ZbK e2 r _ hf.1 hf.2 a h1) rfl rfl rfl rfl rfl rfl ?_) | (refine Zv [_] (νc _ _) (Zgk list a b r hfa h2) rfl rfl rfl rfl rfl rfl ?_) | (refine Zv [_] (νc _ _) (ZbK b r _ hfb.1 hfb.2 c h3) rfl rfl rfl rfl rfl rfl ?_) | refine Zm rfl (by (conv=>lhs;whnf);try rfl) ?_ | refine Zz rfl rfl rfl ?_ | refine Zi rfl rfl ?_ | refine Zaz rfl rfl ?_ | refine Zc ?_ | refine Zh ?_ | refine Za ?_ | refine Zw ?_)
 exact Zbn (.inr rfl) (νc 4 1) [_] [] rfl rfl trivial rfl rfl
def Zfu (e e2:El):Option El:=if e.kind=1 then ZaY e2 ⟨#[91,91]⟩ else if e.kind=2 then (Zdg e.tag).bind fun s=>ZaY e2 s else if e.kind=3 then (strings_Repeat ⟨#[123]⟩ e.count).bind fun s=>ZaY e2 s else some e2
def Zid (e:El) (a:Arg):Option El:=(ZaY e ⟨#[124]⟩).bind fun b=>((if a.named=true then (Zcl b a.name).bind fun c=>ZaY c ⟨#[61]⟩ else some b):Option El).bind fun d=>Zcl d a.value
def Zd2:El→List Arg→Option El
 | e,[]=>some e
 | e,a::l=>(Zid e a).bind fun e'=>Zd2 e' l
def Zfv (e e2:El):Option El:=(Zfu e e2).bind fun a=>(Zcl a e.list).bind fun b=>if e.argL.length≤4611686018427387904 then Zd2 b e.argL else none
theorem Zhs {e e2 a:El} {r:List El} (hf:fit e2 r) (h:Zfu e e2=some a):fit a r:=by
 unfold Zfu at h
 split at h
 ·exact Zah hf h
 ·split at h
  ·obtain ⟨s,_,h⟩:=Option.bind_eq_some_iff.1 h
   exact Zah hf h
  ·split at h
   ·obtain ⟨s,_,h⟩:=Option.bind_eq_some_iff.1 h
    exact Zah hf h
   ·injection h with h
    rw [← h]
    exact hf
theorem Zie {e e':El} {a:Arg} {r:List El} (hf:fit e r) (h:Zid e a=some e'):fit e' r:=by
 obtain ⟨b,hb,h⟩:=Option.bind_eq_some_iff.1 h
 obtain ⟨d,hd,h⟩:=Option.bind_eq_some_iff.1 h
 refine ZcE ?_ h
 split at hd
 ·obtain ⟨c,hc,hd⟩:=Option.bind_eq_some_iff.1 hd
  exact Zah (ZcE (Zah hf hb) hc) hd
 ·injection hd with hd
  rw [← hd]
  exact Zah hf hb
abbrev ZtF (ν:Nat→Gen) (k:Nat):Nat×Gen:=if k=300 then (300,νb 300) else (k,ν k)
theorem ZhQ {ν:Nat→Gen} (k:Nat) (h:k=0∨1000≤k):ZtF ν k=(k,ν k):=if_neg (by omega)
set_option maxRecDepth 100000 in
set_option maxHeartbeats 1000000 in
theorem Zif (e e2 e3:El) (r:List El) (hr:r.length≤999) (hf:fit e2 r) (h:Zfv e e2=some e3):PC 64 [] e (e2::r) (.tup []) e3 r:=by
 obtain ⟨a0,ha0,h⟩:=Option.bind_eq_some_iff.1 h
 obtain ⟨b0,hb0,h4⟩:=Option.bind_eq_some_iff.1 h
 by_cases hal:e.argL.length≤4611686018427387904
 rotate_left
 ·rw [if_neg hal] at h4
  cases h4
 rw [if_pos hal] at h4
 have hfa:=Zhs hf ha0
 have hfb:=ZcE hfa hb0
 refine Zx mix Tryz.func64 (by kernel_rfl) rfl (by kernel_rfl) ?_
 rw [ZbR]
 repeat (first | refine Zm rfl (by (conv=>lhs;whnf);try rfl) ?_ | refine Zh ?_ | refine Za ?_)
 refine Zep [] νa (ZnK e e2 r hr) rfl rfl rfl rfl ?_
 iterate 2 (refine Zhi ?_)
 refine Zao (ZgZ (1,1+1000000 * (1000+1)) νa (tm':=[(0,.ptr 0 (0,0) 0),(2,.ptr 300 (1,300) 0)]) ⟨rfl,rfl,trivial⟩) ?_ (List.cons_ne_nil _ _)
 repeat (first | (refine Zb7 (α:=El) (c:=.block 0 _) (fun a _=>mkS [(0,.ptr 0 (0,0) 0),(2,.ptr 300 (1,300) 0)] (somes ((300,νb 300,.box e.cells)::stP νb a r)) 2) (fun a=>a=a0) ?_ (fun a _ hJ=>?_)) | refine Zm rfl (by (conv=>lhs;whnf);try rfl) ?_ | refine Zz rfl rfl rfl ?_ | refine Zi rfl rfl ?_ | refine Zq rfl (by (conv=>lhs;whnf);try rfl) ?_ | refine ZQ rfl rfl rfl rfl (by (conv=>lhs;whnf);try rfl) ?_ | refine Zaz rfl rfl ?_ | refine Zc ?_ | refine Zh ?_ | refine Za ?_ | refine Zag ?_)
 ·unfold Zfu at ha0
  by_cases h1:e.kind=1
  ·rw [if_pos h1] at ha0
   rw [decide_eq_true h1]
   repeat (first | (refine Zr rfl rfl ?_) | (refine Zv [_] νb (ZbK e2 r _ hf.1 hf.2 a0 ha0) rfl rfl rfl rfl rfl rfl ?_) | refine Zm rfl (by (conv=>lhs;whnf);try rfl) ?_ | refine Zc ?_ | refine Za ?_ | refine Zw ?_ | refine ZO ?_)
   exact ZcY a0 2 rfl (ZaR (νc 4 1) [_] (ZtF (νc 4 1)) ZhQ rfl ⟨rfl,rfl,trivial⟩ (x:=[(300,νb 300,.box e.cells)]) (x':=[(300,νb 300,.box e.cells)]) rfl rfl rfl (Zk rfl (ZN _)) rfl)
  ·rw [if_neg h1] at ha0
   rw [decide_eq_false h1]
   repeat (first | (refine Zg rfl rfl ?_) | refine Zq rfl (by (conv=>lhs;whnf);try rfl) ?_ | refine ZQ rfl rfl rfl rfl (by (conv=>lhs;whnf);try rfl) ?_ | refine Zc ?_ | refine Zh ?_ | refine Za ?_)
   by_cases h2:e.kind=2
   ·rw [if_pos h2] at ha0
    obtain ⟨s,hs,ha0⟩:=Option.bind_eq_some_iff.1 ha0
    rw [decide_eq_true h2]
    repeat (first | (refine Zr rfl rfl ?_) | (refine Ze0 (Zih _ _ hs) rfl rfl ?_) | (refine Zv [_] νb (ZbK e2 r s hf.1 hf.2 a0 ha0) rfl rfl rfl rfl rfl rfl ?_) | refine Zm rfl (by (conv=>lhs;whnf);try rfl) ?_ | refine Zz rfl rfl rfl ?_ | refine Zi rfl rfl ?_ | refine Zaz rfl rfl ?_ | refine Zc ?_ | refine Za ?_ | refine Zw ?_ | refine ZO ?_)
    exact ZcY a0 2 rfl (ZaR (νc 5 6) [_] (ZtF (νc 5 6)) ZhQ rfl ⟨rfl,rfl,trivial⟩ (x:=[(300,νb 300,.box e.cells)]) (x':=[(300,νb 300,.box e.cells)]) rfl rfl rfl (Zk rfl (ZN _)) rfl)
   ·rw [if_neg h2] at ha0
    rw [decide_eq_false h2]
    repeat (first | (refine Zg rfl rfl ?_) | refine Zq rfl (by (conv=>lhs;whnf);try rfl) ?_ | refine ZQ rfl rfl rfl rfl (by (conv=>lhs;whnf);try rfl) ?_ | refine Zc ?_ | refine Zh ?_ | refine Za ?_)
    by_cases h3:e.kind=3
    ·rw [if_pos h3] at ha0
     obtain ⟨s,hs,ha0⟩:=Option.bind_eq_some_iff.1 ha0
     rw [decide_eq_true h3]
     repeat (first | (refine Zr rfl rfl ?_) | (refine Ze0 (Zc9 _ _ _ hs) rfl rfl ?_) | (refine Zv [_] νb (ZbK e2 r s hf.1 hf.2 a0 ha0) rfl rfl rfl rfl rfl rfl ?_) | refine Zm rfl (by (conv=>lhs;whnf);try rfl) ?_ | refine Zz rfl rfl rfl ?_ | refine Zi rfl rfl ?_ | refine Zaz rfl rfl ?_ | refine Zc ?_ | refine Za ?_ | refine Zw ?_ | refine ZO ?_)
     exact ZcY a0 2 rfl (ZaR (νc 6 6) [_] (ZtF (νc 6 6)) ZhQ rfl ⟨rfl,rfl,trivial⟩ (x:=[(300,νb 300,.box e.cells)]) (x':=[(300,νb 300,.box e.cells)]) rfl rfl rfl (Zk rfl (ZN _)) rfl)
    ·rw [if_neg h3] at ha0
     injection ha0 with ha0
     subst ha0
     rw [decide_eq_false h3]
     repeat (first | (refine Zg rfl rfl ?_) | refine Zy ?_ | refine Zw ?_ | refine ZO ?_)
     exact ZcY e2 2 rfl (ZaR (νb) [_] (ZtF (νb)) ZhQ rfl ⟨rfl,rfl,trivial⟩ (x:=[(300,νb 300,.box e.cells)]) (x':=[(300,νb 300,.box e.cells)]) rfl rfl rfl (Zk rfl (ZN _)) rfl)
 ·subst hJ
  repeat (first | (refine Zv [_] νb (Zgk e.list _ b0 r hfa hb0) rfl rfl rfl rfl rfl rfl ?_) | refine Zm rfl (by (conv=>lhs;whnf);try rfl) ?_ | refine Zz rfl rfl rfl ?_ | refine Zi rfl rfl ?_ | refine Zaz rfl rfl ?_ | refine Zgs rfl rfl ?_ | refine Zc ?_ | refine Zh ?_ | refine Za ?_ | refine Zag ?_)
  refine ZE (fun (a:Nat×El) _=>mkS [(0,.ptr 0 (0,0) 0),(42,.sl (e.argL.map Arg.cs)),(43,.int .i64 ((e.argL.map Arg.cs).length:Int)),(44,.int .i64 ((a.1:Nat):Int))] (somes (stP νb a.2 r)) 2) (fun a=>a.1≤e.argL.length∧fit a.2 r∧Zd2 a.2 (e.argL.drop a.1)=some e3) (fun a=>e.argL.length - a.1) (0,b0) 2 ⟨Nat.zero_le _,hfb,h4⟩
   (ZaR (νc 2 5) [_] (fun k=>(k,νc 2 5 k)) (fun _ _=>rfl) rfl ⟨rfl,rfl,rfl,rfl,trivial⟩ (x:=[]) (x':=[]) rfl rfl rfl (ZN _) rfl) (fun a ng hJ=>?_)
  obtain ⟨q,e1⟩:=a
  obtain ⟨hq,hf1,hn⟩:=hJ
  dsimp only at hq hf1 hn ⊢
  repeat (first | refine ZQ rfl rfl rfl rfl (by (conv=>lhs;whnf);try rfl) ?_ | refine Zc ?_ | refine Zh ?_ | refine Za ?_)
  by_cases hlt:q<e.argL.length
  ·refine Zr (by (conv=>lhs;whnf);try rfl) (by simp;omega) ?_
   rw [List.drop_eq_getElem_cons hlt] at hn
   obtain ⟨e5,h5,hn⟩:=Option.bind_eq_some_iff.1 hn
   have hf5:=Zie hf1 h5
   have hcs:(e.argL.map Arg.cs)[q]? = some (Arg.cs e.argL[q]):=by rw [List.getElem?_map,List.getElem?_eq_getElem hlt];rfl
   generalize e.argL[q]=ar at hcs h5
   obtain ⟨named,name,value⟩:=ar
   obtain ⟨b,hb,h5⟩:=Option.bind_eq_some_iff.1 h5
   obtain ⟨d,hd,h5⟩:=Option.bind_eq_some_iff.1 h5
   have hfb2:=Zah hf1 hb
   cases named with
   | true=>
     rw [if_pos rfl] at hd
     obtain ⟨c,hc,hd⟩:=Option.bind_eq_some_iff.1 hd
     have hfc:=ZcE hfb2 hc
     have hfd:=Zah hfc hd
     repeat (first | (refine Zdr rfl rfl rfl hcs rfl ?_) | (refine Zr rfl rfl ?_) | (refine Zv [_,_] νb (ZbK e1 r _ hf1.1 hf1.2 b hb) rfl rfl rfl rfl rfl rfl ?_) | (refine Zv [_,_] (νc _ _) (Zgk name b c r hfb2 hc) rfl rfl rfl rfl rfl rfl ?_) | (refine Zv [_,_] (νc _ _) (ZbK c r _ hfc.1 hfc.2 d hd) rfl rfl rfl rfl rfl rfl ?_) | (refine Zv [_,_] (νc _ _) (Zgk value d e5 r hfd h5) rfl rfl rfl rfl rfl rfl ?_) | refine Zm rfl (by (conv=>lhs;whnf);try rfl) ?_ | refine Zz rfl rfl rfl ?_ | refine Zi rfl rfl ?_ | refine Zms rfl rfl (by omega) ?_ | refine ZcK rfl rfl ?_ | refine ZaG rfl rfl rfl (by (conv=>lhs;whnf);try rfl) (by (conv=>lhs;whnf);try rfl) (by rfl) (by rfl) (Nat.le_of_ble_eq_true rfl) (by (conv=>lhs;whnf);try rfl) ?_ | refine Zc ?_ | refine Zh ?_ | refine Za ?_ | refine Zag ?_ | refine Zy ?_ | refine Zw ?_)
     exact Zab (q+1,e5) 2 ⟨by omega,hf5,hn⟩ (by dsimp only;omega) (ZaR (νc 8 3) [_,_] (fun k=>(k,νc 8 3 k)) (fun _ _=>rfl) rfl ⟨rfl,rfl,rfl,rfl,trivial⟩ (x:=[]) (x':=[]) rfl rfl rfl (ZN _) rfl)
   | false=>
     rw [if_neg Bool.false_ne_true] at hd
     injection hd with hd
     subst hd
     repeat (first | (refine Zdr rfl rfl rfl hcs rfl ?_) | (refine Zg rfl rfl ?_) | (refine Zv [_,_] νb (ZbK e1 r _ hf1.1 hf1.2 b hb) rfl rfl rfl rfl rfl rfl ?_) | (refine Zv [_,_] (νc _ _) (Zgk value b e5 r hfb2 h5) rfl rfl rfl rfl rfl rfl ?_) | refine Zm rfl (by (conv=>lhs;whnf);try rfl) ?_ | refine Zz rfl rfl rfl ?_ | refine Zi rfl rfl ?_ | refine Zms rfl rfl (by omega) ?_ | refine ZcK rfl rfl ?_ | refine ZaG rfl rfl rfl (by (conv=>lhs;whnf);try rfl) (by (conv=>lhs;whnf);try rfl) (by rfl) (by rfl) (Nat.le_of_ble_eq_true rfl) (by (conv=>lhs;whnf);try rfl) ?_ | refine Zc ?_ | refine Zh ?_ | refine Za ?_ | refine Zag ?_ | refine Zy ?_ | refine Zw ?_)
     exact Zab (q+1,e5) 2 ⟨by omega,hf5,hn⟩ (by dsimp only;omega) (ZaR (νc 6 3) [_,_] (fun k=>(k,νc 6 3 k)) (fun _ _=>rfl) rfl ⟨rfl,rfl,rfl,rfl,trivial⟩ (x:=[]) (x':=[]) rfl rfl rfl (ZN _) rfl)
  ·refine Zg (by (conv=>lhs;whnf);try rfl) (by simp;omega) ?_
   repeat (first | refine ZaX ?_ | refine Zw ?_ | refine ZcR ?_ | refine Zgh ?_)
   obtain rfl:q=e.argL.length:=by omega
   rw [List.drop_length] at hn
   injection hn with hn
   subst hn
   exact Zbn (.inr rfl) νb [] [] rfl rfl trivial rfl rfl
end Go.Proofs.YtmgfammllddkhaaGreatDoor
namespace Go.Proofs.YtmgfammllddkhaaGreatDoor
namespace VL
section
variable {P:Program} [WInv P] {ops:Array Oper} {draw:Bool} {i:Nat} {L:List Oper} {acc:List (List Nat×List Nat)} {K:FS→Prop} {tm:List (Nat×PV)} {ob:List (Nat×Option (Gen×VObj))} {ng:Nat}
 {d:Option Tmp} {ty:TypeId} {pos:String} {after:Array Edge} {gd:Option (Nat×Bool)}
theorem Zj7 {x:Operand} {T:TypeId} {agg:Bool} {n:Nat} [h:Ld P T agg n] (hw:Zf ops (mkS tm ob ng) ⟨d,.load T x,ty,pos,after,gd⟩=some true) {cs:List PV} {t off:Nat} {g:Gen} {v:PV} (hx:evL tm x = .ptr t g off) (hb:Zo ob t=some (g,.box cs)) (hv:Zlc agg n (cs.drop off)=some v)
  (k:GoL P ops draw (i+1) L (acc ++ [(ZA (mkS tm ob ng) ⟨d,.load T x,ty,pos,after,gd⟩,[])]) (mkS (Za6 d v tm) ob ng) K):GoL P ops draw i (⟨d,.load T x,ty,pos,after,gd⟩::L) acc (mkS tm ob ng) K:=by
 refine Zz (cs:=cs.drop off) hw ?_ hv k
 rw [hx]
 simp only [ZeG,ZT,hb,if_true]
end
theorem Zr5 {ν:Nat→Gen} {NT AT:Nat} {e':El} {r':List El}:∀ {r:List El},(e'::r') <:+ r→(Zdm ν r)[r'.length]? = some [.ptr (Za7 r') (ν (Za7 r')) 0]∧(Za7 r',ν (Za7 r'),VObj.box [.int .i64 e'.kind,.int .i64 e'.tag,.int .i64 e'.count,.row (Za7 r'+1) (ν (Za7 r'+1)),.row (Za7 r'+2) (ν (Za7 r'+2))]) ∈ Ze4 NT AT ν r
 | [],h=>by cases List.suffix_nil.1 h
 | x::r,h=>by
   rcases List.suffix_cons_iff.1 h with h | h
   ·injection h with h1 h2
    subst h1 h2
    exact ⟨by unfold Zdm;have:=Zmb ν r' [.ptr (Za7 r') (ν (Za7 r')) 0];exact this,List.mem_append_left _ (List.mem_cons_self ..)⟩
   ·obtain ⟨h1,h2⟩:=Zr5 (NT:=NT) (AT:=AT) h
    refine ⟨?_,List.mem_append_right _ h2⟩
    unfold Zdm
    rw [List.getElem?_append_left (List.getElem?_eq_some_iff.1 h1).1]
    exact h1
theorem Zr6 {ν:Nat→Gen} {NT AT ET:Nat} {e e':El} {r r':List El} (h:(e'::r') <:+ (e::r)):∃ b c1 c2,(Zdm ν r ++ [[.ptr 1001 (ν 1001) 0]])[r'.length]? = some [.ptr b (ν b) 0]∧(b,ν b,VObj.box [.int .i64 e'.kind,.int .i64 e'.tag,.int .i64 e'.count,c1,c2]) ∈ stO NT AT ET ν e r:=by
 rcases List.suffix_cons_iff.1 h with h | h
 ·injection h with h1 h2
  subst h1 h2
  exact ⟨1001,_,_,Zmb ν r' _,List.mem_cons_of_mem _ (List.mem_cons_of_mem _ (List.mem_append_left _ (List.mem_cons_self ..)))⟩
 ·obtain ⟨h1,h2⟩:=Zr5 (NT:=NT) (AT:=AT) (ν:=ν) h
  refine ⟨_,_,_,?_,List.mem_cons_of_mem _ (List.mem_cons_of_mem _ (List.mem_append_right _ h2))⟩
  rw [List.getElem?_append_left (List.getElem?_eq_some_iff.1 h1).1]
  exact h1
end VL
open VL
def Zav:El→List El→Nat
 | _,[]=>0
 | e,e2::r=>if e.kind=2 then 0 else if e.kind=3 then r.length+1 else Zav e2 r
def ZaV (k:Int):El→List El→Nat
 | _,[]=>0
 | e,e2::r=>if e.kind=2∧e.tag=k then r.length+1 else ZaV k e2 r
theorem ZfY {e:El} {r:List El} {tm tm':List (Nat×PV)} {ng:Nat} (h1:Zfi (σf fun k=>(k,νa k)) tm tm'):Shift (mkS tm (somes (stP νa e r)) ng) (mkS tm' (somes (stP νa e r)) 2):=
 ZeS _ h1 (ZjU (ν:=νa) (ν':=νa) (fun _ _=>rfl) e r) (Za2 (lits:=[]) rfl) (ZaM _ _ _)
set_option maxRecDepth 100000 in
set_option maxHeartbeats 1000000 in
theorem Zl8 (e:El) (r:List El) (hr:r.length≤1000):ContractG Tryz.prog 171 [.ptr 0 (0,0) 0] (objs (stP νa e r)) (.int .i64 (Zav e r:Int)) (stP νa e r):=by
 refine Zx mix Tryz.func171 (by kernel_rfl) rfl (by kernel_rfl) ?_
 rw [ZbR]
 repeat (first | (refine Za0 rfl rfl (ZbN _ _ _) ?_) | (refine ZfL rfl rfl rfl (by omega) ?_) | refine Zm rfl (by (conv=>lhs;whnf);try rfl) ?_ | refine Zz rfl rfl rfl ?_ | refine Zi rfl rfl ?_ | refine Zq rfl (by (conv=>lhs;whnf);try rfl) ?_ | refine Zaz rfl rfl ?_ | refine Zc ?_ | refine Zh ?_ | refine Za ?_ | refine Zag ?_)
 refine ZE (fun (a:El×List El) _=>mkS [(0,.ptr 0 (0,0) 0),(3,.int .i64 (a.2.length:Int))] (somes (stP νa e r)) 2) (fun a=>(a.1::a.2) <:+ (e::r)∧Zav a.1 a.2=Zav e r) (fun a=>a.2.length) (e,r) 2 ⟨List.suffix_refl _,rfl⟩ (ZfY ⟨rfl,rfl,trivial⟩) (fun a ng hJ=>?_)
 obtain ⟨e1,r1⟩:=a
 obtain ⟨hsuf,hlb⟩:=hJ
 dsimp only at hsuf hlb ⊢
 have hlt:r1.length<r.length+1:=by have:=hsuf.length_le;simp at this;omega
 obtain ⟨b,c1,c2,hp,hm⟩:=Zr6 (ν:=νa) (NT:=78) (AT:=111) (ET:=98) hsuf
 have hb:=Za2 (lits:=[]) rfl _ _ _ hm
 rcases r1 with _ | ⟨e2,r2⟩
 ·repeat (first | (refine ZI rfl ?_) | (refine Zg rfl rfl ?_) | refine Zm rfl (by (conv=>lhs;whnf);try rfl) ?_ | refine Zq rfl (by (conv=>lhs;whnf);try rfl) ?_ | refine ZQ rfl rfl rfl rfl (by (conv=>lhs;whnf);try rfl) ?_ | refine ZaQ rfl rfl (by (conv=>lhs;whnf);try rfl) ?_ | refine Zc ?_ | refine Zh ?_ | refine Za ?_ | refine Za3 ?_ | refine ZaX ?_)
  rw [← hlb]
  exact ZgB (Shift.refl _) rfl rfl (Za2 (lits:=[]) rfl)
 ·have h0:decide ((0:Int)<(((e2::r2).length:Nat):Int))=true:=decide_eq_true (by simp)
  repeat (first | refine Zm rfl (by (conv=>lhs;whnf);try rfl) ?_ | refine ZQ rfl rfl rfl rfl (by (conv=>lhs;whnf);try rfl) ?_ | refine Zh ?_ | refine Za ?_)
  rw [h0]
  repeat (first | (refine Zd7 rfl rfl rfl rfl (by rw [ZbN];exact hlt) ?_) | (refine Zcr rfl rfl rfl hp rfl ?_) | (refine Zj7 rfl rfl hb rfl ?_) | refine Zm rfl (by (conv=>lhs;whnf);try rfl) ?_ | refine Zz rfl rfl rfl ?_ | refine Zi rfl rfl ?_ | refine ZQ rfl rfl rfl rfl (by (conv=>lhs;whnf);try rfl) ?_ | refine Zaz rfl rfl ?_ | refine ZaQ rfl rfl (by (conv=>lhs;whnf);try rfl) ?_ | refine Zc ?_)
  by_cases h2:e1.kind=2
  ·rw [decide_eq_true h2]
   repeat (first | (refine Zg rfl rfl ?_) | refine Zq rfl (by (conv=>lhs;whnf);try rfl) ?_ | refine Zc ?_ | refine Zh ?_ | refine Za ?_ | refine Za3 ?_ | refine ZaX ?_)
   rw [show Zav e r=0 by rw [← hlb];simp only [Zav,if_pos h2]]
   exact ZgB (Shift.refl _) rfl rfl (Za2 (lits:=[]) rfl)
  ·rw [decide_eq_false h2]
   repeat (first | (refine Zr rfl rfl ?_) | (refine Zd7 rfl rfl rfl rfl (by rw [ZbN];exact hlt) ?_) | (refine Zcr rfl rfl rfl hp rfl ?_) | (refine Zj7 rfl rfl hb rfl ?_) | refine Zm rfl (by (conv=>lhs;whnf);try rfl) ?_ | refine Zz rfl rfl rfl ?_ | refine Zi rfl rfl ?_ | refine ZQ rfl rfl rfl rfl (by (conv=>lhs;whnf);try rfl) ?_ | refine Zaz rfl rfl ?_ | refine Zc ?_ | refine Zh ?_ | refine Za ?_ | refine Zag ?_ | refine Zy ?_)
   by_cases h3:e1.kind=3
   ·rw [decide_eq_true h3]
    repeat (first | (refine Zr rfl rfl ?_) | refine Zm rfl (by (conv=>lhs;whnf);try rfl) ?_ | refine Zq rfl (by (conv=>lhs;whnf);try rfl) ?_ | refine Zc ?_ | refine Zh ?_ | refine Za ?_ | refine Za3 ?_ | refine Zqs ?_ | refine Zqt ?_)
    rw [show Zav e r=r2.length+1 by rw [← hlb];simp only [Zav,if_neg h2,if_pos h3]]
    exact ZgB (Shift.refl _) rfl rfl (Za2 (lits:=[]) rfl)
   ·rw [decide_eq_false h3]
    repeat (first | (refine Zg rfl rfl ?_) | (refine ZfL (a:=r2.length) rfl rfl rfl (by simp at hlt;omega) ?_) | refine Zm rfl (by (conv=>lhs;whnf);try rfl) ?_ | refine Zq rfl (by (conv=>lhs;whnf);try rfl) ?_ | refine Zc ?_ | refine Za ?_ | refine Zy ?_ | refine Zw ?_)
    refine Zab (e2,r2) 2 ⟨(List.suffix_cons _ _).trans hsuf,?_⟩ (by dsimp only;simp) (ZfY ⟨rfl,rfl,trivial⟩)
    rw [← hlb]
    simp only [Zav,if_neg h2,if_neg h3]
end Go.Proofs.YtmgfammllddkhaaGreatDoor
namespace Go.Proofs.YtmgfammllddkhaaGreatDoor
open VL
def ok1 (x:El):Prop:=(∀ q,x.args=some q→q.1.length≤1000000)∧x.cur.length≤9223372036854775807
def fits (e:El) (r:List El):Prop:=r.length≤999∧∀ x ∈ e::r,ok1 x
theorem Zad {e:El} {r:List El} (h:fits e r):fit e r:=⟨⟨by have:=h.1;omega,(h.2 e (List.mem_cons_self ..)).1⟩,(h.2 e (List.mem_cons_self ..)).2⟩
theorem ZaC {e e2:El} {r:List El} (h:fits e (e2::r)):fits e2 r:=⟨by have:=h.1;simp at this;omega,fun x hx=>h.2 x (List.mem_cons_of_mem _ hx)⟩
theorem Zbq {e e':El} {r:List El} (h:fits e r) (h':fit e' r):fits e' r:=⟨h.1,fun x hx=>by
 rcases List.mem_cons.1 hx with rfl | hx
 ·exact ⟨h'.1.2,h'.2⟩
 ·exact h.2 x (List.mem_cons_of_mem _ hx)⟩
theorem ZhA {r:List El}:∀ {l:List Arg} {e e':El},fit e r→Zd2 e l=some e'→fit e' r
 | [],e,e',hf,h=>by injection h with h;rw [← h];exact hf
 | a::l,e,e',hf,h=>by
   obtain ⟨e1,h1,h⟩:=Option.bind_eq_some_iff.1 h
   exact ZhA (Zie hf h1) h
theorem Zdj {e e2 e3:El} {r:List El} (hf:fits e (e2::r)) (h:Zfv e e2=some e3):fits e3 r:=by
 refine Zbq (ZaC hf) ?_
 obtain ⟨a,ha,h⟩:=Option.bind_eq_some_iff.1 h
 obtain ⟨b,hb,h⟩:=Option.bind_eq_some_iff.1 h
 split at h
 ·exact ZhA (ZcE (Zhs (Zad (ZaC hf)) ha) hb) h
 ·cases h
def Zd6:Nat→El→List El→Option (El×List El)
 | 0,e,r=>some (e,r)
 | _+1,_,[]=>none
 | n+1,e,e2::r=>(Zfv e e2).bind fun e3=>Zd6 n e3 r
theorem Zjk {P:Program} [WInv P] {f:FuncId} {args args':List PV} {obs:List (Nat×VObj)} {res:PV} {obs':List (Nat×Gen×VObj)} (hl:args.length=args'.length) (h:∀ (x:Ctx) (i:Nat) (p p':PV) (v:Value),args[i]? = some p→args'[i]? = some p'→Rep x p v→Rep x p' v)
  (hc:ContractG P f args' obs res obs'):ContractG P f args obs res obs':=by
 refine ⟨hc.isGo,fun x vs hp hI=>hc.calls x vs ⟨hl.symm.trans hp.size,fun i p' v hp' hv=>?_,hp.ob,hp.gen,hp.flt⟩ hI⟩
 have hlt:i<args.length:=by rw [hl];exact (List.getElem?_eq_some_iff.1 hp').1
 exact h x i _ p' v (List.getElem?_eq_getElem hlt) hp' (hp.rep i _ v (List.getElem?_eq_getElem hlt) hv)
theorem Zt2 {x:Ctx} {v:Value} (h:Rep x .nil v):Rep x (.sl []) v:=by
 cases h
 exact .sl [] none 0 0 0 0 0 (fun _ _=>undef) rfl (Nat.le_refl _) (by omega) (by simp) (by omega) (fun i j e p he=>by simp at he) (fun i j e p he=>by simp at he)
theorem Ztb {x:Ctx} {v:Value} {cs cs':List PV} (hl:cs.length=cs'.length) (h:∀ (j:Nat) (q q':PV),cs[j]? = some q→cs'[j]? = some q'→q=q'∨(q = .nil∧q' = .sl [])) (hr:Rep x (.agg cs) v):Rep x (.agg cs') v:=by
 cases hr with
 | agg _ vs hl2 hh=>
   refine .agg cs' vs (hl.symm.trans hl2) fun i p' w hp' hw=>?_
   have hlt:i<cs.length:=by rw [hl];exact (List.getElem?_eq_some_iff.1 hp').1
   have hp:=List.getElem?_eq_getElem hlt
   rcases h i _ p' hp hp' with e | ⟨e1,e2⟩
   ·rw [← e]
    exact hh i _ w hp hw
   ·rw [e2]
    have:=hh i _ w hp hw
    rw [e1] at this
    exact Zt2 this
theorem ZlE {e e':El} {r:List El} {n:Node} {cs:List PV} (hl:cs.length=5) (h:∀ (j:Nat) (q q':PV),cs[j]? = some q→n.cs[j]? = some q'→q=q'∨(q = .nil∧q' = .sl [])) (hc:PC 103 [.agg n.cs] e r (.tup []) e' r):PC 103 [.agg cs] e r (.tup []) e' r:=
 Zjk (args':=[.ptr 0 (0,0) 0,.agg n.cs]) rfl (fun x i p p' v hp hp' hr=>by
  match i with
  | 0=>
    injection hp with hp
    injection hp' with hp'
    rw [← hp',hp]
    exact hr
  | 1=>
    injection hp with hp
    injection hp' with hp'
    have hr':Rep x (.agg cs) v:=by rw [hp];exact hr
    rw [← hp']
    exact Ztb (hl.trans rfl) h hr'
  | i+2=>simp at hp) hc
theorem Ztc (e e':El) (r:List El) (k t:Int) (s:ByteArray) (l:List (List PV)) (hs:small e r) (h:ZfN e ⟨k,t,s,l,[]⟩=some e'):PC 103 [.agg [.int .i64 k,.int .i64 t,.str s,.sl l,.nil]] e r (.tup []) e' r:=
 ZlE (n:=⟨k,t,s,l,[]⟩) rfl (fun j q q' hq hq'=>by
  match j with
  | 0=>injection hq with hq;injection hq' with hq';exact .inl (hq.symm.trans hq')
  | 1=>injection hq with hq;injection hq' with hq';exact .inl (hq.symm.trans hq')
  | 2=>injection hq with hq;injection hq' with hq';exact .inl (hq.symm.trans hq')
  | 3=>injection hq with hq;injection hq' with hq';exact .inl (hq.symm.trans hq')
  | 4=>injection hq with hq;injection hq' with hq';exact .inr ⟨hq.symm,hq'.symm⟩
  | j+5=>simp at hq) (Zgl e r _ hs e' h)
theorem Zp1 (e e':El) (r:List El) (k t:Int) (s:ByteArray) (hs:small e r) (h:ZfN e ⟨k,t,s,[],[]⟩=some e'):PC 103 [.agg [.int .i64 k,.int .i64 t,.str s,.nil,.nil]] e r (.tup []) e' r:=
 ZlE (n:=⟨k,t,s,[],[]⟩) rfl (fun j q q' hq hq'=>by
  match j with
  | 0=>injection hq with hq;injection hq' with hq';exact .inl (hq.symm.trans hq')
  | 1=>injection hq with hq;injection hq' with hq';exact .inl (hq.symm.trans hq')
  | 2=>injection hq with hq;injection hq' with hq';exact .inl (hq.symm.trans hq')
  | 3=>injection hq with hq;injection hq' with hq';exact .inr ⟨hq.symm,hq'.symm⟩
  | 4=>injection hq with hq;injection hq' with hq';exact .inr ⟨hq.symm,hq'.symm⟩
  | j+5=>simp at hq) (Zgl e r _ hs e' h)
theorem Zhd (k:Int):∀ (e:El) (r:List El),ZaV k e r≤r.length
 | _,[]=>Nat.le_refl _
 | e,e2::r=>by
   unfold ZaV
   split
   ·simp
   ·have:=Zhd k e2 r
    simp
    omega
def ZdN (k:Int) (s:ByteArray) (e:El) (r:List El):Option (El×List El):=if ZaV k e r=0 then (ZaY e s).map fun e'=>(e',r) else (Zd6 (r.length - ZaV k e r) e r).bind fun q=>match q.2 with
 | []=>none
 | e2::r2=>(ZfN e2 ⟨6,k,⟨#[]⟩,q.1.list,[]⟩).map fun e3=>(e3,r2)
set_option maxRecDepth 100000 in
set_option maxHeartbeats 1000000 in
theorem Zn3 (k:Int) (s:ByteArray) (e e3:El) (r r3:List El) (hf:fits e r) (h:ZdN k s e r=some (e3,r3)):PC 109 [.int .i64 k,.str s] e r (.tup []) e3 r3:=by
 have hr:=hf.1
 have hat:=Zhd k e r
 refine Zx mix Tryz.func109 (by kernel_rfl) rfl (by kernel_rfl) ?_
 rw [ZbR]
 repeat (first | (refine Za0 rfl rfl (ZbN _ _ _) ?_) | (refine ZfL rfl rfl rfl (by omega) ?_) | (refine Zb7 (α:=Unit) (c:=.block 0 _) (fun _ _=>mkS [(0,.ptr 0 (0,0) 0),(1,.int .i64 k),(2,.str s),(6,.int .i64 (ZaV k e r:Int))] (somes (stP νa e r)) 2) (fun _=>True) ?_ (fun a _ _=>?_)) | refine Zm rfl (by (conv=>lhs;whnf);try rfl) ?_ | refine Zz rfl rfl rfl ?_ | refine Zi rfl rfl ?_ | refine Zq rfl (by (conv=>lhs;whnf);try rfl) ?_ | refine Zaz rfl rfl ?_ | refine Zc ?_ | refine Zh ?_ | refine Za ?_ | refine Zag ?_)
 ·refine ZE (fun (a:El×List El) _=>mkS [(0,.ptr 0 (0,0) 0),(1,.int .i64 k),(2,.str s),(6,.int .i64 (a.2.length:Int))] (somes (stP νa e r)) 2) (fun a=>(a.1::a.2) <:+ (e::r)∧ZaV k a.1 a.2=ZaV k e r) (fun a=>a.2.length) (e,r) 2 ⟨List.suffix_refl _,rfl⟩ (ZfY ⟨rfl,rfl,rfl,rfl,trivial⟩) (fun a ng hJ=>?_)
  obtain ⟨e1,r1⟩:=a
  obtain ⟨hsuf,hlb⟩:=hJ
  dsimp only at hsuf hlb ⊢
  have hlt:r1.length<r.length+1:=by have:=hsuf.length_le;simp at this;omega
  obtain ⟨b,c1,c2,hp,hm⟩:=Zr6 (ν:=νa) (NT:=78) (AT:=111) (ET:=98) hsuf
  have hb:=Za2 (lits:=[]) rfl _ _ _ hm
  rcases r1 with _ | ⟨e2,r2⟩
  ·repeat (first | (refine ZI rfl ?_) | (refine Zg rfl rfl ?_) | refine Zm rfl (by (conv=>lhs;whnf);try rfl) ?_ | refine ZQ rfl rfl rfl rfl (by (conv=>lhs;whnf);try rfl) ?_ | refine ZaQ rfl rfl (by (conv=>lhs;whnf);try rfl) ?_ | refine Zc ?_ | refine Zh ?_ | refine Za ?_ | refine ZaX ?_ | refine Zw ?_ | refine ZcR ?_ | refine Zgh ?_)
   rw [← hlb]
   exact ZcY () 2 trivial (ZfY ⟨rfl,rfl,rfl,rfl,trivial⟩)
  ·have h0:decide ((0:Int)<(((e2::r2).length:Nat):Int))=true:=decide_eq_true (by simp)
   repeat (first | refine Zm rfl (by (conv=>lhs;whnf);try rfl) ?_ | refine ZQ rfl rfl rfl rfl (by (conv=>lhs;whnf);try rfl) ?_ | refine Zh ?_ | refine Za ?_)
   rw [h0]
   repeat (first | (refine Zd7 rfl rfl rfl rfl (by rw [ZbN];exact hlt) ?_) | (refine Zcr rfl rfl rfl hp rfl ?_) | (refine Zj7 rfl rfl hb rfl ?_) | refine Zm rfl (by (conv=>lhs;whnf);try rfl) ?_ | refine Zz rfl rfl rfl ?_ | refine Zi rfl rfl ?_ | refine ZQ rfl rfl rfl rfl (by (conv=>lhs;whnf);try rfl) ?_ | refine Zaz rfl rfl ?_)
   by_cases h2:e1.kind=2
   ·rw [decide_eq_true h2]
    repeat (first | (refine Zd7 rfl rfl rfl rfl (by rw [ZbN];exact hlt) ?_) | (refine Zcr rfl rfl rfl hp rfl ?_) | (refine Zj7 rfl rfl hb rfl ?_) | refine Zm rfl (by (conv=>lhs;whnf);try rfl) ?_ | refine Zz rfl rfl rfl ?_ | refine Zi rfl rfl ?_ | refine ZQ rfl rfl rfl rfl (by (conv=>lhs;whnf);try rfl) ?_ | refine Zaz rfl rfl ?_ | refine ZaQ rfl rfl (by (conv=>lhs;whnf);try rfl) ?_ | refine Zc ?_)
    by_cases h3:e1.tag=k
    ·rw [decide_eq_true h3]
     repeat (first | (refine Zg rfl rfl ?_) | refine ZaX ?_ | refine Zw ?_ | refine ZcR ?_ | refine Zgh ?_)
     rw [show ZaV k e r=r2.length+1 by rw [← hlb];simp only [ZaV,if_pos (And.intro h2 h3)]]
     exact ZcY () 2 trivial (ZfY ⟨rfl,rfl,rfl,rfl,trivial⟩)
    ·rw [decide_eq_false h3]
     repeat (first | (refine Zr rfl rfl ?_) | (refine ZfL (a:=r2.length) rfl rfl rfl (by simp at hlt;omega) ?_) | refine Zm rfl (by (conv=>lhs;whnf);try rfl) ?_ | refine Zq rfl (by (conv=>lhs;whnf);try rfl) ?_ | refine Zc ?_ | refine Za ?_ | refine Zag ?_ | refine Zy ?_ | refine Zw ?_ | refine ZO ?_)
     refine Zab (e2,r2) 2 ⟨(List.suffix_cons _ _).trans hsuf,?_⟩ (by dsimp only;simp) (ZfY ⟨rfl,rfl,rfl,rfl,trivial⟩)
     rw [← hlb]
     simp only [ZaV,if_neg (fun h:e1.kind=2∧e1.tag=k=>h3 h.2)]
   ·rw [decide_eq_false h2]
    repeat (first | (refine ZI rfl ?_) | (refine Zr rfl rfl ?_) | (refine ZfL (a:=r2.length) rfl rfl rfl (by simp at hlt;omega) ?_) | refine Zm rfl (by (conv=>lhs;whnf);try rfl) ?_ | refine Zq rfl (by (conv=>lhs;whnf);try rfl) ?_ | refine ZaQ rfl rfl (by (conv=>lhs;whnf);try rfl) ?_ | refine Zc ?_ | refine Za ?_ | refine Zag ?_ | refine Zy ?_ | refine Zw ?_ | refine ZO ?_)
    refine Zab (e2,r2) 2 ⟨(List.suffix_cons _ _).trans hsuf,?_⟩ (by dsimp only;simp) (ZfY ⟨rfl,rfl,rfl,rfl,trivial⟩)
    rw [← hlb]
    simp only [ZaV,if_neg (fun h:e1.kind=2∧e1.tag=k=>h2 h.1)]
 ·unfold ZdN at h
  by_cases h0:ZaV k e r=0
  ·rw [if_pos h0] at h
   obtain ⟨e',he',h⟩:=Option.map_eq_some_iff.1 h
   injection h with q1 q2
   subst q1 q2
   repeat (first | refine Zm rfl (by (conv=>lhs;whnf);try rfl) ?_ | refine ZQ rfl rfl rfl rfl (by (conv=>lhs;whnf);try rfl) ?_ | refine Zc ?_ | refine Zh ?_ | refine Za ?_)
   rw [show decide (((ZaV k e r:Nat):Int)=0)=true from decide_eq_true (by omega)]
   repeat (first | (refine Zr rfl rfl ?_) | (refine Zv [] νa (ZbK e r s (Zad hf).1 (Zad hf).2 e' he') rfl rfl rfl rfl rfl rfl ?_) | refine Zm rfl (by (conv=>lhs;whnf);try rfl) ?_ | refine Zc ?_ | refine Zh ?_ | refine Za ?_ | refine Za3 ?_)
   exact Zbn (.inl rfl) (νc 3 2) [] [] rfl rfl trivial rfl rfl
  ·rw [if_neg h0] at h
   obtain ⟨⟨e4,r4⟩,hfl,h⟩:=Option.bind_eq_some_iff.1 h
   rcases r4 with _ | ⟨e5,r5⟩
   ·cases h
   obtain ⟨e6,he6,h⟩:=Option.map_eq_some_iff.1 h
   injection h with q1 q2
   subst q1 q2
   repeat (first | refine Zm rfl (by (conv=>lhs;whnf);try rfl) ?_ | refine ZQ rfl rfl rfl rfl (by (conv=>lhs;whnf);try rfl) ?_ | refine Zc ?_ | refine Zh ?_ | refine Za ?_)
   rw [show decide (((ZaV k e r:Nat):Int)=0)=false from decide_eq_false (by omega)]
   repeat (first | (refine Zg rfl rfl ?_) | refine Zh ?_ | refine Zag ?_ | refine Zy ?_)
   generalize ZaV k e r=at_ at hat h0 hfl ⊢
   refine ZE (fun (a:El×List El) _=>mkS [(0,.ptr 0 (0,0) 0),(1,.int .i64 k),(6,.int .i64 (at_:Int))] (somes (stP νb a.1 a.2)) 2) (fun a=>fits a.1 a.2∧at_≤a.2.length∧Zd6 (a.2.length - at_) a.1 a.2=some (e4,e5::r5)) (fun a=>a.2.length) (e,r) 2 ⟨hf,hat,hfl⟩
    (ZaR νa [] (fun k=>(k,νa k)) (fun _ _=>rfl) rfl ⟨rfl,rfl,rfl,trivial⟩ (x:=[]) (x':=[]) rfl rfl rfl (ZN _) rfl) (fun a ng hJ=>?_)
   obtain ⟨e1,r1⟩:=a
   obtain ⟨hf1,hle,hft⟩:=hJ
   dsimp only at hf1 hle hft ⊢
   have hr1:=hf1.1
   repeat (first | (refine Za0 rfl rfl (ZbN _ _ _) ?_) | refine Zm rfl (by (conv=>lhs;whnf);try rfl) ?_ | refine Zz rfl rfl rfl ?_ | refine Zi rfl rfl ?_ | refine Zms rfl rfl (by omega) ?_ | refine ZQ rfl rfl rfl rfl (by (conv=>lhs;whnf);try rfl) ?_ | refine Zaz rfl rfl ?_ | refine Zc ?_ | refine Zh ?_ | refine Za ?_)
   by_cases hgt:at_<r1.length
   ·rw [show decide (((at_+1:Nat):Int)<((r1.length+1:Nat):Int))=true from decide_eq_true (by omega)]
    rcases r1 with _ | ⟨e2,r2⟩
    ·simp at hgt
    simp only [List.length_cons] at hgt hle hft hr1
    rw [show r2.length+1 - at_=(r2.length - at_)+1 by omega] at hft
    obtain ⟨e7,he7,hft⟩:=Option.bind_eq_some_iff.1 hft
    repeat (first | (refine Zr rfl rfl ?_) | (refine Zv [] νb (Zif e1 e2 e7 r2 (by omega) (Zad (ZaC hf1)) he7) rfl rfl rfl rfl rfl rfl ?_) | refine Zm rfl (by (conv=>lhs;whnf);try rfl) ?_ | refine Zc ?_ | refine Za ?_ | refine Zag ?_ | refine Zy ?_ | refine Zw ?_ | refine ZO ?_)
    exact Zab (e7,r2) 2 ⟨Zdj hf1 he7,by dsimp only;omega,hft⟩ (by dsimp only;simp) (ZaR (νc 3 1) [] (fun k=>(k,νc 3 1 k)) (fun _ _=>rfl) rfl ⟨rfl,rfl,rfl,trivial⟩ (x:=[]) (x':=[]) rfl rfl rfl (ZN _) rfl)
   ·rw [show decide (((at_+1:Nat):Int)<((r1.length+1:Nat):Int))=false from decide_eq_false (by omega)]
    rw [show r1.length - at_=0 by omega] at hft
    injection hft with hft
    injection hft with q1 q2
    subst q1 q2
    repeat (first | (refine Zg rfl rfl ?_) | refine Zm rfl (by (conv=>lhs;whnf);try rfl) ?_ | refine Zh ?_ | refine Za ?_ | refine ZaX ?_)
    refine Zep [] νb (ZnK e1 e5 r5 (by simp at hr1;omega)) rfl rfl rfl rfl ?_
    iterate 2 (refine Zhi ?_)
    refine Zao (ZgZ (3,1+1000000 * (1000+1)) νb (tm':=[(0,.ptr 0 (0,0) 0),(1,.int .i64 k),(7,.ptr 300 (1,300) 0)]) ⟨rfl,rfl,rfl,trivial⟩) ?_ (List.cons_ne_nil _ _)
    repeat (first | (refine Zv [_] νb (Ztc e5 e6 r5 6 k ⟨#[]⟩ e1.list (Zad (ZaC hf1)).1 he6) rfl rfl rfl rfl rfl rfl ?_) | refine Zm rfl (by (conv=>lhs;whnf);try rfl) ?_ | refine Zz rfl rfl rfl ?_ | refine Zi rfl rfl ?_ | refine Zaz rfl rfl ?_ | refine Zbm rfl rfl ?_ | refine Zc ?_ | refine Za ?_ | refine Zw ?_)
    exact Zbn (.inr rfl) (νc 2 7) [_] [] rfl rfl trivial rfl rfl
def ZbL (c count:Int):Int:=if 3≤c∧3≤count then 3 else 2
def Ze3 (c:Int) (e:El):Node:=⟨if 3≤c∧3≤e.count then 5 else 4,0,⟨#[]⟩,e.list,e.argL.map Arg.cs⟩
def Ztr (c:Int) (e:El) (r:List El):Option (El×List El):=(strings_Repeat ⟨#[125]⟩ c).bind fun s=>(ZaY e s).map fun e'=>(e',r)
def Zug (e2:El) (m:Int) (n:Node):Option El:=((if m=1 then ZaY e2 ⟨#[123]⟩ else some e2):Option El).bind fun e3=>ZfN e3 n
def ZaJ:Nat→Int→El→List El→Option (El×List El)
 | 0,_,_,_=>none
 | f+1,c,e,r=>if 2≤c then (if Zav e r=0 then Ztr c e r else
   (Zd6 (r.length - Zav e r) e r).bind fun q=>if c≤9223372036854775807∧0≤q.1.count∧q.1.count≤9223372036854775807 then
    (if 2≤q.1.count - ZbL c q.1.count then ZaJ f (c - ZbL c q.1.count) ⟨q.1.kind,q.1.tag,q.1.count - ZbL c q.1.count,[(Ze3 c q.1).cs],none⟩ q.2
     else match q.2 with
      | []=>none
      | e2::r2=>(Zug e2 (q.1.count - ZbL c q.1.count) (Ze3 c q.1)).bind fun e4=>ZaJ f (c - ZbL c q.1.count) e4 r2) else none)
   else Ztr c e r
theorem Zh5 {e2 e4:El} {m:Int} {n:Node} {r:List El} (hf:fit e2 r) (h:Zug e2 m n=some e4):fit e4 r:=by
 obtain ⟨e3,h3,h⟩:=Option.bind_eq_some_iff.1 h
 refine ZeJ ?_ h
 split at h3
 ·exact Zah hf h3
 ·injection h3 with h3
  rw [← h3]
  exact hf
theorem ZeV:∀ {n:Nat} {e e':El} {r r':List El},fits e r→Zd6 n e r=some (e',r')→fits e' r'
 | 0,e,e',r,r',hf,h=>by injection h with h;injection h with h1 h2;rw [← h1,← h2];exact hf
 | n+1,e,e',[],r',hf,h=>by cases h
 | n+1,e,e',e2::r,r',hf,h=>by
   obtain ⟨e3,h3,h⟩:=Option.bind_eq_some_iff.1 h
   exact ZeV (Zdj hf h3) h
theorem Zfr:∀ (e:El) (r:List El),Zav e r≤r.length
 | _,[]=>Nat.le_refl _
 | e,e2::r=>by
   unfold Zav
   split
   ·simp
   ·split
    ·simp
    ·have:=Zfr e2 r
     simp
     omega
theorem ZiY (b:Nat) (ν:Nat→Gen) (pre:List Arg) (a:Arg):(ZfR b ν (some (pre,a))).set pre.length (Zal [.bool a.named,.sl a.name,.row (b+3) (ν (b+3))] 2 [.sl a.value])=(pre ++ [a]).map Arg.cs:=by
 have:=ZfI b ν pre a a.cs
 rw [List.map_append]
 exact this
set_option maxRecDepth 100000 in
set_option maxHeartbeats 2000000 in
theorem ZkN (f:Nat) (c:Int) (e e9:El) (r r9:List El) (hf:fits e r) (h:ZaJ f c e r=some (e9,r9)):PC 110 [.int .i64 c] e r (.tup []) e9 r9:=by
 refine Zx mix Tryz.func110 (by kernel_rfl) rfl (by kernel_rfl) ?_
 rw [ZbR]
 repeat (first | refine Zh ?_ | refine Zag ?_)
 refine ZE (fun (a:Nat×Int×El×List El) _=>mkS [(0,.ptr 0 (0,0) 0),(1,.int .i64 a.2.1)] (somes (stP νb a.2.2.1 a.2.2.2)) 2) (fun a=>fits a.2.2.1 a.2.2.2∧ZaJ a.1 a.2.1 a.2.2.1 a.2.2.2=some (e9,r9)) (fun a=>a.1) (f,c,e,r) 2 ⟨hf,h⟩
  (ZaR νa [] (fun k=>(k,νa k)) (fun _ _=>rfl) rfl ⟨rfl,rfl,trivial⟩ (x:=[]) (x':=[]) rfl rfl rfl (ZN _) rfl) (fun a ng hJ=>?_)
 clear h hf
 obtain ⟨f,c,e,r⟩:=a
 obtain ⟨hf,h⟩:=hJ
 dsimp only at hf h ⊢
 rcases f with _ | f
 ·cases h
 have hr:=hf.1
 unfold ZaJ at h
 repeat (first | refine Zm rfl (by (conv=>lhs;whnf);try rfl) ?_ | refine ZQ rfl rfl rfl rfl (by (conv=>lhs;whnf);try rfl) ?_ | refine Zc ?_ | refine Zh ?_ | refine Za ?_)
 by_cases hc2:2≤c
 rotate_left
 ·rw [if_neg hc2] at h
  obtain ⟨s,hs,h⟩:=Option.bind_eq_some_iff.1 h
  obtain ⟨e',he',h⟩:=Option.map_eq_some_iff.1 h
  injection h with q1 q2
  subst q1 q2
  rw [decide_eq_false hc2]
  repeat (first | (refine Zg rfl rfl ?_) | (refine Ze0 (Zc9 _ _ _ hs) rfl rfl ?_) | (refine Zv [] νb (ZbK e r s (Zad hf).1 (Zad hf).2 e' he') rfl rfl rfl rfl rfl rfl ?_) | refine Zm rfl (by (conv=>lhs;whnf);try rfl) ?_ | refine Zc ?_ | refine Za ?_ | refine ZaX ?_ | refine Zw ?_)
  exact Zbn (.inr rfl) (νc 3 3) [] [] rfl rfl trivial rfl rfl
 rw [if_pos hc2] at h
 rw [decide_eq_true hc2]
 have hat:=Zfr e r
 have hlb:=Zl8 e r (by omega)
 generalize Zav e r=at_ at hat h hlb
 repeat (first | (refine Zr rfl rfl ?_) | (refine ZY [] νb hlb rfl rfl rfl rfl rfl rfl ?_) | refine Zm rfl (by (conv=>lhs;whnf);try rfl) ?_ | refine Zq rfl (by (conv=>lhs;whnf);try rfl) ?_ | refine ZQ rfl rfl rfl rfl (by (conv=>lhs;whnf);try rfl) ?_ | refine Zc ?_ | refine Zh ?_ | refine Za ?_ | refine Zag ?_ | refine Zy ?_)
 by_cases h0:at_=0
 ·rw [if_pos h0] at h
  obtain ⟨s,hs,h⟩:=Option.bind_eq_some_iff.1 h
  obtain ⟨e',he',h⟩:=Option.map_eq_some_iff.1 h
  injection h with q1 q2
  subst q1 q2
  rw [show decide ((at_:Int)=0)=true from decide_eq_true (by omega)]
  repeat (first | (refine Zr rfl rfl ?_) | (refine Ze0 (Zc9 _ _ _ hs) rfl rfl ?_) | (refine Zv [] νb (ZbK e r s (Zad hf).1 (Zad hf).2 e' he') rfl rfl rfl rfl rfl rfl ?_) | refine Zm rfl (by (conv=>lhs;whnf);try rfl) ?_ | refine Zc ?_ | refine Za ?_ | refine ZaX ?_ | refine Zw ?_)
  exact Zbn (.inr rfl) (νc 5 3) [] [] rfl rfl trivial rfl rfl
 rw [if_neg h0] at h
 obtain ⟨⟨e1,r1⟩,hfl,h⟩:=Option.bind_eq_some_iff.1 h
 have hf1:=ZeV hf hfl
 rw [show decide ((at_:Int)=0)=false from decide_eq_false (by omega)]
 repeat (first | (refine Zg rfl rfl ?_) | (refine Zb7 (α:=Unit) (c:=.block 2 _) (fun _ _=>mkS [(0,.ptr 0 (0,0) 0),(1,.int .i64 c)] (somes (stP νb e1 r1)) 2) (fun _=>True) ?_ (fun a _ _=>?_)) | refine Zh ?_ | refine Zag ?_ | refine Zy ?_)
 ·refine ZE (fun (a:El×List El) _=>mkS [(0,.ptr 0 (0,0) 0),(1,.int .i64 c),(4,.int .i64 (at_:Int))] (somes (stP νb a.1 a.2)) 2) (fun a=>fits a.1 a.2∧at_≤a.2.length∧Zd6 (a.2.length - at_) a.1 a.2=some (e1,r1)) (fun a=>a.2.length) (e,r) 2 ⟨hf,hat,hfl⟩
   (ZaR νb [] (fun k=>(k,νb k)) (fun _ _=>rfl) rfl ⟨rfl,rfl,rfl,trivial⟩ (x:=[]) (x':=[]) rfl rfl rfl (ZN _) rfl) (fun a ng hJ=>?_)
  obtain ⟨e5,r5⟩:=a
  obtain ⟨hf5,hle,hft⟩:=hJ
  dsimp only at hf5 hle hft ⊢
  have hr5:=hf5.1
  repeat (first | (refine Za0 rfl rfl (ZbN _ _ _) ?_) | refine Zm rfl (by (conv=>lhs;whnf);try rfl) ?_ | refine Zz rfl rfl rfl ?_ | refine Zi rfl rfl ?_ | refine Zms rfl rfl (by omega) ?_ | refine ZQ rfl rfl rfl rfl (by (conv=>lhs;whnf);try rfl) ?_ | refine Zaz rfl rfl ?_ | refine Zc ?_ | refine Zh ?_ | refine Za ?_)
  by_cases hgt:at_<r5.length
  ·rw [show decide (((at_+1:Nat):Int)<((r5.length+1:Nat):Int))=true from decide_eq_true (by omega)]
   rcases r5 with _ | ⟨e2,r2⟩
   ·simp at hgt
   simp only [List.length_cons] at hgt hle hft hr5
   rw [show r2.length+1 - at_=(r2.length - at_)+1 by omega] at hft
   obtain ⟨e7,he7,hft⟩:=Option.bind_eq_some_iff.1 hft
   repeat (first | (refine Zr rfl rfl ?_) | (refine Zv [] νb (Zif e5 e2 e7 r2 (by omega) (Zad (ZaC hf5)) he7) rfl rfl rfl rfl rfl rfl ?_) | refine Zm rfl (by (conv=>lhs;whnf);try rfl) ?_ | refine Zc ?_ | refine Za ?_ | refine Zag ?_ | refine Zy ?_ | refine Zw ?_ | refine ZO ?_)
   exact Zab (e7,r2) 2 ⟨Zdj hf5 he7,by dsimp only;omega,hft⟩ (by dsimp only;simp) (ZaR (νc 3 1) [] (fun k=>(k,νc 3 1 k)) (fun _ _=>rfl) rfl ⟨rfl,rfl,rfl,trivial⟩ (x:=[]) (x':=[]) rfl rfl rfl (ZN _) rfl)
  ·rw [show decide (((at_+1:Nat):Int)<((r5.length+1:Nat):Int))=false from decide_eq_false (by omega)]
   rw [show r5.length - at_=0 by omega] at hft
   injection hft with hft
   injection hft with q1 q2
   subst q1 q2
   repeat (first | (refine Zg rfl rfl ?_) | refine ZaX ?_ | refine Zw ?_ | refine ZcR ?_ | refine Zgh ?_)
   exact ZcY () 2 trivial (ZaR νb [] (fun k=>(k,νb k)) (fun _ _=>rfl) rfl ⟨rfl,rfl,trivial⟩ (x:=[]) (x':=[]) rfl rfl rfl (ZN _) rfl)
 ·split at h
  rotate_left
  ·cases h
  rename_i hb
  obtain ⟨hb1,hb2,hb3⟩:=hb
  clear hfl hat hlb h0 hf hr
  obtain ⟨kind,tag,count,list,args⟩:=e1
  dsimp only at hb2 hb3 h
  have hr1:=hf1.1
  repeat (first | (refine ZY [] νb (Zdb _ r1 (by omega)) rfl rfl rfl rfl rfl rfl ?_) | refine Zm rfl (by (conv=>lhs;whnf);try rfl) ?_ | refine Zq rfl (by (conv=>lhs;whnf);try rfl) ?_ | refine ZQ rfl rfl rfl rfl (by (conv=>lhs;whnf);try rfl) ?_ | refine Zc ?_ | refine Zh ?_ | refine Za ?_)
  by_cases hk1:3≤c
  ·by_cases hk2:3≤count
   ·have hK:ZbL c count=3:=if_pos ⟨hk1,hk2⟩
    have hN:Ze3 c ⟨kind,tag,count,list,args⟩=⟨5,0,⟨#[]⟩,list,(El.argL ⟨kind,tag,count,list,args⟩).map Arg.cs⟩:=by unfold Ze3;rw [if_pos ⟨hk1,hk2⟩]
    rw [hK,hN] at h
    rw [decide_eq_true hk1]
    repeat (first | refine Zm rfl (by (conv=>lhs;whnf);try rfl) ?_ | refine Zz rfl rfl rfl ?_ | refine Zi rfl rfl ?_ | refine ZQ rfl rfl rfl rfl (by (conv=>lhs;whnf);try rfl) ?_ | refine Zaz rfl rfl ?_ | refine ZaQ rfl rfl (by (conv=>lhs;whnf);try rfl) ?_ | refine Zc ?_)
    rw [decide_eq_true hk2]
    repeat (first | (refine Zr rfl rfl ?_) | (refine Zj2 (a:=c) (b:=3) rfl rfl rfl (by omega) (by omega) ?_) | (refine Zj2 (a:=count) (b:=3) rfl rfl rfl (by omega) (by omega) ?_) | refine Zm rfl (by (conv=>lhs;whnf);try rfl) ?_ | refine Zz rfl rfl rfl ?_ | refine Zi rfl rfl ?_ | refine Zq rfl (by (conv=>lhs;whnf);try rfl) ?_ | refine ZQ rfl rfl rfl rfl (by (conv=>lhs;whnf);try rfl) ?_ | refine Zaz rfl rfl ?_ | refine ZcK rfl rfl ?_ | refine ZaG rfl rfl rfl (by (conv=>lhs;whnf);try rfl) (by (conv=>lhs;whnf);try rfl) (by rfl) (by rfl) (Nat.le_of_ble_eq_true rfl) (by (conv=>lhs;whnf);try rfl) ?_ | refine Zbm rfl rfl ?_ | refine Zc ?_ | refine Zb2 (by kernel_rfl) ?_ | refine Zh ?_ | refine Za ?_)
    by_cases hm:2≤count - 3
    ·rw [if_pos hm] at h
     rw [decide_eq_true hm]
     refine Zr rfl rfl ?_
     have hfn:fits ⟨kind,tag,count - 3,[Node.cs ⟨5,0,⟨#[]⟩,list,(El.argL ⟨kind,tag,count,list,args⟩).map Arg.cs⟩],none⟩ r1:=Zbq hf1 ⟨⟨by omega,fun q hq=>by cases hq⟩,by show 1≤9223372036854775807;omega⟩
     rcases args with _ | ⟨pre,a⟩
     ·refine Zao (Zd3 (b:=1001) (u:=8) (by omega) rfl rfl rfl (fun e he=>absurd he List.not_mem_nil)) ?_ (List.cons_ne_nil _ _)
      repeat (first | refine Zm rfl (by (conv=>lhs;whnf);try rfl) ?_ | refine Zz rfl rfl rfl ?_ | refine Zi rfl rfl ?_ | refine Zaz rfl rfl ?_ | refine ZaG rfl rfl rfl (by (conv=>lhs;whnf);try rfl) (by (conv=>lhs;whnf);try rfl) (by rfl) (by rfl) (Nat.le_of_ble_eq_true rfl) (by (conv=>lhs;whnf);try rfl) ?_ | refine Zaa rfl rfl rfl (by rfl) (by decide) (by (conv=>lhs;whnf);try rfl) ?_ | refine Zc ?_ | refine Zh ?_ | refine Za ?_ | refine ZaX ?_ | refine Zw ?_ | refine ZcR ?_)
      exact Zab (f,c - 3,⟨kind,tag,count - 3,[Node.cs ⟨5,0,⟨#[]⟩,list,[]⟩],none⟩,r1) 2 ⟨hfn,h⟩ (Nat.lt_succ_self _) (Shift.trans (Zb8 1001 66 4 111 3 rfl rfl rfl) (Shift.trans (Zci (t:=66) rfl) (Zce (10,3) (11,0) 65 66 νb rfl ⟨rfl,rfl,trivial⟩ rfl rfl rfl rfl rfl rfl (ZcJ (A:=[_,_,_,_,_,_,_,_,_,_,_,_,_]) rfl))))
     ·refine Zao (Zde 1003 pre.length 2 rfl (ZaT _ _ _ _) rfl (Zdh rfl) (ZiY _ _ _ _)) ?_ (List.cons_ne_nil _ _)
      refine Zao (Zd3 (b:=1001) (u:=8) (by omega) rfl rfl rfl Zfe) ?_ (List.cons_ne_nil _ _)
      repeat (first | refine Zm rfl (by (conv=>lhs;whnf);try rfl) ?_ | refine Zz rfl rfl rfl ?_ | refine Zi rfl rfl ?_ | refine Zaz rfl rfl ?_ | refine ZaG rfl rfl rfl (by (conv=>lhs;whnf);try rfl) (by (conv=>lhs;whnf);try rfl) (by rfl) (by rfl) (Nat.le_of_ble_eq_true rfl) (by (conv=>lhs;whnf);try rfl) ?_ | refine Zaa rfl rfl rfl (by rfl) (by decide) (by (conv=>lhs;whnf);try rfl) ?_ | refine Zc ?_ | refine Zh ?_ | refine Za ?_ | refine ZaX ?_ | refine Zw ?_ | refine ZcR ?_)
      exact Zab (f,c - 3,⟨kind,tag,count - 3,[Node.cs ⟨5,0,⟨#[]⟩,list,(pre ++ [a]).map Arg.cs⟩],none⟩,r1) 2 ⟨hfn,h⟩ (Nat.lt_succ_self _) (Shift.trans (Zb8 1001 66 4 111 3 rfl rfl rfl) (Shift.trans (Zci (t:=66) rfl) (Zce (10,3) (11,0) 65 66 νb rfl ⟨rfl,rfl,trivial⟩ rfl rfl rfl rfl rfl rfl (ZcJ (A:=[_,_,_,_,_,_,_,_,_,_,_,_,_,_,_]) rfl))))
    ·rw [if_neg hm] at h
     rcases r1 with _ | ⟨e2,r2⟩
     ·cases h
     obtain ⟨e4,he4,h⟩:=Option.bind_eq_some_iff.1 h
     have hf2:=Zad (ZaC hf1)
     have hf4:=Zbq (ZaC hf1) (Zh5 hf2 he4)
     rw [decide_eq_false hm]
     refine Zg rfl rfl ?_
     refine Zao (Shift.trans (Zf4 (lits:=[_,_]) (m:=count - 3) rfl) (ZaR νb [_,_] (fun k=>if k=8 then (8,(6,10)) else (k,νb k)) (fun k hk=>if_neg (by omega)) rfl (tm':=[(0,.ptr 0 (0,0) 0),(1,.int .i64 (c - 3)),(5,.ptr 1001 (1,1001) 0),(8,.ptr 8 (1,8) 0)]) ⟨rfl,rfl,rfl,rfl,trivial⟩ (x:=[(8,(6,10),.box [.int .i64 5,.int .i64 0,.str ⟨#[]⟩,.row 1002 (νb 1002),.row 1003 (νb 1003)])]) (x':=[(8,νb 8,.box [.int .i64 5,.int .i64 0,.str ⟨#[]⟩,.row 1002 (νb 1002),.row 1003 (νb 1003)])]) rfl rfl rfl (Zk rfl (ZN _)) rfl)) ?_ (List.cons_ne_nil _ _)
     repeat (first | refine Zm rfl (by (conv=>lhs;whnf);try rfl) ?_ | refine Zh ?_ | refine Za ?_ | refine Zy ?_)
     refine Zep [_] νb (ZnK ⟨kind,tag,count - 3,list,args⟩ e2 r2 (by simp at hr1;omega)) rfl rfl rfl rfl ?_
     refine Zhi ?_
     refine Zao (ZgY (2,1+1000000 * (1000+1)) (1,8) νb (tm':=[(0,.ptr 0 (0,0) 0),(1,.int .i64 (c - 3)),(5,.ptr 300 (1,300) 0),(8,.ptr 8 (1,8) 0)]) ⟨rfl,rfl,rfl,rfl,trivial⟩) ?_ (List.cons_ne_nil _ _)
     repeat (first | refine Zm rfl (by (conv=>lhs;whnf);try rfl) ?_ | refine Zz rfl rfl rfl ?_ | refine Zi rfl rfl ?_ | refine ZQ rfl rfl rfl rfl (by (conv=>lhs;whnf);try rfl) ?_ | refine Zaz rfl rfl ?_ | refine Zc ?_ | refine Zh ?_ | refine Za ?_)
     obtain ⟨e3,h3,he4⟩:=Option.bind_eq_some_iff.1 he4
     by_cases h1:count - 3=1
     ·rw [if_pos h1] at h3
      rw [decide_eq_true h1]
      have hf3:=Zah hf2 h3
      repeat (first | (refine Zr rfl rfl ?_) | (refine Zv [_,_] νb (ZbK e2 r2 _ hf2.1 hf2.2 e3 h3) rfl rfl rfl rfl rfl rfl ?_) | (refine Zv [_,_] (νc _ _) (Zgl e3 r2 _ hf3.1 e4 he4) rfl rfl rfl rfl rfl rfl ?_) | refine Zm rfl (by (conv=>lhs;whnf);try rfl) ?_ | refine Zz rfl rfl rfl ?_ | refine Zc ?_ | refine Za ?_ | refine Zw ?_ | refine ZO ?_)
      exact Zab (f,c - 3,e4,r2) 2 ⟨hf4,h⟩ (Nat.lt_succ_self _) (ZaR (νc 4 2) [_,_] (fun k=>(k,νc 4 2 k)) (fun _ _=>rfl) rfl ⟨rfl,rfl,trivial⟩ (x:=[]) (x':=[]) rfl rfl rfl (ZN _) rfl)
     ·rw [if_neg h1] at h3
      injection h3 with h3
      subst h3
      rw [decide_eq_false h1]
      repeat (first | (refine Zg rfl rfl ?_) | (refine Zv [_,_] νb (Zgl e2 r2 _ hf2.1 e4 he4) rfl rfl rfl rfl rfl rfl ?_) | refine Zm rfl (by (conv=>lhs;whnf);try rfl) ?_ | refine Zz rfl rfl rfl ?_ | refine Zc ?_ | refine Za ?_ | refine Zy ?_ | refine Zw ?_ | refine ZO ?_)
      exact Zab (f,c - 3,e4,r2) 2 ⟨hf4,h⟩ (Nat.lt_succ_self _) (ZaR (νc 3 2) [_,_] (fun k=>(k,νc 3 2 k)) (fun _ _=>rfl) rfl ⟨rfl,rfl,trivial⟩ (x:=[]) (x':=[]) rfl rfl rfl (ZN _) rfl)
   ·have hK:ZbL c count=2:=if_neg (fun h=>hk2 h.2)
    have hN:Ze3 c ⟨kind,tag,count,list,args⟩=⟨4,0,⟨#[]⟩,list,(El.argL ⟨kind,tag,count,list,args⟩).map Arg.cs⟩:=by unfold Ze3;rw [if_neg (fun h=>hk2 h.2)]
    rw [hK,hN] at h
    rw [decide_eq_true hk1]
    repeat (first | refine Zm rfl (by (conv=>lhs;whnf);try rfl) ?_ | refine Zz rfl rfl rfl ?_ | refine Zi rfl rfl ?_ | refine ZQ rfl rfl rfl rfl (by (conv=>lhs;whnf);try rfl) ?_ | refine Zaz rfl rfl ?_ | refine ZaQ rfl rfl (by (conv=>lhs;whnf);try rfl) ?_ | refine Zc ?_)
    rw [decide_eq_false hk2]
    repeat (first | (refine Zg rfl rfl ?_) | (refine Zj2 (a:=c) (b:=2) rfl rfl rfl (by omega) (by omega) ?_) | (refine Zj2 (a:=count) (b:=2) rfl rfl rfl (by omega) (by omega) ?_) | refine Zm rfl (by (conv=>lhs;whnf);try rfl) ?_ | refine Zz rfl rfl rfl ?_ | refine Zi rfl rfl ?_ | refine Zq rfl (by (conv=>lhs;whnf);try rfl) ?_ | refine ZQ rfl rfl rfl rfl (by (conv=>lhs;whnf);try rfl) ?_ | refine Zaz rfl rfl ?_ | refine ZcK rfl rfl ?_ | refine ZaG rfl rfl rfl (by (conv=>lhs;whnf);try rfl) (by (conv=>lhs;whnf);try rfl) (by rfl) (by rfl) (Nat.le_of_ble_eq_true rfl) (by (conv=>lhs;whnf);try rfl) ?_ | refine Zbm rfl rfl ?_ | refine Zc ?_ | refine Zb2 (by kernel_rfl) ?_ | refine Zh ?_ | refine Za ?_ | refine Zy ?_)
    by_cases hm:2≤count - 2
    ·rw [if_pos hm] at h
     rw [decide_eq_true hm]
     refine Zr rfl rfl ?_
     have hfn:fits ⟨kind,tag,count - 2,[Node.cs ⟨4,0,⟨#[]⟩,list,(El.argL ⟨kind,tag,count,list,args⟩).map Arg.cs⟩],none⟩ r1:=Zbq hf1 ⟨⟨by omega,fun q hq=>by cases hq⟩,by show 1≤9223372036854775807;omega⟩
     rcases args with _ | ⟨pre,a⟩
     ·refine Zao (Zd3 (b:=1001) (u:=8) (by omega) rfl rfl rfl (fun e he=>absurd he List.not_mem_nil)) ?_ (List.cons_ne_nil _ _)
      repeat (first | refine Zm rfl (by (conv=>lhs;whnf);try rfl) ?_ | refine Zz rfl rfl rfl ?_ | refine Zi rfl rfl ?_ | refine Zaz rfl rfl ?_ | refine ZaG rfl rfl rfl (by (conv=>lhs;whnf);try rfl) (by (conv=>lhs;whnf);try rfl) (by rfl) (by rfl) (Nat.le_of_ble_eq_true rfl) (by (conv=>lhs;whnf);try rfl) ?_ | refine Zaa rfl rfl rfl (by rfl) (by decide) (by (conv=>lhs;whnf);try rfl) ?_ | refine Zc ?_ | refine Zh ?_ | refine Za ?_ | refine ZaX ?_ | refine Zw ?_ | refine ZcR ?_)
      exact Zab (f,c - 2,⟨kind,tag,count - 2,[Node.cs ⟨4,0,⟨#[]⟩,list,[]⟩],none⟩,r1) 2 ⟨hfn,h⟩ (Nat.lt_succ_self _) (Shift.trans (Zb8 1001 66 4 111 3 rfl rfl rfl) (Shift.trans (Zci (t:=66) rfl) (Zce (9,3) (10,0) 65 66 νb rfl ⟨rfl,rfl,trivial⟩ rfl rfl rfl rfl rfl rfl (ZcJ (A:=[_,_,_,_,_,_,_,_,_,_,_,_,_]) rfl))))
     ·refine Zao (Zde 1003 pre.length 2 rfl (ZaT _ _ _ _) rfl (Zdh rfl) (ZiY _ _ _ _)) ?_ (List.cons_ne_nil _ _)
      refine Zao (Zd3 (b:=1001) (u:=8) (by omega) rfl rfl rfl Zfe) ?_ (List.cons_ne_nil _ _)
      repeat (first | refine Zm rfl (by (conv=>lhs;whnf);try rfl) ?_ | refine Zz rfl rfl rfl ?_ | refine Zi rfl rfl ?_ | refine Zaz rfl rfl ?_ | refine ZaG rfl rfl rfl (by (conv=>lhs;whnf);try rfl) (by (conv=>lhs;whnf);try rfl) (by rfl) (by rfl) (Nat.le_of_ble_eq_true rfl) (by (conv=>lhs;whnf);try rfl) ?_ | refine Zaa rfl rfl rfl (by rfl) (by decide) (by (conv=>lhs;whnf);try rfl) ?_ | refine Zc ?_ | refine Zh ?_ | refine Za ?_ | refine ZaX ?_ | refine Zw ?_ | refine ZcR ?_)
      exact Zab (f,c - 2,⟨kind,tag,count - 2,[Node.cs ⟨4,0,⟨#[]⟩,list,(pre ++ [a]).map Arg.cs⟩],none⟩,r1) 2 ⟨hfn,h⟩ (Nat.lt_succ_self _) (Shift.trans (Zb8 1001 66 4 111 3 rfl rfl rfl) (Shift.trans (Zci (t:=66) rfl) (Zce (9,3) (10,0) 65 66 νb rfl ⟨rfl,rfl,trivial⟩ rfl rfl rfl rfl rfl rfl (ZcJ (A:=[_,_,_,_,_,_,_,_,_,_,_,_,_,_,_]) rfl))))
    ·rw [if_neg hm] at h
     rcases r1 with _ | ⟨e2,r2⟩
     ·cases h
     obtain ⟨e4,he4,h⟩:=Option.bind_eq_some_iff.1 h
     have hf2:=Zad (ZaC hf1)
     have hf4:=Zbq (ZaC hf1) (Zh5 hf2 he4)
     rw [decide_eq_false hm]
     refine Zg rfl rfl ?_
     refine Zao (Shift.trans (Zf4 (lits:=[_,_]) (m:=count - 2) rfl) (ZaR νb [_,_] (fun k=>if k=8 then (8,(5,10)) else (k,νb k)) (fun k hk=>if_neg (by omega)) rfl (tm':=[(0,.ptr 0 (0,0) 0),(1,.int .i64 (c - 2)),(5,.ptr 1001 (1,1001) 0),(8,.ptr 8 (1,8) 0)]) ⟨rfl,rfl,rfl,rfl,trivial⟩ (x:=[(8,(5,10),.box [.int .i64 4,.int .i64 0,.str ⟨#[]⟩,.row 1002 (νb 1002),.row 1003 (νb 1003)])]) (x':=[(8,νb 8,.box [.int .i64 4,.int .i64 0,.str ⟨#[]⟩,.row 1002 (νb 1002),.row 1003 (νb 1003)])]) rfl rfl rfl (Zk rfl (ZN _)) rfl)) ?_ (List.cons_ne_nil _ _)
     repeat (first | refine Zm rfl (by (conv=>lhs;whnf);try rfl) ?_ | refine Zh ?_ | refine Za ?_ | refine Zy ?_)
     refine Zep [_] νb (ZnK ⟨kind,tag,count - 2,list,args⟩ e2 r2 (by simp at hr1;omega)) rfl rfl rfl rfl ?_
     refine Zhi ?_
     refine Zao (ZgY (2,1+1000000 * (1000+1)) (1,8) νb (tm':=[(0,.ptr 0 (0,0) 0),(1,.int .i64 (c - 2)),(5,.ptr 300 (1,300) 0),(8,.ptr 8 (1,8) 0)]) ⟨rfl,rfl,rfl,rfl,trivial⟩) ?_ (List.cons_ne_nil _ _)
     repeat (first | refine Zm rfl (by (conv=>lhs;whnf);try rfl) ?_ | refine Zz rfl rfl rfl ?_ | refine Zi rfl rfl ?_ | refine ZQ rfl rfl rfl rfl (by (conv=>lhs;whnf);try rfl) ?_ | refine Zaz rfl rfl ?_ | refine Zc ?_ | refine Zh ?_ | refine Za ?_)
     obtain ⟨e3,h3,he4⟩:=Option.bind_eq_some_iff.1 he4
     by_cases h1:count - 2=1
     ·rw [if_pos h1] at h3
      rw [decide_eq_true h1]
      have hf3:=Zah hf2 h3
      repeat (first | (refine Zr rfl rfl ?_) | (refine Zv [_,_] νb (ZbK e2 r2 _ hf2.1 hf2.2 e3 h3) rfl rfl rfl rfl rfl rfl ?_) | (refine Zv [_,_] (νc _ _) (Zgl e3 r2 _ hf3.1 e4 he4) rfl rfl rfl rfl rfl rfl ?_) | refine Zm rfl (by (conv=>lhs;whnf);try rfl) ?_ | refine Zz rfl rfl rfl ?_ | refine Zc ?_ | refine Za ?_ | refine Zw ?_ | refine ZO ?_)
      exact Zab (f,c - 2,e4,r2) 2 ⟨hf4,h⟩ (Nat.lt_succ_self _) (ZaR (νc 4 2) [_,_] (fun k=>(k,νc 4 2 k)) (fun _ _=>rfl) rfl ⟨rfl,rfl,trivial⟩ (x:=[]) (x':=[]) rfl rfl rfl (ZN _) rfl)
     ·rw [if_neg h1] at h3
      injection h3 with h3
      subst h3
      rw [decide_eq_false h1]
      repeat (first | (refine Zg rfl rfl ?_) | (refine Zv [_,_] νb (Zgl e2 r2 _ hf2.1 e4 he4) rfl rfl rfl rfl rfl rfl ?_) | refine Zm rfl (by (conv=>lhs;whnf);try rfl) ?_ | refine Zz rfl rfl rfl ?_ | refine Zc ?_ | refine Za ?_ | refine Zy ?_ | refine Zw ?_ | refine ZO ?_)
      exact Zab (f,c - 2,e4,r2) 2 ⟨hf4,h⟩ (Nat.lt_succ_self _) (ZaR (νc 3 2) [_,_] (fun k=>(k,νc 3 2 k)) (fun _ _=>rfl) rfl ⟨rfl,rfl,trivial⟩ (x:=[]) (x':=[]) rfl rfl rfl (ZN _) rfl)
  ·have hK:ZbL c count=2:=if_neg (fun h=>hk1 h.1)
   have hN:Ze3 c ⟨kind,tag,count,list,args⟩=⟨4,0,⟨#[]⟩,list,(El.argL ⟨kind,tag,count,list,args⟩).map Arg.cs⟩:=by unfold Ze3;rw [if_neg (fun h=>hk1 h.1)]
   rw [hK,hN] at h
   rw [decide_eq_false hk1]
   repeat (first | (refine ZI rfl ?_) | (refine Zg rfl rfl ?_) | (refine Zj2 (a:=c) (b:=2) rfl rfl rfl (by omega) (by omega) ?_) | (refine Zj2 (a:=count) (b:=2) rfl rfl rfl (by omega) (by omega) ?_) | refine Zm rfl (by (conv=>lhs;whnf);try rfl) ?_ | refine Zz rfl rfl rfl ?_ | refine Zi rfl rfl ?_ | refine Zq rfl (by (conv=>lhs;whnf);try rfl) ?_ | refine ZQ rfl rfl rfl rfl (by (conv=>lhs;whnf);try rfl) ?_ | refine Zaz rfl rfl ?_ | refine ZcK rfl rfl ?_ | refine ZaG rfl rfl rfl (by (conv=>lhs;whnf);try rfl) (by (conv=>lhs;whnf);try rfl) (by rfl) (by rfl) (Nat.le_of_ble_eq_true rfl) (by (conv=>lhs;whnf);try rfl) ?_ | refine Zbm rfl rfl ?_ | refine ZaQ rfl rfl (by (conv=>lhs;whnf);try rfl) ?_ | refine Zc ?_ | refine Zb2 (by kernel_rfl) ?_ | refine Zh ?_ | refine Za ?_ | refine Zy ?_)
   by_cases hm:2≤count - 2
   ·rw [if_pos hm] at h
    rw [decide_eq_true hm]
    refine Zr rfl rfl ?_
    have hfn:fits ⟨kind,tag,count - 2,[Node.cs ⟨4,0,⟨#[]⟩,list,(El.argL ⟨kind,tag,count,list,args⟩).map Arg.cs⟩],none⟩ r1:=Zbq hf1 ⟨⟨by omega,fun q hq=>by cases hq⟩,by show 1≤9223372036854775807;omega⟩
    rcases args with _ | ⟨pre,a⟩
    ·refine Zao (Zd3 (b:=1001) (u:=8) (by omega) rfl rfl rfl (fun e he=>absurd he List.not_mem_nil)) ?_ (List.cons_ne_nil _ _)
     repeat (first | refine Zm rfl (by (conv=>lhs;whnf);try rfl) ?_ | refine Zz rfl rfl rfl ?_ | refine Zi rfl rfl ?_ | refine Zaz rfl rfl ?_ | refine ZaG rfl rfl rfl (by (conv=>lhs;whnf);try rfl) (by (conv=>lhs;whnf);try rfl) (by rfl) (by rfl) (Nat.le_of_ble_eq_true rfl) (by (conv=>lhs;whnf);try rfl) ?_ | refine Zaa rfl rfl rfl (by rfl) (by decide) (by (conv=>lhs;whnf);try rfl) ?_ | refine Zc ?_ | refine Zh ?_ | refine Za ?_ | refine ZaX ?_ | refine Zw ?_ | refine ZcR ?_)
     exact Zab (f,c - 2,⟨kind,tag,count - 2,[Node.cs ⟨4,0,⟨#[]⟩,list,[]⟩],none⟩,r1) 2 ⟨hfn,h⟩ (Nat.lt_succ_self _) (Shift.trans (Zb8 1001 66 4 111 3 rfl rfl rfl) (Shift.trans (Zci (t:=66) rfl) (Zce (9,3) (10,0) 65 66 νb rfl ⟨rfl,rfl,trivial⟩ rfl rfl rfl rfl rfl rfl (ZcJ (A:=[_,_,_,_,_,_,_,_,_,_,_,_,_]) rfl))))
    ·refine Zao (Zde 1003 pre.length 2 rfl (ZaT _ _ _ _) rfl (Zdh rfl) (ZiY _ _ _ _)) ?_ (List.cons_ne_nil _ _)
     refine Zao (Zd3 (b:=1001) (u:=8) (by omega) rfl rfl rfl Zfe) ?_ (List.cons_ne_nil _ _)
     repeat (first | refine Zm rfl (by (conv=>lhs;whnf);try rfl) ?_ | refine Zz rfl rfl rfl ?_ | refine Zi rfl rfl ?_ | refine Zaz rfl rfl ?_ | refine ZaG rfl rfl rfl (by (conv=>lhs;whnf);try rfl) (by (conv=>lhs;whnf);try rfl) (by rfl) (by rfl) (Nat.le_of_ble_eq_true rfl) (by (conv=>lhs;whnf);try rfl) ?_ | refine Zaa rfl rfl rfl (by rfl) (by decide) (by (conv=>lhs;whnf);try rfl) ?_ | refine Zc ?_ | refine Zh ?_ | refine Za ?_ | refine ZaX ?_ | refine Zw ?_ | refine ZcR ?_)
     exact Zab (f,c - 2,⟨kind,tag,count - 2,[Node.cs ⟨4,0,⟨#[]⟩,list,(pre ++ [a]).map Arg.cs⟩],none⟩,r1) 2 ⟨hfn,h⟩ (Nat.lt_succ_self _) (Shift.trans (Zb8 1001 66 4 111 3 rfl rfl rfl) (Shift.trans (Zci (t:=66) rfl) (Zce (9,3) (10,0) 65 66 νb rfl ⟨rfl,rfl,trivial⟩ rfl rfl rfl rfl rfl rfl (ZcJ (A:=[_,_,_,_,_,_,_,_,_,_,_,_,_,_,_]) rfl))))
   ·rw [if_neg hm] at h
    rcases r1 with _ | ⟨e2,r2⟩
    ·cases h
    obtain ⟨e4,he4,h⟩:=Option.bind_eq_some_iff.1 h
    have hf2:=Zad (ZaC hf1)
    have hf4:=Zbq (ZaC hf1) (Zh5 hf2 he4)
    rw [decide_eq_false hm]
    refine Zg rfl rfl ?_
    refine Zao (Shift.trans (Zf4 (lits:=[_,_]) (m:=count - 2) rfl) (ZaR νb [_,_] (fun k=>if k=8 then (8,(5,10)) else (k,νb k)) (fun k hk=>if_neg (by omega)) rfl (tm':=[(0,.ptr 0 (0,0) 0),(1,.int .i64 (c - 2)),(5,.ptr 1001 (1,1001) 0),(8,.ptr 8 (1,8) 0)]) ⟨rfl,rfl,rfl,rfl,trivial⟩ (x:=[(8,(5,10),.box [.int .i64 4,.int .i64 0,.str ⟨#[]⟩,.row 1002 (νb 1002),.row 1003 (νb 1003)])]) (x':=[(8,νb 8,.box [.int .i64 4,.int .i64 0,.str ⟨#[]⟩,.row 1002 (νb 1002),.row 1003 (νb 1003)])]) rfl rfl rfl (Zk rfl (ZN _)) rfl)) ?_ (List.cons_ne_nil _ _)
    repeat (first | refine Zm rfl (by (conv=>lhs;whnf);try rfl) ?_ | refine Zh ?_ | refine Za ?_ | refine Zy ?_)
    refine Zep [_] νb (ZnK ⟨kind,tag,count - 2,list,args⟩ e2 r2 (by simp at hr1;omega)) rfl rfl rfl rfl ?_
    refine Zhi ?_
    refine Zao (ZgY (2,1+1000000 * (1000+1)) (1,8) νb (tm':=[(0,.ptr 0 (0,0) 0),(1,.int .i64 (c - 2)),(5,.ptr 300 (1,300) 0),(8,.ptr 8 (1,8) 0)]) ⟨rfl,rfl,rfl,rfl,trivial⟩) ?_ (List.cons_ne_nil _ _)
    repeat (first | refine Zm rfl (by (conv=>lhs;whnf);try rfl) ?_ | refine Zz rfl rfl rfl ?_ | refine Zi rfl rfl ?_ | refine ZQ rfl rfl rfl rfl (by (conv=>lhs;whnf);try rfl) ?_ | refine Zaz rfl rfl ?_ | refine Zc ?_ | refine Zh ?_ | refine Za ?_)
    obtain ⟨e3,h3,he4⟩:=Option.bind_eq_some_iff.1 he4
    by_cases h1:count - 2=1
    ·rw [if_pos h1] at h3
     rw [decide_eq_true h1]
     have hf3:=Zah hf2 h3
     repeat (first | (refine Zr rfl rfl ?_) | (refine Zv [_,_] νb (ZbK e2 r2 _ hf2.1 hf2.2 e3 h3) rfl rfl rfl rfl rfl rfl ?_) | (refine Zv [_,_] (νc _ _) (Zgl e3 r2 _ hf3.1 e4 he4) rfl rfl rfl rfl rfl rfl ?_) | refine Zm rfl (by (conv=>lhs;whnf);try rfl) ?_ | refine Zz rfl rfl rfl ?_ | refine Zc ?_ | refine Za ?_ | refine Zw ?_ | refine ZO ?_)
     exact Zab (f,c - 2,e4,r2) 2 ⟨hf4,h⟩ (Nat.lt_succ_self _) (ZaR (νc 4 2) [_,_] (fun k=>(k,νc 4 2 k)) (fun _ _=>rfl) rfl ⟨rfl,rfl,trivial⟩ (x:=[]) (x':=[]) rfl rfl rfl (ZN _) rfl)
    ·rw [if_neg h1] at h3
     injection h3 with h3
     subst h3
     rw [decide_eq_false h1]
     repeat (first | (refine Zg rfl rfl ?_) | (refine Zv [_,_] νb (Zgl e2 r2 _ hf2.1 e4 he4) rfl rfl rfl rfl rfl rfl ?_) | refine Zm rfl (by (conv=>lhs;whnf);try rfl) ?_ | refine Zz rfl rfl rfl ?_ | refine Zc ?_ | refine Za ?_ | refine Zy ?_ | refine Zw ?_ | refine ZO ?_)
     exact Zab (f,c - 2,e4,r2) 2 ⟨hf4,h⟩ (Nat.lt_succ_self _) (ZaR (νc 3 2) [_,_] (fun k=>(k,νc 3 2 k)) (fun _ _=>rfl) rfl ⟨rfl,rfl,trivial⟩ (x:=[]) (x':=[]) rfl rfl rfl (ZN _) rfl)
end Go.Proofs.YtmgfammllddkhaaGreatDoor
