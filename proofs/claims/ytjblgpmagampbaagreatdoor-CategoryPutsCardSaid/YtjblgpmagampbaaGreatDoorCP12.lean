/- The parser's text: it is joined to the text before it, or a node is appended. | The parser's pop, open, bar and equal. | The parser's bar and equal. | The parser's nodes. | What is taken off the parser's stack: the call, and the element made plain. No program is named. | Braces that close: the top's rows made plain with the node that is made of them. No program is named. | The parser's closeLink and flatten. | The parser's lastBrace and closeTag. | The parser's closeTag. | The parser's closeBraces. | The parser's take: what a token does. | The parser's take, walked. | The parser's Parse. | tree.Plain: a list of nodes that is plain text. -/
import Derived.Test.YtjblgpmagampbaaGreatDoorCP11
import Derived.Test.YtjblgpmagampbaaGreatDoorCP02
import Derived.Test.YtjblgpmagampbaaGreatDoorCP07
import Derived.Test.YtjblgpmagampbaaGreatDoorCP05
import Derived.Test.YtjblgpmagampbaaGreatDoorCP04
namespace Go.Proofs.YtjblgpmagampbaaGreatDoor
open VL
theorem Zcr {α:Type} (l:List α) (a:α):(l ++ [a]).length=l.length+1:=by simp
set_option maxRecDepth 100000 in
set_option maxHeartbeats 1000000 in
theorem Zo8 (e:El) (r:List El):PC 240 [.str ⟨#[]⟩] e r (.tup []) e r:=by
 refine Zy mix Tryz.func240 (by kernel_rfl) rfl (by kernel_rfl) ?_
 rw [ZbF]
 repeat (first | (refine Zo rfl rfl ?_) | refine Zm rfl (by (conv=>lhs;whnf);try rfl) ?_ | refine ZhU rfl rfl rfl rfl (by (conv=>lhs;whnf);try rfl) ?_ | refine Zc ?_ | refine Zh ?_ | refine Za ?_ | refine ZaY ?_)
 exact Zbj (.inl rfl) νa [] [] rfl rfl trivial rfl rfl
set_option maxRecDepth 100000 in
set_option maxHeartbeats 1000000 in
theorem ZnL (e:El) (r:List El) (s:ByteArray) (h0:s≠⟨#[]⟩) (hs:small e r) (l':List (List PV)) (ha:e.args=none) (h63:e.list.length≤9223372036854775807) (hR:ZnP e.list s=some l'):PC 240 [.str s] e r (.tup []) ⟨e.kind,e.tag,e.count,l',e.args⟩ r:=by
 refine Zy mix Tryz.func240 (by kernel_rfl) rfl (by kernel_rfl) ?_
 rw [ZbF]
 have h:e.kind≠3∨e.args=none:=.inr ha
 obtain ⟨kind,tag,count,list,args⟩:=e
 obtain rfl:args=none:=ha
 simp only [] at h63
 repeat (first | refine Zm rfl (by (conv=>lhs;whnf);try rfl) ?_ | refine ZhU rfl rfl rfl rfl (by (conv=>lhs;whnf);try rfl) ?_ | refine Zc ?_ | refine Zh ?_ | refine Za ?_)
 rw [decide_eq_false h0]
 rcases ZeL hR with ⟨hl,hR⟩ | ⟨init,n,hl,⟨hk,y,hy,rfl⟩ | ⟨hk,hR⟩⟩
 ·obtain ⟨h1,h2,rfl⟩:=Zb0 hR
  dsimp only at hl
  subst hl
  repeat (first | (refine Zf rfl rfl ?_) | (refine ZO [] νa (Zc7 _ r hs.1) rfl rfl rfl rfl rfl rfl ?_) | (refine Zbu [] νa (Zbp _ h hs.2) rfl rfl rfl rfl rfl ?_) | (refine Za2 rfl rfl rfl rfl h1 h2 (by rfl) ?_) | (refine Zaf (n:=List.length ([]:List (List PV))) rfl rfl rfl rfl (by simp) ?_) | (refine Zbv rfl rfl rfl (Zbc _ _) rfl rfl rfl rfl (Nat.le_of_ble_eq_true rfl) rfl (ZbE _ _ _) ?_) | (refine ZI rfl ?_) | refine Zm rfl (by (conv=>lhs;whnf);try rfl) ?_ | refine ZA rfl rfl rfl ?_ | refine Zn rfl (by (conv=>lhs;whnf);try rfl) ?_ | refine ZL rfl rfl rfl rfl (by (conv=>lhs;whnf);try rfl) ?_ | refine Zak rfl rfl ?_ | refine ZgT rfl rfl ?_ | refine Zap rfl rfl rfl (by (conv=>lhs;whnf);try rfl) (by (conv=>lhs;whnf);try rfl) (by rfl) (by rfl) (Nat.le_of_ble_eq_true rfl) (by (conv=>lhs;whnf);try rfl) ?_ | refine Zbg rfl rfl ?_ | refine ZP rfl rfl rfl (by rfl) (by decide) (by (conv=>lhs;whnf);try rfl) ?_ | refine ZaL rfl rfl (by (conv=>lhs;whnf);try rfl) ?_ | refine Zc ?_ | refine ZbS (by kernel_rfl) ?_ | refine Zh ?_ | refine Za ?_ | refine Zz ?_ | refine Zx ?_)
  exact ZdN (.inr rfl) (0,0) (0,1000) (fun k=>if k=1002 then (5,7) else νa k) νa [_,_,_,_] [] rfl rfl trivial rfl rfl (Zk rfl (Zk rfl (Zk rfl (ZH _)))) rfl rfl
 ·dsimp only at hl
  subst hl
  rw [Zcr] at h63
  obtain ⟨k0,t0,s0,ks,ag⟩:=n
  dsimp only at hk hy
  subst hk
  repeat (first | (refine Zf rfl rfl ?_) | (refine ZO [] νa (Zc7 _ r hs.1) rfl rfl rfl rfl rfl rfl ?_) | (refine Zbu [] νa (Zbp _ h hs.2) rfl rfl rfl rfl rfl ?_) | (refine ZaW rfl rfl (Zcr _ _) ?_) | refine Zm rfl (by (conv=>lhs;whnf);try rfl) ?_ | refine ZA rfl rfl rfl ?_ | refine Zn rfl (by (conv=>lhs;whnf);try rfl) ?_ | refine ZL rfl rfl rfl rfl (by (conv=>lhs;whnf);try rfl) ?_ | refine Zak rfl rfl ?_ | refine Zc ?_ | refine Zh ?_ | refine Za ?_ | refine Zz ?_)
  rw [show decide ((0:Int)<((init.length+1:Nat):Int))=true from decide_eq_true (by omega)]
  repeat (first | (refine Zo rfl rfl ?_) | (refine ZfU rfl rfl rfl (by omega) ?_) | (refine Zaf (n:=init.length) rfl rfl rfl rfl (by simp) ?_) | (refine ZfH rfl rfl rfl (Zbc _ _) rfl ?_) | (refine ZmS rfl hy rfl rfl ?_) | (refine Zbv rfl rfl rfl (Zbc _ _) rfl rfl rfl rfl (Nat.le_of_ble_eq_true rfl) rfl (ZbE _ _ _) ?_) | refine Zm rfl (by (conv=>lhs;whnf);try rfl) ?_ | refine ZA rfl rfl rfl ?_ | refine Zi rfl rfl ?_ | refine ZL rfl rfl rfl rfl (by (conv=>lhs;whnf);try rfl) ?_ | refine Zak rfl rfl ?_ | refine ZaL rfl rfl (by (conv=>lhs;whnf);try rfl) ?_ | refine Zc ?_ | refine Zh ?_ | refine Za ?_ | refine ZaY ?_)
  exact ZdN (.inl rfl) (0,0) (0,1000) νa νa [_] [] rfl rfl trivial rfl rfl (Zk rfl (Zk rfl (Zk rfl (ZH _)))) rfl rfl
 ·obtain ⟨h1,h2,rfl⟩:=Zb0 hR
  dsimp only at hl
  subst hl
  rw [Zcr] at h63
  repeat (first | (refine Zf rfl rfl ?_) | (refine ZO [] νa (Zc7 _ r hs.1) rfl rfl rfl rfl rfl rfl ?_) | (refine Zbu [] νa (Zbp _ h hs.2) rfl rfl rfl rfl rfl ?_) | (refine ZaW rfl rfl (Zcr _ _) ?_) | refine Zm rfl (by (conv=>lhs;whnf);try rfl) ?_ | refine ZA rfl rfl rfl ?_ | refine Zn rfl (by (conv=>lhs;whnf);try rfl) ?_ | refine ZL rfl rfl rfl rfl (by (conv=>lhs;whnf);try rfl) ?_ | refine Zak rfl rfl ?_ | refine Zc ?_ | refine Zh ?_ | refine Za ?_ | refine Zz ?_)
  rw [show decide ((0:Int)<((init.length+1:Nat):Int))=true from decide_eq_true (by omega)]
  repeat (first | (refine ZfU rfl rfl rfl (by omega) ?_) | (refine Zaf (n:=init.length) rfl rfl rfl rfl (by simp) ?_) | (refine ZfH rfl rfl rfl (Zbc _ _) rfl ?_) | refine Zm rfl (by (conv=>lhs;whnf);try rfl) ?_ | refine ZA rfl rfl rfl ?_ | refine Zi rfl rfl ?_ | refine ZL rfl rfl rfl rfl (by (conv=>lhs;whnf);try rfl) ?_ | refine Zak rfl rfl ?_ | refine ZaL rfl rfl (by (conv=>lhs;whnf);try rfl) ?_ | refine Zc ?_)
  rw [decide_eq_false hk]
  repeat (first | (refine Zf rfl rfl ?_) | (refine Za2 rfl rfl rfl rfl h1 h2 (by rfl) ?_) | (refine Zaf (n:=List.length (init ++ [Node.cs n])) rfl rfl rfl rfl (by simp) ?_) | (refine Zbv rfl rfl rfl (Zbc _ _) rfl rfl rfl rfl (Nat.le_of_ble_eq_true rfl) rfl (ZbE _ _ _) ?_) | refine Zm rfl (by (conv=>lhs;whnf);try rfl) ?_ | refine ZA rfl rfl rfl ?_ | refine Zak rfl rfl ?_ | refine ZgT rfl rfl ?_ | refine Zap rfl rfl rfl (by (conv=>lhs;whnf);try rfl) (by (conv=>lhs;whnf);try rfl) (by rfl) (by rfl) (Nat.le_of_ble_eq_true rfl) (by (conv=>lhs;whnf);try rfl) ?_ | refine Zbg rfl rfl ?_ | refine ZP rfl rfl rfl (by rfl) (by decide) (by (conv=>lhs;whnf);try rfl) ?_ | refine ZbS (by kernel_rfl) ?_ | refine Za ?_ | refine Zz ?_ | refine Zx ?_)
  exact ZdN (.inr rfl) (0,0) (0,1000) (fun k=>if k=1002 then (5,7) else νa k) νa [_,_,_,_] [] rfl rfl trivial rfl rfl (Zk rfl (Zk rfl (Zk rfl (ZH _)))) rfl rfl
set_option maxRecDepth 100000 in
set_option maxHeartbeats 1000000 in
theorem ZnM (e:El) (r:List El) (s:ByteArray) (h0:s≠⟨#[]⟩) (hs:small e r) (l':List (List PV)) (h:e.kind≠3∨e.args=none) (ha:e.args≠none) (h63:e.list.length≤9223372036854775807) (hR:ZnP e.list s=some l'):PC 240 [.str s] e r (.tup []) ⟨e.kind,e.tag,e.count,l',e.args⟩ r:=by
 refine Zy mix Tryz.func240 (by kernel_rfl) rfl (by kernel_rfl) ?_
 rw [ZbF]
 obtain ⟨kind,tag,count,list,args⟩:=e
 rcases args with _ | ⟨pre,a⟩
 ·exact absurd rfl ha
 simp only [] at h63
 repeat (first | refine Zm rfl (by (conv=>lhs;whnf);try rfl) ?_ | refine ZhU rfl rfl rfl rfl (by (conv=>lhs;whnf);try rfl) ?_ | refine Zc ?_ | refine Zh ?_ | refine Za ?_)
 rw [decide_eq_false h0]
 rcases ZeL hR with ⟨hl,hR⟩ | ⟨init,n,hl,⟨hk,y,hy,rfl⟩ | ⟨hk,hR⟩⟩
 ·obtain ⟨h1,h2,rfl⟩:=Zb0 hR
  dsimp only at hl
  subst hl
  repeat (first | (refine Zf rfl rfl ?_) | (refine ZO [] νa (Zc7 _ r hs.1) rfl rfl rfl rfl rfl rfl ?_) | (refine Zbu [] νa (Zbp _ h hs.2) rfl rfl rfl rfl rfl ?_) | (refine Za2 rfl rfl rfl rfl h1 h2 (by rfl) ?_) | (refine Zaf (n:=List.length ([]:List (List PV))) rfl rfl rfl rfl (by simp) ?_) | (refine Zbv rfl rfl rfl (Zbc _ _) rfl rfl rfl rfl (Nat.le_of_ble_eq_true rfl) rfl (ZbE _ _ _) ?_) | (refine ZI rfl ?_) | refine Zm rfl (by (conv=>lhs;whnf);try rfl) ?_ | refine ZA rfl rfl rfl ?_ | refine Zn rfl (by (conv=>lhs;whnf);try rfl) ?_ | refine ZL rfl rfl rfl rfl (by (conv=>lhs;whnf);try rfl) ?_ | refine Zak rfl rfl ?_ | refine ZgT rfl rfl ?_ | refine Zap rfl rfl rfl (by (conv=>lhs;whnf);try rfl) (by (conv=>lhs;whnf);try rfl) (by rfl) (by rfl) (Nat.le_of_ble_eq_true rfl) (by (conv=>lhs;whnf);try rfl) ?_ | refine Zbg rfl rfl ?_ | refine ZP rfl rfl rfl (by rfl) (by decide) (by (conv=>lhs;whnf);try rfl) ?_ | refine ZaL rfl rfl (by (conv=>lhs;whnf);try rfl) ?_ | refine Zc ?_ | refine ZbS (by kernel_rfl) ?_ | refine Zh ?_ | refine Za ?_ | refine Zz ?_ | refine Zx ?_)
  exact ZdN (.inr rfl) (0,0) (0,1000) (fun k=>if k=1002 then (5,7) else νa k) νa [_,_,_,_] [] rfl rfl trivial rfl rfl (Zk rfl (Zk rfl (Zk rfl (Zk rfl (ZH _))))) rfl rfl
 ·dsimp only at hl
  subst hl
  rw [Zcr] at h63
  obtain ⟨k0,t0,s0,ks,ag⟩:=n
  dsimp only at hk hy
  subst hk
  repeat (first | (refine Zf rfl rfl ?_) | (refine ZO [] νa (Zc7 _ r hs.1) rfl rfl rfl rfl rfl rfl ?_) | (refine Zbu [] νa (Zbp _ h hs.2) rfl rfl rfl rfl rfl ?_) | (refine ZaW rfl rfl (Zcr _ _) ?_) | refine Zm rfl (by (conv=>lhs;whnf);try rfl) ?_ | refine ZA rfl rfl rfl ?_ | refine Zn rfl (by (conv=>lhs;whnf);try rfl) ?_ | refine ZL rfl rfl rfl rfl (by (conv=>lhs;whnf);try rfl) ?_ | refine Zak rfl rfl ?_ | refine Zc ?_ | refine Zh ?_ | refine Za ?_ | refine Zz ?_)
  rw [show decide ((0:Int)<((init.length+1:Nat):Int))=true from decide_eq_true (by omega)]
  repeat (first | (refine Zo rfl rfl ?_) | (refine ZfU rfl rfl rfl (by omega) ?_) | (refine Zaf (n:=init.length) rfl rfl rfl rfl (by simp) ?_) | (refine ZfH rfl rfl rfl (Zbc _ _) rfl ?_) | (refine ZmS rfl hy rfl rfl ?_) | (refine Zbv rfl rfl rfl (Zbc _ _) rfl rfl rfl rfl (Nat.le_of_ble_eq_true rfl) rfl (ZbE _ _ _) ?_) | refine Zm rfl (by (conv=>lhs;whnf);try rfl) ?_ | refine ZA rfl rfl rfl ?_ | refine Zi rfl rfl ?_ | refine ZL rfl rfl rfl rfl (by (conv=>lhs;whnf);try rfl) ?_ | refine Zak rfl rfl ?_ | refine ZaL rfl rfl (by (conv=>lhs;whnf);try rfl) ?_ | refine Zc ?_ | refine Zh ?_ | refine Za ?_ | refine ZaY ?_)
  exact ZdN (.inl rfl) (0,0) (0,1000) νa νa [_] [] rfl rfl trivial rfl rfl (Zk rfl (Zk rfl (Zk rfl (Zk rfl (ZH _))))) rfl rfl
 ·obtain ⟨h1,h2,rfl⟩:=Zb0 hR
  dsimp only at hl
  subst hl
  rw [Zcr] at h63
  repeat (first | (refine Zf rfl rfl ?_) | (refine ZO [] νa (Zc7 _ r hs.1) rfl rfl rfl rfl rfl rfl ?_) | (refine Zbu [] νa (Zbp _ h hs.2) rfl rfl rfl rfl rfl ?_) | (refine ZaW rfl rfl (Zcr _ _) ?_) | refine Zm rfl (by (conv=>lhs;whnf);try rfl) ?_ | refine ZA rfl rfl rfl ?_ | refine Zn rfl (by (conv=>lhs;whnf);try rfl) ?_ | refine ZL rfl rfl rfl rfl (by (conv=>lhs;whnf);try rfl) ?_ | refine Zak rfl rfl ?_ | refine Zc ?_ | refine Zh ?_ | refine Za ?_ | refine Zz ?_)
  rw [show decide ((0:Int)<((init.length+1:Nat):Int))=true from decide_eq_true (by omega)]
  repeat (first | (refine ZfU rfl rfl rfl (by omega) ?_) | (refine Zaf (n:=init.length) rfl rfl rfl rfl (by simp) ?_) | (refine ZfH rfl rfl rfl (Zbc _ _) rfl ?_) | refine Zm rfl (by (conv=>lhs;whnf);try rfl) ?_ | refine ZA rfl rfl rfl ?_ | refine Zi rfl rfl ?_ | refine ZL rfl rfl rfl rfl (by (conv=>lhs;whnf);try rfl) ?_ | refine Zak rfl rfl ?_ | refine ZaL rfl rfl (by (conv=>lhs;whnf);try rfl) ?_ | refine Zc ?_)
  rw [decide_eq_false hk]
  repeat (first | (refine Zf rfl rfl ?_) | (refine Za2 rfl rfl rfl rfl h1 h2 (by rfl) ?_) | (refine Zaf (n:=List.length (init ++ [Node.cs n])) rfl rfl rfl rfl (by simp) ?_) | (refine Zbv rfl rfl rfl (Zbc _ _) rfl rfl rfl rfl (Nat.le_of_ble_eq_true rfl) rfl (ZbE _ _ _) ?_) | refine Zm rfl (by (conv=>lhs;whnf);try rfl) ?_ | refine ZA rfl rfl rfl ?_ | refine Zak rfl rfl ?_ | refine ZgT rfl rfl ?_ | refine Zap rfl rfl rfl (by (conv=>lhs;whnf);try rfl) (by (conv=>lhs;whnf);try rfl) (by rfl) (by rfl) (Nat.le_of_ble_eq_true rfl) (by (conv=>lhs;whnf);try rfl) ?_ | refine Zbg rfl rfl ?_ | refine ZP rfl rfl rfl (by rfl) (by decide) (by (conv=>lhs;whnf);try rfl) ?_ | refine ZbS (by kernel_rfl) ?_ | refine Za ?_ | refine Zz ?_ | refine Zx ?_)
  exact ZdN (.inr rfl) (0,0) (0,1000) (fun k=>if k=1002 then (5,7) else νa k) νa [_,_,_,_] [] rfl rfl trivial rfl rfl (Zk rfl (Zk rfl (Zk rfl (Zk rfl (ZH _))))) rfl rfl
set_option maxRecDepth 100000 in
set_option maxHeartbeats 1000000 in
theorem ZqB (tag count:Int) (list:List (List PV)) (pre:List Arg) (a:Arg) (r:List El) (s:ByteArray) (h0:s≠⟨#[]⟩) (hs:small ⟨3,tag,count,list,some (pre,a)⟩ r) (l':List (List PV)) (h63:a.value.length≤9223372036854775807) (hR:ZnP a.value s=some l') :
  PC 240 [.str s] ⟨3,tag,count,list,some (pre,a)⟩ r (.tup []) ⟨3,tag,count,list,some (pre,⟨a.named,a.name,l'⟩)⟩ r:=by
 refine Zy mix Tryz.func240 (by kernel_rfl) rfl (by kernel_rfl) ?_
 rw [ZbF]
 obtain ⟨named,name,value⟩:=a
 dsimp only at h63 hR ⊢
 repeat (first | refine Zm rfl (by (conv=>lhs;whnf);try rfl) ?_ | refine ZhU rfl rfl rfl rfl (by (conv=>lhs;whnf);try rfl) ?_ | refine Zc ?_ | refine Zh ?_ | refine Za ?_)
 rw [decide_eq_false h0]
 rcases ZeL hR with ⟨hl,hR⟩ | ⟨init,n,hl,⟨hk,y,hy,rfl⟩ | ⟨hk,hR⟩⟩
 ·obtain ⟨h1,h2,rfl⟩:=Zb0 hR
  subst hl
  repeat (first | (refine Zf rfl rfl ?_) | (refine ZO [] νa (Zc7 _ r hs.1) rfl rfl rfl rfl rfl rfl ?_) | (refine Zbu [] νa (ZeI _ _ _ _ _ (hs.2 _ rfl)) rfl rfl rfl rfl rfl ?_) | (refine ZiQ rfl rfl ?_) | (refine Zcq rfl rfl rfl (ZaI _ _ _ _) rfl ?_) | (refine Za2 rfl rfl rfl rfl h1 h2 (by rfl) ?_) | (refine Zaf (n:=List.length ([]:List (List PV))) rfl rfl rfl rfl (by simp) ?_) | (refine Zbv rfl rfl rfl (Zbc _ _) rfl rfl rfl rfl (Nat.le_of_ble_eq_true rfl) rfl (ZbE _ _ _) ?_) | (refine Zid rfl rfl rfl (ZaI _ _ _ _) rfl rfl rfl rfl (Nat.le_of_ble_eq_true rfl) (ZfF _ _ _ _ _) ?_) | (refine ZI rfl ?_) | refine Zm rfl (by (conv=>lhs;whnf);try rfl) ?_ | refine Zn rfl (by (conv=>lhs;whnf);try rfl) ?_ | refine ZL rfl rfl rfl rfl (by (conv=>lhs;whnf);try rfl) ?_ | refine ZgT rfl rfl ?_ | refine Zbg rfl rfl ?_ | refine ZP rfl rfl rfl (by rfl) (by decide) (by (conv=>lhs;whnf);try rfl) ?_ | refine ZaL rfl rfl (by (conv=>lhs;whnf);try rfl) ?_ | refine Zc ?_ | refine ZbS (by kernel_rfl) ?_ | refine Zh ?_ | refine Za ?_ | refine Zz ?_ | refine Zx ?_)
  exact ZdN (.inr rfl) (0,0) (0,1000) (fun k=>if k=1004 then (5,7) else νa k) νa [_,_,_,_] [] rfl rfl trivial rfl rfl (Zk rfl (Zk rfl (Zk rfl (Zk rfl (ZH _))))) rfl rfl
 ·skip
  subst hl
  rw [Zcr] at h63
  obtain ⟨k0,t0,s0,ks,ag⟩:=n
  dsimp only at hk hy
  subst hk
  repeat (first | (refine Zf rfl rfl ?_) | (refine ZO [] νa (Zc7 _ r hs.1) rfl rfl rfl rfl rfl rfl ?_) | (refine Zbu [] νa (ZeI _ _ _ _ _ (hs.2 _ rfl)) rfl rfl rfl rfl rfl ?_) | (refine ZiQ rfl rfl ?_) | (refine Zcq rfl rfl rfl (ZaI _ _ _ _) rfl ?_) | (refine ZaW rfl rfl (Zcr _ _) ?_) | refine Zm rfl (by (conv=>lhs;whnf);try rfl) ?_ | refine Zn rfl (by (conv=>lhs;whnf);try rfl) ?_ | refine ZL rfl rfl rfl rfl (by (conv=>lhs;whnf);try rfl) ?_ | refine Zc ?_ | refine Zh ?_ | refine Za ?_ | refine Zz ?_)
  rw [show decide ((0:Int)<((init.length+1:Nat):Int))=true from decide_eq_true (by omega)]
  repeat (first | (refine ZiQ rfl rfl ?_) | (refine Zcq rfl rfl rfl (ZaI _ _ _ _) rfl ?_) | (refine Zo rfl rfl ?_) | (refine ZfU rfl rfl rfl (by omega) ?_) | (refine Zaf (n:=init.length) rfl rfl rfl rfl (by simp) ?_) | (refine ZfH rfl rfl rfl (Zbc _ _) rfl ?_) | (refine ZmS rfl hy rfl rfl ?_) | (refine Zbv rfl rfl rfl (Zbc _ _) rfl rfl rfl rfl (Nat.le_of_ble_eq_true rfl) rfl (ZbE _ _ _) ?_) | refine Zm rfl (by (conv=>lhs;whnf);try rfl) ?_ | refine Zi rfl rfl ?_ | refine ZL rfl rfl rfl rfl (by (conv=>lhs;whnf);try rfl) ?_ | refine ZaL rfl rfl (by (conv=>lhs;whnf);try rfl) ?_ | refine Zc ?_ | refine Zh ?_ | refine Za ?_ | refine ZaY ?_)
  exact ZdN (.inl rfl) (0,0) (0,1000) νa νa [_] [] rfl rfl trivial rfl rfl (Zk rfl (Zk rfl (Zk rfl (Zk rfl (ZH _))))) rfl rfl
 ·obtain ⟨h1,h2,rfl⟩:=Zb0 hR
  subst hl
  rw [Zcr] at h63
  repeat (first | (refine Zf rfl rfl ?_) | (refine ZO [] νa (Zc7 _ r hs.1) rfl rfl rfl rfl rfl rfl ?_) | (refine Zbu [] νa (ZeI _ _ _ _ _ (hs.2 _ rfl)) rfl rfl rfl rfl rfl ?_) | (refine ZiQ rfl rfl ?_) | (refine Zcq rfl rfl rfl (ZaI _ _ _ _) rfl ?_) | (refine ZaW rfl rfl (Zcr _ _) ?_) | refine Zm rfl (by (conv=>lhs;whnf);try rfl) ?_ | refine Zn rfl (by (conv=>lhs;whnf);try rfl) ?_ | refine ZL rfl rfl rfl rfl (by (conv=>lhs;whnf);try rfl) ?_ | refine Zc ?_ | refine Zh ?_ | refine Za ?_ | refine Zz ?_)
  rw [show decide ((0:Int)<((init.length+1:Nat):Int))=true from decide_eq_true (by omega)]
  repeat (first | (refine ZiQ rfl rfl ?_) | (refine Zcq rfl rfl rfl (ZaI _ _ _ _) rfl ?_) | (refine ZfU rfl rfl rfl (by omega) ?_) | (refine Zaf (n:=init.length) rfl rfl rfl rfl (by simp) ?_) | (refine ZfH rfl rfl rfl (Zbc _ _) rfl ?_) | refine Zm rfl (by (conv=>lhs;whnf);try rfl) ?_ | refine Zi rfl rfl ?_ | refine ZL rfl rfl rfl rfl (by (conv=>lhs;whnf);try rfl) ?_ | refine ZaL rfl rfl (by (conv=>lhs;whnf);try rfl) ?_ | refine Zc ?_)
  rw [decide_eq_false hk]
  repeat (first | (refine Zf rfl rfl ?_) | (refine ZiQ rfl rfl ?_) | (refine Zcq rfl rfl rfl (ZaI _ _ _ _) rfl ?_) | (refine Za2 rfl rfl rfl rfl h1 h2 (by rfl) ?_) | (refine Zaf (n:=List.length (init ++ [Node.cs n])) rfl rfl rfl rfl (by simp) ?_) | (refine Zbv rfl rfl rfl (Zbc _ _) rfl rfl rfl rfl (Nat.le_of_ble_eq_true rfl) rfl (ZbE _ _ _) ?_) | (refine Zid rfl rfl rfl (ZaI _ _ _ _) rfl rfl rfl rfl (Nat.le_of_ble_eq_true rfl) (ZfF _ _ _ _ _) ?_) | refine Zm rfl (by (conv=>lhs;whnf);try rfl) ?_ | refine ZgT rfl rfl ?_ | refine Zbg rfl rfl ?_ | refine ZP rfl rfl rfl (by rfl) (by decide) (by (conv=>lhs;whnf);try rfl) ?_ | refine ZbS (by kernel_rfl) ?_ | refine Za ?_ | refine Zz ?_ | refine Zx ?_)
  exact ZdN (.inr rfl) (0,0) (0,1000) (fun k=>if k=1004 then (5,7) else νa k) νa [_,_,_,_] [] rfl rfl trivial rfl rfl (Zk rfl (Zk rfl (Zk rfl (Zk rfl (ZH _))))) rfl rfl
theorem Zbx (e:El) (r:List El) (s:ByteArray) (hs:small e r) (h63:e.cur.length≤9223372036854775807) (e':El) (h:ZcH e s=some e'):PC 240 [.str s] e r (.tup []) e' r:=by
 unfold ZcH at h
 split at h
 ·rename_i h0
  injection h with h
  subst h0 h
  exact Zo8 e r
 ·rename_i h0
  obtain ⟨l',hR,rfl⟩:=Option.map_eq_some_iff.1 h
  obtain ⟨kind,tag,count,list,args⟩:=e
  rcases args with _ | ⟨pre,a⟩
  ·exact ZnL _ r s h0 hs l' rfl h63 hR
  ·by_cases hk:kind=3
   ·subst hk
    exact ZqB tag count list pre a r s h0 hs l' h63 hR
   ·have e1:VL.El.cur ⟨kind,tag,count,list,some (pre,a)⟩=list:=if_neg hk
    have e2:VL.El.setCur ⟨kind,tag,count,list,some (pre,a)⟩ l'=⟨kind,tag,count,l',some (pre,a)⟩:=if_neg hk
    rw [e1] at hR h63
    rw [e2]
    exact ZnM ⟨kind,tag,count,list,some (pre,a)⟩ r s h0 hs l' (.inl hk) (by intro h;cases h) h63 hR
theorem ZgR (e:El) (r:List El) (n:Node) (hs:small e r) (e':El) (h:ZkC e n=some e'):PC 241 [.agg n.cs] e r (.tup []) e' r:=by
 obtain ⟨l',hR,rfl⟩:=Option.map_eq_some_iff.1 h
 obtain ⟨kind,tag,count,list,args⟩:=e
 rcases args with _ | ⟨pre,a⟩
 ·exact ZlC _ r n hs l' (.inr rfl) hR
 ·by_cases hk:kind=3
  ·subst hk
   exact ZqD tag count list pre a r n hs l' hR
  ·have e1:VL.El.cur ⟨kind,tag,count,list,some (pre,a)⟩=list:=if_neg hk
   have e2:VL.El.setCur ⟨kind,tag,count,list,some (pre,a)⟩ l'=⟨kind,tag,count,l',some (pre,a)⟩:=if_neg hk
   rw [e1] at hR
   rw [e2]
   exact ZlC ⟨kind,tag,count,list,some (pre,a)⟩ r n hs l' (.inl hk) hR
set_option maxRecDepth 100000 in
set_option maxHeartbeats 1000000 in
theorem ZnV (e e2:El) (r:List El) (hr:r.length≤999):ContractG Tryz.prog 249 [.ptr 0 (0,0) 0] (objs (stP νa e (e2::r))) (.ptr 1001 (0,1001) 0) (Zl6 197 256 243 νa (1,1000) e e2 r):=by
 refine Zy mix Tryz.func249 (by kernel_rfl) rfl (by kernel_rfl) ?_
 rw [ZbF]
 repeat (first | (refine ZO [] νa (Zc7 e (e2::r) (by simp;omega)) rfl rfl rfl rfl rfl rfl ?_) | (refine ZaW rfl rfl (ZbD _ _ _) ?_) | (refine ZfU rfl rfl rfl (by simp;omega) ?_) | (refine ZqA rfl rfl rfl rfl (by rw [ZbD];omega) (ZqM _ _ _) ?_) | refine Zm rfl (by (conv=>lhs;whnf);try rfl) ?_ | refine ZA rfl rfl rfl ?_ | refine Zi rfl rfl ?_ | refine Zn rfl (by (conv=>lhs;whnf);try rfl) ?_ | refine Zak rfl rfl ?_ | refine Zap rfl rfl rfl (by (conv=>lhs;whnf);try rfl) (by (conv=>lhs;whnf);try rfl) (by rfl) (by rfl) (Nat.le_of_ble_eq_true rfl) (by (conv=>lhs;whnf);try rfl) ?_ | refine Zc ?_ | refine ZbS (by kernel_rfl) ?_ | refine Zh ?_ | refine Za ?_ | refine ZaY ?_)
 exact ZqN (3,11) [_,_] [(2,.ptr 1001 (0,1001) 0)] rfl rfl ⟨rfl,trivial⟩ rfl rfl rfl rfl
abbrev ZnW (k t c:Int):List (Nat×VObj):=[(1,.box [.int .i64 k,.int .i64 t,.int .i64 c,.nil,.nil])]
set_option maxRecDepth 100000 in
set_option maxHeartbeats 1000000 in
theorem Zpm (e e':El) (r:List El) (k t c:Int) (s:ByteArray) (hr:20≤r.length) (hs:small e r) (h63:e.cur.length≤9223372036854775807) (h:ZcH e s=some e') :
  ContractG Tryz.prog 242 [.ptr 0 (0,0) 0,.ptr 1 (0,1) 0,.str s] (objs (stP νa e r)++ZnW k t c) (.tup []) (stP νb e' r):=by
 refine Zy mix Tryz.func242 (by kernel_rfl) rfl (by kernel_rfl) ?_
 rw [Zo9,ZbF,Zpo rfl]
 repeat (first | (refine ZaW rfl rfl (ZbD _ _ _) ?_) | refine Zm rfl (by (conv=>lhs;whnf);try rfl) ?_ | refine ZA rfl rfl rfl ?_ | refine Zi rfl rfl ?_ | refine ZL rfl rfl rfl rfl (by (conv=>lhs;whnf);try rfl) ?_ | refine Zak rfl rfl ?_ | refine Zc ?_ | refine Zh ?_ | refine Za ?_)
 rw [show decide ((20:Int)<((r.length+1:Nat):Int))=true from decide_eq_true (by omega)]
 repeat (first | (refine Zo rfl rfl ?_) | (refine Zs [_] νa (Zbx e r s hs h63 e' h) rfl rfl rfl rfl rfl rfl ?_) | refine Zm rfl (by (conv=>lhs;whnf);try rfl) ?_ | refine Zc ?_ | refine Zh ?_ | refine Za ?_ | refine ZaY ?_)
 exact Zbj (.inl rfl) (νc 2 2) [_] [] rfl rfl trivial rfl rfl
set_option maxRecDepth 100000 in
set_option maxHeartbeats 1000000 in
theorem Zpn (e:El) (r:List El) (k t c:Int) (s:ByteArray) (hr:r.length<20) :
  ContractG Tryz.prog 242 [.ptr 0 (0,0) 0,.ptr 1 (0,1) 0,.str s] (objs (stP νa e r)++ZnW k t c) (.tup []) (stP νb ⟨k,t,c,[],none⟩ (e::r)):=by
 refine Zy mix Tryz.func242 (by kernel_rfl) rfl (by kernel_rfl) ?_
 rw [Zo9,ZbF,Zpo rfl]
 repeat (first | (refine ZaW rfl rfl (ZbD _ _ _) ?_) | refine Zm rfl (by (conv=>lhs;whnf);try rfl) ?_ | refine ZA rfl rfl rfl ?_ | refine Zi rfl rfl ?_ | refine ZL rfl rfl rfl rfl (by (conv=>lhs;whnf);try rfl) ?_ | refine Zak rfl rfl ?_ | refine Zc ?_ | refine Zh ?_ | refine Za ?_)
 rw [show decide ((20:Int)<((r.length+1:Nat):Int))=false from decide_eq_false (by omega)]
 repeat (first | (refine Zf rfl rfl ?_) | (refine Zie rfl rfl rfl rfl (Nat.le_of_ble_eq_true rfl) rfl ?_) | (refine ZiS (new:=[[.ptr 1 (0,1) 0]]) rfl rfl rfl rfl (by rw [ZbD];simp;omega) (by rw [ZbD];simp;omega) (by simp) ?_) | refine Zm rfl (by (conv=>lhs;whnf);try rfl) ?_ | refine ZA rfl rfl rfl ?_ | refine Zi rfl rfl ?_ | refine Zak rfl rfl ?_ | refine Zap rfl rfl rfl (by (conv=>lhs;whnf);try rfl) (by (conv=>lhs;whnf);try rfl) (by rfl) (by rfl) (Nat.le_of_ble_eq_true rfl) (by (conv=>lhs;whnf);try rfl) ?_ | refine Zc ?_ | refine Za ?_ | refine Zz ?_ | refine Zx ?_)
 exact Zdo (Zb5 1 5 3 197 5 rfl rfl rfl) (Zdo (Zb5 1 6 4 256 3 rfl rfl rfl) (Zdo (Zcf (t:=6) rfl) (Zpp (.inr rfl) (0,0) (2,7) (0,1) (3,0) (4,0) 1 5 6 νa [_,_,_,_,_,_,_,_,_] [] rfl rfl trivial rfl rfl rfl rfl rfl rfl rfl rfl)))
def ZlL (e:El):Option El:=match e.args with
 | some (pre,a)=>if e.kind=3∧a.named=false then some ⟨e.kind,e.tag,e.count,e.list,some (pre,⟨true,a.value,[]⟩)⟩ else ZcH e ⟨#[61]⟩
 | none=>ZcH e ⟨#[61]⟩
set_option maxRecDepth 100000 in
set_option maxHeartbeats 1000000 in
theorem ZqS (e e':El) (r:List El) (hs:small e r) (h63:e.cur.length≤9223372036854775807) (hk:e.kind≠3) (h:ZcH e ⟨#[124]⟩=some e'):PC 244 [] e r (.tup []) e' r:=by
 refine Zy mix Tryz.func244 (by kernel_rfl) rfl (by kernel_rfl) ?_
 rw [ZbF]
 repeat (first | (refine ZO [] νa (Zc7 e r hs.1) rfl rfl rfl rfl rfl rfl ?_) | refine Zm rfl (by (conv=>lhs;whnf);try rfl) ?_ | refine ZA rfl rfl rfl ?_ | refine Zi rfl rfl ?_ | refine Zn rfl (by (conv=>lhs;whnf);try rfl) ?_ | refine ZL rfl rfl rfl rfl (by (conv=>lhs;whnf);try rfl) ?_ | refine Zak rfl rfl ?_ | refine Zc ?_ | refine Zh ?_ | refine Za ?_)
 rw [decide_eq_false hk]
 repeat (first | (refine Zf rfl rfl ?_) | (refine Zs [] νa (Zbx e r _ hs h63 e' h) rfl rfl rfl rfl rfl rfl ?_) | refine Zm rfl (by (conv=>lhs;whnf);try rfl) ?_ | refine Zc ?_ | refine Za ?_ | refine Zz ?_ | refine Zx ?_)
 exact Zbj (.inr rfl) (νc 3 1) [] [] rfl rfl trivial rfl rfl
set_option maxRecDepth 100000 in
set_option maxHeartbeats 1000000 in
theorem ZqT (tag count:Int) (list:List (List PV)) (r:List El) (hr:r.length≤1000):PC 244 [] ⟨3,tag,count,list,none⟩ r (.tup []) ⟨3,tag,count,list,some ([],⟨false,[],[]⟩)⟩ r:=by
 refine Zy mix Tryz.func244 (by kernel_rfl) rfl (by kernel_rfl) ?_
 rw [ZbF]
 repeat (first | (refine ZO [] νa (Zc7 _ r hr) rfl rfl rfl rfl rfl rfl ?_) | (refine Zo rfl rfl ?_) | (refine Zie rfl rfl rfl rfl (Nat.le_of_ble_eq_true rfl) rfl ?_) | (refine ZiS (els:=[]) (new:=[[.bool false,.nil,.nil]]) rfl rfl rfl rfl (by simp) (by simp) (by simp) ?_) | refine Zm rfl (by (conv=>lhs;whnf);try rfl) ?_ | refine ZA rfl rfl rfl ?_ | refine Zi rfl rfl ?_ | refine Zn rfl (by (conv=>lhs;whnf);try rfl) ?_ | refine ZL rfl rfl rfl rfl (by (conv=>lhs;whnf);try rfl) ?_ | refine Zak rfl rfl ?_ | refine Zap rfl rfl rfl (by (conv=>lhs;whnf);try rfl) (by (conv=>lhs;whnf);try rfl) (by rfl) (by rfl) (Nat.le_of_ble_eq_true rfl) (by (conv=>lhs;whnf);try rfl) ?_ | refine Zbg rfl rfl ?_ | refine Zc ?_ | refine Zh ?_ | refine Za ?_ | refine ZaY ?_)
 exact Zdo (Zdj 1003 0 1 rfl rfl rfl rfl rfl) (Zdo (Zkp 1003 1004 0 2 197 5 rfl rfl rfl rfl rfl) (ZdN (.inl rfl) (0,0) (0,1000) (fun k=>if k=1003 then (3,7) else if k=1004 then (4,0) else νa k) νa [_,_,_,_,_,_] [] rfl rfl trivial rfl rfl (Zk rfl (Zk rfl (Zk rfl (Zk rfl (ZH _))))) rfl rfl))
theorem Zpt (pre:List Arg) (a:Arg):(pre.map Arg.cs ++ [a.cs]).length=pre.length+1:=by simp
theorem Zpu (pre:List Arg) (a:Arg) (x:List PV):(pre.map Arg.cs ++ [a.cs] ++ [x])[pre.length+1]? = some x:=by
 have:=Zbc (pre.map Arg.cs ++ [a.cs]) x
 rwa [Zpt] at this
theorem Zpv (pre:List Arg) (a:Arg) (x y:List PV):(pre.map Arg.cs ++ [a.cs] ++ [x]).set (pre.length+1) y=pre.map Arg.cs ++ [a.cs] ++ [y]:=by
 have:=ZbE (pre.map Arg.cs ++ [a.cs]) x y
 rwa [Zpt] at this
theorem Zpw (pre:List Arg) (x:List PV):(pre.map Arg.cs ++ [x])[pre.length]? = some x:=by
 have:=Zbc (pre.map Arg.cs) x
 rwa [List.length_map] at this
theorem Zpx (pre:List Arg) (x y:List PV):(pre.map Arg.cs ++ [x]).set pre.length y=pre.map Arg.cs ++ [y]:=by
 have:=ZbE (pre.map Arg.cs) x y
 rwa [List.length_map] at this
theorem ZqU (pre:List Arg) (a:Arg) (x y:List PV):(pre.map Arg.cs ++ [a.cs] ++ [x]).set (pre.length+1) y=(pre ++ [a]).map Arg.cs ++ [y]:=by
 rw [Zpv]
 simp
set_option maxRecDepth 100000 in
set_option maxHeartbeats 1000000 in
theorem ZqV (tag count:Int) (list:List (List PV)) (pre:List Arg) (a:Arg) (r:List El) (hs:small ⟨3,tag,count,list,some (pre,a)⟩ r):PC 244 [] ⟨3,tag,count,list,some (pre,a)⟩ r (.tup []) ⟨3,tag,count,list,some (pre ++ [a],⟨false,[],[]⟩)⟩ r:=by
 have hp:pre.length≤1000000:=hs.2 _ rfl
 refine Zy mix Tryz.func244 (by kernel_rfl) rfl (by kernel_rfl) ?_
 rw [ZbF]
 repeat (first | (refine ZO [] νa (Zc7 _ r hs.1) rfl rfl rfl rfl rfl rfl ?_) | refine Zm rfl (by (conv=>lhs;whnf);try rfl) ?_ | refine ZA rfl rfl rfl ?_ | refine Zi rfl rfl ?_ | refine Zn rfl (by (conv=>lhs;whnf);try rfl) ?_ | refine ZL rfl rfl rfl rfl (by (conv=>lhs;whnf);try rfl) ?_ | refine Zak rfl rfl ?_ | refine Zc ?_ | refine Zh ?_ | refine Za ?_)
 refine Zo rfl rfl ?_
 refine Zad (Zdj 1003 pre.length 2 rfl (ZaI _ _ _ _) rfl rfl (ZfF _ _ _ _ _)) ?_ (List.cons_ne_nil _ _)
 repeat (first | (refine Zie rfl rfl rfl rfl (Nat.le_of_ble_eq_true rfl) rfl ?_) | (refine ZiS (els:=pre.map Arg.cs ++ [a.cs]) (new:=[[.bool false,.nil,.nil]]) rfl rfl rfl rfl (by simp;omega) (by simp;omega) (by simp) ?_) | refine Zm rfl (by (conv=>lhs;whnf);try rfl) ?_ | refine ZA rfl rfl rfl ?_ | refine Zi rfl rfl ?_ | refine Zak rfl rfl ?_ | refine Zap rfl rfl rfl (by (conv=>lhs;whnf);try rfl) (by (conv=>lhs;whnf);try rfl) (by rfl) (by rfl) (Nat.le_of_ble_eq_true rfl) (by (conv=>lhs;whnf);try rfl) ?_ | refine Zbg rfl rfl ?_ | refine Zc ?_ | refine Zh ?_ | refine Za ?_ | refine ZaY ?_)
 exact Zdo (Zdj 1003 (pre.length+1) 1 rfl (Zpu _ _ _) rfl rfl (Zpv _ _ _ _)) (Zdo (Zkp 1003 1004 (pre.length+1) 2 197 5 rfl rfl (Zpu _ _ _) rfl (ZqU _ _ _ _)) (ZdN (.inl rfl) (0,0) (0,1000) (fun k=>if k=1003 then (3,7) else if k=1004 then (4,0) else νa k) νa [_,_,_,_,_,_,_,_] [] rfl rfl trivial rfl rfl (Zk rfl (Zk rfl (Zk rfl (Zk rfl (ZH _))))) rfl rfl))
set_option maxRecDepth 100000 in
set_option maxHeartbeats 1000000 in
theorem Zj3 (e e':El) (r:List El) (hs:small e r) (h63:e.cur.length≤9223372036854775807) (hc:e.kind≠3∨e.args=none∨∃ pre a,e.args=some (pre,a)∧a.named=true) (h:ZcH e ⟨#[61]⟩=some e'):PC 245 [] e r (.tup []) e' r:=by
 refine Zy mix Tryz.func245 (by kernel_rfl) rfl (by kernel_rfl) ?_
 rw [ZbF]
 obtain ⟨kind,tag,count,list,args⟩:=e
 rcases args with _ | ⟨pre,a⟩
 ·by_cases hk:kind=3
  ·subst hk
   repeat (first | (refine ZO [] νa (Zc7 _ r hs.1) rfl rfl rfl rfl rfl rfl ?_) | (refine ZaW (n:=0) rfl rfl rfl ?_) | (refine ZI rfl ?_) | (refine Zf rfl rfl ?_) | (refine Zs [] νa (Zbx _ r _ hs h63 e' h) rfl rfl rfl rfl rfl rfl ?_) | refine Zm rfl (by (conv=>lhs;whnf);try rfl) ?_ | refine ZA rfl rfl rfl ?_ | refine Zi rfl rfl ?_ | refine Zn rfl (by (conv=>lhs;whnf);try rfl) ?_ | refine ZL rfl rfl rfl rfl (by (conv=>lhs;whnf);try rfl) ?_ | refine Zak rfl rfl ?_ | refine ZaL rfl rfl (by (conv=>lhs;whnf);try rfl) ?_ | refine Zc ?_ | refine Zh ?_ | refine Za ?_ | refine Zz ?_ | refine Zx ?_)
   exact Zbj (.inr rfl) (νc 4 1) [] [] rfl rfl trivial rfl rfl
  ·repeat (first | (refine ZO [] νa (Zc7 _ r hs.1) rfl rfl rfl rfl rfl rfl ?_) | (refine ZaW (n:=0) rfl rfl rfl ?_) | refine Zm rfl (by (conv=>lhs;whnf);try rfl) ?_ | refine ZA rfl rfl rfl ?_ | refine Zi rfl rfl ?_ | refine Zn rfl (by (conv=>lhs;whnf);try rfl) ?_ | refine ZL rfl rfl rfl rfl (by (conv=>lhs;whnf);try rfl) ?_ | refine Zak rfl rfl ?_ | refine Zc ?_ | refine Zh ?_ | refine Za ?_)
   rw [decide_eq_false hk]
   repeat (first | (refine ZI rfl ?_) | (refine Zf rfl rfl ?_) | (refine Zs [] νa (Zbx _ r _ hs h63 e' h) rfl rfl rfl rfl rfl rfl ?_) | refine Zm rfl (by (conv=>lhs;whnf);try rfl) ?_ | refine ZaL rfl rfl (by (conv=>lhs;whnf);try rfl) ?_ | refine Zc ?_ | refine Za ?_ | refine Zz ?_ | refine Zx ?_)
   exact Zbj (.inr rfl) (νc 4 1) [] [] rfl rfl trivial rfl rfl
 ·have hp:pre.length≤1000000:=hs.2 _ rfl
  by_cases hk:kind=3
  ·obtain ⟨named,name,value⟩:=a
   obtain rfl:named=true:=by
    rcases hc with hc | hc | ⟨pre',a',h1,h2⟩
    ·exact absurd hk hc
    ·cases hc
    ·injection h1 with h1
     injection h1 with _ h1
     rw [← h1] at h2
     exact h2
   subst hk
   repeat (first | (refine ZO [] νa (Zc7 _ r hs.1) rfl rfl rfl rfl rfl rfl ?_) | (refine ZaW rfl rfl (Zd7 ..) ?_) | refine Zm rfl (by (conv=>lhs;whnf);try rfl) ?_ | refine ZA rfl rfl rfl ?_ | refine Zi rfl rfl ?_ | refine Zn rfl (by (conv=>lhs;whnf);try rfl) ?_ | refine ZL rfl rfl rfl rfl (by (conv=>lhs;whnf);try rfl) ?_ | refine Zak rfl rfl ?_ | refine ZaL rfl rfl (by (conv=>lhs;whnf);try rfl) ?_ | refine Zc ?_ | refine Zh ?_ | refine Za ?_)
   rw [show decide ((0:Int)<((pre.length+1:Nat):Int))=true from decide_eq_true (by omega)]
   repeat (first | (refine ZfU rfl rfl rfl (by omega) ?_) | (refine Zd9 rfl rfl rfl rfl (by rw [Zd7];omega) ?_) | (refine Zcq rfl rfl rfl (ZaI _ _ _ _) rfl ?_) | (refine Zf rfl rfl ?_) | (refine Zs [] νa (Zbx _ r _ hs h63 e' h) rfl rfl rfl rfl rfl rfl ?_) | refine Zm rfl (by (conv=>lhs;whnf);try rfl) ?_ | refine ZA rfl rfl rfl ?_ | refine Zi rfl rfl ?_ | refine Zak rfl rfl ?_ | refine Zqg rfl rfl ?_ | refine ZaL rfl rfl (by (conv=>lhs;whnf);try rfl) ?_ | refine Zc ?_ | refine Za ?_ | refine Zz ?_ | refine Zx ?_)
   exact Zbj (.inr rfl) (νc 4 1) [] [] rfl rfl trivial rfl rfl
  ·repeat (first | (refine ZO [] νa (Zc7 _ r hs.1) rfl rfl rfl rfl rfl rfl ?_) | (refine ZaW rfl rfl (Zd7 ..) ?_) | refine Zm rfl (by (conv=>lhs;whnf);try rfl) ?_ | refine ZA rfl rfl rfl ?_ | refine Zi rfl rfl ?_ | refine Zn rfl (by (conv=>lhs;whnf);try rfl) ?_ | refine ZL rfl rfl rfl rfl (by (conv=>lhs;whnf);try rfl) ?_ | refine Zak rfl rfl ?_ | refine Zc ?_ | refine Zh ?_ | refine Za ?_)
   rw [decide_eq_false hk]
   repeat (first | (refine ZI rfl ?_) | (refine Zf rfl rfl ?_) | (refine Zs [] νa (Zbx _ r _ hs h63 e' h) rfl rfl rfl rfl rfl rfl ?_) | refine Zm rfl (by (conv=>lhs;whnf);try rfl) ?_ | refine ZaL rfl rfl (by (conv=>lhs;whnf);try rfl) ?_ | refine Zc ?_ | refine Za ?_ | refine Zz ?_ | refine Zx ?_)
   exact Zbj (.inr rfl) (νc 4 1) [] [] rfl rfl trivial rfl rfl
set_option maxRecDepth 100000 in
set_option maxHeartbeats 1000000 in
theorem Zpy (tag count:Int) (list:List (List PV)) (pre:List Arg) (name value:List (List PV)) (r:List El) (hs:small ⟨3,tag,count,list,some (pre,⟨false,name,value⟩)⟩ r):PC 245 [] ⟨3,tag,count,list,some (pre,⟨false,name,value⟩)⟩ r (.tup []) ⟨3,tag,count,list,some (pre,⟨true,value,[]⟩)⟩ r:=by
 have hp:pre.length≤1000000:=hs.2 _ rfl
 refine Zy mix Tryz.func245 (by kernel_rfl) rfl (by kernel_rfl) ?_
 rw [ZbF]
 repeat (first | (refine ZO [] νa (Zc7 _ r hs.1) rfl rfl rfl rfl rfl rfl ?_) | (refine ZaW rfl rfl (Zd7 ..) ?_) | refine Zm rfl (by (conv=>lhs;whnf);try rfl) ?_ | refine ZA rfl rfl rfl ?_ | refine Zi rfl rfl ?_ | refine Zn rfl (by (conv=>lhs;whnf);try rfl) ?_ | refine ZL rfl rfl rfl rfl (by (conv=>lhs;whnf);try rfl) ?_ | refine Zak rfl rfl ?_ | refine ZaL rfl rfl (by (conv=>lhs;whnf);try rfl) ?_ | refine Zc ?_ | refine Zh ?_ | refine Za ?_)
 rw [show decide ((0:Int)<((pre.length+1:Nat):Int))=true from decide_eq_true (by omega)]
 repeat (first | (refine ZfU rfl rfl rfl (by omega) ?_) | (refine Zd9 rfl rfl rfl rfl (by rw [Zd7];omega) ?_) | (refine Zcq rfl rfl rfl (ZaI _ _ _ _) rfl ?_) | (refine Zo rfl rfl ?_) | (refine Zid rfl rfl rfl (ZaI _ _ _ _) rfl rfl rfl rfl (Nat.le_of_ble_eq_true rfl) (ZfF _ _ _ _ _) ?_) | refine Zm rfl (by (conv=>lhs;whnf);try rfl) ?_ | refine ZA rfl rfl rfl ?_ | refine Zi rfl rfl ?_ | refine Zak rfl rfl ?_ | refine Zbg rfl rfl ?_ | refine Zqg rfl rfl ?_ | refine ZaL rfl rfl (by (conv=>lhs;whnf);try rfl) ?_ | refine Zc ?_ | refine ZbS (by kernel_rfl) ?_ | refine Zh ?_ | refine Za ?_ | refine ZaY ?_)
 exact Zdo (Zdj 1003 pre.length 1 rfl (Zpw _ _) rfl rfl (Zpx _ _ _)) (Zdo (Zkp 1003 1004 pre.length 2 197 5 rfl rfl (Zpw _ _) rfl (Zpx _ _ _)) (ZdN (.inl rfl) (0,0) (0,1000) (fun k=>if k=1004 then (5,0) else νa k) νa [_,_,_,_,_] [] rfl rfl trivial rfl rfl (Zk rfl (Zk rfl (Zk rfl (Zk rfl (ZH _))))) rfl rfl))
def ZlW:El→List (List PV)→Option El
 | e,[]=>some e
 | e,x::l=>(Zts x).bind fun n=>(if n.kind=1 then ZcH e n.text else ZkC e n).bind fun e'=>ZlW e' l
def fit (e:El) (r:List El):Prop:=small e r∧e.cur.length≤9223372036854775807
theorem ZhQ {e:El} {r:List El} {l:List (List PV)} (h:small e r):small (e.setCur l) r:=by
 obtain ⟨kind,tag,count,list,args⟩:=e
 refine ⟨h.1,fun q hq=>?_⟩
 rcases args with _ | ⟨pre,a⟩
 ·cases hq
 ·by_cases hk:kind=3
  ·have e1:VL.El.setCur ⟨kind,tag,count,list,some (pre,a)⟩ l=⟨kind,tag,count,list,some (pre,⟨a.named,a.name,l⟩)⟩:=if_pos hk
   rw [e1] at hq
   injection hq with hq
   rw [← hq]
   exact h.2 (pre,a) rfl
  ·have e1:VL.El.setCur ⟨kind,tag,count,list,some (pre,a)⟩ l=⟨kind,tag,count,l,some (pre,a)⟩:=if_neg hk
   rw [e1] at hq
   exact h.2 q hq
theorem Zj5 (e:El) (l:List (List PV)):(e.setCur l).cur=l:=by
 obtain ⟨kind,tag,count,list,args⟩:=e
 rcases args with _ | ⟨pre,a⟩
 ·rfl
 ·by_cases hk:kind=3
  ·have e1:VL.El.setCur ⟨kind,tag,count,list,some (pre,a)⟩ l=⟨kind,tag,count,list,some (pre,⟨a.named,a.name,l⟩)⟩:=if_pos hk
   rw [e1]
   exact if_pos hk
  ·have e1:VL.El.setCur ⟨kind,tag,count,list,some (pre,a)⟩ l=⟨kind,tag,count,l,some (pre,a)⟩:=if_neg hk
   rw [e1]
   exact if_neg hk
theorem Zjf {l l':List (List PV)} {n:Node} (h:ZlB l n=some l'):l'.length≤9223372036854775807:=by
 obtain ⟨_,h2,rfl⟩:=Zb0 h
 simpa using h2
theorem ZV {e e':El} {r:List El} {s:ByteArray} (hf:fit e r) (h:ZcH e s=some e'):fit e' r:=by
 unfold ZcH at h
 split at h
 ·injection h with h
  rw [← h]
  exact hf
 ·obtain ⟨l',hR,rfl⟩:=Option.map_eq_some_iff.1 h
  refine ⟨ZhQ hf.1,?_⟩
  rw [Zj5]
  rcases ZeL hR with ⟨_,hR⟩ | ⟨init,n,hl,⟨_,y,_,rfl⟩ | ⟨_,hR⟩⟩
  ·exact Zjf hR
  ·have:=hf.2
   rw [hl,Zcr] at this
   rw [Zcr]
   exact this
  ·exact Zjf hR
theorem ZeC {e e':El} {r:List El} {n:Node} (hf:fit e r) (h:ZkC e n=some e'):fit e' r:=by
 obtain ⟨l',hR,rfl⟩:=Option.map_eq_some_iff.1 h
 exact ⟨ZhQ hf.1,by rw [Zj5];exact Zjf hR⟩
theorem Zj6 {r:List El}:∀ {l:List (List PV)} {e e':El},fit e r→ZlW e l=some e'→fit e' r
 | [],e,e',hf,h=>by injection h with h;rw [← h];exact hf
 | x::l,e,e',hf,h=>by
   obtain ⟨n,_,h⟩:=Option.bind_eq_some_iff.1 h
   obtain ⟨e1,h1,h⟩:=Option.bind_eq_some_iff.1 h
   refine Zj6 (l:=l) (e:=e1) ?_ h
   split at h1
   ·exact ZV hf h1
   ·exact ZeC hf h1
set_option maxRecDepth 100000 in
set_option maxHeartbeats 1000000 in
theorem Zsr (l:List (List PV)) (e e2:El) (r:List El) (hf:fit e r) (h:ZlW e l=some e2) (hl:l.length≤4611686018427387904):PC 252 [.sl l] e r (.tup []) e2 r:=by
 refine Zy mix Tryz.func252 (by kernel_rfl) rfl (by kernel_rfl) ?_
 rw [ZbF]
 repeat (first | refine Zm rfl (by (conv=>lhs;whnf);try rfl) ?_ | refine ZgT rfl rfl ?_ | refine Zc ?_ | refine Zh ?_ | refine Za ?_ | refine ZU ?_)
 refine Zq (fun (a:Nat×El) _=>mkS [(0,.ptr 0 (0,0) 0),(6,.sl l),(7,.int .i64 (l.length:Int)),(8,.int .i64 ((a.1:Nat):Int))] (somes (stP νb a.2 r)) 2) (fun a=>a.1≤l.length∧fit a.2 r∧ZlW a.2 (l.drop a.1)=some e2) (fun a=>l.length - a.1) (0,e) 2 ⟨Nat.zero_le _,hf,h⟩
  (ZaJ νa [] (fun k=>(k,νa k)) (fun _ _=>rfl) rfl ⟨rfl,rfl,rfl,rfl,trivial⟩ (x:=[]) (x':=[]) rfl rfl rfl (ZH _) rfl) (fun a ng hJ=>?_)
 obtain ⟨q,e1⟩:=a
 obtain ⟨hq,hf1,hn⟩:=hJ
 dsimp only at hq hf1 hn ⊢
 repeat (first | refine ZL rfl rfl rfl rfl (by (conv=>lhs;whnf);try rfl) ?_ | refine Zc ?_ | refine Zh ?_ | refine Za ?_)
 by_cases hlt:q<l.length
 ·refine Zo (by (conv=>lhs;whnf);try rfl) (by simp;omega) ?_
  rw [List.drop_eq_getElem_cons hlt] at hn
  obtain ⟨n,hx,hn⟩:=Option.bind_eq_some_iff.1 hn
  obtain ⟨e3,h3,hn⟩:=Option.bind_eq_some_iff.1 hn
  have hcs:l[q]? = some n.cs:=by rw [List.getElem?_eq_getElem hlt,ZlA hx]
  by_cases hk:n.kind=1
  ·rw [if_pos hk] at h3
   repeat (first | (refine Zdx rfl rfl rfl hcs rfl ?_) | refine ZA rfl rfl rfl ?_ | refine Zi rfl rfl ?_ | refine ZL rfl rfl rfl rfl (by (conv=>lhs;whnf);try rfl) ?_ | refine ZcK rfl rfl ?_ | refine Zap rfl rfl rfl (by (conv=>lhs;whnf);try rfl) (by (conv=>lhs;whnf);try rfl) (by rfl) (by rfl) (Nat.le_of_ble_eq_true rfl) (by (conv=>lhs;whnf);try rfl) ?_ | refine Zc ?_ | refine Zh ?_ | refine Za ?_ | refine ZU ?_ | refine Zz ?_)
   rw [decide_eq_true hk]
   repeat (first | (refine Zo rfl rfl ?_) | (refine Zs [_,_] νb (Zbx e1 r n.text hf1.1 hf1.2 e3 h3) rfl rfl rfl rfl rfl rfl ?_) | refine Zm rfl (by (conv=>lhs;whnf);try rfl) ?_ | refine ZA rfl rfl rfl ?_ | refine Zi rfl rfl ?_ | refine Zmc rfl rfl (by omega) ?_ | refine Zc ?_ | refine Za ?_ | refine Zx ?_)
   exact ZR (q+1,e3) 2 ⟨by omega,ZV hf1 h3,hn⟩ (by dsimp only;omega) (ZaJ (νc 5 3) [_,_] (fun k=>(k,νc 5 3 k)) (fun _ _=>rfl) rfl ⟨rfl,rfl,rfl,rfl,trivial⟩ (x:=[]) (x':=[]) rfl rfl rfl (ZH _) rfl)
  ·rw [if_neg hk] at h3
   repeat (first | (refine Zdx rfl rfl rfl hcs rfl ?_) | refine ZA rfl rfl rfl ?_ | refine Zi rfl rfl ?_ | refine ZL rfl rfl rfl rfl (by (conv=>lhs;whnf);try rfl) ?_ | refine ZcK rfl rfl ?_ | refine Zap rfl rfl rfl (by (conv=>lhs;whnf);try rfl) (by (conv=>lhs;whnf);try rfl) (by rfl) (by rfl) (Nat.le_of_ble_eq_true rfl) (by (conv=>lhs;whnf);try rfl) ?_ | refine Zc ?_ | refine Zh ?_ | refine Za ?_ | refine ZU ?_ | refine Zz ?_)
   rw [decide_eq_false hk]
   repeat (first | (refine Zf rfl rfl ?_) | (refine Zs [_,_] νb (ZgR e1 r n hf1.1 e3 h3) rfl rfl rfl rfl rfl rfl ?_) | refine Zm rfl (by (conv=>lhs;whnf);try rfl) ?_ | refine ZA rfl rfl rfl ?_ | refine Zmc rfl rfl (by omega) ?_ | refine Zc ?_ | refine Za ?_ | refine Zx ?_)
   exact ZR (q+1,e3) 2 ⟨by omega,ZeC hf1 h3,hn⟩ (by dsimp only;omega) (ZaJ (νc 5 2) [_,_] (fun k=>(k,νc 5 2 k)) (fun _ _=>rfl) rfl ⟨rfl,rfl,rfl,rfl,trivial⟩ (x:=[]) (x':=[]) rfl rfl rfl (ZH _) rfl)
 ·refine Zf (by (conv=>lhs;whnf);try rfl) (by simp;omega) ?_
  repeat (first | refine ZaR ?_ | refine Zx ?_ | refine ZcN ?_ | refine Zgo ?_)
  obtain rfl:q=l.length:=by omega
  rw [List.drop_length] at hn
  injection hn with hn
  subst hn
  exact Zbj (.inr rfl) νb [] [] rfl rfl trivial rfl rfl
end Go.Proofs.YtjblgpmagampbaaGreatDoor
namespace Go.Proofs.YtjblgpmagampbaaGreatDoor
namespace VL
def El.argL (e:El):List Arg:=match e.args with
 | none=>[]
 | some (pre,a)=>pre ++ [a]
def El.cells (e:El):List PV:=[.int .i64 e.kind,.int .i64 e.tag,.int .i64 e.count,.sl e.list,.sl (e.argL.map Arg.cs)]
section
variable {NT AT ET:Nat}
theorem Zfn {pre:List Arg}:∀ el ∈ pre.map Arg.cs,∀ p ∈ el,p.pure=true:=fun el hel p hp=>by
 obtain ⟨a,_,rfl⟩:=List.mem_map.1 hel
 simp [Arg.cs] at hp
 rcases hp with rfl | rfl | rfl<;>rfl
theorem Zdp {f:Nat→Option (Gen×VObj)} {t E k:Nat} {g:Gen} {els:List (List PV)} (h:f t=some (g,.row E k false els)):Zjn f (.row t g)=some (.sl els,[(t,some (g,.row E k true els))]):=by
 simp [Zjn,ZG,h]
theorem ZlM {b:Nat} {g g1 g2:Gen} {tm:List (Nat×PV)} {ob:List (Nat×Option (Gen×VObj))} {ng:Nat} {k t c:Int} {l els:List (List PV)} (h0:Zg ob b=some (g,.box [.int .i64 k,.int .i64 t,.int .i64 c,.row (b+1) g1,.row (b+2) g2])) (h1:Zg ob (b+1)=some (g1,.row NT 5 false l)) (h2:Zg ob (b+2)=some (g2,.prow AT 3 els))
  (hp:∀ el ∈ els,∀ p ∈ el,p.pure=true):Shift (mkS tm ob ng) (mkS tm ((b,some (g,.box [.int .i64 k,.int .i64 t,.int .i64 c,.sl l,.sl els]))::(b+2,some (g2,.row AT 3 true els))::(b+1,some (g1,.row NT 5 true l))::(b+2,some (g2,.row AT 3 false els))::ob) ng):=by
 have n1:∀ {j i:Nat},j≠i→b+j≠b+i:=fun h e=>h (by omega)
 have e0:Zg ((b+2,some (g2,VObj.row AT 3 false els))::ob) b=some (g,.box [.int .i64 k,.int .i64 t,.int .i64 c,.row (b+1) g1,.row (b+2) g2]):=by
  show (if b=b+2 then _ else Zg ob b)=_
  rw [if_neg (by omega),h0]
 have e1:Zg ((b+2,some (g2,VObj.row AT 3 false els))::ob) (b+1)=some (g1,.row NT 5 false l):=by
  show (if b+1=b+2 then _ else Zg ob (b+1))=_
  rw [if_neg (by omega),h1]
 have e2:Zg ((b+2,some (g2,VObj.row AT 3 false els))::ob) (b+2)=some (g2,.row AT 3 false els):=if_pos rfl
 refine Shift.trans (ZiA (b+2) h2 hp) ?_
 exact Zmx b e0 (us:=[(b+1,some (g1,.row NT 5 true l)),(b+2,some (g2,.row AT 3 true els))]) (by
  have r1:=Zdp e1
  have r2:=Zdp e2
  simp only [Zdy]
  rw [r1,r2]
  rfl)
theorem Zho (n1:Gen) (ν:Nat→Gen) {e e2:El} {r:List El} {tm tm':List (Nat×PV)} {ng:Nat} (h1:Zfs (σf (popf (0,0) n1 (fun _=>(1001,ν 1001)) ν (Za4 r))) tm tm') :
  Shift (mkS tm ((0,some ((0,0),.box [.row 1000 n1]))::(1000,some (n1,.prow ET 1 (Zdh ν (e2::r))))::somes (stO NT AT ET ν e (e2::r))) ng) (mkS tm' (somes ((300,νb 300,.box e.cells)::stO NT AT ET νb e2 r)) 2):=by
 obtain ⟨k,t,c,l,args⟩:=e
 have hx:∀ e:El,ZaN (σf (popf (0,0) n1 (fun _=>(1001,ν 1001)) ν (Za4 r))) [(300,νb 300,.box e.cells)]=some [(1001,ν 1001,.box e.cells)]:=fun _=>rfl
 rcases args with _ | ⟨pre,a⟩
 ·refine Shift.trans (ZlM (b:=1001) rfl rfl rfl (fun e he=>absurd he List.not_mem_nil)) ?_
  exact ZgM (0,0) n1 (fun _=>(1001,ν 1001)) ν tm' h1 rfl rfl (hx ⟨k,t,c,l,none⟩) (fun q hq=>by rw [List.mem_singleton.1 hq];exact ⟨by show 1001≠0;omega,by show 1001≠1000;omega,by show 1001<2000;omega⟩) (by simp) (Zk rfl (ZH _)) (ZcI (A:=[_,_,_,_,_,_]) rfl)
 ·have hset:(ZfS 1001 ν (some (pre,a))).set pre.length (Zaa [.bool a.named,.sl a.name,.row (1001+3) (ν (1001+3))] 2 [.sl a.value])=(pre ++ [a]).map Arg.cs:=by
   have:=ZbE (pre.map Arg.cs) [.bool a.named,.sl a.name,.row (1001+3) (ν (1001+3))] a.cs
   rw [List.length_map] at this
   rw [List.map_append]
   exact this
  have hget:(ZfS 1001 ν (some (pre,a)))[pre.length]? = some [.bool a.named,.sl a.name,.row (1001+3) (ν (1001+3))]:=by
   have:=Zbc (pre.map Arg.cs) [.bool a.named,.sl a.name,.row (1001+3) (ν (1001+3))]
   rwa [List.length_map] at this
  refine Shift.trans (Zdj 1003 pre.length 2 rfl hget rfl (Zdp rfl) hset) ?_
  refine Shift.trans (ZlM (b:=1001) rfl rfl rfl Zfn) ?_
  exact ZgM (0,0) n1 (fun _=>(1001,ν 1001)) ν tm' h1 rfl rfl (hx ⟨k,t,c,l,some (pre,a)⟩) (fun q hq=>by rw [List.mem_singleton.1 hq];exact ⟨by show 1001≠0;omega,by show 1001≠1000;omega,by show 1001<2000;omega⟩) (by simp) (Zk rfl (ZH _)) (ZcI (A:=[_,_,_,_,_,_,_,_]) rfl)
end
section
variable {NT AT ET:Nat} {P:Program} [WInv P] {ops:Array Oper} {draw:Bool} {i:Nat} {L:List Oper} {acc:List (List Nat×List Nat)} {K:FS→Prop} {tm:List (Nat×PV)} {ob:List (Nat×Option (Gen×VObj))} {ng:Nat}
 {d:Option Tmp} {ty:TypeId} {pos:String} {after:Array Edge} {gd:Option (Nat×Bool)}
theorem ZeA {f:FuncId} {es:Array Operand} {ts:Array TypeId} {e e2:El} {r:List El} (lits:List (Nat×Option (Gen×VObj))) (ν:Nat→Gen) (hc:ContractG P f [.ptr 0 (0,0) 0] (objs (stO NT AT ET νa e (e2::r))) (.ptr 1001 (0,1001) 0) (Zl6 NT AT ET νa (1,1000) e e2 r)) (hob:ob=lits++somes (stO NT AT ET ν e (e2::r))) (hl:(lits.all fun q=>!Za5 q.1)=true)
  (hw:Zb ops (mkS tm ob ng) ⟨d,.call ⟨.value (.func f),es,ts⟩,ty,pos,after,gd⟩=some true) (he:es.toList.map (evL tm) = [.ptr 0 (ν 0) 0])
  (k:GoL P ops draw (i+1) L (acc ++ [(Zr (mkS tm ob ng) ⟨d,.call ⟨.value (.func f),es,ts⟩,ty,pos,after,gd⟩,(usG (κp id) (objs (stO NT AT ET νa e (e2::r))) (Zl6 NT AT ET ν (ng,i+1000000 * (1000+1)) e e2 r)).map (·.1))]) (mkS (Zau d (.ptr 1001 (ν 1001) 0) tm) ((0,some (ν 0,.box [.row 1000 (ng,i+1000000 * (1000+1))]))::(1000,some ((ng,i+1000000 * (1000+1)),.prow ET 1 (Zdh ν (e2::r))))::ob) ng) K) :
  GoL P ops draw i (⟨d,.call ⟨.value (.func f),es,ts⟩,ty,pos,after,gd⟩::L) acc (mkS tm ob ng) K:=by
 have hHas:Has ob (stO NT AT ET ν e (e2::r)):=by rw [hob];exact ZaU hl
 have hk:=Zo6 (NT:=NT) (AT:=AT) (ET:=ET) ν ng i e (e2::r)
 have hn:∀ (ν:Nat→Gen) (n1:Gen),((Zl6 NT AT ET ν n1 e e2 r).map (·.1)).Nodup:=fun ν n1=>by rw [Zi2];exact Zay _ _ _
 have hlow:∀ q ∈ ZeV NT AT νa (e2::r),σ1 (Zl5 (objs (stO NT AT ET νa e (e2::r)))) (κp id) (γp ν ν) id ng i (νa q.1)=some (q.1,ν q.1):=fun q hq=>hk q (List.mem_cons_of_mem _ (List.mem_cons_of_mem _ (List.mem_append_right _ hq)))
 have hX:ZaN (σ1 (Zl5 (objs (stO NT AT ET νa e (e2::r)))) (κp id) (γp ν ν) id ng i) (Zl6 NT AT ET νa (1,1000) e e2 r)=some (Zl6 NT AT ET ν (ng,i+1000000 * (1000+1)) e e2 r):=by
  have e0:=hk _ (List.mem_cons_self ..)
  have e1:σ1 (Zl5 (objs (stO NT AT ET νa e (e2::r)))) (κp id) (γp ν ν) id ng i (1,1000)=some (1000,(ng,i+1000000 * (1000+1))):=by simp [σ1]
  have hp:=Zkz hlow
  have he:=Zag (Zmq (NT:=NT) (AT:=AT) (b:=1001) (ν:=νa) (ν':=ν) (e:=e) fun q hq=>hk q (List.mem_cons_of_mem _ (List.mem_cons_of_mem _ (List.mem_append_left _ hq)))) (Zky hlow)
  simp only [Zl6,ZaN,rnO,rnL,rn1,e0,e1,Option.map_some,hp,he]
 have hp:rnP (σ1 (Zl5 (objs (stO NT AT ET νa e (e2::r)))) (κp id) (γp ν ν) id ng i) (.ptr 1001 (0,1001) 0)=some (.ptr 1001 (ν 1001) 0):=by
  have e1:=hk _ (List.mem_cons_of_mem _ (List.mem_cons_of_mem _ (List.mem_append_left _ (List.mem_cons_self ..))))
  have e2:σ1 (Zl5 (objs (stO NT AT ET νa e (e2::r)))) (κp id) (γp ν ν) id ng i (0,1001)=some (1001,ν 1001):=e1
  simp only [rnP,rn1,e2,Option.map_some]
 refine ZjV lits ν hc hob hl hw he rfl hp hX (hn _ _) (fun t=>?_) k
 rw [Zia (hn _ _)]
 by_cases h1:∃ q ∈ Zl6 NT AT ET ν (ng,i+1000000 * (1000+1)) e e2 r,q.1=t
 ·rw [if_pos h1]
  obtain ⟨⟨t',g,o⟩,hq,rfl⟩:=h1
  have w:=Zbr [] (hn _ _) hq
  rw [List.append_nil] at w
  rw [w]
  rcases List.mem_cons.1 hq with e1 | hq
  ·injection e1 with e1 e2;injection e2 with e2 e3;subst e1 e2 e3;rfl
  ·rcases List.mem_cons.1 hq with e1 | hq
   ·injection e1 with e1 e2;injection e2 with e2 e3;subst e1 e2 e3;rfl
   ·have hk2:1001≤t':=by
     rcases List.mem_append.1 hq with h | h
     ·exact (ZcT h).1
     ·have:=(Zcj h).1;change 2000≤t' at this;omega
    show _=if t'=0 then _ else if t'=1000 then _ else Zg ob t'
    rw [if_neg (by omega),if_neg (by omega)]
    exact (hHas _ _ _ (List.mem_cons_of_mem _ (List.mem_cons_of_mem _ hq))).symm
 ·rw [if_neg h1,if_neg fun ⟨q,hq,e3⟩=>h1 (by
   obtain ⟨g,hg⟩:=ZfD (l:=stO NT AT ET νa e (e2::r)) (t:=q.1) (o:=q.2) hq
   have hm2:q.1 ∈ (Zl6 NT AT ET ν (ng,i+1000000 * (1000+1)) e e2 r).map (·.1):=by
    rw [Zi2,Zer ν νa]
    exact List.mem_map.2 ⟨_,hg,rfl⟩
   obtain ⟨q2,hq2,e4⟩:=List.mem_map.1 hm2
   have hk:κp id q.1=q.1:=by simp [κp]
   exact ⟨q2,hq2,by rw [e4,← hk];exact e3⟩)]
  have t0:¬ t=0:=fun e=>h1 ⟨_,List.mem_cons_self ..,e.symm⟩
  have t1:¬ t=1000:=fun e=>h1 ⟨_,List.mem_cons_of_mem _ (List.mem_cons_self ..),e.symm⟩
  show _=if t=0 then _ else if t=1000 then _ else Zg ob t
  rw [if_neg t0,if_neg t1]
end
end VL
end Go.Proofs.YtjblgpmagampbaaGreatDoor
namespace Go.Proofs.YtjblgpmagampbaaGreatDoor
namespace VL
section
variable {NT AT ET:Nat}
theorem Zlg {f:Nat→Option (Gen×VObj)} {t E k:Nat} {g:Gen} {els:List (List PV)} (h:f t=some (g,.row E k true els)):Zjn f (.row t g)=some (.sl els,[]):=by
 simp [Zjn,ZG,h]
theorem Zf9 {ν:Nat→Gen} {kind tag count m:Int} {list:List (List PV)} {args:Option (List Arg×Arg)} {r:List El} {lits:List (Nat×Option (Gen×VObj))} {tm:List (Nat×PV)} {ng:Nat} (hl:(lits.all fun q=>!Za5 q.1)=true) :
  Shift (mkS tm ((1001,some (ν 1001,.box [.int .i64 kind,.int .i64 tag,.int .i64 m,.row 1002 (ν 1002),.row 1003 (ν 1003)]))::(lits++somes (stO NT AT ET ν ⟨kind,tag,count,list,args⟩ r))) ng) (mkS tm (lits++somes (stO NT AT ET ν ⟨kind,tag,m,list,args⟩ r)) ng):=by
 rw [Zfd (ob':=lits++somes (stO NT AT ET ν ⟨kind,tag,m,list,args⟩ r)) fun t=>?_]
 ·exact Shift.refl _
 ·show (if t=1001 then _ else Zg (lits++somes (stO NT AT ET ν ⟨kind,tag,count,list,args⟩ r)) t)=_
  by_cases ht:t=1001
  ·rw [if_pos ht,ht]
   have hm:(1001,ν 1001,VObj.box [.int .i64 kind,.int .i64 tag,.int .i64 m,.row 1002 (ν 1002),.row 1003 (ν 1003)]) ∈ stO NT AT ET ν ⟨kind,tag,m,list,args⟩ r:=List.mem_cons_of_mem _ (List.mem_cons_of_mem _ (List.mem_append_left _ (List.mem_cons_self ..)))
   exact (ZaU hl _ _ _ hm).symm
  ·rw [if_neg ht]
   have two:∀ (a:List (Nat×Option (Gen×VObj))),Zg (a++somes (stO NT AT ET ν ⟨kind,tag,count,list,args⟩ r)) t=Zg (a++somes (stO NT AT ET ν ⟨kind,tag,m,list,args⟩ r)) t:=fun a=>by
    induction a with
    | nil=>
      show (if t=0 then _ else if t=1000 then _ else if t=1001 then _ else _)=(if t=0 then _ else if t=1000 then _ else if t=1001 then _ else _)
      by_cases h0:t=0
      ·rw [if_pos h0,if_pos h0]
      ·rw [if_neg h0,if_neg h0]
       by_cases h1:t=1000
       ·rw [if_pos h1,if_pos h1]
       ·rw [if_neg h1,if_neg h1,if_neg ht,if_neg ht]
    | cons q a ih=>
      show (if t=q.1 then q.2 else Zg (a++_) t)=if t=q.1 then q.2 else Zg (a++_) t
      rw [ih]
   exact two lits
theorem Zd6 {b u:Nat} {g g1 g2:Gen} {tm:List (Nat×PV)} {ob:List (Nat×Option (Gen×VObj))} {ng:Nat} {k t:Int} {s:ByteArray} {l els:List (List PV)} (hu:u≠b+2) (h0:Zg ob u=some (g,.box [.int .i64 k,.int .i64 t,.str s,.row (b+1) g1,.row (b+2) g2])) (h1:Zg ob (b+1)=some (g1,.row NT 5 false l)) (h2:Zg ob (b+2)=some (g2,.prow AT 3 els))
  (hp:∀ el ∈ els,∀ p ∈ el,p.pure=true):Shift (mkS tm ob ng) (mkS tm ((u,some (g,.box [.int .i64 k,.int .i64 t,.str s,.sl l,.sl els]))::(b+2,some (g2,.row AT 3 true els))::(b+1,some (g1,.row NT 5 true l))::(b+2,some (g2,.row AT 3 false els))::ob) ng):=by
 have e0:Zg ((b+2,some (g2,VObj.row AT 3 false els))::ob) u=some (g,.box [.int .i64 k,.int .i64 t,.str s,.row (b+1) g1,.row (b+2) g2]):=by
  show (if u=b+2 then _ else Zg ob u)=_
  rw [if_neg hu,h0]
 have e1:Zg ((b+2,some (g2,VObj.row AT 3 false els))::ob) (b+1)=some (g1,.row NT 5 false l):=by
  show (if b+1=b+2 then _ else Zg ob (b+1))=_
  rw [if_neg (by omega),h1]
 have e2:Zg ((b+2,some (g2,VObj.row AT 3 false els))::ob) (b+2)=some (g2,.row AT 3 false els):=if_pos rfl
 refine Shift.trans (ZiA (b+2) h2 hp) ?_
 exact Zmx u e0 (us:=[(b+1,some (g1,.row NT 5 true l)),(b+2,some (g2,.row AT 3 true els))]) (by
  have r1:=Zdp e1
  have r2:=Zdp e2
  simp only [Zdy]
  rw [r1,r2]
  rfl)
theorem ZmP {b:Nat} {g g1 g2:Gen} {tm:List (Nat×PV)} {ob:List (Nat×Option (Gen×VObj))} {ng:Nat} {k t c:Int} {l els:List (List PV)} (h0:Zg ob b=some (g,.box [.int .i64 k,.int .i64 t,.int .i64 c,.row (b+1) g1,.row (b+2) g2])) (h1:Zg ob (b+1)=some (g1,.row NT 5 true l)) (h2:Zg ob (b+2)=some (g2,.row AT 3 true els)) :
  Shift (mkS tm ob ng) (mkS tm ((b,some (g,.box [.int .i64 k,.int .i64 t,.int .i64 c,.sl l,.sl els]))::ob) ng):=
 Zmx b h0 (us:=[]) (by
  have r1:=Zlg h1
  have r2:=Zlg h2
  simp only [Zdy]
  rw [r1,r2]
  rfl)
theorem Zhd (n1 g8:Gen) (ν:Nat→Gen) {e e2:El} {r:List El} {k t:Int} {s:ByteArray} {tm tm':List (Nat×PV)} {ng:Nat} (h1:Zfs (σf (popf (0,0) n1 (fun k=>if k=8 then (8,g8) else (1001,ν 1001)) ν (Za4 r))) tm tm') :
  Shift (mkS tm ((0,some ((0,0),.box [.row 1000 n1]))::(1000,some (n1,.prow ET 1 (Zdh ν (e2::r))))::(8,some (g8,.box [.int .i64 k,.int .i64 t,.str s,.row 1002 (ν 1002),.row 1003 (ν 1003)]))::somes (stO NT AT ET ν e (e2::r))) ng)
   (mkS tm' (somes ((8,νb 8,.box [.int .i64 k,.int .i64 t,.str s,.sl e.list,.sl (e.argL.map Arg.cs)])::(300,νb 300,.box e.cells)::stO NT AT ET νb e2 r)) 2):=by
 obtain ⟨k1,t1,c,l,args⟩:=e
 have hx:∀ e:El,ZaN (σf (popf (0,0) n1 (fun k=>if k=8 then (8,g8) else (1001,ν 1001)) ν (Za4 r))) [(8,νb 8,.box [.int .i64 k,.int .i64 t,.str s,.sl e.list,.sl (e.argL.map Arg.cs)]),(300,νb 300,.box e.cells)]=some [(8,g8,.box [.int .i64 k,.int .i64 t,.str s,.sl e.list,.sl (e.argL.map Arg.cs)]),(1001,ν 1001,.box e.cells)]:=fun _=>rfl
 have hX:∀ e:El,∀ q ∈ [(8,g8,VObj.box [.int .i64 k,.int .i64 t,.str s,.sl e.list,.sl (e.argL.map Arg.cs)]),(1001,ν 1001,.box e.cells)],q.1≠0∧q.1≠1000∧q.1<2000:=fun e q hq=>by
  rcases List.mem_cons.1 hq with rfl | hq
  ·exact ⟨by show 8≠0;omega,by show 8≠1000;omega,by show 8<2000;omega⟩
  ·rw [List.mem_singleton.1 hq]
   exact ⟨by show 1001≠0;omega,by show 1001≠1000;omega,by show 1001<2000;omega⟩
 rcases args with _ | ⟨pre,a⟩
 ·refine Shift.trans (Zd6 (b:=1001) (u:=8) (by omega) rfl rfl rfl (fun e he=>absurd he List.not_mem_nil)) ?_
  refine Shift.trans (ZmP (b:=1001) rfl rfl rfl) ?_
  exact ZgM (0,0) n1 _ ν tm' h1 rfl rfl (hx ⟨k1,t1,c,l,none⟩) (hX ⟨k1,t1,c,l,none⟩) (by simp) (Zk rfl (Zk rfl (ZH _))) (ZcI (A:=[_,_,_,_,_,_,_,_]) rfl)
 ·have hset:(ZfS 1001 ν (some (pre,a))).set pre.length (Zaa [.bool a.named,.sl a.name,.row (1001+3) (ν (1001+3))] 2 [.sl a.value])=(pre ++ [a]).map Arg.cs:=by
   have:=ZbE (pre.map Arg.cs) [.bool a.named,.sl a.name,.row (1001+3) (ν (1001+3))] a.cs
   rw [List.length_map] at this
   rw [List.map_append]
   exact this
  have hget:(ZfS 1001 ν (some (pre,a)))[pre.length]? = some [.bool a.named,.sl a.name,.row (1001+3) (ν (1001+3))]:=by
   have:=Zbc (pre.map Arg.cs) [.bool a.named,.sl a.name,.row (1001+3) (ν (1001+3))]
   rwa [List.length_map] at this
  refine Shift.trans (Zdj 1003 pre.length 2 rfl hget rfl (Zdp rfl) hset) ?_
  refine Shift.trans (Zd6 (b:=1001) (u:=8) (by omega) rfl rfl rfl Zfn) ?_
  refine Shift.trans (ZmP (b:=1001) rfl rfl rfl) ?_
  exact ZgM (0,0) n1 _ ν tm' h1 rfl rfl (hx ⟨k1,t1,c,l,some (pre,a)⟩) (hX ⟨k1,t1,c,l,some (pre,a)⟩) (by simp) (Zk rfl (Zk rfl (ZH _))) (ZcI (A:=[_,_,_,_,_,_,_,_,_,_]) rfl)
def newf (m2 m3:Gen) (k2 k3:Nat) (ν:Nat→Gen) (k:Nat):Nat×Gen:=if k=1002 then (k2,m2) else if k=1003 then (k3,m3) else (k,ν k)
theorem Zcc (m2 m3:Gen) (k2 k3:Nat) (ν:Nat→Gen) (h00:ν 0=(0,0)) {r:List El} {kind tag count:Int} {list:List (List PV)} {tm tm':List (Nat×PV)} {ob:List (Nat×Option (Gen×VObj))} {ng:Nat} (h1:Zfs (σf (newf m2 m3 k2 k3 ν)) tm tm') (a0:Zg ob 0=some (ν 0,.box [.row 1000 (ν 1000)])) (a1:Zg ob 1000=some (ν 1000,.prow ET 1 (Zdh ν r ++ [[.ptr 1001 (ν 1001) 0]])))
  (b1:Zg ob 1001=some (ν 1001,.box [.int .i64 kind,.int .i64 tag,.int .i64 count,.row k2 m2,.row k3 m3])) (b2:Zg ob k2=some (m2,.row NT 5 false list)) (b3:Zg ob k3=some (m3,.prow AT 3 [])) (hk:(decide ([k2,k3].Nodup) && [k2,k3].all fun k=>!Za5 k)=true) (a3:Has ob (ZeV NT AT ν r)) :
  Shift (mkS tm ob ng) (mkS tm' (somes (stO NT AT ET νb ⟨kind,tag,count,list,none⟩ r)) 2):=by
 have hl:∀ k,2000≤k→σf (newf m2 m3 k2 k3 ν) (νb k)=some (k,ν k):=fun k hk=>by
  have h1:¬ k=0:=by omega
  have h2:¬ k=1002:=by omega
  have h3:¬ k=1003:=by omega
  simp [σf,νb,newf,h1,h2,h3]
 have e0:σf (newf m2 m3 k2 k3 ν) (νb 0)=some (0,ν 0):=by rw [h00];rfl
 have e1:σf (newf m2 m3 k2 k3 ν) (νb 1000)=some (1000,ν 1000):=rfl
 have e2:σf (newf m2 m3 k2 k3 ν) (νb 1001)=some (1001,ν 1001):=rfl
 have e3:σf (newf m2 m3 k2 k3 ν) (νb (1001+1))=some (k2,m2):=rfl
 have e4:σf (newf m2 m3 k2 k3 ν) (νb (1001+2))=some (k3,m3):=rfl
 have hp:ZeY (σf (newf m2 m3 k2 k3 ν)) (Zdh νb r ++ [[.ptr 1001 (νb 1001) 0]])=some (Zdh ν r ++ [[.ptr 1001 (ν 1001) 0]]):=ZaB (Zhb hl r) (by simp only [ZeY,rnL,rn1,e2,Option.map_some])
 have he:=Zha (NT:=NT) (AT:=AT) hl r
 have h2:ZaN (σf (newf m2 m3 k2 k3 ν)) (stO NT AT ET νb ⟨kind,tag,count,list,none⟩ r)=some ((0,ν 0,.box [.row 1000 (ν 1000)])::(1000,ν 1000,.prow ET 1 (Zdh ν r ++ [[.ptr 1001 (ν 1001) 0]]))::(1001,ν 1001,.box [.int .i64 kind,.int .i64 tag,.int .i64 count,.row k2 m2,.row k3 m3])::(k2,m2,.row NT 5 false list)::(k3,m3,.prow AT 3 [])::ZeV NT AT ν r):=by
  have key:∀ X,elO NT AT 1001 νb ⟨kind,tag,count,list,none⟩++X=(1001,νb 1001,.box [.int .i64 kind,.int .i64 tag,.int .i64 count,.row (1001+1) (νb (1001+1)),.row (1001+2) (νb (1001+2))])::(1001+1,νb (1001+1),.row NT 5 false list)::(1001+2,νb (1001+2),.prow AT 3 [])::X:=fun _=>rfl
  unfold stO
  rw [key]
  simp only [ZaN,rnO,rnL,ZeY,rn1,e0,e1,e2,e3,e4,Option.map_some,hp,he]
 simp only [Bool.and_eq_true,decide_eq_true_eq,List.all_eq_true,Bool.not_eq_true'] at hk
 obtain ⟨hn,hpk⟩:=hk
 have hpk':∀ k ∈ [k2,k3],¬ (k=0∨1000≤k):=fun k hk h=>by
  have:=hpk k hk
  rw [Zc2 h] at this
  cases this
 refine ZeK _ h1 h2 (Zk a0 (Zk a1 (Zk b1 (Zk b2 (Zk b3 a3))))) ?_
 have hrest:∀ k ∈ (ZeV NT AT ν r).map (·.1),2000≤k:=fun k hk=>by
  obtain ⟨q,hq,rfl⟩:=List.mem_map.1 hk
  exact (Zcj hq).1
 have p2:=hpk' k2 (by simp)
 have p3:=hpk' k3 (by simp)
 simp only [List.nodup_cons,List.mem_cons,List.not_mem_nil,or_false] at hn
 obtain ⟨n23,_⟩:=hn
 simp only [List.map_cons,List.nodup_cons,List.mem_cons,not_or]
 refine ⟨⟨by omega,by omega,by omega,by omega,fun h=>by have:=hrest _ h;omega⟩,⟨by omega,by omega,by omega,fun h=>by have:=hrest _ h;omega⟩,⟨by omega,by omega,fun h=>by have:=hrest _ h;omega⟩,⟨n23,fun h=>by have:=hrest _ h;omega⟩,fun h=>by have:=hrest _ h;omega,Zfy ν r⟩
end
end VL
end Go.Proofs.YtjblgpmagampbaaGreatDoor
namespace Go.Proofs.YtjblgpmagampbaaGreatDoor
open VL
def ZgA (e:El) (l:List (List PV)):Option El:=if l.length≤4611686018427387904 then ZlW e l else none
theorem ZcD {r:List El} {l:List (List PV)} {e e':El} (hf:fit e r) (h:ZgA e l=some e'):fit e' r:=by
 unfold ZgA at h
 split at h
 ·exact Zj6 hf h
 ·cases h
theorem ZgB (l:List (List PV)) (e e2:El) (r:List El) (hf:fit e r) (h:ZgA e l=some e2):PC 252 [.sl l] e r (.tup []) e2 r:=by
 unfold ZgA at h
 split at h
 ·rename_i hl
  exact Zsr l e e2 r hf h hl
 ·cases h
def Zep (e:El) (r:List El):Option (El×List El):=if e.kind=1 then match r with
  | []=>none
  | e2::r=>(ZcH e2 ⟨#[91,91]⟩).bind fun a=>(ZgA a e.list).bind fun b=>(ZcH b ⟨#[93,93]⟩).map fun c=>(c,r)
 else (ZcH e ⟨#[93,93]⟩).map fun c=>(c,r)
set_option maxRecDepth 100000 in
set_option maxHeartbeats 1000000 in
theorem Zjs (e e':El) (r:List El) (hf:fit e r) (hk:e.kind≠1) (h:ZcH e ⟨#[93,93]⟩=some e'):PC 246 [] e r (.tup []) e' r:=by
 refine Zy mix Tryz.func246 (by kernel_rfl) rfl (by kernel_rfl) ?_
 rw [ZbF]
 repeat (first | (refine ZO [] νa (Zc7 e r hf.1.1) rfl rfl rfl rfl rfl rfl ?_) | refine Zm rfl (by (conv=>lhs;whnf);try rfl) ?_ | refine ZA rfl rfl rfl ?_ | refine Zi rfl rfl ?_ | refine ZL rfl rfl rfl rfl (by (conv=>lhs;whnf);try rfl) ?_ | refine Zak rfl rfl ?_ | refine Zc ?_ | refine Zh ?_ | refine Za ?_)
 rw [decide_eq_false hk]
 repeat (first | (refine Zo rfl rfl ?_) | (refine Zs [] νa (Zbx e r _ hf.1 hf.2 e' h) rfl rfl rfl rfl rfl rfl ?_) | refine Zm rfl (by (conv=>lhs;whnf);try rfl) ?_ | refine Zc ?_ | refine Zh ?_ | refine Za ?_ | refine ZaY ?_)
 exact Zbj (.inl rfl) (νc 2 1) [] [] rfl rfl trivial rfl rfl
set_option maxRecDepth 100000 in
set_option maxHeartbeats 1000000 in
theorem Zkr (tag count:Int) (list:List (List PV)) (args:Option (List Arg×Arg)) (e2 a b c:El) (r:List El) (hr:r.length≤999) (hf:fit e2 r) (h1:ZcH e2 ⟨#[91,91]⟩=some a) (h2:ZgA a list=some b) (h3:ZcH b ⟨#[93,93]⟩=some c) :
  PC 246 [] ⟨1,tag,count,list,args⟩ (e2::r) (.tup []) c r:=by
 have hfa:=ZV hf h1
 have hfb:=ZcD hfa h2
 refine Zy mix Tryz.func246 (by kernel_rfl) rfl (by kernel_rfl) ?_
 rw [ZbF]
 repeat (first | (refine ZO [] νa (Zc7 _ (e2::r) (by simp;omega)) rfl rfl rfl rfl rfl rfl ?_) | (refine Zf rfl rfl ?_) | refine Zm rfl (by (conv=>lhs;whnf);try rfl) ?_ | refine ZA rfl rfl rfl ?_ | refine Zi rfl rfl ?_ | refine ZL rfl rfl rfl rfl (by (conv=>lhs;whnf);try rfl) ?_ | refine Zak rfl rfl ?_ | refine Zc ?_ | refine Zh ?_ | refine Za ?_ | refine Zz ?_)
 refine ZeA [] νa (ZnV _ e2 r hr) rfl rfl rfl rfl ?_
 iterate 2 (refine Zhp ?_)
 refine Zad (Zho (2,1+1000000 * (1000+1)) νa (tm':=[(0,.ptr 0 (0,0) 0),(2,.ptr 300 (1,300) 0)]) ⟨rfl,rfl,trivial⟩) ?_ (List.cons_ne_nil _ _)
 repeat (first | (refine Zs [_] νb (Zbx e2 r _ hf.1 hf.2 a h1) rfl rfl rfl rfl rfl rfl ?_) | (refine Zs [_] (νc _ _) (ZgB list a b r hfa h2) rfl rfl rfl rfl rfl rfl ?_) | (refine Zs [_] (νc _ _) (Zbx b r _ hfb.1 hfb.2 c h3) rfl rfl rfl rfl rfl rfl ?_) | refine Zm rfl (by (conv=>lhs;whnf);try rfl) ?_ | refine ZA rfl rfl rfl ?_ | refine Zi rfl rfl ?_ | refine Zak rfl rfl ?_ | refine Zc ?_ | refine Zh ?_ | refine Za ?_ | refine Zx ?_)
 exact Zbj (.inr rfl) (νc 4 1) [_] [] rfl rfl trivial rfl rfl
def Zh7 (e e2:El):Option El:=if e.kind=1 then ZcH e2 ⟨#[91,91]⟩ else if e.kind=2 then (ZeN e.tag).bind fun s=>ZcH e2 s else if e.kind=3 then (strings_Repeat ⟨#[123]⟩ e.count).bind fun s=>ZcH e2 s else some e2
def ZoR (e:El) (a:Arg):Option El:=(ZcH e ⟨#[124]⟩).bind fun b=>((if a.named=true then (ZgA b a.name).bind fun c=>ZcH c ⟨#[61]⟩ else some b):Option El).bind fun d=>ZgA d a.value
def Zh8:El→List Arg→Option El
 | e,[]=>some e
 | e,a::l=>(ZoR e a).bind fun e'=>Zh8 e' l
def Zks (e e2:El):Option El:=(Zh7 e e2).bind fun a=>(ZgA a e.list).bind fun b=>if e.argL.length≤4611686018427387904 then Zh8 b e.argL else none
theorem ZhD {e e2 a:El} {r:List El} (hf:fit e2 r) (h:Zh7 e e2=some a):fit a r:=by
 unfold Zh7 at h
 split at h
 ·exact ZV hf h
 ·split at h
  ·obtain ⟨s,_,h⟩:=Option.bind_eq_some_iff.1 h
   exact ZV hf h
  ·split at h
   ·obtain ⟨s,_,h⟩:=Option.bind_eq_some_iff.1 h
    exact ZV hf h
   ·injection h with h
    rw [← h]
    exact hf
theorem ZiF {e e':El} {a:Arg} {r:List El} (hf:fit e r) (h:ZoR e a=some e'):fit e' r:=by
 obtain ⟨b,hb,h⟩:=Option.bind_eq_some_iff.1 h
 obtain ⟨d,hd,h⟩:=Option.bind_eq_some_iff.1 h
 refine ZcD ?_ h
 split at hd
 ·obtain ⟨c,hc,hd⟩:=Option.bind_eq_some_iff.1 hd
  exact ZV (ZcD (ZV hf hb) hc) hd
 ·injection hd with hd
  rw [← hd]
  exact ZV hf hb
abbrev Zs5 (ν:Nat→Gen) (k:Nat):Nat×Gen:=if k=300 then (300,νb 300) else (k,ν k)
theorem Zh9 {ν:Nat→Gen} (k:Nat) (h:k=0∨1000≤k):Zs5 ν k=(k,ν k):=if_neg (by omega)
set_option maxRecDepth 100000 in
set_option maxHeartbeats 1000000 in
theorem ZiG (e e2 e3:El) (r:List El) (hr:r.length≤999) (hf:fit e2 r) (h:Zks e e2=some e3):PC 170 [] e (e2::r) (.tup []) e3 r:=by
 obtain ⟨a0,ha0,h⟩:=Option.bind_eq_some_iff.1 h
 obtain ⟨b0,hb0,h4⟩:=Option.bind_eq_some_iff.1 h
 by_cases hal:e.argL.length≤4611686018427387904
 rotate_left
 ·rw [if_neg hal] at h4
  cases h4
 rw [if_pos hal] at h4
 have hfa:=ZhD hf ha0
 have hfb:=ZcD hfa hb0
 refine Zy mix Tryz.func170 (by kernel_rfl) rfl (by kernel_rfl) ?_
 rw [ZbF]
 repeat (first | refine Zm rfl (by (conv=>lhs;whnf);try rfl) ?_ | refine Zh ?_ | refine Za ?_)
 refine ZeA [] νa (ZnV e e2 r hr) rfl rfl rfl rfl ?_
 iterate 2 (refine Zhp ?_)
 refine Zad (Zho (1,1+1000000 * (1000+1)) νa (tm':=[(0,.ptr 0 (0,0) 0),(2,.ptr 300 (1,300) 0)]) ⟨rfl,rfl,trivial⟩) ?_ (List.cons_ne_nil _ _)
 repeat (first | (refine ZaV (α:=El) (c:=.block 0 _) (fun a _=>mkS [(0,.ptr 0 (0,0) 0),(2,.ptr 300 (1,300) 0)] (somes ((300,νb 300,.box e.cells)::stP νb a r)) 2) (fun a=>a=a0) ?_ (fun a _ hJ=>?_)) | refine Zm rfl (by (conv=>lhs;whnf);try rfl) ?_ | refine ZA rfl rfl rfl ?_ | refine Zi rfl rfl ?_ | refine Zn rfl (by (conv=>lhs;whnf);try rfl) ?_ | refine ZL rfl rfl rfl rfl (by (conv=>lhs;whnf);try rfl) ?_ | refine Zak rfl rfl ?_ | refine Zc ?_ | refine Zh ?_ | refine Za ?_ | refine ZU ?_)
 ·unfold Zh7 at ha0
  by_cases h1:e.kind=1
  ·rw [if_pos h1] at ha0
   rw [decide_eq_true h1]
   repeat (first | (refine Zo rfl rfl ?_) | (refine Zs [_] νb (Zbx e2 r _ hf.1 hf.2 a0 ha0) rfl rfl rfl rfl rfl rfl ?_) | refine Zm rfl (by (conv=>lhs;whnf);try rfl) ?_ | refine Zc ?_ | refine Za ?_ | refine Zx ?_ | refine ZJ ?_)
   exact Zc1 a0 2 rfl (ZaJ (νc 4 1) [_] (Zs5 (νc 4 1)) Zh9 rfl ⟨rfl,rfl,trivial⟩ (x:=[(300,νb 300,.box e.cells)]) (x':=[(300,νb 300,.box e.cells)]) rfl rfl rfl (Zk rfl (ZH _)) rfl)
  ·rw [if_neg h1] at ha0
   rw [decide_eq_false h1]
   repeat (first | (refine Zf rfl rfl ?_) | refine Zn rfl (by (conv=>lhs;whnf);try rfl) ?_ | refine ZL rfl rfl rfl rfl (by (conv=>lhs;whnf);try rfl) ?_ | refine Zc ?_ | refine Zh ?_ | refine Za ?_)
   by_cases h2:e.kind=2
   ·rw [if_pos h2] at ha0
    obtain ⟨s,hs,ha0⟩:=Option.bind_eq_some_iff.1 ha0
    rw [decide_eq_true h2]
    repeat (first | (refine Zo rfl rfl ?_) | (refine Ze0 (ZiY _ _ hs) rfl rfl ?_) | (refine Zs [_] νb (Zbx e2 r s hf.1 hf.2 a0 ha0) rfl rfl rfl rfl rfl rfl ?_) | refine Zm rfl (by (conv=>lhs;whnf);try rfl) ?_ | refine ZA rfl rfl rfl ?_ | refine Zi rfl rfl ?_ | refine Zak rfl rfl ?_ | refine Zc ?_ | refine Za ?_ | refine Zx ?_ | refine ZJ ?_)
    exact Zc1 a0 2 rfl (ZaJ (νc 5 6) [_] (Zs5 (νc 5 6)) Zh9 rfl ⟨rfl,rfl,trivial⟩ (x:=[(300,νb 300,.box e.cells)]) (x':=[(300,νb 300,.box e.cells)]) rfl rfl rfl (Zk rfl (ZH _)) rfl)
   ·rw [if_neg h2] at ha0
    rw [decide_eq_false h2]
    repeat (first | (refine Zf rfl rfl ?_) | refine Zn rfl (by (conv=>lhs;whnf);try rfl) ?_ | refine ZL rfl rfl rfl rfl (by (conv=>lhs;whnf);try rfl) ?_ | refine Zc ?_ | refine Zh ?_ | refine Za ?_)
    by_cases h3:e.kind=3
    ·rw [if_pos h3] at ha0
     obtain ⟨s,hs,ha0⟩:=Option.bind_eq_some_iff.1 ha0
     rw [decide_eq_true h3]
     repeat (first | (refine Zo rfl rfl ?_) | (refine Ze0 (Zdb _ _ _ hs) rfl rfl ?_) | (refine Zs [_] νb (Zbx e2 r s hf.1 hf.2 a0 ha0) rfl rfl rfl rfl rfl rfl ?_) | refine Zm rfl (by (conv=>lhs;whnf);try rfl) ?_ | refine ZA rfl rfl rfl ?_ | refine Zi rfl rfl ?_ | refine Zak rfl rfl ?_ | refine Zc ?_ | refine Za ?_ | refine Zx ?_ | refine ZJ ?_)
     exact Zc1 a0 2 rfl (ZaJ (νc 6 6) [_] (Zs5 (νc 6 6)) Zh9 rfl ⟨rfl,rfl,trivial⟩ (x:=[(300,νb 300,.box e.cells)]) (x':=[(300,νb 300,.box e.cells)]) rfl rfl rfl (Zk rfl (ZH _)) rfl)
    ·rw [if_neg h3] at ha0
     injection ha0 with ha0
     subst ha0
     rw [decide_eq_false h3]
     repeat (first | (refine Zf rfl rfl ?_) | refine Zz ?_ | refine Zx ?_ | refine ZJ ?_)
     exact Zc1 e2 2 rfl (ZaJ (νb) [_] (Zs5 (νb)) Zh9 rfl ⟨rfl,rfl,trivial⟩ (x:=[(300,νb 300,.box e.cells)]) (x':=[(300,νb 300,.box e.cells)]) rfl rfl rfl (Zk rfl (ZH _)) rfl)
 ·subst hJ
  repeat (first | (refine Zs [_] νb (ZgB e.list _ b0 r hfa hb0) rfl rfl rfl rfl rfl rfl ?_) | refine Zm rfl (by (conv=>lhs;whnf);try rfl) ?_ | refine ZA rfl rfl rfl ?_ | refine Zi rfl rfl ?_ | refine Zak rfl rfl ?_ | refine ZgT rfl rfl ?_ | refine Zc ?_ | refine Zh ?_ | refine Za ?_ | refine ZU ?_)
  refine Zq (fun (a:Nat×El) _=>mkS [(0,.ptr 0 (0,0) 0),(42,.sl (e.argL.map Arg.cs)),(43,.int .i64 ((e.argL.map Arg.cs).length:Int)),(44,.int .i64 ((a.1:Nat):Int))] (somes (stP νb a.2 r)) 2) (fun a=>a.1≤e.argL.length∧fit a.2 r∧Zh8 a.2 (e.argL.drop a.1)=some e3) (fun a=>e.argL.length - a.1) (0,b0) 2 ⟨Nat.zero_le _,hfb,h4⟩
   (ZaJ (νc 2 5) [_] (fun k=>(k,νc 2 5 k)) (fun _ _=>rfl) rfl ⟨rfl,rfl,rfl,rfl,trivial⟩ (x:=[]) (x':=[]) rfl rfl rfl (ZH _) rfl) (fun a ng hJ=>?_)
  obtain ⟨q,e1⟩:=a
  obtain ⟨hq,hf1,hn⟩:=hJ
  dsimp only at hq hf1 hn ⊢
  repeat (first | refine ZL rfl rfl rfl rfl (by (conv=>lhs;whnf);try rfl) ?_ | refine Zc ?_ | refine Zh ?_ | refine Za ?_)
  by_cases hlt:q<e.argL.length
  ·refine Zo (by (conv=>lhs;whnf);try rfl) (by simp;omega) ?_
   rw [List.drop_eq_getElem_cons hlt] at hn
   obtain ⟨e5,h5,hn⟩:=Option.bind_eq_some_iff.1 hn
   have hf5:=ZiF hf1 h5
   have hcs:(e.argL.map Arg.cs)[q]? = some (Arg.cs e.argL[q]):=by rw [List.getElem?_map,List.getElem?_eq_getElem hlt];rfl
   generalize e.argL[q]=ar at hcs h5
   obtain ⟨named,name,value⟩:=ar
   obtain ⟨b,hb,h5⟩:=Option.bind_eq_some_iff.1 h5
   obtain ⟨d,hd,h5⟩:=Option.bind_eq_some_iff.1 h5
   have hfb2:=ZV hf1 hb
   cases named with
   | true=>
     rw [if_pos rfl] at hd
     obtain ⟨c,hc,hd⟩:=Option.bind_eq_some_iff.1 hd
     have hfc:=ZcD hfb2 hc
     have hfd:=ZV hfc hd
     repeat (first | (refine Zdx rfl rfl rfl hcs rfl ?_) | (refine Zo rfl rfl ?_) | (refine Zs [_,_] νb (Zbx e1 r _ hf1.1 hf1.2 b hb) rfl rfl rfl rfl rfl rfl ?_) | (refine Zs [_,_] (νc _ _) (ZgB name b c r hfb2 hc) rfl rfl rfl rfl rfl rfl ?_) | (refine Zs [_,_] (νc _ _) (Zbx c r _ hfc.1 hfc.2 d hd) rfl rfl rfl rfl rfl rfl ?_) | (refine Zs [_,_] (νc _ _) (ZgB value d e5 r hfd h5) rfl rfl rfl rfl rfl rfl ?_) | refine Zm rfl (by (conv=>lhs;whnf);try rfl) ?_ | refine ZA rfl rfl rfl ?_ | refine Zi rfl rfl ?_ | refine Zmc rfl rfl (by omega) ?_ | refine ZcK rfl rfl ?_ | refine Zap rfl rfl rfl (by (conv=>lhs;whnf);try rfl) (by (conv=>lhs;whnf);try rfl) (by rfl) (by rfl) (Nat.le_of_ble_eq_true rfl) (by (conv=>lhs;whnf);try rfl) ?_ | refine Zc ?_ | refine Zh ?_ | refine Za ?_ | refine ZU ?_ | refine Zz ?_ | refine Zx ?_)
     exact ZR (q+1,e5) 2 ⟨by omega,hf5,hn⟩ (by dsimp only;omega) (ZaJ (νc 8 3) [_,_] (fun k=>(k,νc 8 3 k)) (fun _ _=>rfl) rfl ⟨rfl,rfl,rfl,rfl,trivial⟩ (x:=[]) (x':=[]) rfl rfl rfl (ZH _) rfl)
   | false=>
     rw [if_neg Bool.false_ne_true] at hd
     injection hd with hd
     subst hd
     repeat (first | (refine Zdx rfl rfl rfl hcs rfl ?_) | (refine Zf rfl rfl ?_) | (refine Zs [_,_] νb (Zbx e1 r _ hf1.1 hf1.2 b hb) rfl rfl rfl rfl rfl rfl ?_) | (refine Zs [_,_] (νc _ _) (ZgB value b e5 r hfb2 h5) rfl rfl rfl rfl rfl rfl ?_) | refine Zm rfl (by (conv=>lhs;whnf);try rfl) ?_ | refine ZA rfl rfl rfl ?_ | refine Zi rfl rfl ?_ | refine Zmc rfl rfl (by omega) ?_ | refine ZcK rfl rfl ?_ | refine Zap rfl rfl rfl (by (conv=>lhs;whnf);try rfl) (by (conv=>lhs;whnf);try rfl) (by rfl) (by rfl) (Nat.le_of_ble_eq_true rfl) (by (conv=>lhs;whnf);try rfl) ?_ | refine Zc ?_ | refine Zh ?_ | refine Za ?_ | refine ZU ?_ | refine Zz ?_ | refine Zx ?_)
     exact ZR (q+1,e5) 2 ⟨by omega,hf5,hn⟩ (by dsimp only;omega) (ZaJ (νc 6 3) [_,_] (fun k=>(k,νc 6 3 k)) (fun _ _=>rfl) rfl ⟨rfl,rfl,rfl,rfl,trivial⟩ (x:=[]) (x':=[]) rfl rfl rfl (ZH _) rfl)
  ·refine Zf (by (conv=>lhs;whnf);try rfl) (by simp;omega) ?_
   repeat (first | refine ZaR ?_ | refine Zx ?_ | refine ZcN ?_ | refine Zgo ?_)
   obtain rfl:q=e.argL.length:=by omega
   rw [List.drop_length] at hn
   injection hn with hn
   subst hn
   exact Zbj (.inr rfl) νb [] [] rfl rfl trivial rfl rfl
end Go.Proofs.YtjblgpmagampbaaGreatDoor
namespace Go.Proofs.YtjblgpmagampbaaGreatDoor
namespace VL
section
variable {P:Program} [WInv P] {ops:Array Oper} {draw:Bool} {i:Nat} {L:List Oper} {acc:List (List Nat×List Nat)} {K:FS→Prop} {tm:List (Nat×PV)} {ob:List (Nat×Option (Gen×VObj))} {ng:Nat}
 {d:Option Tmp} {ty:TypeId} {pos:String} {after:Array Edge} {gd:Option (Nat×Bool)}
theorem ZkA {x:Operand} {T:TypeId} {agg:Bool} {n:Nat} [h:Ld P T agg n] (hw:Zb ops (mkS tm ob ng) ⟨d,.load T x,ty,pos,after,gd⟩=some true) {cs:List PV} {t off:Nat} {g:Gen} {v:PV} (hx:evL tm x = .ptr t g off) (hb:Zg ob t=some (g,.box cs)) (hv:ZlI agg n (cs.drop off)=some v)
  (k:GoL P ops draw (i+1) L (acc ++ [(Zr (mkS tm ob ng) ⟨d,.load T x,ty,pos,after,gd⟩,[])]) (mkS (Zau d v tm) ob ng) K):GoL P ops draw i (⟨d,.load T x,ty,pos,after,gd⟩::L) acc (mkS tm ob ng) K:=by
 refine ZA (cs:=cs.drop off) hw ?_ hv k
 rw [hx]
 simp only [ZeD,ZG,hb,if_true]
end
theorem Zrp {ν:Nat→Gen} {NT AT:Nat} {e':El} {r':List El}:∀ {r:List El},(e'::r') <:+ r→(Zdh ν r)[r'.length]? = some [.ptr (Za4 r') (ν (Za4 r')) 0]∧(Za4 r',ν (Za4 r'),VObj.box [.int .i64 e'.kind,.int .i64 e'.tag,.int .i64 e'.count,.row (Za4 r'+1) (ν (Za4 r'+1)),.row (Za4 r'+2) (ν (Za4 r'+2))]) ∈ ZeV NT AT ν r
 | [],h=>by cases List.suffix_nil.1 h
 | x::r,h=>by
   rcases List.suffix_cons_iff.1 h with h | h
   ·injection h with h1 h2
    subst h1 h2
    exact ⟨by unfold Zdh;have:=Zmo ν r' [.ptr (Za4 r') (ν (Za4 r')) 0];exact this,List.mem_append_left _ (List.mem_cons_self ..)⟩
   ·obtain ⟨h1,h2⟩:=Zrp (NT:=NT) (AT:=AT) h
    refine ⟨?_,List.mem_append_right _ h2⟩
    unfold Zdh
    rw [List.getElem?_append_left (List.getElem?_eq_some_iff.1 h1).1]
    exact h1
theorem Zrq {ν:Nat→Gen} {NT AT ET:Nat} {e e':El} {r r':List El} (h:(e'::r') <:+ (e::r)):∃ b c1 c2,(Zdh ν r ++ [[.ptr 1001 (ν 1001) 0]])[r'.length]? = some [.ptr b (ν b) 0]∧(b,ν b,VObj.box [.int .i64 e'.kind,.int .i64 e'.tag,.int .i64 e'.count,c1,c2]) ∈ stO NT AT ET ν e r:=by
 rcases List.suffix_cons_iff.1 h with h | h
 ·injection h with h1 h2
  subst h1 h2
  exact ⟨1001,_,_,Zmo ν r' _,List.mem_cons_of_mem _ (List.mem_cons_of_mem _ (List.mem_append_left _ (List.mem_cons_self ..)))⟩
 ·obtain ⟨h1,h2⟩:=Zrp (NT:=NT) (AT:=AT) (ν:=ν) h
  refine ⟨_,_,_,?_,List.mem_cons_of_mem _ (List.mem_cons_of_mem _ (List.mem_append_right _ h2))⟩
  rw [List.getElem?_append_left (List.getElem?_eq_some_iff.1 h1).1]
  exact h1
end VL
open VL
def ZaP:El→List El→Nat
 | _,[]=>0
 | e,e2::r=>if e.kind=2 then 0 else if e.kind=3 then r.length+1 else ZaP e2 r
def Zbk (k:Int):El→List El→Nat
 | _,[]=>0
 | e,e2::r=>if e.kind=2∧e.tag=k then r.length+1 else Zbk k e2 r
theorem Zge {e:El} {r:List El} {tm tm':List (Nat×PV)} {ng:Nat} (h1:Zfs (σf fun k=>(k,νa k)) tm tm'):Shift (mkS tm (somes (stP νa e r)) ng) (mkS tm' (somes (stP νa e r)) 2):=
 ZeK _ h1 (ZjM (ν:=νa) (ν':=νa) (fun _ _=>rfl) e r) (ZaU (lits:=[]) rfl) (Zay _ _ _)
set_option maxRecDepth 100000 in
set_option maxHeartbeats 1000000 in
theorem Zms (e:El) (r:List El) (hr:r.length≤1000):ContractG Tryz.prog 305 [.ptr 0 (0,0) 0] (objs (stP νa e r)) (.int .i64 (ZaP e r:Int)) (stP νa e r):=by
 refine Zy mix Tryz.func305 (by kernel_rfl) rfl (by kernel_rfl) ?_
 rw [ZbF]
 repeat (first | (refine ZaW rfl rfl (ZbD _ _ _) ?_) | (refine ZfU rfl rfl rfl (by omega) ?_) | refine Zm rfl (by (conv=>lhs;whnf);try rfl) ?_ | refine ZA rfl rfl rfl ?_ | refine Zi rfl rfl ?_ | refine Zn rfl (by (conv=>lhs;whnf);try rfl) ?_ | refine Zak rfl rfl ?_ | refine Zc ?_ | refine Zh ?_ | refine Za ?_ | refine ZU ?_)
 refine Zq (fun (a:El×List El) _=>mkS [(0,.ptr 0 (0,0) 0),(3,.int .i64 (a.2.length:Int))] (somes (stP νa e r)) 2) (fun a=>(a.1::a.2) <:+ (e::r)∧ZaP a.1 a.2=ZaP e r) (fun a=>a.2.length) (e,r) 2 ⟨List.suffix_refl _,rfl⟩ (Zge ⟨rfl,rfl,trivial⟩) (fun a ng hJ=>?_)
 obtain ⟨e1,r1⟩:=a
 obtain ⟨hsuf,hlb⟩:=hJ
 dsimp only at hsuf hlb ⊢
 have hlt:r1.length<r.length+1:=by have:=hsuf.length_le;simp at this;omega
 obtain ⟨b,c1,c2,hp,hm⟩:=Zrq (ν:=νa) (NT:=197) (AT:=256) (ET:=243) hsuf
 have hb:=ZaU (lits:=[]) rfl _ _ _ hm
 rcases r1 with _ | ⟨e2,r2⟩
 ·repeat (first | (refine ZI rfl ?_) | (refine Zf rfl rfl ?_) | refine Zm rfl (by (conv=>lhs;whnf);try rfl) ?_ | refine Zn rfl (by (conv=>lhs;whnf);try rfl) ?_ | refine ZL rfl rfl rfl rfl (by (conv=>lhs;whnf);try rfl) ?_ | refine ZaL rfl rfl (by (conv=>lhs;whnf);try rfl) ?_ | refine Zc ?_ | refine Zh ?_ | refine Za ?_ | refine ZaY ?_ | refine ZaR ?_)
  rw [← hlb]
  exact ZgJ (Shift.refl _) rfl rfl (ZaU (lits:=[]) rfl)
 ·have h0:decide ((0:Int)<(((e2::r2).length:Nat):Int))=true:=decide_eq_true (by simp)
  repeat (first | refine Zm rfl (by (conv=>lhs;whnf);try rfl) ?_ | refine ZL rfl rfl rfl rfl (by (conv=>lhs;whnf);try rfl) ?_ | refine Zh ?_ | refine Za ?_)
  rw [h0]
  repeat (first | (refine Zd9 rfl rfl rfl rfl (by rw [ZbD];exact hlt) ?_) | (refine Zcq rfl rfl rfl hp rfl ?_) | (refine ZkA rfl rfl hb rfl ?_) | refine Zm rfl (by (conv=>lhs;whnf);try rfl) ?_ | refine ZA rfl rfl rfl ?_ | refine Zi rfl rfl ?_ | refine ZL rfl rfl rfl rfl (by (conv=>lhs;whnf);try rfl) ?_ | refine Zak rfl rfl ?_ | refine ZaL rfl rfl (by (conv=>lhs;whnf);try rfl) ?_ | refine Zc ?_)
  by_cases h2:e1.kind=2
  ·rw [decide_eq_true h2]
   repeat (first | (refine Zf rfl rfl ?_) | refine Zn rfl (by (conv=>lhs;whnf);try rfl) ?_ | refine Zc ?_ | refine Zh ?_ | refine Za ?_ | refine ZaY ?_ | refine ZaR ?_)
   rw [show ZaP e r=0 by rw [← hlb];simp only [ZaP,if_pos h2]]
   exact ZgJ (Shift.refl _) rfl rfl (ZaU (lits:=[]) rfl)
  ·rw [decide_eq_false h2]
   repeat (first | (refine Zo rfl rfl ?_) | (refine Zd9 rfl rfl rfl rfl (by rw [ZbD];exact hlt) ?_) | (refine Zcq rfl rfl rfl hp rfl ?_) | (refine ZkA rfl rfl hb rfl ?_) | refine Zm rfl (by (conv=>lhs;whnf);try rfl) ?_ | refine ZA rfl rfl rfl ?_ | refine Zi rfl rfl ?_ | refine ZL rfl rfl rfl rfl (by (conv=>lhs;whnf);try rfl) ?_ | refine Zak rfl rfl ?_ | refine Zc ?_ | refine Zh ?_ | refine Za ?_ | refine ZU ?_ | refine Zz ?_)
   by_cases h3:e1.kind=3
   ·rw [decide_eq_true h3]
    repeat (first | (refine Zo rfl rfl ?_) | refine Zm rfl (by (conv=>lhs;whnf);try rfl) ?_ | refine Zn rfl (by (conv=>lhs;whnf);try rfl) ?_ | refine Zc ?_ | refine Zh ?_ | refine Za ?_ | refine ZaY ?_ | refine ZpH ?_ | refine ZpI ?_)
    rw [show ZaP e r=r2.length+1 by rw [← hlb];simp only [ZaP,if_neg h2,if_pos h3]]
    exact ZgJ (Shift.refl _) rfl rfl (ZaU (lits:=[]) rfl)
   ·rw [decide_eq_false h3]
    repeat (first | (refine Zf rfl rfl ?_) | (refine ZfU (a:=r2.length) rfl rfl rfl (by simp at hlt;omega) ?_) | refine Zm rfl (by (conv=>lhs;whnf);try rfl) ?_ | refine Zn rfl (by (conv=>lhs;whnf);try rfl) ?_ | refine Zc ?_ | refine Za ?_ | refine Zz ?_ | refine Zx ?_)
    refine ZR (e2,r2) 2 ⟨(List.suffix_cons _ _).trans hsuf,?_⟩ (by dsimp only;simp) (Zge ⟨rfl,rfl,trivial⟩)
    rw [← hlb]
    simp only [ZaP,if_neg h2,if_neg h3]
end Go.Proofs.YtjblgpmagampbaaGreatDoor
namespace Go.Proofs.YtjblgpmagampbaaGreatDoor
open VL
def ok1 (x:El):Prop:=(∀ q,x.args=some q→q.1.length≤1000000)∧x.cur.length≤9223372036854775807
def fits (e:El) (r:List El):Prop:=r.length≤999∧∀ x ∈ e::r,ok1 x
theorem ZS {e:El} {r:List El} (h:fits e r):fit e r:=⟨⟨by have:=h.1;omega,(h.2 e (List.mem_cons_self ..)).1⟩,(h.2 e (List.mem_cons_self ..)).2⟩
theorem Zal {e e2:El} {r:List El} (h:fits e (e2::r)):fits e2 r:=⟨by have:=h.1;simp at this;omega,fun x hx=>h.2 x (List.mem_cons_of_mem _ hx)⟩
theorem Zbl {e e':El} {r:List El} (h:fits e r) (h':fit e' r):fits e' r:=⟨h.1,fun x hx=>by
 rcases List.mem_cons.1 hx with rfl | hx
 ·exact ⟨h'.1.2,h'.2⟩
 ·exact h.2 x (List.mem_cons_of_mem _ hx)⟩
theorem ZhG {r:List El}:∀ {l:List Arg} {e e':El},fit e r→Zh8 e l=some e'→fit e' r
 | [],e,e',hf,h=>by injection h with h;rw [← h];exact hf
 | a::l,e,e',hf,h=>by
   obtain ⟨e1,h1,h⟩:=Option.bind_eq_some_iff.1 h
   exact ZhG (ZiF hf h1) h
theorem Zdn {e e2 e3:El} {r:List El} (hf:fits e (e2::r)) (h:Zks e e2=some e3):fits e3 r:=by
 refine Zbl (Zal hf) ?_
 obtain ⟨a,ha,h⟩:=Option.bind_eq_some_iff.1 h
 obtain ⟨b,hb,h⟩:=Option.bind_eq_some_iff.1 h
 split at h
 ·exact ZhG (ZcD (ZhD (ZS (Zal hf)) ha) hb) h
 ·cases h
def ZhH:Nat→El→List El→Option (El×List El)
 | 0,e,r=>some (e,r)
 | _+1,_,[]=>none
 | n+1,e,e2::r=>(Zks e e2).bind fun e3=>ZhH n e3 r
theorem Zju {P:Program} [WInv P] {f:FuncId} {args args':List PV} {obs:List (Nat×VObj)} {res:PV} {obs':List (Nat×Gen×VObj)} (hl:args.length=args'.length) (h:∀ (x:Ctx) (i:Nat) (p p':PV) (v:Value),args[i]? = some p→args'[i]? = some p'→Rep x p v→Rep x p' v)
  (hc:ContractG P f args' obs res obs'):ContractG P f args obs res obs':=by
 refine ⟨hc.isGo,fun x vs hp hI=>hc.calls x vs ⟨hl.symm.trans hp.size,fun i p' v hp' hv=>?_,hp.ob,hp.gen,hp.flt⟩ hI⟩
 have hlt:i<args.length:=by rw [hl];exact (List.getElem?_eq_some_iff.1 hp').1
 exact h x i _ p' v (List.getElem?_eq_getElem hlt) hp' (hp.rep i _ v (List.getElem?_eq_getElem hlt) hv)
theorem Ztd {x:Ctx} {v:Value} (h:Rep x .nil v):Rep x (.sl []) v:=by
 cases h
 exact .sl [] none 0 0 0 0 0 (fun _ _=>undef) rfl (Nat.le_refl _) (by omega) (by simp) (by omega) (fun i j e p he=>by simp at he) (fun i j e p he=>by simp at he)
theorem Zr5 {x:Ctx} {v:Value} {cs cs':List PV} (hl:cs.length=cs'.length) (h:∀ (j:Nat) (q q':PV),cs[j]? = some q→cs'[j]? = some q'→q=q'∨(q = .nil∧q' = .sl [])) (hr:Rep x (.agg cs) v):Rep x (.agg cs') v:=by
 cases hr with
 | agg _ vs hl2 hh=>
   refine .agg cs' vs (hl.symm.trans hl2) fun i p' w hp' hw=>?_
   have hlt:i<cs.length:=by rw [hl];exact (List.getElem?_eq_some_iff.1 hp').1
   have hp:=List.getElem?_eq_getElem hlt
   rcases h i _ p' hp hp' with e | ⟨e1,e2⟩
   ·rw [← e]
    exact hh i _ w hp hw
   ·rw [e2]
    have:=hh i _ w hp hw
    rw [e1] at this
    exact Ztd this
theorem Zlw {e e':El} {r:List El} {n:Node} {cs:List PV} (hl:cs.length=5) (h:∀ (j:Nat) (q q':PV),cs[j]? = some q→n.cs[j]? = some q'→q=q'∨(q = .nil∧q' = .sl [])) (hc:PC 241 [.agg n.cs] e r (.tup []) e' r):PC 241 [.agg cs] e r (.tup []) e' r:=
 Zju (args':=[.ptr 0 (0,0) 0,.agg n.cs]) rfl (fun x i p p' v hp hp' hr=>by
  match i with
  | 0=>
    injection hp with hp
    injection hp' with hp'
    rw [← hp',hp]
    exact hr
  | 1=>
    injection hp with hp
    injection hp' with hp'
    have hr':Rep x (.agg cs) v:=by rw [hp];exact hr
    rw [← hp']
    exact Zr5 (hl.trans rfl) h hr'
  | i+2=>simp at hp) hc
theorem Zr6 (e e':El) (r:List El) (k t:Int) (s:ByteArray) (l:List (List PV)) (hs:small e r) (h:ZkC e ⟨k,t,s,l,[]⟩=some e'):PC 241 [.agg [.int .i64 k,.int .i64 t,.str s,.sl l,.nil]] e r (.tup []) e' r:=
 Zlw (n:=⟨k,t,s,l,[]⟩) rfl (fun j q q' hq hq'=>by
  match j with
  | 0=>injection hq with hq;injection hq' with hq';exact .inl (hq.symm.trans hq')
  | 1=>injection hq with hq;injection hq' with hq';exact .inl (hq.symm.trans hq')
  | 2=>injection hq with hq;injection hq' with hq';exact .inl (hq.symm.trans hq')
  | 3=>injection hq with hq;injection hq' with hq';exact .inl (hq.symm.trans hq')
  | 4=>injection hq with hq;injection hq' with hq';exact .inr ⟨hq.symm,hq'.symm⟩
  | j+5=>simp at hq) (ZgR e r _ hs e' h)
theorem Zpa (e e':El) (r:List El) (k t:Int) (s:ByteArray) (hs:small e r) (h:ZkC e ⟨k,t,s,[],[]⟩=some e'):PC 241 [.agg [.int .i64 k,.int .i64 t,.str s,.nil,.nil]] e r (.tup []) e' r:=
 Zlw (n:=⟨k,t,s,[],[]⟩) rfl (fun j q q' hq hq'=>by
  match j with
  | 0=>injection hq with hq;injection hq' with hq';exact .inl (hq.symm.trans hq')
  | 1=>injection hq with hq;injection hq' with hq';exact .inl (hq.symm.trans hq')
  | 2=>injection hq with hq;injection hq' with hq';exact .inl (hq.symm.trans hq')
  | 3=>injection hq with hq;injection hq' with hq';exact .inr ⟨hq.symm,hq'.symm⟩
  | 4=>injection hq with hq;injection hq' with hq';exact .inr ⟨hq.symm,hq'.symm⟩
  | j+5=>simp at hq) (ZgR e r _ hs e' h)
theorem ZjY (k:Int):∀ (e:El) (r:List El),Zbk k e r≤r.length
 | _,[]=>Nat.le_refl _
 | e,e2::r=>by
   unfold Zbk
   split
   ·simp
   ·have:=ZjY k e2 r
    simp
    omega
def Zfh (k:Int) (s:ByteArray) (e:El) (r:List El):Option (El×List El):=if Zbk k e r=0 then (ZcH e s).map fun e'=>(e',r) else (ZhH (r.length - Zbk k e r) e r).bind fun q=>match q.2 with
 | []=>none
 | e2::r2=>(ZkC e2 ⟨6,k,⟨#[]⟩,q.1.list,[]⟩).map fun e3=>(e3,r2)
set_option maxRecDepth 100000 in
set_option maxHeartbeats 1000000 in
theorem ZnO (k:Int) (s:ByteArray) (e e3:El) (r r3:List El) (hf:fits e r) (h:Zfh k s e r=some (e3,r3)):PC 247 [.int .i64 k,.str s] e r (.tup []) e3 r3:=by
 have hr:=hf.1
 have hat:=ZjY k e r
 refine Zy mix Tryz.func247 (by kernel_rfl) rfl (by kernel_rfl) ?_
 rw [ZbF]
 repeat (first | (refine ZaW rfl rfl (ZbD _ _ _) ?_) | (refine ZfU rfl rfl rfl (by omega) ?_) | (refine ZaV (α:=Unit) (c:=.block 0 _) (fun _ _=>mkS [(0,.ptr 0 (0,0) 0),(1,.int .i64 k),(2,.str s),(6,.int .i64 (Zbk k e r:Int))] (somes (stP νa e r)) 2) (fun _=>True) ?_ (fun a _ _=>?_)) | refine Zm rfl (by (conv=>lhs;whnf);try rfl) ?_ | refine ZA rfl rfl rfl ?_ | refine Zi rfl rfl ?_ | refine Zn rfl (by (conv=>lhs;whnf);try rfl) ?_ | refine Zak rfl rfl ?_ | refine Zc ?_ | refine Zh ?_ | refine Za ?_ | refine ZU ?_)
 ·refine Zq (fun (a:El×List El) _=>mkS [(0,.ptr 0 (0,0) 0),(1,.int .i64 k),(2,.str s),(6,.int .i64 (a.2.length:Int))] (somes (stP νa e r)) 2) (fun a=>(a.1::a.2) <:+ (e::r)∧Zbk k a.1 a.2=Zbk k e r) (fun a=>a.2.length) (e,r) 2 ⟨List.suffix_refl _,rfl⟩ (Zge ⟨rfl,rfl,rfl,rfl,trivial⟩) (fun a ng hJ=>?_)
  obtain ⟨e1,r1⟩:=a
  obtain ⟨hsuf,hlb⟩:=hJ
  dsimp only at hsuf hlb ⊢
  have hlt:r1.length<r.length+1:=by have:=hsuf.length_le;simp at this;omega
  obtain ⟨b,c1,c2,hp,hm⟩:=Zrq (ν:=νa) (NT:=197) (AT:=256) (ET:=243) hsuf
  have hb:=ZaU (lits:=[]) rfl _ _ _ hm
  rcases r1 with _ | ⟨e2,r2⟩
  ·repeat (first | (refine ZI rfl ?_) | (refine Zf rfl rfl ?_) | refine Zm rfl (by (conv=>lhs;whnf);try rfl) ?_ | refine ZL rfl rfl rfl rfl (by (conv=>lhs;whnf);try rfl) ?_ | refine ZaL rfl rfl (by (conv=>lhs;whnf);try rfl) ?_ | refine Zc ?_ | refine Zh ?_ | refine Za ?_ | refine ZaR ?_ | refine Zx ?_ | refine ZcN ?_ | refine Zgo ?_)
   rw [← hlb]
   exact Zc1 () 2 trivial (Zge ⟨rfl,rfl,rfl,rfl,trivial⟩)
  ·have h0:decide ((0:Int)<(((e2::r2).length:Nat):Int))=true:=decide_eq_true (by simp)
   repeat (first | refine Zm rfl (by (conv=>lhs;whnf);try rfl) ?_ | refine ZL rfl rfl rfl rfl (by (conv=>lhs;whnf);try rfl) ?_ | refine Zh ?_ | refine Za ?_)
   rw [h0]
   repeat (first | (refine Zd9 rfl rfl rfl rfl (by rw [ZbD];exact hlt) ?_) | (refine Zcq rfl rfl rfl hp rfl ?_) | (refine ZkA rfl rfl hb rfl ?_) | refine Zm rfl (by (conv=>lhs;whnf);try rfl) ?_ | refine ZA rfl rfl rfl ?_ | refine Zi rfl rfl ?_ | refine ZL rfl rfl rfl rfl (by (conv=>lhs;whnf);try rfl) ?_ | refine Zak rfl rfl ?_)
   by_cases h2:e1.kind=2
   ·rw [decide_eq_true h2]
    repeat (first | (refine Zd9 rfl rfl rfl rfl (by rw [ZbD];exact hlt) ?_) | (refine Zcq rfl rfl rfl hp rfl ?_) | (refine ZkA rfl rfl hb rfl ?_) | refine Zm rfl (by (conv=>lhs;whnf);try rfl) ?_ | refine ZA rfl rfl rfl ?_ | refine Zi rfl rfl ?_ | refine ZL rfl rfl rfl rfl (by (conv=>lhs;whnf);try rfl) ?_ | refine Zak rfl rfl ?_ | refine ZaL rfl rfl (by (conv=>lhs;whnf);try rfl) ?_ | refine Zc ?_)
    by_cases h3:e1.tag=k
    ·rw [decide_eq_true h3]
     repeat (first | (refine Zf rfl rfl ?_) | refine ZaR ?_ | refine Zx ?_ | refine ZcN ?_ | refine Zgo ?_)
     rw [show Zbk k e r=r2.length+1 by rw [← hlb];simp only [Zbk,if_pos (And.intro h2 h3)]]
     exact Zc1 () 2 trivial (Zge ⟨rfl,rfl,rfl,rfl,trivial⟩)
    ·rw [decide_eq_false h3]
     repeat (first | (refine Zo rfl rfl ?_) | (refine ZfU (a:=r2.length) rfl rfl rfl (by simp at hlt;omega) ?_) | refine Zm rfl (by (conv=>lhs;whnf);try rfl) ?_ | refine Zn rfl (by (conv=>lhs;whnf);try rfl) ?_ | refine Zc ?_ | refine Za ?_ | refine ZU ?_ | refine Zz ?_ | refine Zx ?_ | refine ZJ ?_)
     refine ZR (e2,r2) 2 ⟨(List.suffix_cons _ _).trans hsuf,?_⟩ (by dsimp only;simp) (Zge ⟨rfl,rfl,rfl,rfl,trivial⟩)
     rw [← hlb]
     simp only [Zbk,if_neg (fun h:e1.kind=2∧e1.tag=k=>h3 h.2)]
   ·rw [decide_eq_false h2]
    repeat (first | (refine ZI rfl ?_) | (refine Zo rfl rfl ?_) | (refine ZfU (a:=r2.length) rfl rfl rfl (by simp at hlt;omega) ?_) | refine Zm rfl (by (conv=>lhs;whnf);try rfl) ?_ | refine Zn rfl (by (conv=>lhs;whnf);try rfl) ?_ | refine ZaL rfl rfl (by (conv=>lhs;whnf);try rfl) ?_ | refine Zc ?_ | refine Za ?_ | refine ZU ?_ | refine Zz ?_ | refine Zx ?_ | refine ZJ ?_)
    refine ZR (e2,r2) 2 ⟨(List.suffix_cons _ _).trans hsuf,?_⟩ (by dsimp only;simp) (Zge ⟨rfl,rfl,rfl,rfl,trivial⟩)
    rw [← hlb]
    simp only [Zbk,if_neg (fun h:e1.kind=2∧e1.tag=k=>h2 h.1)]
 ·unfold Zfh at h
  by_cases h0:Zbk k e r=0
  ·rw [if_pos h0] at h
   obtain ⟨e',he',h⟩:=Option.map_eq_some_iff.1 h
   injection h with q1 q2
   subst q1 q2
   repeat (first | refine Zm rfl (by (conv=>lhs;whnf);try rfl) ?_ | refine ZL rfl rfl rfl rfl (by (conv=>lhs;whnf);try rfl) ?_ | refine Zc ?_ | refine Zh ?_ | refine Za ?_)
   rw [show decide (((Zbk k e r:Nat):Int)=0)=true from decide_eq_true (by omega)]
   repeat (first | (refine Zo rfl rfl ?_) | (refine Zs [] νa (Zbx e r s (ZS hf).1 (ZS hf).2 e' he') rfl rfl rfl rfl rfl rfl ?_) | refine Zm rfl (by (conv=>lhs;whnf);try rfl) ?_ | refine Zc ?_ | refine Zh ?_ | refine Za ?_ | refine ZaY ?_)
   exact Zbj (.inl rfl) (νc 3 2) [] [] rfl rfl trivial rfl rfl
  ·rw [if_neg h0] at h
   obtain ⟨⟨e4,r4⟩,hfl,h⟩:=Option.bind_eq_some_iff.1 h
   rcases r4 with _ | ⟨e5,r5⟩
   ·cases h
   obtain ⟨e6,he6,h⟩:=Option.map_eq_some_iff.1 h
   injection h with q1 q2
   subst q1 q2
   repeat (first | refine Zm rfl (by (conv=>lhs;whnf);try rfl) ?_ | refine ZL rfl rfl rfl rfl (by (conv=>lhs;whnf);try rfl) ?_ | refine Zc ?_ | refine Zh ?_ | refine Za ?_)
   rw [show decide (((Zbk k e r:Nat):Int)=0)=false from decide_eq_false (by omega)]
   repeat (first | (refine Zf rfl rfl ?_) | refine Zh ?_ | refine ZU ?_ | refine Zz ?_)
   generalize Zbk k e r=at_ at hat h0 hfl ⊢
   refine Zq (fun (a:El×List El) _=>mkS [(0,.ptr 0 (0,0) 0),(1,.int .i64 k),(6,.int .i64 (at_:Int))] (somes (stP νb a.1 a.2)) 2) (fun a=>fits a.1 a.2∧at_≤a.2.length∧ZhH (a.2.length - at_) a.1 a.2=some (e4,e5::r5)) (fun a=>a.2.length) (e,r) 2 ⟨hf,hat,hfl⟩
    (ZaJ νa [] (fun k=>(k,νa k)) (fun _ _=>rfl) rfl ⟨rfl,rfl,rfl,trivial⟩ (x:=[]) (x':=[]) rfl rfl rfl (ZH _) rfl) (fun a ng hJ=>?_)
   obtain ⟨e1,r1⟩:=a
   obtain ⟨hf1,hle,hft⟩:=hJ
   dsimp only at hf1 hle hft ⊢
   have hr1:=hf1.1
   repeat (first | (refine ZaW rfl rfl (ZbD _ _ _) ?_) | refine Zm rfl (by (conv=>lhs;whnf);try rfl) ?_ | refine ZA rfl rfl rfl ?_ | refine Zi rfl rfl ?_ | refine Zmc rfl rfl (by omega) ?_ | refine ZL rfl rfl rfl rfl (by (conv=>lhs;whnf);try rfl) ?_ | refine Zak rfl rfl ?_ | refine Zc ?_ | refine Zh ?_ | refine Za ?_)
   by_cases hgt:at_<r1.length
   ·rw [show decide (((at_+1:Nat):Int)<((r1.length+1:Nat):Int))=true from decide_eq_true (by omega)]
    rcases r1 with _ | ⟨e2,r2⟩
    ·simp at hgt
    simp only [List.length_cons] at hgt hle hft hr1
    rw [show r2.length+1 - at_=(r2.length - at_)+1 by omega] at hft
    obtain ⟨e7,he7,hft⟩:=Option.bind_eq_some_iff.1 hft
    repeat (first | (refine Zo rfl rfl ?_) | (refine Zs [] νb (ZiG e1 e2 e7 r2 (by omega) (ZS (Zal hf1)) he7) rfl rfl rfl rfl rfl rfl ?_) | refine Zm rfl (by (conv=>lhs;whnf);try rfl) ?_ | refine Zc ?_ | refine Za ?_ | refine ZU ?_ | refine Zz ?_ | refine Zx ?_ | refine ZJ ?_)
    exact ZR (e7,r2) 2 ⟨Zdn hf1 he7,by dsimp only;omega,hft⟩ (by dsimp only;simp) (ZaJ (νc 3 1) [] (fun k=>(k,νc 3 1 k)) (fun _ _=>rfl) rfl ⟨rfl,rfl,rfl,trivial⟩ (x:=[]) (x':=[]) rfl rfl rfl (ZH _) rfl)
   ·rw [show decide (((at_+1:Nat):Int)<((r1.length+1:Nat):Int))=false from decide_eq_false (by omega)]
    rw [show r1.length - at_=0 by omega] at hft
    injection hft with hft
    injection hft with q1 q2
    subst q1 q2
    repeat (first | (refine Zf rfl rfl ?_) | refine Zm rfl (by (conv=>lhs;whnf);try rfl) ?_ | refine Zh ?_ | refine Za ?_ | refine ZaR ?_)
    refine ZeA [] νb (ZnV e1 e5 r5 (by simp at hr1;omega)) rfl rfl rfl rfl ?_
    iterate 2 (refine Zhp ?_)
    refine Zad (Zho (3,1+1000000 * (1000+1)) νb (tm':=[(0,.ptr 0 (0,0) 0),(1,.int .i64 k),(7,.ptr 300 (1,300) 0)]) ⟨rfl,rfl,rfl,trivial⟩) ?_ (List.cons_ne_nil _ _)
    repeat (first | (refine Zs [_] νb (Zr6 e5 e6 r5 6 k ⟨#[]⟩ e1.list (ZS (Zal hf1)).1 he6) rfl rfl rfl rfl rfl rfl ?_) | refine Zm rfl (by (conv=>lhs;whnf);try rfl) ?_ | refine ZA rfl rfl rfl ?_ | refine Zi rfl rfl ?_ | refine Zak rfl rfl ?_ | refine Zbg rfl rfl ?_ | refine Zc ?_ | refine Za ?_ | refine Zx ?_)
    exact Zbj (.inr rfl) (νc 2 7) [_] [] rfl rfl trivial rfl rfl
def Zhz (c count:Int):Int:=if 3≤c∧3≤count then 3 else 2
def ZhA (c:Int) (e:El):Node:=⟨if 3≤c∧3≤e.count then 5 else 4,0,⟨#[]⟩,e.list,e.argL.map Arg.cs⟩
def Ztx (c:Int) (e:El) (r:List El):Option (El×List El):=(strings_Repeat ⟨#[125]⟩ c).bind fun s=>(ZcH e s).map fun e'=>(e',r)
def ZtK (e2:El) (m:Int) (n:Node):Option El:=((if m=1 then ZcH e2 ⟨#[123]⟩ else some e2):Option El).bind fun e3=>ZkC e3 n
def Zbo:Nat→Int→El→List El→Option (El×List El)
 | 0,_,_,_=>none
 | f+1,c,e,r=>if 2≤c then (if ZaP e r=0 then Ztx c e r else
   (ZhH (r.length - ZaP e r) e r).bind fun q=>if c≤9223372036854775807∧0≤q.1.count∧q.1.count≤9223372036854775807 then
    (if 2≤q.1.count - Zhz c q.1.count then Zbo f (c - Zhz c q.1.count) ⟨q.1.kind,q.1.tag,q.1.count - Zhz c q.1.count,[(ZhA c q.1).cs],none⟩ q.2
     else match q.2 with
      | []=>none
      | e2::r2=>(ZtK e2 (q.1.count - Zhz c q.1.count) (ZhA c q.1)).bind fun e4=>Zbo f (c - Zhz c q.1.count) e4 r2) else none)
   else Ztx c e r
theorem Zh5 {e2 e4:El} {m:Int} {n:Node} {r:List El} (hf:fit e2 r) (h:ZtK e2 m n=some e4):fit e4 r:=by
 obtain ⟨e3,h3,h⟩:=Option.bind_eq_some_iff.1 h
 refine ZeC ?_ h
 split at h3
 ·exact ZV hf h3
 ·injection h3 with h3
  rw [← h3]
  exact hf
theorem ZeE:∀ {n:Nat} {e e':El} {r r':List El},fits e r→ZhH n e r=some (e',r')→fits e' r'
 | 0,e,e',r,r',hf,h=>by injection h with h;injection h with h1 h2;rw [← h1,← h2];exact hf
 | n+1,e,e',[],r',hf,h=>by cases h
 | n+1,e,e',e2::r,r',hf,h=>by
   obtain ⟨e3,h3,h⟩:=Option.bind_eq_some_iff.1 h
   exact ZeE (Zdn hf h3) h
theorem ZhB:∀ (e:El) (r:List El),ZaP e r≤r.length
 | _,[]=>Nat.le_refl _
 | e,e2::r=>by
   unfold ZaP
   split
   ·simp
   ·split
    ·simp
    ·have:=ZhB e2 r
     simp
     omega
theorem Zix (b:Nat) (ν:Nat→Gen) (pre:List Arg) (a:Arg):(ZfS b ν (some (pre,a))).set pre.length (Zaa [.bool a.named,.sl a.name,.row (b+3) (ν (b+3))] 2 [.sl a.value])=(pre ++ [a]).map Arg.cs:=by
 have:=ZfF b ν pre a a.cs
 rw [List.map_append]
 exact this
set_option maxRecDepth 100000 in
set_option maxHeartbeats 2000000 in
theorem Zkn (f:Nat) (c:Int) (e e9:El) (r r9:List El) (hf:fits e r) (h:Zbo f c e r=some (e9,r9)):PC 248 [.int .i64 c] e r (.tup []) e9 r9:=by
 refine Zy mix Tryz.func248 (by kernel_rfl) rfl (by kernel_rfl) ?_
 rw [ZbF]
 repeat (first | refine Zh ?_ | refine ZU ?_)
 refine Zq (fun (a:Nat×Int×El×List El) _=>mkS [(0,.ptr 0 (0,0) 0),(1,.int .i64 a.2.1)] (somes (stP νb a.2.2.1 a.2.2.2)) 2) (fun a=>fits a.2.2.1 a.2.2.2∧Zbo a.1 a.2.1 a.2.2.1 a.2.2.2=some (e9,r9)) (fun a=>a.1) (f,c,e,r) 2 ⟨hf,h⟩
  (ZaJ νa [] (fun k=>(k,νa k)) (fun _ _=>rfl) rfl ⟨rfl,rfl,trivial⟩ (x:=[]) (x':=[]) rfl rfl rfl (ZH _) rfl) (fun a ng hJ=>?_)
 clear h hf
 obtain ⟨f,c,e,r⟩:=a
 obtain ⟨hf,h⟩:=hJ
 dsimp only at hf h ⊢
 rcases f with _ | f
 ·cases h
 have hr:=hf.1
 unfold Zbo at h
 repeat (first | refine Zm rfl (by (conv=>lhs;whnf);try rfl) ?_ | refine ZL rfl rfl rfl rfl (by (conv=>lhs;whnf);try rfl) ?_ | refine Zc ?_ | refine Zh ?_ | refine Za ?_)
 by_cases hc2:2≤c
 rotate_left
 ·rw [if_neg hc2] at h
  obtain ⟨s,hs,h⟩:=Option.bind_eq_some_iff.1 h
  obtain ⟨e',he',h⟩:=Option.map_eq_some_iff.1 h
  injection h with q1 q2
  subst q1 q2
  rw [decide_eq_false hc2]
  repeat (first | (refine Zf rfl rfl ?_) | (refine Ze0 (Zdb _ _ _ hs) rfl rfl ?_) | (refine Zs [] νb (Zbx e r s (ZS hf).1 (ZS hf).2 e' he') rfl rfl rfl rfl rfl rfl ?_) | refine Zm rfl (by (conv=>lhs;whnf);try rfl) ?_ | refine Zc ?_ | refine Za ?_ | refine ZaR ?_ | refine Zx ?_)
  exact Zbj (.inr rfl) (νc 3 3) [] [] rfl rfl trivial rfl rfl
 rw [if_pos hc2] at h
 rw [decide_eq_true hc2]
 have hat:=ZhB e r
 have hlb:=Zms e r (by omega)
 generalize ZaP e r=at_ at hat h hlb
 repeat (first | (refine Zo rfl rfl ?_) | (refine ZO [] νb hlb rfl rfl rfl rfl rfl rfl ?_) | refine Zm rfl (by (conv=>lhs;whnf);try rfl) ?_ | refine Zn rfl (by (conv=>lhs;whnf);try rfl) ?_ | refine ZL rfl rfl rfl rfl (by (conv=>lhs;whnf);try rfl) ?_ | refine Zc ?_ | refine Zh ?_ | refine Za ?_ | refine ZU ?_ | refine Zz ?_)
 by_cases h0:at_=0
 ·rw [if_pos h0] at h
  obtain ⟨s,hs,h⟩:=Option.bind_eq_some_iff.1 h
  obtain ⟨e',he',h⟩:=Option.map_eq_some_iff.1 h
  injection h with q1 q2
  subst q1 q2
  rw [show decide ((at_:Int)=0)=true from decide_eq_true (by omega)]
  repeat (first | (refine Zo rfl rfl ?_) | (refine Ze0 (Zdb _ _ _ hs) rfl rfl ?_) | (refine Zs [] νb (Zbx e r s (ZS hf).1 (ZS hf).2 e' he') rfl rfl rfl rfl rfl rfl ?_) | refine Zm rfl (by (conv=>lhs;whnf);try rfl) ?_ | refine Zc ?_ | refine Za ?_ | refine ZaR ?_ | refine Zx ?_)
  exact Zbj (.inr rfl) (νc 5 3) [] [] rfl rfl trivial rfl rfl
 rw [if_neg h0] at h
 obtain ⟨⟨e1,r1⟩,hfl,h⟩:=Option.bind_eq_some_iff.1 h
 have hf1:=ZeE hf hfl
 rw [show decide ((at_:Int)=0)=false from decide_eq_false (by omega)]
 repeat (first | (refine Zf rfl rfl ?_) | (refine ZaV (α:=Unit) (c:=.block 2 _) (fun _ _=>mkS [(0,.ptr 0 (0,0) 0),(1,.int .i64 c)] (somes (stP νb e1 r1)) 2) (fun _=>True) ?_ (fun a _ _=>?_)) | refine Zh ?_ | refine ZU ?_ | refine Zz ?_)
 ·refine Zq (fun (a:El×List El) _=>mkS [(0,.ptr 0 (0,0) 0),(1,.int .i64 c),(4,.int .i64 (at_:Int))] (somes (stP νb a.1 a.2)) 2) (fun a=>fits a.1 a.2∧at_≤a.2.length∧ZhH (a.2.length - at_) a.1 a.2=some (e1,r1)) (fun a=>a.2.length) (e,r) 2 ⟨hf,hat,hfl⟩
   (ZaJ νb [] (fun k=>(k,νb k)) (fun _ _=>rfl) rfl ⟨rfl,rfl,rfl,trivial⟩ (x:=[]) (x':=[]) rfl rfl rfl (ZH _) rfl) (fun a ng hJ=>?_)
  obtain ⟨e5,r5⟩:=a
  obtain ⟨hf5,hle,hft⟩:=hJ
  dsimp only at hf5 hle hft ⊢
  have hr5:=hf5.1
  repeat (first | (refine ZaW rfl rfl (ZbD _ _ _) ?_) | refine Zm rfl (by (conv=>lhs;whnf);try rfl) ?_ | refine ZA rfl rfl rfl ?_ | refine Zi rfl rfl ?_ | refine Zmc rfl rfl (by omega) ?_ | refine ZL rfl rfl rfl rfl (by (conv=>lhs;whnf);try rfl) ?_ | refine Zak rfl rfl ?_ | refine Zc ?_ | refine Zh ?_ | refine Za ?_)
  by_cases hgt:at_<r5.length
  ·rw [show decide (((at_+1:Nat):Int)<((r5.length+1:Nat):Int))=true from decide_eq_true (by omega)]
   rcases r5 with _ | ⟨e2,r2⟩
   ·simp at hgt
   simp only [List.length_cons] at hgt hle hft hr5
   rw [show r2.length+1 - at_=(r2.length - at_)+1 by omega] at hft
   obtain ⟨e7,he7,hft⟩:=Option.bind_eq_some_iff.1 hft
   repeat (first | (refine Zo rfl rfl ?_) | (refine Zs [] νb (ZiG e5 e2 e7 r2 (by omega) (ZS (Zal hf5)) he7) rfl rfl rfl rfl rfl rfl ?_) | refine Zm rfl (by (conv=>lhs;whnf);try rfl) ?_ | refine Zc ?_ | refine Za ?_ | refine ZU ?_ | refine Zz ?_ | refine Zx ?_ | refine ZJ ?_)
   exact ZR (e7,r2) 2 ⟨Zdn hf5 he7,by dsimp only;omega,hft⟩ (by dsimp only;simp) (ZaJ (νc 3 1) [] (fun k=>(k,νc 3 1 k)) (fun _ _=>rfl) rfl ⟨rfl,rfl,rfl,trivial⟩ (x:=[]) (x':=[]) rfl rfl rfl (ZH _) rfl)
  ·rw [show decide (((at_+1:Nat):Int)<((r5.length+1:Nat):Int))=false from decide_eq_false (by omega)]
   rw [show r5.length - at_=0 by omega] at hft
   injection hft with hft
   injection hft with q1 q2
   subst q1 q2
   repeat (first | (refine Zf rfl rfl ?_) | refine ZaR ?_ | refine Zx ?_ | refine ZcN ?_ | refine Zgo ?_)
   exact Zc1 () 2 trivial (ZaJ νb [] (fun k=>(k,νb k)) (fun _ _=>rfl) rfl ⟨rfl,rfl,trivial⟩ (x:=[]) (x':=[]) rfl rfl rfl (ZH _) rfl)
 ·split at h
  rotate_left
  ·cases h
  rename_i hb
  obtain ⟨hb1,hb2,hb3⟩:=hb
  clear hfl hat hlb h0 hf hr
  obtain ⟨kind,tag,count,list,args⟩:=e1
  dsimp only at hb2 hb3 h
  have hr1:=hf1.1
  repeat (first | (refine ZO [] νb (Zc7 _ r1 (by omega)) rfl rfl rfl rfl rfl rfl ?_) | refine Zm rfl (by (conv=>lhs;whnf);try rfl) ?_ | refine Zn rfl (by (conv=>lhs;whnf);try rfl) ?_ | refine ZL rfl rfl rfl rfl (by (conv=>lhs;whnf);try rfl) ?_ | refine Zc ?_ | refine Zh ?_ | refine Za ?_)
  by_cases hk1:3≤c
  ·by_cases hk2:3≤count
   ·have hK:Zhz c count=3:=if_pos ⟨hk1,hk2⟩
    have hN:ZhA c ⟨kind,tag,count,list,args⟩=⟨5,0,⟨#[]⟩,list,(El.argL ⟨kind,tag,count,list,args⟩).map Arg.cs⟩:=by unfold ZhA;rw [if_pos ⟨hk1,hk2⟩]
    rw [hK,hN] at h
    rw [decide_eq_true hk1]
    repeat (first | refine Zm rfl (by (conv=>lhs;whnf);try rfl) ?_ | refine ZA rfl rfl rfl ?_ | refine Zi rfl rfl ?_ | refine ZL rfl rfl rfl rfl (by (conv=>lhs;whnf);try rfl) ?_ | refine Zak rfl rfl ?_ | refine ZaL rfl rfl (by (conv=>lhs;whnf);try rfl) ?_ | refine Zc ?_)
    rw [decide_eq_true hk2]
    repeat (first | (refine Zo rfl rfl ?_) | (refine Zkj (a:=c) (b:=3) rfl rfl rfl (by omega) (by omega) ?_) | (refine Zkj (a:=count) (b:=3) rfl rfl rfl (by omega) (by omega) ?_) | refine Zm rfl (by (conv=>lhs;whnf);try rfl) ?_ | refine ZA rfl rfl rfl ?_ | refine Zi rfl rfl ?_ | refine Zn rfl (by (conv=>lhs;whnf);try rfl) ?_ | refine ZL rfl rfl rfl rfl (by (conv=>lhs;whnf);try rfl) ?_ | refine Zak rfl rfl ?_ | refine ZcK rfl rfl ?_ | refine Zap rfl rfl rfl (by (conv=>lhs;whnf);try rfl) (by (conv=>lhs;whnf);try rfl) (by rfl) (by rfl) (Nat.le_of_ble_eq_true rfl) (by (conv=>lhs;whnf);try rfl) ?_ | refine Zbg rfl rfl ?_ | refine Zc ?_ | refine ZbS (by kernel_rfl) ?_ | refine Zh ?_ | refine Za ?_)
    by_cases hm:2≤count - 3
    ·rw [if_pos hm] at h
     rw [decide_eq_true hm]
     refine Zo rfl rfl ?_
     have hfn:fits ⟨kind,tag,count - 3,[Node.cs ⟨5,0,⟨#[]⟩,list,(El.argL ⟨kind,tag,count,list,args⟩).map Arg.cs⟩],none⟩ r1:=Zbl hf1 ⟨⟨by omega,fun q hq=>by cases hq⟩,by show 1≤9223372036854775807;omega⟩
     rcases args with _ | ⟨pre,a⟩
     ·refine Zad (Zd6 (b:=1001) (u:=8) (by omega) rfl rfl rfl (fun e he=>absurd he List.not_mem_nil)) ?_ (List.cons_ne_nil _ _)
      repeat (first | refine Zm rfl (by (conv=>lhs;whnf);try rfl) ?_ | refine ZA rfl rfl rfl ?_ | refine Zi rfl rfl ?_ | refine Zak rfl rfl ?_ | refine Zap rfl rfl rfl (by (conv=>lhs;whnf);try rfl) (by (conv=>lhs;whnf);try rfl) (by rfl) (by rfl) (Nat.le_of_ble_eq_true rfl) (by (conv=>lhs;whnf);try rfl) ?_ | refine ZP rfl rfl rfl (by rfl) (by decide) (by (conv=>lhs;whnf);try rfl) ?_ | refine Zc ?_ | refine Zh ?_ | refine Za ?_ | refine ZaR ?_ | refine Zx ?_ | refine ZcN ?_)
      exact ZR (f,c - 3,⟨kind,tag,count - 3,[Node.cs ⟨5,0,⟨#[]⟩,list,[]⟩],none⟩,r1) 2 ⟨hfn,h⟩ (Nat.lt_succ_self _) (Shift.trans (Zb5 1001 66 4 256 3 rfl rfl rfl) (Shift.trans (Zcf (t:=66) rfl) (Zcc (10,3) (11,0) 65 66 νb rfl ⟨rfl,rfl,trivial⟩ rfl rfl rfl rfl rfl rfl (ZcI (A:=[_,_,_,_,_,_,_,_,_,_,_,_,_]) rfl))))
     ·refine Zad (Zdj 1003 pre.length 2 rfl (ZaI _ _ _ _) rfl (Zdp rfl) (Zix _ _ _ _)) ?_ (List.cons_ne_nil _ _)
      refine Zad (Zd6 (b:=1001) (u:=8) (by omega) rfl rfl rfl Zfn) ?_ (List.cons_ne_nil _ _)
      repeat (first | refine Zm rfl (by (conv=>lhs;whnf);try rfl) ?_ | refine ZA rfl rfl rfl ?_ | refine Zi rfl rfl ?_ | refine Zak rfl rfl ?_ | refine Zap rfl rfl rfl (by (conv=>lhs;whnf);try rfl) (by (conv=>lhs;whnf);try rfl) (by rfl) (by rfl) (Nat.le_of_ble_eq_true rfl) (by (conv=>lhs;whnf);try rfl) ?_ | refine ZP rfl rfl rfl (by rfl) (by decide) (by (conv=>lhs;whnf);try rfl) ?_ | refine Zc ?_ | refine Zh ?_ | refine Za ?_ | refine ZaR ?_ | refine Zx ?_ | refine ZcN ?_)
      exact ZR (f,c - 3,⟨kind,tag,count - 3,[Node.cs ⟨5,0,⟨#[]⟩,list,(pre ++ [a]).map Arg.cs⟩],none⟩,r1) 2 ⟨hfn,h⟩ (Nat.lt_succ_self _) (Shift.trans (Zb5 1001 66 4 256 3 rfl rfl rfl) (Shift.trans (Zcf (t:=66) rfl) (Zcc (10,3) (11,0) 65 66 νb rfl ⟨rfl,rfl,trivial⟩ rfl rfl rfl rfl rfl rfl (ZcI (A:=[_,_,_,_,_,_,_,_,_,_,_,_,_,_,_]) rfl))))
    ·rw [if_neg hm] at h
     rcases r1 with _ | ⟨e2,r2⟩
     ·cases h
     obtain ⟨e4,he4,h⟩:=Option.bind_eq_some_iff.1 h
     have hf2:=ZS (Zal hf1)
     have hf4:=Zbl (Zal hf1) (Zh5 hf2 he4)
     rw [decide_eq_false hm]
     refine Zf rfl rfl ?_
     refine Zad (Shift.trans (Zf9 (lits:=[_,_]) (m:=count - 3) rfl) (ZaJ νb [_,_] (fun k=>if k=8 then (8,(6,10)) else (k,νb k)) (fun k hk=>if_neg (by omega)) rfl (tm':=[(0,.ptr 0 (0,0) 0),(1,.int .i64 (c - 3)),(5,.ptr 1001 (1,1001) 0),(8,.ptr 8 (1,8) 0)]) ⟨rfl,rfl,rfl,rfl,trivial⟩ (x:=[(8,(6,10),.box [.int .i64 5,.int .i64 0,.str ⟨#[]⟩,.row 1002 (νb 1002),.row 1003 (νb 1003)])]) (x':=[(8,νb 8,.box [.int .i64 5,.int .i64 0,.str ⟨#[]⟩,.row 1002 (νb 1002),.row 1003 (νb 1003)])]) rfl rfl rfl (Zk rfl (ZH _)) rfl)) ?_ (List.cons_ne_nil _ _)
     repeat (first | refine Zm rfl (by (conv=>lhs;whnf);try rfl) ?_ | refine Zh ?_ | refine Za ?_ | refine Zz ?_)
     refine ZeA [_] νb (ZnV ⟨kind,tag,count - 3,list,args⟩ e2 r2 (by simp at hr1;omega)) rfl rfl rfl rfl ?_
     refine Zhp ?_
     refine Zad (Zhd (2,1+1000000 * (1000+1)) (1,8) νb (tm':=[(0,.ptr 0 (0,0) 0),(1,.int .i64 (c - 3)),(5,.ptr 300 (1,300) 0),(8,.ptr 8 (1,8) 0)]) ⟨rfl,rfl,rfl,rfl,trivial⟩) ?_ (List.cons_ne_nil _ _)
     repeat (first | refine Zm rfl (by (conv=>lhs;whnf);try rfl) ?_ | refine ZA rfl rfl rfl ?_ | refine Zi rfl rfl ?_ | refine ZL rfl rfl rfl rfl (by (conv=>lhs;whnf);try rfl) ?_ | refine Zak rfl rfl ?_ | refine Zc ?_ | refine Zh ?_ | refine Za ?_)
     obtain ⟨e3,h3,he4⟩:=Option.bind_eq_some_iff.1 he4
     by_cases h1:count - 3=1
     ·rw [if_pos h1] at h3
      rw [decide_eq_true h1]
      have hf3:=ZV hf2 h3
      repeat (first | (refine Zo rfl rfl ?_) | (refine Zs [_,_] νb (Zbx e2 r2 _ hf2.1 hf2.2 e3 h3) rfl rfl rfl rfl rfl rfl ?_) | (refine Zs [_,_] (νc _ _) (ZgR e3 r2 _ hf3.1 e4 he4) rfl rfl rfl rfl rfl rfl ?_) | refine Zm rfl (by (conv=>lhs;whnf);try rfl) ?_ | refine ZA rfl rfl rfl ?_ | refine Zc ?_ | refine Za ?_ | refine Zx ?_ | refine ZJ ?_)
      exact ZR (f,c - 3,e4,r2) 2 ⟨hf4,h⟩ (Nat.lt_succ_self _) (ZaJ (νc 4 2) [_,_] (fun k=>(k,νc 4 2 k)) (fun _ _=>rfl) rfl ⟨rfl,rfl,trivial⟩ (x:=[]) (x':=[]) rfl rfl rfl (ZH _) rfl)
     ·rw [if_neg h1] at h3
      injection h3 with h3
      subst h3
      rw [decide_eq_false h1]
      repeat (first | (refine Zf rfl rfl ?_) | (refine Zs [_,_] νb (ZgR e2 r2 _ hf2.1 e4 he4) rfl rfl rfl rfl rfl rfl ?_) | refine Zm rfl (by (conv=>lhs;whnf);try rfl) ?_ | refine ZA rfl rfl rfl ?_ | refine Zc ?_ | refine Za ?_ | refine Zz ?_ | refine Zx ?_ | refine ZJ ?_)
      exact ZR (f,c - 3,e4,r2) 2 ⟨hf4,h⟩ (Nat.lt_succ_self _) (ZaJ (νc 3 2) [_,_] (fun k=>(k,νc 3 2 k)) (fun _ _=>rfl) rfl ⟨rfl,rfl,trivial⟩ (x:=[]) (x':=[]) rfl rfl rfl (ZH _) rfl)
   ·have hK:Zhz c count=2:=if_neg (fun h=>hk2 h.2)
    have hN:ZhA c ⟨kind,tag,count,list,args⟩=⟨4,0,⟨#[]⟩,list,(El.argL ⟨kind,tag,count,list,args⟩).map Arg.cs⟩:=by unfold ZhA;rw [if_neg (fun h=>hk2 h.2)]
    rw [hK,hN] at h
    rw [decide_eq_true hk1]
    repeat (first | refine Zm rfl (by (conv=>lhs;whnf);try rfl) ?_ | refine ZA rfl rfl rfl ?_ | refine Zi rfl rfl ?_ | refine ZL rfl rfl rfl rfl (by (conv=>lhs;whnf);try rfl) ?_ | refine Zak rfl rfl ?_ | refine ZaL rfl rfl (by (conv=>lhs;whnf);try rfl) ?_ | refine Zc ?_)
    rw [decide_eq_false hk2]
    repeat (first | (refine Zf rfl rfl ?_) | (refine Zkj (a:=c) (b:=2) rfl rfl rfl (by omega) (by omega) ?_) | (refine Zkj (a:=count) (b:=2) rfl rfl rfl (by omega) (by omega) ?_) | refine Zm rfl (by (conv=>lhs;whnf);try rfl) ?_ | refine ZA rfl rfl rfl ?_ | refine Zi rfl rfl ?_ | refine Zn rfl (by (conv=>lhs;whnf);try rfl) ?_ | refine ZL rfl rfl rfl rfl (by (conv=>lhs;whnf);try rfl) ?_ | refine Zak rfl rfl ?_ | refine ZcK rfl rfl ?_ | refine Zap rfl rfl rfl (by (conv=>lhs;whnf);try rfl) (by (conv=>lhs;whnf);try rfl) (by rfl) (by rfl) (Nat.le_of_ble_eq_true rfl) (by (conv=>lhs;whnf);try rfl) ?_ | refine Zbg rfl rfl ?_ | refine Zc ?_ | refine ZbS (by kernel_rfl) ?_ | refine Zh ?_ | refine Za ?_ | refine Zz ?_)
    by_cases hm:2≤count - 2
    ·rw [if_pos hm] at h
     rw [decide_eq_true hm]
     refine Zo rfl rfl ?_
     have hfn:fits ⟨kind,tag,count - 2,[Node.cs ⟨4,0,⟨#[]⟩,list,(El.argL ⟨kind,tag,count,list,args⟩).map Arg.cs⟩],none⟩ r1:=Zbl hf1 ⟨⟨by omega,fun q hq=>by cases hq⟩,by show 1≤9223372036854775807;omega⟩
     rcases args with _ | ⟨pre,a⟩
     ·refine Zad (Zd6 (b:=1001) (u:=8) (by omega) rfl rfl rfl (fun e he=>absurd he List.not_mem_nil)) ?_ (List.cons_ne_nil _ _)
      repeat (first | refine Zm rfl (by (conv=>lhs;whnf);try rfl) ?_ | refine ZA rfl rfl rfl ?_ | refine Zi rfl rfl ?_ | refine Zak rfl rfl ?_ | refine Zap rfl rfl rfl (by (conv=>lhs;whnf);try rfl) (by (conv=>lhs;whnf);try rfl) (by rfl) (by rfl) (Nat.le_of_ble_eq_true rfl) (by (conv=>lhs;whnf);try rfl) ?_ | refine ZP rfl rfl rfl (by rfl) (by decide) (by (conv=>lhs;whnf);try rfl) ?_ | refine Zc ?_ | refine Zh ?_ | refine Za ?_ | refine ZaR ?_ | refine Zx ?_ | refine ZcN ?_)
      exact ZR (f,c - 2,⟨kind,tag,count - 2,[Node.cs ⟨4,0,⟨#[]⟩,list,[]⟩],none⟩,r1) 2 ⟨hfn,h⟩ (Nat.lt_succ_self _) (Shift.trans (Zb5 1001 66 4 256 3 rfl rfl rfl) (Shift.trans (Zcf (t:=66) rfl) (Zcc (9,3) (10,0) 65 66 νb rfl ⟨rfl,rfl,trivial⟩ rfl rfl rfl rfl rfl rfl (ZcI (A:=[_,_,_,_,_,_,_,_,_,_,_,_,_]) rfl))))
     ·refine Zad (Zdj 1003 pre.length 2 rfl (ZaI _ _ _ _) rfl (Zdp rfl) (Zix _ _ _ _)) ?_ (List.cons_ne_nil _ _)
      refine Zad (Zd6 (b:=1001) (u:=8) (by omega) rfl rfl rfl Zfn) ?_ (List.cons_ne_nil _ _)
      repeat (first | refine Zm rfl (by (conv=>lhs;whnf);try rfl) ?_ | refine ZA rfl rfl rfl ?_ | refine Zi rfl rfl ?_ | refine Zak rfl rfl ?_ | refine Zap rfl rfl rfl (by (conv=>lhs;whnf);try rfl) (by (conv=>lhs;whnf);try rfl) (by rfl) (by rfl) (Nat.le_of_ble_eq_true rfl) (by (conv=>lhs;whnf);try rfl) ?_ | refine ZP rfl rfl rfl (by rfl) (by decide) (by (conv=>lhs;whnf);try rfl) ?_ | refine Zc ?_ | refine Zh ?_ | refine Za ?_ | refine ZaR ?_ | refine Zx ?_ | refine ZcN ?_)
      exact ZR (f,c - 2,⟨kind,tag,count - 2,[Node.cs ⟨4,0,⟨#[]⟩,list,(pre ++ [a]).map Arg.cs⟩],none⟩,r1) 2 ⟨hfn,h⟩ (Nat.lt_succ_self _) (Shift.trans (Zb5 1001 66 4 256 3 rfl rfl rfl) (Shift.trans (Zcf (t:=66) rfl) (Zcc (9,3) (10,0) 65 66 νb rfl ⟨rfl,rfl,trivial⟩ rfl rfl rfl rfl rfl rfl (ZcI (A:=[_,_,_,_,_,_,_,_,_,_,_,_,_,_,_]) rfl))))
    ·rw [if_neg hm] at h
     rcases r1 with _ | ⟨e2,r2⟩
     ·cases h
     obtain ⟨e4,he4,h⟩:=Option.bind_eq_some_iff.1 h
     have hf2:=ZS (Zal hf1)
     have hf4:=Zbl (Zal hf1) (Zh5 hf2 he4)
     rw [decide_eq_false hm]
     refine Zf rfl rfl ?_
     refine Zad (Shift.trans (Zf9 (lits:=[_,_]) (m:=count - 2) rfl) (ZaJ νb [_,_] (fun k=>if k=8 then (8,(5,10)) else (k,νb k)) (fun k hk=>if_neg (by omega)) rfl (tm':=[(0,.ptr 0 (0,0) 0),(1,.int .i64 (c - 2)),(5,.ptr 1001 (1,1001) 0),(8,.ptr 8 (1,8) 0)]) ⟨rfl,rfl,rfl,rfl,trivial⟩ (x:=[(8,(5,10),.box [.int .i64 4,.int .i64 0,.str ⟨#[]⟩,.row 1002 (νb 1002),.row 1003 (νb 1003)])]) (x':=[(8,νb 8,.box [.int .i64 4,.int .i64 0,.str ⟨#[]⟩,.row 1002 (νb 1002),.row 1003 (νb 1003)])]) rfl rfl rfl (Zk rfl (ZH _)) rfl)) ?_ (List.cons_ne_nil _ _)
     repeat (first | refine Zm rfl (by (conv=>lhs;whnf);try rfl) ?_ | refine Zh ?_ | refine Za ?_ | refine Zz ?_)
     refine ZeA [_] νb (ZnV ⟨kind,tag,count - 2,list,args⟩ e2 r2 (by simp at hr1;omega)) rfl rfl rfl rfl ?_
     refine Zhp ?_
     refine Zad (Zhd (2,1+1000000 * (1000+1)) (1,8) νb (tm':=[(0,.ptr 0 (0,0) 0),(1,.int .i64 (c - 2)),(5,.ptr 300 (1,300) 0),(8,.ptr 8 (1,8) 0)]) ⟨rfl,rfl,rfl,rfl,trivial⟩) ?_ (List.cons_ne_nil _ _)
     repeat (first | refine Zm rfl (by (conv=>lhs;whnf);try rfl) ?_ | refine ZA rfl rfl rfl ?_ | refine Zi rfl rfl ?_ | refine ZL rfl rfl rfl rfl (by (conv=>lhs;whnf);try rfl) ?_ | refine Zak rfl rfl ?_ | refine Zc ?_ | refine Zh ?_ | refine Za ?_)
     obtain ⟨e3,h3,he4⟩:=Option.bind_eq_some_iff.1 he4
     by_cases h1:count - 2=1
     ·rw [if_pos h1] at h3
      rw [decide_eq_true h1]
      have hf3:=ZV hf2 h3
      repeat (first | (refine Zo rfl rfl ?_) | (refine Zs [_,_] νb (Zbx e2 r2 _ hf2.1 hf2.2 e3 h3) rfl rfl rfl rfl rfl rfl ?_) | (refine Zs [_,_] (νc _ _) (ZgR e3 r2 _ hf3.1 e4 he4) rfl rfl rfl rfl rfl rfl ?_) | refine Zm rfl (by (conv=>lhs;whnf);try rfl) ?_ | refine ZA rfl rfl rfl ?_ | refine Zc ?_ | refine Za ?_ | refine Zx ?_ | refine ZJ ?_)
      exact ZR (f,c - 2,e4,r2) 2 ⟨hf4,h⟩ (Nat.lt_succ_self _) (ZaJ (νc 4 2) [_,_] (fun k=>(k,νc 4 2 k)) (fun _ _=>rfl) rfl ⟨rfl,rfl,trivial⟩ (x:=[]) (x':=[]) rfl rfl rfl (ZH _) rfl)
     ·rw [if_neg h1] at h3
      injection h3 with h3
      subst h3
      rw [decide_eq_false h1]
      repeat (first | (refine Zf rfl rfl ?_) | (refine Zs [_,_] νb (ZgR e2 r2 _ hf2.1 e4 he4) rfl rfl rfl rfl rfl rfl ?_) | refine Zm rfl (by (conv=>lhs;whnf);try rfl) ?_ | refine ZA rfl rfl rfl ?_ | refine Zc ?_ | refine Za ?_ | refine Zz ?_ | refine Zx ?_ | refine ZJ ?_)
      exact ZR (f,c - 2,e4,r2) 2 ⟨hf4,h⟩ (Nat.lt_succ_self _) (ZaJ (νc 3 2) [_,_] (fun k=>(k,νc 3 2 k)) (fun _ _=>rfl) rfl ⟨rfl,rfl,trivial⟩ (x:=[]) (x':=[]) rfl rfl rfl (ZH _) rfl)
  ·have hK:Zhz c count=2:=if_neg (fun h=>hk1 h.1)
   have hN:ZhA c ⟨kind,tag,count,list,args⟩=⟨4,0,⟨#[]⟩,list,(El.argL ⟨kind,tag,count,list,args⟩).map Arg.cs⟩:=by unfold ZhA;rw [if_neg (fun h=>hk1 h.1)]
   rw [hK,hN] at h
   rw [decide_eq_false hk1]
   repeat (first | (refine ZI rfl ?_) | (refine Zf rfl rfl ?_) | (refine Zkj (a:=c) (b:=2) rfl rfl rfl (by omega) (by omega) ?_) | (refine Zkj (a:=count) (b:=2) rfl rfl rfl (by omega) (by omega) ?_) | refine Zm rfl (by (conv=>lhs;whnf);try rfl) ?_ | refine ZA rfl rfl rfl ?_ | refine Zi rfl rfl ?_ | refine Zn rfl (by (conv=>lhs;whnf);try rfl) ?_ | refine ZL rfl rfl rfl rfl (by (conv=>lhs;whnf);try rfl) ?_ | refine Zak rfl rfl ?_ | refine ZcK rfl rfl ?_ | refine Zap rfl rfl rfl (by (conv=>lhs;whnf);try rfl) (by (conv=>lhs;whnf);try rfl) (by rfl) (by rfl) (Nat.le_of_ble_eq_true rfl) (by (conv=>lhs;whnf);try rfl) ?_ | refine Zbg rfl rfl ?_ | refine ZaL rfl rfl (by (conv=>lhs;whnf);try rfl) ?_ | refine Zc ?_ | refine ZbS (by kernel_rfl) ?_ | refine Zh ?_ | refine Za ?_ | refine Zz ?_)
   by_cases hm:2≤count - 2
   ·rw [if_pos hm] at h
    rw [decide_eq_true hm]
    refine Zo rfl rfl ?_
    have hfn:fits ⟨kind,tag,count - 2,[Node.cs ⟨4,0,⟨#[]⟩,list,(El.argL ⟨kind,tag,count,list,args⟩).map Arg.cs⟩],none⟩ r1:=Zbl hf1 ⟨⟨by omega,fun q hq=>by cases hq⟩,by show 1≤9223372036854775807;omega⟩
    rcases args with _ | ⟨pre,a⟩
    ·refine Zad (Zd6 (b:=1001) (u:=8) (by omega) rfl rfl rfl (fun e he=>absurd he List.not_mem_nil)) ?_ (List.cons_ne_nil _ _)
     repeat (first | refine Zm rfl (by (conv=>lhs;whnf);try rfl) ?_ | refine ZA rfl rfl rfl ?_ | refine Zi rfl rfl ?_ | refine Zak rfl rfl ?_ | refine Zap rfl rfl rfl (by (conv=>lhs;whnf);try rfl) (by (conv=>lhs;whnf);try rfl) (by rfl) (by rfl) (Nat.le_of_ble_eq_true rfl) (by (conv=>lhs;whnf);try rfl) ?_ | refine ZP rfl rfl rfl (by rfl) (by decide) (by (conv=>lhs;whnf);try rfl) ?_ | refine Zc ?_ | refine Zh ?_ | refine Za ?_ | refine ZaR ?_ | refine Zx ?_ | refine ZcN ?_)
     exact ZR (f,c - 2,⟨kind,tag,count - 2,[Node.cs ⟨4,0,⟨#[]⟩,list,[]⟩],none⟩,r1) 2 ⟨hfn,h⟩ (Nat.lt_succ_self _) (Shift.trans (Zb5 1001 66 4 256 3 rfl rfl rfl) (Shift.trans (Zcf (t:=66) rfl) (Zcc (9,3) (10,0) 65 66 νb rfl ⟨rfl,rfl,trivial⟩ rfl rfl rfl rfl rfl rfl (ZcI (A:=[_,_,_,_,_,_,_,_,_,_,_,_,_]) rfl))))
    ·refine Zad (Zdj 1003 pre.length 2 rfl (ZaI _ _ _ _) rfl (Zdp rfl) (Zix _ _ _ _)) ?_ (List.cons_ne_nil _ _)
     refine Zad (Zd6 (b:=1001) (u:=8) (by omega) rfl rfl rfl Zfn) ?_ (List.cons_ne_nil _ _)
     repeat (first | refine Zm rfl (by (conv=>lhs;whnf);try rfl) ?_ | refine ZA rfl rfl rfl ?_ | refine Zi rfl rfl ?_ | refine Zak rfl rfl ?_ | refine Zap rfl rfl rfl (by (conv=>lhs;whnf);try rfl) (by (conv=>lhs;whnf);try rfl) (by rfl) (by rfl) (Nat.le_of_ble_eq_true rfl) (by (conv=>lhs;whnf);try rfl) ?_ | refine ZP rfl rfl rfl (by rfl) (by decide) (by (conv=>lhs;whnf);try rfl) ?_ | refine Zc ?_ | refine Zh ?_ | refine Za ?_ | refine ZaR ?_ | refine Zx ?_ | refine ZcN ?_)
     exact ZR (f,c - 2,⟨kind,tag,count - 2,[Node.cs ⟨4,0,⟨#[]⟩,list,(pre ++ [a]).map Arg.cs⟩],none⟩,r1) 2 ⟨hfn,h⟩ (Nat.lt_succ_self _) (Shift.trans (Zb5 1001 66 4 256 3 rfl rfl rfl) (Shift.trans (Zcf (t:=66) rfl) (Zcc (9,3) (10,0) 65 66 νb rfl ⟨rfl,rfl,trivial⟩ rfl rfl rfl rfl rfl rfl (ZcI (A:=[_,_,_,_,_,_,_,_,_,_,_,_,_,_,_]) rfl))))
   ·rw [if_neg hm] at h
    rcases r1 with _ | ⟨e2,r2⟩
    ·cases h
    obtain ⟨e4,he4,h⟩:=Option.bind_eq_some_iff.1 h
    have hf2:=ZS (Zal hf1)
    have hf4:=Zbl (Zal hf1) (Zh5 hf2 he4)
    rw [decide_eq_false hm]
    refine Zf rfl rfl ?_
    refine Zad (Shift.trans (Zf9 (lits:=[_,_]) (m:=count - 2) rfl) (ZaJ νb [_,_] (fun k=>if k=8 then (8,(5,10)) else (k,νb k)) (fun k hk=>if_neg (by omega)) rfl (tm':=[(0,.ptr 0 (0,0) 0),(1,.int .i64 (c - 2)),(5,.ptr 1001 (1,1001) 0),(8,.ptr 8 (1,8) 0)]) ⟨rfl,rfl,rfl,rfl,trivial⟩ (x:=[(8,(5,10),.box [.int .i64 4,.int .i64 0,.str ⟨#[]⟩,.row 1002 (νb 1002),.row 1003 (νb 1003)])]) (x':=[(8,νb 8,.box [.int .i64 4,.int .i64 0,.str ⟨#[]⟩,.row 1002 (νb 1002),.row 1003 (νb 1003)])]) rfl rfl rfl (Zk rfl (ZH _)) rfl)) ?_ (List.cons_ne_nil _ _)
    repeat (first | refine Zm rfl (by (conv=>lhs;whnf);try rfl) ?_ | refine Zh ?_ | refine Za ?_ | refine Zz ?_)
    refine ZeA [_] νb (ZnV ⟨kind,tag,count - 2,list,args⟩ e2 r2 (by simp at hr1;omega)) rfl rfl rfl rfl ?_
    refine Zhp ?_
    refine Zad (Zhd (2,1+1000000 * (1000+1)) (1,8) νb (tm':=[(0,.ptr 0 (0,0) 0),(1,.int .i64 (c - 2)),(5,.ptr 300 (1,300) 0),(8,.ptr 8 (1,8) 0)]) ⟨rfl,rfl,rfl,rfl,trivial⟩) ?_ (List.cons_ne_nil _ _)
    repeat (first | refine Zm rfl (by (conv=>lhs;whnf);try rfl) ?_ | refine ZA rfl rfl rfl ?_ | refine Zi rfl rfl ?_ | refine ZL rfl rfl rfl rfl (by (conv=>lhs;whnf);try rfl) ?_ | refine Zak rfl rfl ?_ | refine Zc ?_ | refine Zh ?_ | refine Za ?_)
    obtain ⟨e3,h3,he4⟩:=Option.bind_eq_some_iff.1 he4
    by_cases h1:count - 2=1
    ·rw [if_pos h1] at h3
     rw [decide_eq_true h1]
     have hf3:=ZV hf2 h3
     repeat (first | (refine Zo rfl rfl ?_) | (refine Zs [_,_] νb (Zbx e2 r2 _ hf2.1 hf2.2 e3 h3) rfl rfl rfl rfl rfl rfl ?_) | (refine Zs [_,_] (νc _ _) (ZgR e3 r2 _ hf3.1 e4 he4) rfl rfl rfl rfl rfl rfl ?_) | refine Zm rfl (by (conv=>lhs;whnf);try rfl) ?_ | refine ZA rfl rfl rfl ?_ | refine Zc ?_ | refine Za ?_ | refine Zx ?_ | refine ZJ ?_)
     exact ZR (f,c - 2,e4,r2) 2 ⟨hf4,h⟩ (Nat.lt_succ_self _) (ZaJ (νc 4 2) [_,_] (fun k=>(k,νc 4 2 k)) (fun _ _=>rfl) rfl ⟨rfl,rfl,trivial⟩ (x:=[]) (x':=[]) rfl rfl rfl (ZH _) rfl)
    ·rw [if_neg h1] at h3
     injection h3 with h3
     subst h3
     rw [decide_eq_false h1]
     repeat (first | (refine Zf rfl rfl ?_) | (refine Zs [_,_] νb (ZgR e2 r2 _ hf2.1 e4 he4) rfl rfl rfl rfl rfl rfl ?_) | refine Zm rfl (by (conv=>lhs;whnf);try rfl) ?_ | refine ZA rfl rfl rfl ?_ | refine Zc ?_ | refine Za ?_ | refine Zz ?_ | refine Zx ?_ | refine ZJ ?_)
     exact ZR (f,c - 2,e4,r2) 2 ⟨hf4,h⟩ (Nat.lt_succ_self _) (ZaJ (νc 3 2) [_,_] (fun k=>(k,νc 3 2 k)) (fun _ _=>rfl) rfl ⟨rfl,rfl,trivial⟩ (x:=[]) (x':=[]) rfl rfl rfl (ZH _) rfl)
def Zl9 (k t c:Int) (x:ByteArray) (e:El) (r:List El):Option (El×List El):=if 20≤r.length then (ZcH e x).map fun e'=>(e',r) else some (⟨k,t,c,[],none⟩,e::r)
def ZsJ (e:El):Option El:=if e.kind=3 then match e.args with
  | none=>some ⟨e.kind,e.tag,e.count,e.list,some ([],⟨false,[],[]⟩)⟩
  | some (pre,a)=>if pre.length+1≤1000000 then some ⟨e.kind,e.tag,e.count,e.list,some (pre ++ [a],⟨false,[],[]⟩)⟩ else none
 else ZcH e ⟨#[124]⟩
def ZrF (s:ByteArray) (t:Tok) (e:El) (r:List El):Option (El×List El):=(ZfJ s t).bind fun x=>
 if t.kind=1∨t.kind=2 then (ZcH e x).map fun e'=>(e',r)
 else if t.kind=9 then (ZkC e ⟨2,0,x,[],[]⟩).map fun e'=>(e',r)
 else if t.kind=10 then (ZhC x 8 (w64 ((x.size:Int) - 9))).bind fun y=>(ZkC e ⟨3,0,y,[],[]⟩).map fun e'=>(e',r)
 else if t.kind=3 then Zl9 3 0 x.size x e r
 else if t.kind=5 then Zl9 1 0 0 x e r
 else if t.kind=11 then (ZgK s t).bind fun k=>Zl9 2 k 0 x e r
 else if t.kind=7 then (ZsJ e).map fun e'=>(e',r)
 else if t.kind=8 then (ZlL e).map fun e'=>(e',r)
 else if t.kind=6 then Zep e r
 else if t.kind=12 then (ZgK s t).bind fun k=>Zfh k x e r
 else if t.kind=4 then Zbo (x.size+1) x.size e r
 else some (e,r)
theorem Ztu (e e':El) (r:List El) (hf:fit e r) (h:ZsJ e=some e'):PC 244 [] e r (.tup []) e' r:=by
 unfold ZsJ at h
 split at h
 ·rename_i hk
  obtain ⟨kind,tag,count,list,args⟩:=e
  dsimp only at hk
  subst hk
  rcases args with _ | ⟨pre,a⟩
  ·injection h with h
   rw [← h]
   exact ZqT tag count list r hf.1.1
  ·dsimp only at h
   split at h
   ·injection h with h
    rw [← h]
    exact ZqV tag count list pre a r hf.1
   ·cases h
 ·rename_i hk
  exact ZqS e e' r hf.1 hf.2 hk h
theorem Zqb {e e':El} {r:List El} (hf:fit e r) (h:ZsJ e=some e'):fit e' r:=by
 unfold ZsJ at h
 split at h
 ·rename_i hk
  obtain ⟨kind,tag,count,list,args⟩:=e
  dsimp only at hk
  subst hk
  rcases args with _ | ⟨pre,a⟩
  ·injection h with h
   rw [← h]
   exact ⟨⟨hf.1.1,fun q hq=>by injection hq with hq;rw [← hq];exact Nat.zero_le _⟩,by show 0≤_;omega⟩
  ·dsimp only at h
   split at h
   ·rename_i hp
    injection h with h
    rw [← h]
    exact ⟨⟨hf.1.1,fun q hq=>by injection hq with hq;rw [← hq];simpa using hp⟩,by show 0≤_;omega⟩
   ·cases h
 ·exact ZV hf h
theorem ZrG (e e':El) (r:List El) (hf:fit e r) (h:ZlL e=some e'):PC 245 [] e r (.tup []) e' r:=by
 obtain ⟨kind,tag,count,list,args⟩:=e
 unfold ZlL at h
 rcases args with _ | ⟨pre,⟨named,name,value⟩⟩
 ·exact Zj3 _ e' r hf.1 hf.2 (.inr (.inl rfl)) h
 ·dsimp only at h
  split at h
  ·rename_i hc
   obtain ⟨h1,h2⟩:=hc
   subst h1 h2
   injection h with h
   rw [← h]
   exact Zpy tag count list pre name value r hf.1
  ·rename_i hc
   refine Zj3 _ e' r hf.1 hf.2 ?_ h
   by_cases hk:kind=3
   ·refine .inr (.inr ⟨pre,_,rfl,?_⟩)
    cases named
    ·exact absurd ⟨hk,rfl⟩ hc
    ·rfl
   ·exact .inl hk
theorem Znk {e e':El} {r:List El} (hf:fit e r) (h:ZlL e=some e'):fit e' r:=by
 obtain ⟨kind,tag,count,list,args⟩:=e
 unfold ZlL at h
 rcases args with _ | ⟨pre,⟨named,name,value⟩⟩
 ·exact ZV hf h
 ·dsimp only at h
  split at h
  ·rename_i hc
   obtain ⟨h1,h2⟩:=hc
   subst h1 h2
   injection h with h
   rw [← h]
   exact ⟨⟨hf.1.1,fun q hq=>by injection hq with hq;rw [← hq];exact hf.1.2 (pre,⟨false,name,value⟩) rfl⟩,by show 0≤_;omega⟩
  ·exact ZV hf h
theorem Zma (e e':El) (r r':List El) (hf:fits e r) (h:Zep e r=some (e',r')):PC 246 [] e r (.tup []) e' r':=by
 unfold Zep at h
 split at h
 ·rename_i hk
  rcases r with _ | ⟨e2,r⟩
  ·cases h
  obtain ⟨a,h1,h⟩:=Option.bind_eq_some_iff.1 h
  obtain ⟨b,h2,h⟩:=Option.bind_eq_some_iff.1 h
  obtain ⟨c,h3,h⟩:=Option.map_eq_some_iff.1 h
  injection h with q1 q2
  subst q1 q2
  obtain ⟨kind,tag,count,list,args⟩:=e
  dsimp only at hk
  subst hk
  exact Zkr tag count list args e2 a b c r (Zal hf).1 (ZS (Zal hf)) h1 h2 h3
 ·rename_i hk
  obtain ⟨c,h3,h⟩:=Option.map_eq_some_iff.1 h
  injection h with q1 q2
  subst q1 q2
  exact Zjs e c r (ZS hf) hk h3
theorem Zip {e e':El} {r r':List El} (hf:fits e r) (h:Zep e r=some (e',r')):fits e' r':=by
 unfold Zep at h
 split at h
 ·rcases r with _ | ⟨e2,r⟩
  ·cases h
  obtain ⟨a,h1,h⟩:=Option.bind_eq_some_iff.1 h
  obtain ⟨b,h2,h⟩:=Option.bind_eq_some_iff.1 h
  obtain ⟨c,h3,h⟩:=Option.map_eq_some_iff.1 h
  injection h with q1 q2
  subst q1 q2
  exact Zbl (Zal hf) (ZV (ZcD (ZV (ZS (Zal hf)) h1) h2) h3)
 ·obtain ⟨c,h3,h⟩:=Option.map_eq_some_iff.1 h
  injection h with q1 q2
  subst q1 q2
  exact Zbl hf (ZV (ZS hf) h3)
theorem Zjo {k:Int} {s:ByteArray} {e e':El} {r r':List El} (hf:fits e r) (h:Zfh k s e r=some (e',r')):fits e' r':=by
 unfold Zfh at h
 split at h
 ·obtain ⟨c,h3,h⟩:=Option.map_eq_some_iff.1 h
  injection h with q1 q2
  subst q1 q2
  exact Zbl hf (ZV (ZS hf) h3)
 ·obtain ⟨⟨e1,r1⟩,h1,h⟩:=Option.bind_eq_some_iff.1 h
  have hf1:=ZeE hf h1
  rcases r1 with _ | ⟨e2,r2⟩
  ·cases h
  obtain ⟨c,h3,h⟩:=Option.map_eq_some_iff.1 h
  injection h with q1 q2
  subst q1 q2
  exact Zbl (Zal hf1) (ZeC (ZS (Zal hf1)) h3)
theorem Zk1 {c:Int} {e e':El} {r r':List El} (hf:fits e r) (h:Ztx c e r=some (e',r')):fits e' r':=by
 obtain ⟨s,hs,h⟩:=Option.bind_eq_some_iff.1 h
 obtain ⟨a,h3,h⟩:=Option.map_eq_some_iff.1 h
 injection h with q1 q2
 subst q1 q2
 exact Zbl hf (ZV (ZS hf) h3)
theorem ZcA:∀ {f:Nat} {c:Int} {e e':El} {r r':List El},fits e r→Zbo f c e r=some (e',r')→fits e' r'
 | 0,c,e,e',r,r',hf,h=>by cases h
 | f+1,c,e,e',r,r',hf,h=>by
   unfold Zbo at h
   split at h
   ·split at h
    ·exact Zk1 hf h
    ·obtain ⟨⟨e1,r1⟩,h1,h⟩:=Option.bind_eq_some_iff.1 h
     have hf1:=ZeE hf h1
     split at h
     ·split at h
      ·exact ZcA (Zbl hf1 ⟨⟨by have:=hf1.1;omega,fun q hq=>by cases hq⟩,by show 1≤9223372036854775807;omega⟩) h
      ·rcases r1 with _ | ⟨e2,r2⟩
       ·cases h
       obtain ⟨e4,h4,h⟩:=Option.bind_eq_some_iff.1 h
       exact ZcA (Zbl (Zal hf1) (Zh5 (ZS (Zal hf1)) h4)) h
     ·cases h
   ·exact Zk1 hf h
theorem Zg5 {k t c:Int} {x:ByteArray} {e e':El} {r r':List El} (hf:fits e r) (h:Zl9 k t c x e r=some (e',r')):fits e' r':=by
 unfold Zl9 at h
 split at h
 ·obtain ⟨a,h3,h⟩:=Option.map_eq_some_iff.1 h
  injection h with q1 q2
  subst q1 q2
  exact Zbl hf (ZV (ZS hf) h3)
 ·injection h with h
  injection h with q1 q2
  subst q1 q2
  refine ⟨by simp;omega,fun x hx=>?_⟩
  rcases List.mem_cons.1 hx with rfl | hx
  ·exact ⟨fun q hq=>(by cases hq),(by show 0≤_;omega)⟩
  ·exact hf.2 x hx
theorem Zoc (k t c:Int) (x:ByteArray) (e e':El) (r r':List El) (hf:fits e r) (h:Zl9 k t c x e r=some (e',r')) :
  ContractG Tryz.prog 242 [.ptr 0 (0,0) 0,.ptr 1 (0,1) 0,.str x] (objs (stP νa e r)++ZnW k t c) (.tup []) (stP νb e' r' ++ []):=by
 rw [List.append_nil]
 unfold Zl9 at h
 split at h
 ·rename_i hr
  obtain ⟨a,h3,h⟩:=Option.map_eq_some_iff.1 h
  injection h with q1 q2
  subst q1 q2
  exact Zpm e a r k t c x hr (ZS hf).1 (ZS hf).2 h3
 ·rename_i hr
  injection h with h
  injection h with q1 q2
  subst q1 q2
  exact Zpn e r k t c x (by omega)
theorem ZjD {s:ByteArray} {t:Tok} {e e':El} {r r':List El} (hf:fits e r) (h:ZrF s t e r=some (e',r')):fits e' r':=by
 obtain ⟨x,hx,h⟩:=Option.bind_eq_some_iff.1 h
 have one:∀ {o:Option El},(∀ a,o=some a→fit a r)→o.map (fun e'=>(e',r))=some (e',r')→fits e' r':=fun h1 h=>by
  obtain ⟨a,h3,h⟩:=Option.map_eq_some_iff.1 h
  injection h with q1 q2
  subst q1 q2
  exact Zbl hf (h1 a h3)
 split at h
 ·exact one (fun a ha=>ZV (ZS hf) ha) h
 split at h
 ·exact one (fun a ha=>ZeC (ZS hf) ha) h
 split at h
 ·obtain ⟨y,hy,h⟩:=Option.bind_eq_some_iff.1 h
  exact one (fun a ha=>ZeC (ZS hf) ha) h
 split at h
 ·exact Zg5 hf h
 split at h
 ·exact Zg5 hf h
 split at h
 ·obtain ⟨y,hy,h⟩:=Option.bind_eq_some_iff.1 h
  exact Zg5 hf h
 split at h
 ·exact one (fun a ha=>Zqb (ZS hf) ha) h
 split at h
 ·exact one (fun a ha=>Znk (ZS hf) ha) h
 split at h
 ·exact Zip hf h
 split at h
 ·obtain ⟨y,hy,h⟩:=Option.bind_eq_some_iff.1 h
  exact Zjo hf h
 split at h
 ·exact ZcA hf h
 ·injection h with h
  injection h with q1 q2
  subst q1 q2
  exact hf
set_option maxRecDepth 100000 in
set_option maxHeartbeats 2000000 in
theorem ZsQ (s:ByteArray) (t:Tok) (e e':El) (r r':List El) (hf:fits e r) (h:ZrF s t e r=some (e',r')):PC 169 [.str s,t.pv] e r (.tup []) e' r':=by
 have hft:=ZS hf
 obtain ⟨x,hx,h⟩:=Option.bind_eq_some_iff.1 h
 obtain ⟨tk,tf,tt⟩:=t
 refine Zy mix Tryz.func169 (by kernel_rfl) rfl (by kernel_rfl) ?_
 rw [ZbF]
 repeat (first | (refine Ze0 (ZhL _ _ _ hx) rfl rfl ?_) | refine Zm rfl (by (conv=>lhs;whnf);try rfl) ?_ | refine ZA rfl rfl rfl ?_ | refine Zi rfl rfl ?_ | refine Zn rfl (by (conv=>lhs;whnf);try rfl) ?_ | refine ZL rfl rfl rfl rfl (by (conv=>lhs;whnf);try rfl) ?_ | refine Zjw rfl (by (conv=>lhs;whnf);try rfl) (by (conv=>lhs;whnf);try rfl) (by rfl) ?_ | refine Zc ?_ | refine Zh ?_ | refine Za ?_ | refine ZU ?_)
 by_cases h1:tk=1
 ·subst h1
  rw [if_pos (show (1:Int)=1∨(1:Int)=2 by decide)] at h
  obtain ⟨a,ha,h⟩:=Option.map_eq_some_iff.1 h
  injection h with q1 q2
  subst q1 q2
  repeat (first | (refine Zo rfl rfl ?_) | (refine Zs [_] νa (Zbx e r x hft.1 hft.2 a ha) rfl rfl rfl rfl rfl rfl ?_) | refine Zm rfl (by (conv=>lhs;whnf);try rfl) ?_ | refine Zc ?_ | refine Za ?_ | refine Zz ?_ | refine Zx ?_ | refine ZJ ?_)
  exact Zbj (.inr rfl) (νc _ _) [_] [] rfl rfl trivial rfl rfl
 by_cases h2:tk=2
 ·subst h2
  rw [if_pos (show (2:Int)=1∨(2:Int)=2 by decide)] at h
  obtain ⟨a,ha,h⟩:=Option.map_eq_some_iff.1 h
  injection h with q1 q2
  subst q1 q2
  repeat (first | (refine Zo rfl rfl ?_) | (refine Zf rfl rfl ?_) | (refine Zs [_] νa (Zbx e r x hft.1 hft.2 a ha) rfl rfl rfl rfl rfl rfl ?_) | refine Zm rfl (by (conv=>lhs;whnf);try rfl) ?_ | refine Zn rfl (by (conv=>lhs;whnf);try rfl) ?_ | refine ZL rfl rfl rfl rfl (by (conv=>lhs;whnf);try rfl) ?_ | refine Zc ?_ | refine Za ?_ | refine Zx ?_ | refine ZJ ?_)
  exact Zbj (.inr rfl) (νc _ _) [_] [] rfl rfl trivial rfl rfl
 by_cases h9:tk=9
 ·subst h9
  rw [if_neg (show ¬ ((9:Int)=1∨(9:Int)=2) by decide)] at h
  rw [if_pos (show (9:Int)=9 by decide)] at h
  obtain ⟨a,ha,h⟩:=Option.map_eq_some_iff.1 h
  injection h with q1 q2
  subst q1 q2
  repeat (first | (refine Zo rfl rfl ?_) | (refine Zf rfl rfl ?_) | (refine Zs [_] νa (Zpa e a r 2 0 x hft.1 ha) rfl rfl rfl rfl rfl rfl ?_) | refine Zm rfl (by (conv=>lhs;whnf);try rfl) ?_ | refine Zn rfl (by (conv=>lhs;whnf);try rfl) ?_ | refine ZL rfl rfl rfl rfl (by (conv=>lhs;whnf);try rfl) ?_ | refine Zbg rfl rfl ?_ | refine Zc ?_ | refine Zh ?_ | refine Za ?_ | refine Zx ?_ | refine ZJ ?_)
  exact Zbj (.inr rfl) (νc _ _) [_] [] rfl rfl trivial rfl rfl
 by_cases h10:tk=10
 ·subst h10
  rw [if_neg (show ¬ ((10:Int)=1∨(10:Int)=2) by decide)] at h
  rw [if_neg (show ¬ (10:Int)=9 by decide)] at h
  rw [if_pos (show (10:Int)=10 by decide)] at h
  obtain ⟨y,hy,h⟩:=Option.bind_eq_some_iff.1 h
  obtain ⟨a,ha,h⟩:=Option.map_eq_some_iff.1 h
  injection h with q1 q2
  subst q1 q2
  repeat (first | (refine Zo rfl rfl ?_) | (refine Zf rfl rfl ?_) | (refine Zli StrT.eq rfl hy rfl rfl rfl ?_) | (refine Zs [_] νa (Zpa e a r 3 0 y hft.1 ha) rfl rfl rfl rfl rfl rfl ?_) | refine Zm rfl (by (conv=>lhs;whnf);try rfl) ?_ | refine Zn rfl (by (conv=>lhs;whnf);try rfl) ?_ | refine ZL rfl rfl rfl rfl (by (conv=>lhs;whnf);try rfl) ?_ | refine Ze8 Tryz.underlying9 rfl rfl ?_ | refine Zbg rfl rfl ?_ | refine Zc ?_ | refine Zh ?_ | refine Za ?_ | refine Zx ?_ | refine ZJ ?_)
  exact Zbj (.inr rfl) (νc _ _) [_] [] rfl rfl trivial rfl rfl
 by_cases h3:tk=3
 ·subst h3
  rw [if_neg (show ¬ ((3:Int)=1∨(3:Int)=2) by decide)] at h
  rw [if_neg (show ¬ (3:Int)=9 by decide)] at h
  rw [if_neg (show ¬ (3:Int)=10 by decide)] at h
  rw [if_pos (show (3:Int)=3 by decide)] at h
  repeat (first | (refine Zo rfl rfl ?_) | (refine Zf rfl rfl ?_) | refine Zm rfl (by (conv=>lhs;whnf);try rfl) ?_ | refine Zn rfl (by (conv=>lhs;whnf);try rfl) ?_ | refine ZL rfl rfl rfl rfl (by (conv=>lhs;whnf);try rfl) ?_ | refine Ze8 Tryz.underlying9 rfl rfl ?_ | refine Zjw rfl (by (conv=>lhs;whnf);try rfl) (by (conv=>lhs;whnf);try rfl) (by rfl) ?_ | refine Zbg rfl rfl ?_ | refine Zc ?_ | refine Zh ?_ | refine Za ?_)
  refine Zkv (xin:=ZnW _ _ _) (ext:=[]) (ext2:=[]) [_,_] νa (fun _=>40) (fun _=>(9,4)) (Zoc 3 0 x.size x e e' r r' hf h) rfl rfl rfl rfl (List.mem_cons_self ..) ⟨⟨_,rfl,rfl⟩,trivial⟩ (fun _ _=>⟨_,List.mem_cons_of_mem _ (List.mem_cons_self ..)⟩) rfl rfl rfl rfl ?_
  repeat (first | refine Zc ?_ | refine Zx ?_ | refine ZJ ?_)
  exact Zbj (.inr rfl) (νc _ _) [_,_,_] [] rfl rfl trivial rfl rfl
 by_cases h5:tk=5
 ·subst h5
  rw [if_neg (show ¬ ((5:Int)=1∨(5:Int)=2) by decide)] at h
  rw [if_neg (show ¬ (5:Int)=9 by decide)] at h
  rw [if_neg (show ¬ (5:Int)=10 by decide)] at h
  rw [if_neg (show ¬ (5:Int)=3 by decide)] at h
  rw [if_pos (show (5:Int)=5 by decide)] at h
  repeat (first | (refine Zo rfl rfl ?_) | (refine Zf rfl rfl ?_) | refine Zm rfl (by (conv=>lhs;whnf);try rfl) ?_ | refine Zn rfl (by (conv=>lhs;whnf);try rfl) ?_ | refine ZL rfl rfl rfl rfl (by (conv=>lhs;whnf);try rfl) ?_ | refine Zjw rfl (by (conv=>lhs;whnf);try rfl) (by (conv=>lhs;whnf);try rfl) (by rfl) ?_ | refine Zbg rfl rfl ?_ | refine Zc ?_ | refine Zh ?_ | refine Za ?_)
  refine Zkv (xin:=ZnW _ _ _) (ext:=[]) (ext2:=[]) [_,_] νa (fun _=>47) (fun _=>(10,2)) (Zoc 1 0 0 x e e' r r' hf h) rfl rfl rfl rfl (List.mem_cons_self ..) ⟨⟨_,rfl,rfl⟩,trivial⟩ (fun _ _=>⟨_,List.mem_cons_of_mem _ (List.mem_cons_self ..)⟩) rfl rfl rfl rfl ?_
  repeat (first | refine Zc ?_ | refine Zx ?_ | refine ZJ ?_)
  exact Zbj (.inr rfl) (νc _ _) [_,_,_] [] rfl rfl trivial rfl rfl
 by_cases h11:tk=11
 ·subst h11
  rw [if_neg (show ¬ ((11:Int)=1∨(11:Int)=2) by decide)] at h
  rw [if_neg (show ¬ (11:Int)=9 by decide)] at h
  rw [if_neg (show ¬ (11:Int)=10 by decide)] at h
  rw [if_neg (show ¬ (11:Int)=3 by decide)] at h
  rw [if_neg (show ¬ (11:Int)=5 by decide)] at h
  rw [if_pos (show (11:Int)=11 by decide)] at h
  obtain ⟨k,hk,h⟩:=Option.bind_eq_some_iff.1 h
  repeat (first | (refine Zo rfl rfl ?_) | (refine Zf rfl rfl ?_) | (refine Ze0 (ZiX _ _ _ hk) rfl rfl ?_) | refine Zm rfl (by (conv=>lhs;whnf);try rfl) ?_ | refine ZA rfl rfl rfl ?_ | refine Zn rfl (by (conv=>lhs;whnf);try rfl) ?_ | refine ZL rfl rfl rfl rfl (by (conv=>lhs;whnf);try rfl) ?_ | refine Zjw rfl (by (conv=>lhs;whnf);try rfl) (by (conv=>lhs;whnf);try rfl) (by rfl) ?_ | refine Zbg rfl rfl ?_ | refine Zc ?_ | refine Zh ?_ | refine Za ?_)
  refine Zkv (xin:=ZnW _ _ _) (ext:=[]) (ext2:=[]) [_,_] νa (fun _=>57) (fun _=>(11,5)) (Zoc 2 k 0 x e e' r r' hf h) rfl rfl rfl rfl (List.mem_cons_self ..) ⟨⟨_,rfl,rfl⟩,trivial⟩ (fun _ _=>⟨_,List.mem_cons_of_mem _ (List.mem_cons_self ..)⟩) rfl rfl rfl rfl ?_
  repeat (first | refine Zc ?_ | refine Zx ?_ | refine ZJ ?_)
  exact Zbj (.inr rfl) (νc _ _) [_,_,_] [] rfl rfl trivial rfl rfl
 by_cases h7:tk=7
 ·subst h7
  rw [if_neg (show ¬ ((7:Int)=1∨(7:Int)=2) by decide)] at h
  rw [if_neg (show ¬ (7:Int)=9 by decide)] at h
  rw [if_neg (show ¬ (7:Int)=10 by decide)] at h
  rw [if_neg (show ¬ (7:Int)=3 by decide)] at h
  rw [if_neg (show ¬ (7:Int)=5 by decide)] at h
  rw [if_neg (show ¬ (7:Int)=11 by decide)] at h
  rw [if_pos (show (7:Int)=7 by decide)] at h
  obtain ⟨a,ha,h⟩:=Option.map_eq_some_iff.1 h
  injection h with q1 q2
  subst q1 q2
  repeat (first | (refine Zo rfl rfl ?_) | (refine Zf rfl rfl ?_) | (refine Zs [_] νa (Ztu e a r hft ha) rfl rfl rfl rfl rfl rfl ?_) | refine Zm rfl (by (conv=>lhs;whnf);try rfl) ?_ | refine Zn rfl (by (conv=>lhs;whnf);try rfl) ?_ | refine ZL rfl rfl rfl rfl (by (conv=>lhs;whnf);try rfl) ?_ | refine Zc ?_ | refine Zh ?_ | refine Za ?_ | refine Zx ?_ | refine ZJ ?_)
  exact Zbj (.inr rfl) (νc _ _) [_] [] rfl rfl trivial rfl rfl
 by_cases h8:tk=8
 ·subst h8
  rw [if_neg (show ¬ ((8:Int)=1∨(8:Int)=2) by decide)] at h
  rw [if_neg (show ¬ (8:Int)=9 by decide)] at h
  rw [if_neg (show ¬ (8:Int)=10 by decide)] at h
  rw [if_neg (show ¬ (8:Int)=3 by decide)] at h
  rw [if_neg (show ¬ (8:Int)=5 by decide)] at h
  rw [if_neg (show ¬ (8:Int)=11 by decide)] at h
  rw [if_neg (show ¬ (8:Int)=7 by decide)] at h
  rw [if_pos (show (8:Int)=8 by decide)] at h
  obtain ⟨a,ha,h⟩:=Option.map_eq_some_iff.1 h
  injection h with q1 q2
  subst q1 q2
  repeat (first | (refine Zo rfl rfl ?_) | (refine Zf rfl rfl ?_) | (refine Zs [_] νa (ZrG e a r hft ha) rfl rfl rfl rfl rfl rfl ?_) | refine Zm rfl (by (conv=>lhs;whnf);try rfl) ?_ | refine Zn rfl (by (conv=>lhs;whnf);try rfl) ?_ | refine ZL rfl rfl rfl rfl (by (conv=>lhs;whnf);try rfl) ?_ | refine Zc ?_ | refine Zh ?_ | refine Za ?_ | refine Zx ?_ | refine ZJ ?_)
  exact Zbj (.inr rfl) (νc _ _) [_] [] rfl rfl trivial rfl rfl
 by_cases h6:tk=6
 ·subst h6
  rw [if_neg (show ¬ ((6:Int)=1∨(6:Int)=2) by decide)] at h
  rw [if_neg (show ¬ (6:Int)=9 by decide)] at h
  rw [if_neg (show ¬ (6:Int)=10 by decide)] at h
  rw [if_neg (show ¬ (6:Int)=3 by decide)] at h
  rw [if_neg (show ¬ (6:Int)=5 by decide)] at h
  rw [if_neg (show ¬ (6:Int)=11 by decide)] at h
  rw [if_neg (show ¬ (6:Int)=7 by decide)] at h
  rw [if_neg (show ¬ (6:Int)=8 by decide)] at h
  rw [if_pos (show (6:Int)=6 by decide)] at h
  repeat (first | (refine Zo rfl rfl ?_) | (refine Zf rfl rfl ?_) | (refine Zs [_] νa (Zma e e' r r' hf h) rfl rfl rfl rfl rfl rfl ?_) | refine Zm rfl (by (conv=>lhs;whnf);try rfl) ?_ | refine Zn rfl (by (conv=>lhs;whnf);try rfl) ?_ | refine ZL rfl rfl rfl rfl (by (conv=>lhs;whnf);try rfl) ?_ | refine Zc ?_ | refine Zh ?_ | refine Za ?_ | refine Zx ?_ | refine ZJ ?_)
  exact Zbj (.inr rfl) (νc _ _) [_] [] rfl rfl trivial rfl rfl
 by_cases h12:tk=12
 ·subst h12
  rw [if_neg (show ¬ ((12:Int)=1∨(12:Int)=2) by decide)] at h
  rw [if_neg (show ¬ (12:Int)=9 by decide)] at h
  rw [if_neg (show ¬ (12:Int)=10 by decide)] at h
  rw [if_neg (show ¬ (12:Int)=3 by decide)] at h
  rw [if_neg (show ¬ (12:Int)=5 by decide)] at h
  rw [if_neg (show ¬ (12:Int)=11 by decide)] at h
  rw [if_neg (show ¬ (12:Int)=7 by decide)] at h
  rw [if_neg (show ¬ (12:Int)=8 by decide)] at h
  rw [if_neg (show ¬ (12:Int)=6 by decide)] at h
  rw [if_pos (show (12:Int)=12 by decide)] at h
  obtain ⟨k,hk,h⟩:=Option.bind_eq_some_iff.1 h
  repeat (first | (refine Zo rfl rfl ?_) | (refine Zf rfl rfl ?_) | (refine Ze0 (ZiX _ _ _ hk) rfl rfl ?_) | (refine Zs [_] νa (ZnO k x e e' r r' hf h) rfl rfl rfl rfl rfl rfl ?_) | refine Zm rfl (by (conv=>lhs;whnf);try rfl) ?_ | refine ZA rfl rfl rfl ?_ | refine Zn rfl (by (conv=>lhs;whnf);try rfl) ?_ | refine ZL rfl rfl rfl rfl (by (conv=>lhs;whnf);try rfl) ?_ | refine Zc ?_ | refine Zh ?_ | refine Za ?_ | refine Zx ?_ | refine ZJ ?_)
  exact Zbj (.inr rfl) (νc _ _) [_] [] rfl rfl trivial rfl rfl
 by_cases h4:tk=4
 ·subst h4
  rw [if_neg (show ¬ ((4:Int)=1∨(4:Int)=2) by decide)] at h
  rw [if_neg (show ¬ (4:Int)=9 by decide)] at h
  rw [if_neg (show ¬ (4:Int)=10 by decide)] at h
  rw [if_neg (show ¬ (4:Int)=3 by decide)] at h
  rw [if_neg (show ¬ (4:Int)=5 by decide)] at h
  rw [if_neg (show ¬ (4:Int)=11 by decide)] at h
  rw [if_neg (show ¬ (4:Int)=7 by decide)] at h
  rw [if_neg (show ¬ (4:Int)=8 by decide)] at h
  rw [if_neg (show ¬ (4:Int)=6 by decide)] at h
  rw [if_neg (show ¬ (4:Int)=12 by decide)] at h
  rw [if_pos (show (4:Int)=4 by decide)] at h
  repeat (first | (refine Zo rfl rfl ?_) | (refine Zf rfl rfl ?_) | (refine Zs [_] νa (Zkn _ x.size e e' r r' hf h) rfl rfl rfl rfl rfl rfl ?_) | refine Zm rfl (by (conv=>lhs;whnf);try rfl) ?_ | refine Zn rfl (by (conv=>lhs;whnf);try rfl) ?_ | refine ZL rfl rfl rfl rfl (by (conv=>lhs;whnf);try rfl) ?_ | refine Ze8 Tryz.underlying9 rfl rfl ?_ | refine Zc ?_ | refine Zh ?_ | refine Za ?_ | refine Zx ?_ | refine ZJ ?_)
  exact Zbj (.inr rfl) (νc _ _) [_] [] rfl rfl trivial rfl rfl
 rw [if_neg (fun q:tk=1∨tk=2=>q.elim h1 h2)] at h
 rw [if_neg h9] at h
 rw [if_neg h10] at h
 rw [if_neg h3] at h
 rw [if_neg h5] at h
 rw [if_neg h11] at h
 rw [if_neg h7] at h
 rw [if_neg h8] at h
 rw [if_neg h6] at h
 rw [if_neg h12] at h
 rw [if_neg h4] at h
 injection h with h
 injection h with q1 q2
 subst q1 q2
 rw [decide_eq_false h1]
 repeat (first | (refine Zf rfl rfl ?_) | refine Zn rfl (by (conv=>lhs;whnf);try rfl) ?_ | refine ZL rfl rfl rfl rfl (by (conv=>lhs;whnf);try rfl) ?_ | refine Zc ?_ | refine Za ?_)
 rw [decide_eq_false h2]
 repeat (first | (refine Zf rfl rfl ?_) | refine Zn rfl (by (conv=>lhs;whnf);try rfl) ?_ | refine ZL rfl rfl rfl rfl (by (conv=>lhs;whnf);try rfl) ?_ | refine Zc ?_ | refine Zh ?_ | refine Za ?_)
 rw [decide_eq_false h9]
 repeat (first | (refine Zf rfl rfl ?_) | refine Zn rfl (by (conv=>lhs;whnf);try rfl) ?_ | refine ZL rfl rfl rfl rfl (by (conv=>lhs;whnf);try rfl) ?_ | refine Zc ?_ | refine Zh ?_ | refine Za ?_)
 rw [decide_eq_false h10]
 repeat (first | (refine Zf rfl rfl ?_) | refine Zn rfl (by (conv=>lhs;whnf);try rfl) ?_ | refine ZL rfl rfl rfl rfl (by (conv=>lhs;whnf);try rfl) ?_ | refine Zc ?_ | refine Zh ?_ | refine Za ?_)
 rw [decide_eq_false h3]
 repeat (first | (refine Zf rfl rfl ?_) | refine Zn rfl (by (conv=>lhs;whnf);try rfl) ?_ | refine ZL rfl rfl rfl rfl (by (conv=>lhs;whnf);try rfl) ?_ | refine Zc ?_ | refine Zh ?_ | refine Za ?_)
 rw [decide_eq_false h5]
 repeat (first | (refine Zf rfl rfl ?_) | refine Zn rfl (by (conv=>lhs;whnf);try rfl) ?_ | refine ZL rfl rfl rfl rfl (by (conv=>lhs;whnf);try rfl) ?_ | refine Zc ?_ | refine Zh ?_ | refine Za ?_)
 rw [decide_eq_false h11]
 repeat (first | (refine Zf rfl rfl ?_) | refine Zn rfl (by (conv=>lhs;whnf);try rfl) ?_ | refine ZL rfl rfl rfl rfl (by (conv=>lhs;whnf);try rfl) ?_ | refine Zc ?_ | refine Zh ?_ | refine Za ?_)
 rw [decide_eq_false h7]
 repeat (first | (refine Zf rfl rfl ?_) | refine Zn rfl (by (conv=>lhs;whnf);try rfl) ?_ | refine ZL rfl rfl rfl rfl (by (conv=>lhs;whnf);try rfl) ?_ | refine Zc ?_ | refine Zh ?_ | refine Za ?_)
 rw [decide_eq_false h8]
 repeat (first | (refine Zf rfl rfl ?_) | refine Zn rfl (by (conv=>lhs;whnf);try rfl) ?_ | refine ZL rfl rfl rfl rfl (by (conv=>lhs;whnf);try rfl) ?_ | refine Zc ?_ | refine Zh ?_ | refine Za ?_)
 rw [decide_eq_false h6]
 repeat (first | (refine Zf rfl rfl ?_) | refine Zn rfl (by (conv=>lhs;whnf);try rfl) ?_ | refine ZL rfl rfl rfl rfl (by (conv=>lhs;whnf);try rfl) ?_ | refine Zc ?_ | refine Zh ?_ | refine Za ?_)
 rw [decide_eq_false h12]
 repeat (first | (refine Zf rfl rfl ?_) | refine Zn rfl (by (conv=>lhs;whnf);try rfl) ?_ | refine ZL rfl rfl rfl rfl (by (conv=>lhs;whnf);try rfl) ?_ | refine Zc ?_ | refine Zh ?_ | refine Za ?_)
 rw [decide_eq_false h4]
 repeat (first | (refine Zf rfl rfl ?_) | refine Zz ?_ | refine Zx ?_ | refine ZJ ?_)
 exact Zbj (.inr rfl) νa [_] [] rfl rfl trivial rfl rfl
def νp (k:Nat):Gen:=(1,k)
theorem ZiK (ν:Nat→Gen) {e:El} {r:List El} (lits:List (Nat×Option (Gen×VObj))) {tm tm':List (Nat×PV)} {ob:List (Nat×Option (Gen×VObj))} {ng:Nat} (h1:Zfs (σf fun k=>(k,ν k)) tm tm') (hob:ob=lits++somes (stP ν e r)) (hl:(lits.all fun q=>!Za5 q.1)=true) :
  Shift (mkS tm ob ng) (mkS tm' (somes (stP νp e r)) 2):=
 ZeK _ h1 (ZjM (ν:=νp) (ν':=ν) (fun _ _=>rfl) e r) (by rw [hob];exact ZaU hl) (Zay _ _ _)
def ZmX (s:ByteArray):List Tok→El→List El→Option (El×List El)
 | [],e,r=>some (e,r)
 | t::l,e,r=>(ZrF s t e r).bind fun q=>ZmX s l q.1 q.2
theorem ZiL {s:ByteArray}:∀ {l:List Tok} {e e':El} {r r':List El},fits e r→ZmX s l e r=some (e',r')→fits e' r'
 | [],e,e',r,r',hf,h=>by injection h with h;injection h with h1 h2;rw [← h1,← h2];exact hf
 | t::l,e,e',r,r',hf,h=>by
   obtain ⟨⟨e1,r1⟩,h1,h⟩:=Option.bind_eq_some_iff.1 h
   exact ZiL (ZjD hf h1) h
def Zrm (s:ByteArray):Option (List (List PV)×Int):=(Zhl s).bind fun q=>if q.2=0 then (if q.1.length≤4611686018427387904 then (ZmX s q.1 ⟨0,0,0,[],none⟩ []).bind fun p=>(ZhH p.2.length p.1 p.2).map fun z=>(z.1.list,0) else none) else some ([],q.2)
abbrev startf (k:Nat):Nat×Gen:=if k=0 then (21,(4,4)) else if k=1000 then (19,(4,2)) else if k=1001 then (18,(4,1)) else if k=1002 then (60,(6,0)) else (61,(7,0))
set_option maxRecDepth 100000 in
set_option maxHeartbeats 2000000 in
theorem Zqv (s:ByteArray) (res:List (List PV)×Int) (h:Zrm s=some res):Zd Tryz.prog 105 [.str s] (.tup [.sl res.1,.int .i64 res.2]):=by
 obtain ⟨⟨l,e0⟩,hq,h⟩:=Option.bind_eq_some_iff.1 h
 refine Zbq mix Tryz.func105 (by kernel_rfl) rfl (by kernel_rfl) ?_
 repeat (first | (refine Ze0 (ZlD _ _ hq) rfl rfl ?_) | refine Zm rfl (by (conv=>lhs;whnf);try rfl) ?_ | refine Zn rfl (by (conv=>lhs;whnf);try rfl) ?_ | refine ZL rfl rfl rfl rfl (by (conv=>lhs;whnf);try rfl) ?_ | refine Zez rfl rfl rfl ?_ | refine Zc ?_ | refine Zh ?_ | refine Za ?_)
 dsimp only at h
 by_cases he:e0=0
 rotate_left
 ·rw [if_neg he] at h
  injection h with h
  subst h
  rw [decide_eq_false he]
  repeat (first | (refine Zo rfl rfl ?_) | refine Zm rfl (by (conv=>lhs;whnf);try rfl) ?_ | refine Zn rfl (by (conv=>lhs;whnf);try rfl) ?_ | refine Zc ?_ | refine Zh ?_ | refine Za ?_ | refine ZaY ?_)
  exact ZdW rfl rfl rfl
 rw [if_pos he] at h
 by_cases hl:l.length≤4611686018427387904
 rotate_left
 ·rw [if_neg hl] at h
  cases h
 rw [if_pos hl] at h
 obtain ⟨⟨e1,r1⟩,hp,h⟩:=Option.bind_eq_some_iff.1 h
 obtain ⟨⟨e2,r2⟩,hz,h⟩:=Option.map_eq_some_iff.1 h
 subst h
 rw [decide_eq_true he]
 have hf0:fits ⟨0,0,0,[],none⟩ []:=⟨Nat.zero_le _,fun x hx=>by
  rw [List.mem_singleton.1 hx]
  exact ⟨fun q hq=>(by cases hq),Nat.zero_le _⟩⟩
 have hf1:=ZiL hf0 hp
 repeat (first | (refine Zf rfl rfl ?_) | (refine Zie rfl rfl rfl rfl (Nat.le_of_ble_eq_true rfl) rfl ?_) | refine Zm rfl (by (conv=>lhs;whnf);try rfl) ?_ | refine Zn rfl (by (conv=>lhs;whnf);try rfl) ?_ | refine ZgT rfl rfl ?_ | refine Zjw rfl (by (conv=>lhs;whnf);try rfl) (by (conv=>lhs;whnf);try rfl) (by rfl) ?_ | refine Zbg rfl rfl ?_ | refine Zc ?_ | refine Zh ?_ | refine Za ?_ | refine ZU ?_ | refine Zz ?_)
 refine Zq (fun (a:Nat×El×List El) _=>mkS [(0,.str s),(6,.ptr 0 (1,0) 0),(22,.sl (l.map Tok.cs)),(23,.int .i64 ((l.map Tok.cs).length:Int)),(24,.int .i64 ((a.1:Nat):Int))] (somes (stP νp a.2.1 a.2.2)) 2) (fun a=>a.1≤l.length∧fits a.2.1 a.2.2∧ZmX s (l.drop a.1) a.2.1 a.2.2=some (e1,r1)) (fun a=>l.length - a.1) (0,⟨0,0,0,[],none⟩,[]) 2 ⟨Nat.zero_le _,hf0,hp⟩
  (Shift.trans (Zb5 18 60 3 197 5 rfl rfl rfl) (Shift.trans (Zb5 18 61 4 256 3 rfl rfl rfl) (Shift.trans (Zcf (t:=61) rfl) (ZeK startf ⟨rfl,rfl,rfl,rfl,rfl,trivial⟩ rfl (Zk rfl (Zk rfl (Zk rfl (Zk rfl (Zk rfl (ZH _)))))) (by decide))))) (fun a ng hJ=>?_)
 obtain ⟨q,e3,r3⟩:=a
 obtain ⟨hqq,hf3,ht⟩:=hJ
 dsimp only at hqq hf3 ht ⊢
 repeat (first | refine ZL rfl rfl rfl rfl (by (conv=>lhs;whnf);try rfl) ?_ | refine Zc ?_ | refine Zh ?_ | refine Za ?_)
 by_cases hlt:q<l.length
 ·refine Zo (by (conv=>lhs;whnf);try rfl) (by simp;omega) ?_
  rw [List.drop_eq_getElem_cons hlt] at ht
  obtain ⟨⟨e4,r4⟩,h4,ht⟩:=Option.bind_eq_some_iff.1 ht
  have hcs:(l.map Tok.cs)[q]? = some (Tok.cs l[q]):=by rw [List.getElem?_map,List.getElem?_eq_getElem hlt];rfl
  repeat (first | (refine Zdx rfl rfl rfl hcs rfl ?_) | (refine Zs [_,_] νp (ZsQ s _ e3 e4 r3 r4 hf3 h4) rfl rfl rfl rfl rfl rfl ?_) | refine Zm rfl (by (conv=>lhs;whnf);try rfl) ?_ | refine ZA rfl rfl rfl ?_ | refine Zmc rfl rfl (by omega) ?_ | refine ZcK rfl rfl ?_ | refine Zap rfl rfl rfl (by (conv=>lhs;whnf);try rfl) (by (conv=>lhs;whnf);try rfl) (by rfl) (by rfl) (Nat.le_of_ble_eq_true rfl) (by (conv=>lhs;whnf);try rfl) ?_ | refine Zc ?_ | refine Zh ?_ | refine Za ?_ | refine ZU ?_ | refine Zz ?_ | refine Zx ?_)
  exact ZR (q+1,e4,r4) 2 ⟨by dsimp only;omega,ZjD hf3 h4,ht⟩ (by dsimp only;omega) (ZiK (νn (1,0) 4 3) [_,_] ⟨rfl,rfl,rfl,rfl,rfl,trivial⟩ rfl rfl)
 ·refine Zf (by (conv=>lhs;whnf);try rfl) (by simp;omega) ?_
  obtain rfl:q=l.length:=by omega
  rw [List.drop_length] at ht
  injection ht with ht
  injection ht with q1 q2
  subst q1 q2
  repeat (first | refine Zh ?_ | refine ZU ?_ | refine ZaR ?_)
  refine Zq (fun (a:El×List El) _=>mkS [(6,.ptr 0 (1,0) 0)] (somes (stP νp a.1 a.2)) 2) (fun a=>fits a.1 a.2∧ZhH a.2.length a.1 a.2=some (e2,r2)) (fun a=>a.2.length) (e3,r3) 2 ⟨hf3,hz⟩ (ZiK νp [] ⟨rfl,trivial⟩ rfl rfl) (fun a ng hJ=>?_)
  obtain ⟨e5,r5⟩:=a
  obtain ⟨hf5,hft⟩:=hJ
  dsimp only at hf5 hft ⊢
  have hr5:=hf5.1
  repeat (first | (refine ZaW rfl rfl (ZbD _ _ _) ?_) | refine Zm rfl (by (conv=>lhs;whnf);try rfl) ?_ | refine ZA rfl rfl rfl ?_ | refine Zi rfl rfl ?_ | refine ZL rfl rfl rfl rfl (by (conv=>lhs;whnf);try rfl) ?_ | refine Zak rfl rfl ?_ | refine Zc ?_ | refine Zh ?_ | refine Za ?_)
  rcases r5 with _ | ⟨e6,r6⟩
  ·injection hft with hft
   injection hft with q1 q2
   subst q1 q2
   repeat (first | (refine Zf rfl rfl ?_) | (refine ZO [] νp (Zc7 e5 [] (Nat.zero_le _)) rfl rfl rfl rfl rfl rfl ?_) | refine Zm rfl (by (conv=>lhs;whnf);try rfl) ?_ | refine ZA rfl rfl rfl ?_ | refine Zi rfl rfl ?_ | refine Zn rfl (by (conv=>lhs;whnf);try rfl) ?_ | refine Zak rfl rfl ?_ | refine Zc ?_ | refine Zh ?_ | refine Za ?_ | refine ZaY ?_ | refine ZaR ?_)
   exact ZdW rfl rfl rfl
  ·rw [show decide ((1:Int)<(((e6::r6).length+1:Nat):Int))=true from decide_eq_true (by simp;omega)]
   obtain ⟨e7,he7,hft⟩:=Option.bind_eq_some_iff.1 hft
   repeat (first | (refine Zo rfl rfl ?_) | (refine Zs [] νp (ZiG e5 e6 e7 r6 (by simp at hr5;omega) (ZS (Zal hf5)) he7) rfl rfl rfl rfl rfl rfl ?_) | refine Zm rfl (by (conv=>lhs;whnf);try rfl) ?_ | refine Zc ?_ | refine Za ?_ | refine ZU ?_ | refine Zz ?_ | refine Zx ?_ | refine ZJ ?_)
   exact ZR (e7,r6) 2 ⟨Zdn hf5 he7,hft⟩ (by dsimp only;simp) (ZiK (νn (1,0) 3 1) [] ⟨rfl,trivial⟩ rfl rfl)
def ZiM (s:ByteArray):Option (List Node×Int):=(Zrm s).bind fun q=>(Zgb q.1).map fun l=>(l,q.2)
theorem Zkw (s:ByteArray) (r:List Node×Int) (h:ZiM s=some r):Zd Tryz.prog 105 [.str s] (.tup [.sl (List.map Node.cs r.1),.int .i64 r.2]):=by
 obtain ⟨q,hq,h⟩:=Option.bind_eq_some_iff.1 h
 obtain ⟨l,hl,h⟩:=Option.map_eq_some_iff.1 h
 subst h
 have:=Zqv s q hq
 rw [Zdt hl] at this
 exact this
end Go.Proofs.YtjblgpmagampbaaGreatDoor
namespace Go.Proofs.YtjblgpmagampbaaGreatDoor
open VL Go.RowKit
theorem Zrs (B b:Nat) (bs:List Value) (s:ByteArray) (w:World) (h:Lib.IsBuilderF 358 5 B b bs w) (hlen:bs.length+s.size≤140737488355328) (hBw:B≤w.heap.size) :
  Calls Tryz.prog 308 #[.pointer (some ⟨b,0,none⟩),.string s] w fun e w'=>e = .returned (.tuple #[.int .i64 s.size,.nilIface])∧(Lib.BuilderAtF 358 5 B b (.pointer (some ⟨b,0,none⟩)) (bs++Lib.strCells s) w'∧Below B w w'):=
 Any.Builder_WriteString_f (P:=Tryz.prog) (ρ:=Tryz.lays105_ren) { Tryz.lays105 with } Tryz.Builder_Extra_105 B b bs s w h hlen hBw
structure SlW where
 a:Option Addr
 n:Nat
 c:Nat
structure NodeW where
 kind:Int
 tag:Int
 text:ByteArray
 kids:SlW
 args:SlW
instance:Enc NodeW where
 k:=5
 R _ _ x cs:=cs = [.int .i64 x.kind,.int .i64 x.tag,.string x.text,.slice x.kids.a x.kids.n x.kids.c,.slice x.args.a x.args.n x.args.c]
 len h:=by rw [h];rfl
 one h:=by
  obtain rfl:=h
  intro u hu
  simp only [List.mem_cons,List.not_mem_nil,or_false] at hu
  rcases hu with rfl | rfl | rfl | rfl | rfl<;>rfl
 keep _ _ h:=h
 weak _ h:=h
def ZeZ (acc:List UInt8):List NodeW→Option (Option (List UInt8))
 | []=>some (some acc)
 | x::xs=>if x.kind=1∨x.kind=3 then (if acc.length+x.text.size≤140737488355328 then ZeZ (acc++x.text.data.toList) xs else none) else if x.kind=2 then ZeZ acc xs else some none
def Zm0:Option (List UInt8)→Value
 | some l=>.tuple #[.string ⟨l.toArray⟩,.bool true]
 | none=>.tuple #[.string ⟨#[]⟩,.bool false]
set_option maxRecDepth 100000 in
set_option maxHeartbeats 4000000 in
theorem Zpb (A:Option Addr) (n c:Nat) (xs:List NodeW) (r:Option (List UInt8)) (hr:ZeZ [] xs=some r) (w:World) (hS:SlR w A n c xs) :
  Calls Tryz.prog 256 #[.slice A n c] w fun e w'=>e = .returned (Zm0 r)∧Below w.heap.size w w':=by
 have HN:=Lib.hid hS.1
 have hle:=hS.le
 go_enter Tryz.func256,Tryz.ntmps256
 go_wp2
 go_loopw [9] (fun i wr=>∃ (q:Nat) (acc:List UInt8),q≤n∧i = .int .i64 q∧Below w.heap.size w wr∧Lib.IsBuilderF 358 5 w.heap.size w.heap.size (Lib.byteCells acc) wr∧Hid (ZeZ acc (xs.drop q)=some r)) (fun i _=>n - (intOf i).toNat)
 case atStart=>
  exact ⟨0,[],Nat.zero_le _,rfl,(Below.refl _ w).alloc (Nat.le_refl _) _,Lib.IsBuilderF.of (Lib.fresh_isBuilder 358 5 w),hr⟩
 case round=>
  obtain ⟨q,acc,hq,rfl,hbw,hI,hF⟩:=hrel
  have HW:=Lib.hid hbw
  clear hbw
  by_cases hlt:q<n
  ·obtain ⟨b,off,x,cs,hA,hbl,hx,hd,hR,hc⟩:=(SlR.mono HW.out hS).elem hlt
   obtain rfl:=hA
   have d0:wr.cell? ⟨b,off+q * 5,none⟩=some (.int .i64 x.kind):=by subst hR;exact hc 0 _ rfl
   have d1:wr.cell? ⟨b,off+q * 5+1,none⟩=some (.int .i64 x.tag):=by subst hR;exact hc 1 _ rfl
   have d2:wr.cell? ⟨b,off+q * 5+2,none⟩=some (.string x.text):=by subst hR;exact hc 2 _ rfl
   have d3:wr.cell? ⟨b,off+q * 5+3,none⟩=some (.slice x.kids.a x.kids.n x.kids.c):=by subst hR;exact hc 3 _ rfl
   have d4:wr.cell? ⟨b,off+q * 5+4,none⟩=some (.slice x.args.a x.args.n x.args.c):=by subst hR;exact hc 4 _ rfl
   have HD:=Lib.hid hd
   have HX:=Lib.hid hx
   clear hx hd hR hc
   by_cases h13:x.kind=1∨x.kind=3
   ·have hfit:acc.length+x.text.size≤140737488355328∧ZeZ (acc++x.text.data.toList) (xs.drop (q+1))=some r:=by
     have e:=hF.out
     rw [HD.out] at e
     simp only [ZeZ,if_pos h13] at e
     split at e
     ·exact ⟨‹_›,e⟩
     ·cases e
    have HI2:∀ o,Lib.IsBuilderF 358 5 w.heap.size w.heap.size (Lib.byteCells acc) (wr.alloc o):=fun o=>hI.alloc o
    rcases h13 with h13 | h13
    ·go_wp2_with (go_at_call 308;refine (Zrs w.heap.size w.heap.size _ x.text _ (HI2 _) (by rw [Lib.byteCells_length];exact hfit.1) (Nat.le_trans HW.out.size (by simp))).mono ?_)
     rintro e W1 ⟨rfl,h1,b1⟩
     go_wp2
     go_roundw
     case rel=>
      refine ⟨q+1,acc++x.text.data.toList,by omega,by go_num,?_,?_,Lib.hid hfit.2⟩
      ·exact (Below.al HW.out _).trans b1
      ·rw [Lib.byteCells_append,← Lib.strCells_eq];exact Or.inr h1
     case measure=>simp [intOf];omega
    ·go_wp2_with (go_at_call 308;refine (Zrs w.heap.size w.heap.size _ x.text _ (HI2 _) (by rw [Lib.byteCells_length];exact hfit.1) (Nat.le_trans HW.out.size (by simp))).mono ?_)
     rintro e W1 ⟨rfl,h1,b1⟩
     go_wp2
     go_roundw
     case rel=>
      refine ⟨q+1,acc++x.text.data.toList,by omega,by go_num,?_,?_,Lib.hid hfit.2⟩
      ·exact (Below.al HW.out _).trans b1
      ·rw [Lib.byteCells_append,← Lib.strCells_eq];exact Or.inr h1
     case measure=>simp [intOf];omega
   ·by_cases h2:x.kind=2
    ·have hn2:ZeZ acc (xs.drop (q+1))=some r:=by
      have e:=hF.out
      rw [HD.out] at e
      simp only [ZeZ,if_neg h13,if_pos h2] at e
      exact e
     go_wp2
     go_roundw
     case rel=>exact ⟨q+1,acc,by omega,by go_num,Below.al HW.out _,hI.alloc _,Lib.hid hn2⟩
     case measure=>simp [intOf];omega
    ·have hn2:r=none:=by
      have e:=hF.out
      rw [HD.out] at e
      simp only [ZeZ,if_neg h13,if_neg h2] at e
      exact (Option.some.inj e).symm
     subst hn2
     go_wp2
     exact bodyPost_ret (v:=Zm0 none) (by simp [results,Tryz.results256,go_sem, *];rfl) rfl ⟨rfl,Below.al HW.out _⟩
  ·have hz:r=some acc:=by
    have e:=hF.out
    rw [List.drop_eq_nil_of_le (by rw [← HN.out];omega)] at e
    exact (Option.some.inj e).symm
   subst hz
   go_wp2_with (go_at_call 310;refine (Tryz.Builder_String_any_f w.heap.size w.heap.size acc _ hI HW.out.size).mono ?_)
   rintro e W1 ⟨rfl,_,b1⟩
   go_wp2
   exact bodyPost_ret (v:=Zm0 (some acc)) (by simp [results,Tryz.results256,go_sem, *];rfl) rfl ⟨rfl,HW.out.trans b1⟩
def ZiW (acc:List UInt8):List Node→Option (Option (List UInt8))
 | []=>some (some acc)
 | x::xs=>if x.kind=1∨x.kind=3 then (if acc.length+x.text.size≤140737488355328 then ZiW (acc++x.text.data.toList) xs else none) else if x.kind=2 then ZiW acc xs else some none
theorem Zm1:∀ (xs:List NodeW) (l:List Node) (acc:List UInt8),xs.length=l.length→(∀ (i:Nat) (x:NodeW) (y:Node),xs[i]? = some x→l[i]? = some y→x.kind=y.kind∧x.text=y.text)→ZeZ acc xs=ZiW acc l
 | [],[],acc,_,_=>rfl
 | x::xs,y::l,acc,hl,h=>by
   obtain ⟨h1,h2⟩:=h 0 x y rfl rfl
   have ih:=fun acc=>Zm1 xs l acc (by simpa using hl) (fun i a b ha hb=>h (i+1) a b ha hb)
   simp only [ZeZ,ZiW,h1,h2,ih]
def Zgg:Value→SlW
 | .slice A n c=>⟨A,n,c⟩
 | _=>⟨none,0,0⟩
theorem Zrt {x:Ctx} {els:List (List PV)} {v:Value} (h:Rep x (.sl els) v):v = .slice (Zgg v).a (Zgg v).n (Zgg v).c:=by
 cases h
 rfl
theorem Zlx {x:Ctx} (hflt:∀ b o,x.F b o→b<x.W.heap.size) {L:List Node} {v:Value} (h:Rep x (.sl (L.map Node.cs)) v):∃ A n c xs,v = .slice A n c∧SlR x.W A n c xs∧∀ acc,ZeZ acc xs=ZiW acc L:=by
 generalize hels:(L.map Node.cs)=els at h
 cases h with
 | sl _ A n c k b off f hn hc hm hk hA hcell hh=>
   subst hels
   have hx:∀ (i:Nat) (y:NodeW),(L.mapIdx fun i nd=>(⟨nd.kind,nd.tag,nd.text,Zgg (f i 3),Zgg (f i 4)⟩:NodeW))[i]? = some y→∃ nd,L[i]? = some nd∧y=⟨nd.kind,nd.tag,nd.text,Zgg (f i 3),Zgg (f i 4)⟩:=fun i y hi=>by
    rw [List.getElem?_mapIdx] at hi
    cases hL:L[i]? with
    | none=>rw [hL] at hi;cases hi
    | some nd=>rw [hL] at hi;injection hi with hi;exact ⟨nd,rfl,hi.symm⟩
   refine ⟨A,n,c,L.mapIdx fun i nd=>(⟨nd.kind,nd.tag,nd.text,Zgg (f i 3),Zgg (f i 4)⟩:NodeW),rfl,⟨by simpa using hn,hc,hm,fun h0=>?_⟩,fun acc=>Zm1 _ _ _ (by simp) fun i y nd hi hd=>?_⟩
   ·have hL:0<L.length:=by rw [hn,List.length_map] at h0;exact h0
    have hk5:k=5:=by
     obtain ⟨s,hs⟩:∃ s,L[0]? = some s:=⟨_,List.getElem?_eq_getElem hL⟩
     exact (hk (Node.cs s) (List.mem_map.2 ⟨s,List.mem_of_getElem? hs,rfl⟩)).symm
    subst hk5
    have el:∀ i nd,L[i]? = some nd→(L.map Node.cs)[i]? = some (Node.cs nd):=fun i nd hi=>by rw [List.getElem?_map,hi];rfl
    obtain ⟨s0,hs0⟩:∃ s,L[0]? = some s:=⟨_,List.getElem?_eq_getElem hL⟩
    refine ⟨b,off,fun i=>[f i 0,f i 1,f i 2,f i 3,f i 4],hA h0,trivial,hflt _ _ (hcell 0 0 _ _ (el 0 s0 hs0) rfl).2.1,fun i y hi=>?_⟩
    obtain ⟨nd,hd,rfl⟩:=hx i y hi
    have e:=el i nd hd
    refine ⟨?_,fun j u hj=>?_⟩
    ·have r0:=hh i 0 _ _ e rfl
     have r1:=hh i 1 _ _ e rfl
     have r2:=hh i 2 _ _ e rfl
     have r3:=Zrt (hh i 3 _ _ e rfl)
     have r4:=Zrt (hh i 4 _ _ e rfl)
     have q0:f i 0 = .int .i64 nd.kind:=by generalize f i 0=u at r0;cases r0;rfl
     have q1:f i 1 = .int .i64 nd.tag:=by generalize f i 1=u at r1;cases r1;rfl
     have q2:f i 2 = .string nd.text:=by generalize f i 2=u at r2;cases r2;rfl
     show [f i 0,f i 1,f i 2,f i 3,f i 4] = [.int .i64 nd.kind,.int .i64 nd.tag,.string nd.text,.slice (Zgg (f i 3)).a (Zgg (f i 3)).n (Zgg (f i 3)).c,.slice (Zgg (f i 4)).a (Zgg (f i 4)).n (Zgg (f i 4)).c]
     rw [q0,q1,q2,← r3,← r4]
    ·match j,hj with
     | 0,hj=>injection hj with hj;subst hj;exact (hcell i 0 _ _ e rfl).2.2
     | 1,hj=>injection hj with hj;subst hj;exact (hcell i 1 _ _ e rfl).2.2
     | 2,hj=>injection hj with hj;subst hj;exact (hcell i 2 _ _ e rfl).2.2
     | 3,hj=>injection hj with hj;subst hj;exact (hcell i 3 _ _ e rfl).2.2
     | 4,hj=>injection hj with hj;subst hj;exact (hcell i 4 _ _ e rfl).2.2
     | j+5,hj=>simp at hj
   ·obtain ⟨nd',h1,rfl⟩:=hx i y hi
    rw [hd] at h1
    injection h1 with h1
    subst h1
    exact ⟨rfl,rfl⟩
def Zhj (l:List Node):Option (ByteArray×Bool):=match ZiW [] l with
 | some (some t)=>some (⟨t.toArray⟩,true)
 | some none=>some (⟨#[]⟩,false)
 | none=>none
theorem ZtA {x:Ctx} (a:ByteArray) (c:Bool):Rep x (.tup [.str a,.bool c]) (.tuple #[.string a,.bool c]):=.tup _ _ rfl fun i p v hp hv=>by
 match i,hp,hv with
 | 0,hp,hv=>injection hp with hp;injection hv with hv;subst hp hv;exact .str _
 | 1,hp,hv=>injection hp with hp;injection hv with hv;subst hp hv;exact .bool _
 | i+2,hp,_=>simp at hp
theorem args1 {x:Ctx} {p:PV} {vs:Array Value} (h:Pre x [p] none vs):∃ v,vs = #[v]∧Rep x p v:=by
 obtain ⟨v,hv⟩:∃ v,vs = #[v]:=Array.size_eq_one_iff.1 h.size.symm
 exact ⟨v,hv,h.rep 0 _ _ rfl (by rw [hv];rfl)⟩
theorem Zly (l:List Node) (r:ByteArray×Bool) (h:Zhj l=some r):Zd Tryz.prog 256 [.sl (List.map Node.cs l)] (.tup [.str r.1,.bool r.2]):=by
 obtain ⟨o,ho,hv⟩:∃ o,ZiW [] l=some o∧Zm0 o = .tuple #[.string r.1,.bool r.2]:=by
  unfold Zhj at h
  split at h
  ·cases h;exact ⟨_,‹_›,rfl⟩
  ·cases h;exact ⟨_,‹_›,rfl⟩
  ·cases h
 exact Zek (by kernel_rfl) rfl (fun x=>ZtA _ _) fun x vs hp _=>by
  obtain ⟨v,rfl,h1⟩:=args1 hp
  obtain ⟨A,n,c,xs,rfl,hS,he⟩:=Zlx hp.flt h1
  rw [← hv]
  exact Zpb A n c xs o ((he []).trans ho) x.W hS
end Go.Proofs.YtjblgpmagampbaaGreatDoor
