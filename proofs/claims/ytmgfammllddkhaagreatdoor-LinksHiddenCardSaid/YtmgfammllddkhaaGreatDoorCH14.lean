/- The parser's take, walked. | The parser's Parse. | tree.Plain: a list of nodes that is plain text. -/
import Derived.Test.YtmgfammllddkhaaGreatDoorCH13
import Derived.Test.YtmgfammllddkhaaGreatDoorCH04
import Derived.Test.YtmgfammllddkhaaGreatDoorCH03
namespace Go.Proofs.YtmgfammllddkhaaGreatDoor
open VL
set_option maxRecDepth 100000 in
set_option maxHeartbeats 2000000 in
theorem ZrQ (s:ByteArray) (t:Tok) (e e':El) (r r':List El) (hf:fits e r) (h:ZcG s t e r=some (e',r')):PC 63 [.str s,t.pv] e r (.tup []) e' r':=by
 have hft:=Zay hf
 obtain ⟨x,hx,h⟩:=Option.bind_eq_some_iff.1 h
 obtain ⟨tk,tf,tt⟩:=t
 refine ZZ mix Tryz.func63 (by kernel_rfl) rfl (by kernel_rfl) ?_
 rw [ZbY]
 repeat (first | (refine ZeV (Zhl _ _ _ hx) rfl rfl ?_) | refine ZA rfl (by (conv=>lhs;whnf);try rfl) ?_ | refine Zx rfl rfl rfl ?_ | refine Zc rfl rfl ?_ | refine Zi rfl (by (conv=>lhs;whnf);try rfl) ?_ | refine ZM rfl rfl (by omega) ?_ | refine ZL rfl rfl rfl (by omega) (by omega) ?_ | refine ZI rfl rfl rfl (by omega) ?_ | refine ZK rfl rfl rfl (by omega) (by omega) ?_ | refine ZN rfl rfl rfl rfl (by (conv=>lhs;whnf);try rfl) ?_ | refine ZP rfl rfl rfl rfl (by (conv=>lhs;whnf);try rfl) ?_ | refine ZR rfl rfl ?_ | refine Zd rfl rfl ?_ | refine Zz rfl rfl ?_ | refine g_bits rfl rfl rfl rfl ?_ | refine ZS rfl rfl rfl (by decide) ?_ | refine g_rem rfl rfl rfl (by first | decide | omega) ?_ | refine ZU rfl rfl ?_ | refine Zv Tryz.underlying9 rfl rfl ?_ | refine ZT rfl (by (conv=>lhs;whnf);try rfl) (by (conv=>lhs;whnf);try rfl) (by rfl) ?_ | refine Zl rfl rfl ?_ | refine Zm rfl rfl rfl (by (conv=>lhs;whnf);try rfl) (by (conv=>lhs;whnf);try rfl) (by rfl) (by rfl) (Nat.le_of_ble_eq_true rfl) (by (conv=>lhs;whnf);try rfl) ?_ | refine Zn rfl rfl ?_ | refine Za rfl rfl rfl (by rfl) (by decide) (by (conv=>lhs;whnf);try rfl) ?_ | refine Zf rfl rfl rfl ?_ | refine ZQ rfl rfl ?_ | refine ZB rfl rfl (by (conv=>lhs;whnf);try rfl) ?_ | refine g_field rfl rfl rfl ?_ | refine Zo ?_ | refine Zp (by kernel_rfl) ?_ | refine Zr ?_ | refine Zb ?_ | refine Zh ?_ | refine Zj ?_ | refine Zs ?_ | refine Zk ?_ | refine Zq ?_ | refine Zt ?_ | refine ZC ?_ | refine Zg ?_ | refine Zu ?_ | refine ZD ?_)
 by_cases h1:tk=1
 ·subst h1
  rw [if_pos (show (1:Int)=1∨(1:Int)=2 by decide)] at h
  obtain ⟨a,ha,h⟩:=Option.map_eq_some_iff.1 h
  injection h with q1 q2
  subst q1 q2
  repeat (first | (refine ZV rfl rfl ?_) | (refine Zw rfl rfl ?_) | (refine ZY [_] νa (ZbP e r x hft.1 hft.2 a ha) rfl rfl rfl rfl rfl rfl ?_) | refine ZA rfl (by (conv=>lhs;whnf);try rfl) ?_ | refine Zx rfl rfl rfl ?_ | refine Zc rfl rfl ?_ | refine Zi rfl (by (conv=>lhs;whnf);try rfl) ?_ | refine ZM rfl rfl (by omega) ?_ | refine ZL rfl rfl rfl (by omega) (by omega) ?_ | refine ZI rfl rfl rfl (by omega) ?_ | refine ZK rfl rfl rfl (by omega) (by omega) ?_ | refine ZN rfl rfl rfl rfl (by (conv=>lhs;whnf);try rfl) ?_ | refine ZP rfl rfl rfl rfl (by (conv=>lhs;whnf);try rfl) ?_ | refine ZR rfl rfl ?_ | refine Zd rfl rfl ?_ | refine Zz rfl rfl ?_ | refine g_bits rfl rfl rfl rfl ?_ | refine ZS rfl rfl rfl (by decide) ?_ | refine g_rem rfl rfl rfl (by first | decide | omega) ?_ | refine ZU rfl rfl ?_ | refine Zv Tryz.underlying9 rfl rfl ?_ | refine ZT rfl (by (conv=>lhs;whnf);try rfl) (by (conv=>lhs;whnf);try rfl) (by rfl) ?_ | refine Zl rfl rfl ?_ | refine Zm rfl rfl rfl (by (conv=>lhs;whnf);try rfl) (by (conv=>lhs;whnf);try rfl) (by rfl) (by rfl) (Nat.le_of_ble_eq_true rfl) (by (conv=>lhs;whnf);try rfl) ?_ | refine Zn rfl rfl ?_ | refine Za rfl rfl rfl (by rfl) (by decide) (by (conv=>lhs;whnf);try rfl) ?_ | refine Zf rfl rfl rfl ?_ | refine ZQ rfl rfl ?_ | refine ZB rfl rfl (by (conv=>lhs;whnf);try rfl) ?_ | refine g_field rfl rfl rfl ?_ | refine Zo ?_ | refine Zp (by kernel_rfl) ?_ | refine Zr ?_ | refine Zb ?_ | refine Zh ?_ | refine Zj ?_ | refine Zs ?_ | refine Zk ?_ | refine Zq ?_ | refine Zt ?_ | refine ZC ?_ | refine Zg ?_ | refine Zu ?_ | refine ZD ?_)
  exact Zbr (.inr rfl) (νc _ _) [_] [] rfl rfl trivial rfl rfl
 by_cases h2:tk=2
 ·subst h2
  rw [if_pos (show (2:Int)=1∨(2:Int)=2 by decide)] at h
  obtain ⟨a,ha,h⟩:=Option.map_eq_some_iff.1 h
  injection h with q1 q2
  subst q1 q2
  repeat (first | (refine ZV rfl rfl ?_) | (refine Zw rfl rfl ?_) | (refine ZY [_] νa (ZbP e r x hft.1 hft.2 a ha) rfl rfl rfl rfl rfl rfl ?_) | refine ZA rfl (by (conv=>lhs;whnf);try rfl) ?_ | refine Zx rfl rfl rfl ?_ | refine Zc rfl rfl ?_ | refine Zi rfl (by (conv=>lhs;whnf);try rfl) ?_ | refine ZM rfl rfl (by omega) ?_ | refine ZL rfl rfl rfl (by omega) (by omega) ?_ | refine ZI rfl rfl rfl (by omega) ?_ | refine ZK rfl rfl rfl (by omega) (by omega) ?_ | refine ZN rfl rfl rfl rfl (by (conv=>lhs;whnf);try rfl) ?_ | refine ZP rfl rfl rfl rfl (by (conv=>lhs;whnf);try rfl) ?_ | refine ZR rfl rfl ?_ | refine Zd rfl rfl ?_ | refine Zz rfl rfl ?_ | refine g_bits rfl rfl rfl rfl ?_ | refine ZS rfl rfl rfl (by decide) ?_ | refine g_rem rfl rfl rfl (by first | decide | omega) ?_ | refine ZU rfl rfl ?_ | refine Zv Tryz.underlying9 rfl rfl ?_ | refine ZT rfl (by (conv=>lhs;whnf);try rfl) (by (conv=>lhs;whnf);try rfl) (by rfl) ?_ | refine Zl rfl rfl ?_ | refine Zm rfl rfl rfl (by (conv=>lhs;whnf);try rfl) (by (conv=>lhs;whnf);try rfl) (by rfl) (by rfl) (Nat.le_of_ble_eq_true rfl) (by (conv=>lhs;whnf);try rfl) ?_ | refine Zn rfl rfl ?_ | refine Za rfl rfl rfl (by rfl) (by decide) (by (conv=>lhs;whnf);try rfl) ?_ | refine Zf rfl rfl rfl ?_ | refine ZQ rfl rfl ?_ | refine ZB rfl rfl (by (conv=>lhs;whnf);try rfl) ?_ | refine g_field rfl rfl rfl ?_ | refine Zo ?_ | refine Zp (by kernel_rfl) ?_ | refine Zr ?_ | refine Zb ?_ | refine Zh ?_ | refine Zj ?_ | refine Zs ?_ | refine Zk ?_ | refine Zq ?_ | refine Zt ?_ | refine ZC ?_ | refine Zg ?_ | refine Zu ?_ | refine ZD ?_)
  exact Zbr (.inr rfl) (νc _ _) [_] [] rfl rfl trivial rfl rfl
 by_cases h9:tk=9
 ·subst h9
  rw [if_neg (show ¬ ((9:Int)=1∨(9:Int)=2) by decide)] at h
  rw [if_pos (show (9:Int)=9 by decide)] at h
  obtain ⟨a,ha,h⟩:=Option.map_eq_some_iff.1 h
  injection h with q1 q2
  subst q1 q2
  repeat (first | (refine ZV rfl rfl ?_) | (refine Zw rfl rfl ?_) | (refine ZY [_] νa (ZoI e a r 2 0 x hft.1 ha) rfl rfl rfl rfl rfl rfl ?_) | refine ZA rfl (by (conv=>lhs;whnf);try rfl) ?_ | refine Zx rfl rfl rfl ?_ | refine Zc rfl rfl ?_ | refine Zi rfl (by (conv=>lhs;whnf);try rfl) ?_ | refine ZM rfl rfl (by omega) ?_ | refine ZL rfl rfl rfl (by omega) (by omega) ?_ | refine ZI rfl rfl rfl (by omega) ?_ | refine ZK rfl rfl rfl (by omega) (by omega) ?_ | refine ZN rfl rfl rfl rfl (by (conv=>lhs;whnf);try rfl) ?_ | refine ZP rfl rfl rfl rfl (by (conv=>lhs;whnf);try rfl) ?_ | refine ZR rfl rfl ?_ | refine Zd rfl rfl ?_ | refine Zz rfl rfl ?_ | refine g_bits rfl rfl rfl rfl ?_ | refine ZS rfl rfl rfl (by decide) ?_ | refine g_rem rfl rfl rfl (by first | decide | omega) ?_ | refine ZU rfl rfl ?_ | refine Zv Tryz.underlying9 rfl rfl ?_ | refine ZT rfl (by (conv=>lhs;whnf);try rfl) (by (conv=>lhs;whnf);try rfl) (by rfl) ?_ | refine Zl rfl rfl ?_ | refine Zm rfl rfl rfl (by (conv=>lhs;whnf);try rfl) (by (conv=>lhs;whnf);try rfl) (by rfl) (by rfl) (Nat.le_of_ble_eq_true rfl) (by (conv=>lhs;whnf);try rfl) ?_ | refine Zn rfl rfl ?_ | refine Za rfl rfl rfl (by rfl) (by decide) (by (conv=>lhs;whnf);try rfl) ?_ | refine Zf rfl rfl rfl ?_ | refine ZQ rfl rfl ?_ | refine ZB rfl rfl (by (conv=>lhs;whnf);try rfl) ?_ | refine g_field rfl rfl rfl ?_ | refine Zo ?_ | refine Zp (by kernel_rfl) ?_ | refine Zr ?_ | refine Zb ?_ | refine Zh ?_ | refine Zj ?_ | refine Zs ?_ | refine Zk ?_ | refine Zq ?_ | refine Zt ?_ | refine ZC ?_ | refine Zg ?_ | refine Zu ?_ | refine ZD ?_)
  exact Zbr (.inr rfl) (νc _ _) [_] [] rfl rfl trivial rfl rfl
 by_cases h10:tk=10
 ·subst h10
  rw [if_neg (show ¬ ((10:Int)=1∨(10:Int)=2) by decide)] at h
  rw [if_neg (show ¬ (10:Int)=9 by decide)] at h
  rw [if_pos (show (10:Int)=10 by decide)] at h
  obtain ⟨y,hy,h⟩:=Option.bind_eq_some_iff.1 h
  obtain ⟨a,ha,h⟩:=Option.map_eq_some_iff.1 h
  injection h with q1 q2
  subst q1 q2
  repeat (first | (refine ZV rfl rfl ?_) | (refine Zw rfl rfl ?_) | (refine Zks StrT.eq rfl hy rfl rfl rfl ?_) | (refine ZY [_] νa (ZoI e a r 3 0 y hft.1 ha) rfl rfl rfl rfl rfl rfl ?_) | refine ZA rfl (by (conv=>lhs;whnf);try rfl) ?_ | refine Zx rfl rfl rfl ?_ | refine Zc rfl rfl ?_ | refine Zi rfl (by (conv=>lhs;whnf);try rfl) ?_ | refine ZM rfl rfl (by omega) ?_ | refine ZL rfl rfl rfl (by omega) (by omega) ?_ | refine ZI rfl rfl rfl (by omega) ?_ | refine ZK rfl rfl rfl (by omega) (by omega) ?_ | refine ZN rfl rfl rfl rfl (by (conv=>lhs;whnf);try rfl) ?_ | refine ZP rfl rfl rfl rfl (by (conv=>lhs;whnf);try rfl) ?_ | refine ZR rfl rfl ?_ | refine Zd rfl rfl ?_ | refine Zz rfl rfl ?_ | refine g_bits rfl rfl rfl rfl ?_ | refine ZS rfl rfl rfl (by decide) ?_ | refine g_rem rfl rfl rfl (by first | decide | omega) ?_ | refine ZU rfl rfl ?_ | refine Zv Tryz.underlying9 rfl rfl ?_ | refine ZT rfl (by (conv=>lhs;whnf);try rfl) (by (conv=>lhs;whnf);try rfl) (by rfl) ?_ | refine Zl rfl rfl ?_ | refine Zm rfl rfl rfl (by (conv=>lhs;whnf);try rfl) (by (conv=>lhs;whnf);try rfl) (by rfl) (by rfl) (Nat.le_of_ble_eq_true rfl) (by (conv=>lhs;whnf);try rfl) ?_ | refine Zn rfl rfl ?_ | refine Za rfl rfl rfl (by rfl) (by decide) (by (conv=>lhs;whnf);try rfl) ?_ | refine Zf rfl rfl rfl ?_ | refine ZQ rfl rfl ?_ | refine ZB rfl rfl (by (conv=>lhs;whnf);try rfl) ?_ | refine g_field rfl rfl rfl ?_ | refine Zo ?_ | refine Zp (by kernel_rfl) ?_ | refine Zr ?_ | refine Zb ?_ | refine Zh ?_ | refine Zj ?_ | refine Zs ?_ | refine Zk ?_ | refine Zq ?_ | refine Zt ?_ | refine ZC ?_ | refine Zg ?_ | refine Zu ?_ | refine ZD ?_)
  exact Zbr (.inr rfl) (νc _ _) [_] [] rfl rfl trivial rfl rfl
 by_cases h3:tk=3
 ·subst h3
  rw [if_neg (show ¬ ((3:Int)=1∨(3:Int)=2) by decide)] at h
  rw [if_neg (show ¬ (3:Int)=9 by decide)] at h
  rw [if_neg (show ¬ (3:Int)=10 by decide)] at h
  rw [if_pos (show (3:Int)=3 by decide)] at h
  repeat (first | (refine ZV rfl rfl ?_) | (refine Zw rfl rfl ?_) | refine ZA rfl (by (conv=>lhs;whnf);try rfl) ?_ | refine Zx rfl rfl rfl ?_ | refine Zc rfl rfl ?_ | refine Zi rfl (by (conv=>lhs;whnf);try rfl) ?_ | refine ZM rfl rfl (by omega) ?_ | refine ZL rfl rfl rfl (by omega) (by omega) ?_ | refine ZI rfl rfl rfl (by omega) ?_ | refine ZK rfl rfl rfl (by omega) (by omega) ?_ | refine ZN rfl rfl rfl rfl (by (conv=>lhs;whnf);try rfl) ?_ | refine ZP rfl rfl rfl rfl (by (conv=>lhs;whnf);try rfl) ?_ | refine ZR rfl rfl ?_ | refine Zd rfl rfl ?_ | refine Zz rfl rfl ?_ | refine g_bits rfl rfl rfl rfl ?_ | refine ZS rfl rfl rfl (by decide) ?_ | refine g_rem rfl rfl rfl (by first | decide | omega) ?_ | refine ZU rfl rfl ?_ | refine Zv Tryz.underlying9 rfl rfl ?_ | refine ZT rfl (by (conv=>lhs;whnf);try rfl) (by (conv=>lhs;whnf);try rfl) (by rfl) ?_ | refine Zl rfl rfl ?_ | refine Zm rfl rfl rfl (by (conv=>lhs;whnf);try rfl) (by (conv=>lhs;whnf);try rfl) (by rfl) (by rfl) (Nat.le_of_ble_eq_true rfl) (by (conv=>lhs;whnf);try rfl) ?_ | refine Zn rfl rfl ?_ | refine Za rfl rfl rfl (by rfl) (by decide) (by (conv=>lhs;whnf);try rfl) ?_ | refine Zf rfl rfl rfl ?_ | refine ZQ rfl rfl ?_ | refine ZB rfl rfl (by (conv=>lhs;whnf);try rfl) ?_ | refine g_field rfl rfl rfl ?_ | refine Zo ?_ | refine Zp (by kernel_rfl) ?_ | refine Zr ?_ | refine Zb ?_ | refine Zh ?_ | refine Zj ?_ | refine Zs ?_ | refine Zk ?_ | refine Zq ?_ | refine Zt ?_ | refine ZC ?_ | refine Zg ?_ | refine Zu ?_ | refine ZD ?_)
  refine Zj1 (xin:=ZmQ _ _ _) (ext:=[]) (ext2:=[]) [_,_] νa (fun _=>40) (fun _=>(9,4)) (ZnV 3 0 x.size x e e' r r' hf h) rfl rfl rfl rfl (List.mem_cons_self ..) ⟨⟨_,rfl,rfl⟩,trivial⟩ (fun _ _=>⟨_,List.mem_cons_of_mem _ (List.mem_cons_self ..)⟩) rfl rfl rfl rfl ?_
  repeat (first | refine ZA rfl (by (conv=>lhs;whnf);try rfl) ?_ | refine Zx rfl rfl rfl ?_ | refine Zc rfl rfl ?_ | refine Zi rfl (by (conv=>lhs;whnf);try rfl) ?_ | refine ZM rfl rfl (by omega) ?_ | refine ZL rfl rfl rfl (by omega) (by omega) ?_ | refine ZI rfl rfl rfl (by omega) ?_ | refine ZK rfl rfl rfl (by omega) (by omega) ?_ | refine ZN rfl rfl rfl rfl (by (conv=>lhs;whnf);try rfl) ?_ | refine ZP rfl rfl rfl rfl (by (conv=>lhs;whnf);try rfl) ?_ | refine ZR rfl rfl ?_ | refine Zd rfl rfl ?_ | refine Zz rfl rfl ?_ | refine g_bits rfl rfl rfl rfl ?_ | refine ZS rfl rfl rfl (by decide) ?_ | refine g_rem rfl rfl rfl (by first | decide | omega) ?_ | refine ZU rfl rfl ?_ | refine Zv Tryz.underlying9 rfl rfl ?_ | refine ZT rfl (by (conv=>lhs;whnf);try rfl) (by (conv=>lhs;whnf);try rfl) (by rfl) ?_ | refine Zl rfl rfl ?_ | refine Zm rfl rfl rfl (by (conv=>lhs;whnf);try rfl) (by (conv=>lhs;whnf);try rfl) (by rfl) (by rfl) (Nat.le_of_ble_eq_true rfl) (by (conv=>lhs;whnf);try rfl) ?_ | refine Zn rfl rfl ?_ | refine Za rfl rfl rfl (by rfl) (by decide) (by (conv=>lhs;whnf);try rfl) ?_ | refine Zf rfl rfl rfl ?_ | refine ZQ rfl rfl ?_ | refine ZB rfl rfl (by (conv=>lhs;whnf);try rfl) ?_ | refine g_field rfl rfl rfl ?_ | refine Zo ?_ | refine Zp (by kernel_rfl) ?_ | refine Zr ?_ | refine Zb ?_ | refine Zh ?_ | refine Zj ?_ | refine Zs ?_ | refine Zk ?_ | refine Zq ?_ | refine Zt ?_ | refine ZC ?_ | refine Zg ?_ | refine Zu ?_ | refine ZD ?_)
  exact Zbr (.inr rfl) (νc _ _) [_,_,_] [] rfl rfl trivial rfl rfl
 by_cases h5:tk=5
 ·subst h5
  rw [if_neg (show ¬ ((5:Int)=1∨(5:Int)=2) by decide)] at h
  rw [if_neg (show ¬ (5:Int)=9 by decide)] at h
  rw [if_neg (show ¬ (5:Int)=10 by decide)] at h
  rw [if_neg (show ¬ (5:Int)=3 by decide)] at h
  rw [if_pos (show (5:Int)=5 by decide)] at h
  repeat (first | (refine ZV rfl rfl ?_) | (refine Zw rfl rfl ?_) | refine ZA rfl (by (conv=>lhs;whnf);try rfl) ?_ | refine Zx rfl rfl rfl ?_ | refine Zc rfl rfl ?_ | refine Zi rfl (by (conv=>lhs;whnf);try rfl) ?_ | refine ZM rfl rfl (by omega) ?_ | refine ZL rfl rfl rfl (by omega) (by omega) ?_ | refine ZI rfl rfl rfl (by omega) ?_ | refine ZK rfl rfl rfl (by omega) (by omega) ?_ | refine ZN rfl rfl rfl rfl (by (conv=>lhs;whnf);try rfl) ?_ | refine ZP rfl rfl rfl rfl (by (conv=>lhs;whnf);try rfl) ?_ | refine ZR rfl rfl ?_ | refine Zd rfl rfl ?_ | refine Zz rfl rfl ?_ | refine g_bits rfl rfl rfl rfl ?_ | refine ZS rfl rfl rfl (by decide) ?_ | refine g_rem rfl rfl rfl (by first | decide | omega) ?_ | refine ZU rfl rfl ?_ | refine Zv Tryz.underlying9 rfl rfl ?_ | refine ZT rfl (by (conv=>lhs;whnf);try rfl) (by (conv=>lhs;whnf);try rfl) (by rfl) ?_ | refine Zl rfl rfl ?_ | refine Zm rfl rfl rfl (by (conv=>lhs;whnf);try rfl) (by (conv=>lhs;whnf);try rfl) (by rfl) (by rfl) (Nat.le_of_ble_eq_true rfl) (by (conv=>lhs;whnf);try rfl) ?_ | refine Zn rfl rfl ?_ | refine Za rfl rfl rfl (by rfl) (by decide) (by (conv=>lhs;whnf);try rfl) ?_ | refine Zf rfl rfl rfl ?_ | refine ZQ rfl rfl ?_ | refine ZB rfl rfl (by (conv=>lhs;whnf);try rfl) ?_ | refine g_field rfl rfl rfl ?_ | refine Zo ?_ | refine Zp (by kernel_rfl) ?_ | refine Zr ?_ | refine Zb ?_ | refine Zh ?_ | refine Zj ?_ | refine Zs ?_ | refine Zk ?_ | refine Zq ?_ | refine Zt ?_ | refine ZC ?_ | refine Zg ?_ | refine Zu ?_ | refine ZD ?_)
  refine Zj1 (xin:=ZmQ _ _ _) (ext:=[]) (ext2:=[]) [_,_] νa (fun _=>47) (fun _=>(10,2)) (ZnV 1 0 0 x e e' r r' hf h) rfl rfl rfl rfl (List.mem_cons_self ..) ⟨⟨_,rfl,rfl⟩,trivial⟩ (fun _ _=>⟨_,List.mem_cons_of_mem _ (List.mem_cons_self ..)⟩) rfl rfl rfl rfl ?_
  repeat (first | refine ZA rfl (by (conv=>lhs;whnf);try rfl) ?_ | refine Zx rfl rfl rfl ?_ | refine Zc rfl rfl ?_ | refine Zi rfl (by (conv=>lhs;whnf);try rfl) ?_ | refine ZM rfl rfl (by omega) ?_ | refine ZL rfl rfl rfl (by omega) (by omega) ?_ | refine ZI rfl rfl rfl (by omega) ?_ | refine ZK rfl rfl rfl (by omega) (by omega) ?_ | refine ZN rfl rfl rfl rfl (by (conv=>lhs;whnf);try rfl) ?_ | refine ZP rfl rfl rfl rfl (by (conv=>lhs;whnf);try rfl) ?_ | refine ZR rfl rfl ?_ | refine Zd rfl rfl ?_ | refine Zz rfl rfl ?_ | refine g_bits rfl rfl rfl rfl ?_ | refine ZS rfl rfl rfl (by decide) ?_ | refine g_rem rfl rfl rfl (by first | decide | omega) ?_ | refine ZU rfl rfl ?_ | refine Zv Tryz.underlying9 rfl rfl ?_ | refine ZT rfl (by (conv=>lhs;whnf);try rfl) (by (conv=>lhs;whnf);try rfl) (by rfl) ?_ | refine Zl rfl rfl ?_ | refine Zm rfl rfl rfl (by (conv=>lhs;whnf);try rfl) (by (conv=>lhs;whnf);try rfl) (by rfl) (by rfl) (Nat.le_of_ble_eq_true rfl) (by (conv=>lhs;whnf);try rfl) ?_ | refine Zn rfl rfl ?_ | refine Za rfl rfl rfl (by rfl) (by decide) (by (conv=>lhs;whnf);try rfl) ?_ | refine Zf rfl rfl rfl ?_ | refine ZQ rfl rfl ?_ | refine ZB rfl rfl (by (conv=>lhs;whnf);try rfl) ?_ | refine g_field rfl rfl rfl ?_ | refine Zo ?_ | refine Zp (by kernel_rfl) ?_ | refine Zr ?_ | refine Zb ?_ | refine Zh ?_ | refine Zj ?_ | refine Zs ?_ | refine Zk ?_ | refine Zq ?_ | refine Zt ?_ | refine ZC ?_ | refine Zg ?_ | refine Zu ?_ | refine ZD ?_)
  exact Zbr (.inr rfl) (νc _ _) [_,_,_] [] rfl rfl trivial rfl rfl
 by_cases h11:tk=11
 ·subst h11
  rw [if_neg (show ¬ ((11:Int)=1∨(11:Int)=2) by decide)] at h
  rw [if_neg (show ¬ (11:Int)=9 by decide)] at h
  rw [if_neg (show ¬ (11:Int)=10 by decide)] at h
  rw [if_neg (show ¬ (11:Int)=3 by decide)] at h
  rw [if_neg (show ¬ (11:Int)=5 by decide)] at h
  rw [if_pos (show (11:Int)=11 by decide)] at h
  obtain ⟨k,hk,h⟩:=Option.bind_eq_some_iff.1 h
  repeat (first | (refine ZV rfl rfl ?_) | (refine Zw rfl rfl ?_) | (refine ZeV (Zh5 _ _ _ hk) rfl rfl ?_) | refine ZA rfl (by (conv=>lhs;whnf);try rfl) ?_ | refine Zx rfl rfl rfl ?_ | refine Zc rfl rfl ?_ | refine Zi rfl (by (conv=>lhs;whnf);try rfl) ?_ | refine ZM rfl rfl (by omega) ?_ | refine ZL rfl rfl rfl (by omega) (by omega) ?_ | refine ZI rfl rfl rfl (by omega) ?_ | refine ZK rfl rfl rfl (by omega) (by omega) ?_ | refine ZN rfl rfl rfl rfl (by (conv=>lhs;whnf);try rfl) ?_ | refine ZP rfl rfl rfl rfl (by (conv=>lhs;whnf);try rfl) ?_ | refine ZR rfl rfl ?_ | refine Zd rfl rfl ?_ | refine Zz rfl rfl ?_ | refine g_bits rfl rfl rfl rfl ?_ | refine ZS rfl rfl rfl (by decide) ?_ | refine g_rem rfl rfl rfl (by first | decide | omega) ?_ | refine ZU rfl rfl ?_ | refine Zv Tryz.underlying9 rfl rfl ?_ | refine ZT rfl (by (conv=>lhs;whnf);try rfl) (by (conv=>lhs;whnf);try rfl) (by rfl) ?_ | refine Zl rfl rfl ?_ | refine Zm rfl rfl rfl (by (conv=>lhs;whnf);try rfl) (by (conv=>lhs;whnf);try rfl) (by rfl) (by rfl) (Nat.le_of_ble_eq_true rfl) (by (conv=>lhs;whnf);try rfl) ?_ | refine Zn rfl rfl ?_ | refine Za rfl rfl rfl (by rfl) (by decide) (by (conv=>lhs;whnf);try rfl) ?_ | refine Zf rfl rfl rfl ?_ | refine ZQ rfl rfl ?_ | refine ZB rfl rfl (by (conv=>lhs;whnf);try rfl) ?_ | refine g_field rfl rfl rfl ?_ | refine Zo ?_ | refine Zp (by kernel_rfl) ?_ | refine Zr ?_ | refine Zb ?_ | refine Zh ?_ | refine Zj ?_ | refine Zs ?_ | refine Zk ?_ | refine Zq ?_ | refine Zt ?_ | refine ZC ?_ | refine Zg ?_ | refine Zu ?_ | refine ZD ?_)
  refine Zj1 (xin:=ZmQ _ _ _) (ext:=[]) (ext2:=[]) [_,_] νa (fun _=>57) (fun _=>(11,5)) (ZnV 2 k 0 x e e' r r' hf h) rfl rfl rfl rfl (List.mem_cons_self ..) ⟨⟨_,rfl,rfl⟩,trivial⟩ (fun _ _=>⟨_,List.mem_cons_of_mem _ (List.mem_cons_self ..)⟩) rfl rfl rfl rfl ?_
  repeat (first | refine ZA rfl (by (conv=>lhs;whnf);try rfl) ?_ | refine Zx rfl rfl rfl ?_ | refine Zc rfl rfl ?_ | refine Zi rfl (by (conv=>lhs;whnf);try rfl) ?_ | refine ZM rfl rfl (by omega) ?_ | refine ZL rfl rfl rfl (by omega) (by omega) ?_ | refine ZI rfl rfl rfl (by omega) ?_ | refine ZK rfl rfl rfl (by omega) (by omega) ?_ | refine ZN rfl rfl rfl rfl (by (conv=>lhs;whnf);try rfl) ?_ | refine ZP rfl rfl rfl rfl (by (conv=>lhs;whnf);try rfl) ?_ | refine ZR rfl rfl ?_ | refine Zd rfl rfl ?_ | refine Zz rfl rfl ?_ | refine g_bits rfl rfl rfl rfl ?_ | refine ZS rfl rfl rfl (by decide) ?_ | refine g_rem rfl rfl rfl (by first | decide | omega) ?_ | refine ZU rfl rfl ?_ | refine Zv Tryz.underlying9 rfl rfl ?_ | refine ZT rfl (by (conv=>lhs;whnf);try rfl) (by (conv=>lhs;whnf);try rfl) (by rfl) ?_ | refine Zl rfl rfl ?_ | refine Zm rfl rfl rfl (by (conv=>lhs;whnf);try rfl) (by (conv=>lhs;whnf);try rfl) (by rfl) (by rfl) (Nat.le_of_ble_eq_true rfl) (by (conv=>lhs;whnf);try rfl) ?_ | refine Zn rfl rfl ?_ | refine Za rfl rfl rfl (by rfl) (by decide) (by (conv=>lhs;whnf);try rfl) ?_ | refine Zf rfl rfl rfl ?_ | refine ZQ rfl rfl ?_ | refine ZB rfl rfl (by (conv=>lhs;whnf);try rfl) ?_ | refine g_field rfl rfl rfl ?_ | refine Zo ?_ | refine Zp (by kernel_rfl) ?_ | refine Zr ?_ | refine Zb ?_ | refine Zh ?_ | refine Zj ?_ | refine Zs ?_ | refine Zk ?_ | refine Zq ?_ | refine Zt ?_ | refine ZC ?_ | refine Zg ?_ | refine Zu ?_ | refine ZD ?_)
  exact Zbr (.inr rfl) (νc _ _) [_,_,_] [] rfl rfl trivial rfl rfl
 by_cases h7:tk=7
 ·subst h7
  rw [if_neg (show ¬ ((7:Int)=1∨(7:Int)=2) by decide)] at h
  rw [if_neg (show ¬ (7:Int)=9 by decide)] at h
  rw [if_neg (show ¬ (7:Int)=10 by decide)] at h
  rw [if_neg (show ¬ (7:Int)=3 by decide)] at h
  rw [if_neg (show ¬ (7:Int)=5 by decide)] at h
  rw [if_neg (show ¬ (7:Int)=11 by decide)] at h
  rw [if_pos (show (7:Int)=7 by decide)] at h
  obtain ⟨a,ha,h⟩:=Option.map_eq_some_iff.1 h
  injection h with q1 q2
  subst q1 q2
  repeat (first | (refine ZV rfl rfl ?_) | (refine Zw rfl rfl ?_) | (refine ZY [_] νa (Zsw e a r hft ha) rfl rfl rfl rfl rfl rfl ?_) | refine ZA rfl (by (conv=>lhs;whnf);try rfl) ?_ | refine Zx rfl rfl rfl ?_ | refine Zc rfl rfl ?_ | refine Zi rfl (by (conv=>lhs;whnf);try rfl) ?_ | refine ZM rfl rfl (by omega) ?_ | refine ZL rfl rfl rfl (by omega) (by omega) ?_ | refine ZI rfl rfl rfl (by omega) ?_ | refine ZK rfl rfl rfl (by omega) (by omega) ?_ | refine ZN rfl rfl rfl rfl (by (conv=>lhs;whnf);try rfl) ?_ | refine ZP rfl rfl rfl rfl (by (conv=>lhs;whnf);try rfl) ?_ | refine ZR rfl rfl ?_ | refine Zd rfl rfl ?_ | refine Zz rfl rfl ?_ | refine g_bits rfl rfl rfl rfl ?_ | refine ZS rfl rfl rfl (by decide) ?_ | refine g_rem rfl rfl rfl (by first | decide | omega) ?_ | refine ZU rfl rfl ?_ | refine Zv Tryz.underlying9 rfl rfl ?_ | refine ZT rfl (by (conv=>lhs;whnf);try rfl) (by (conv=>lhs;whnf);try rfl) (by rfl) ?_ | refine Zl rfl rfl ?_ | refine Zm rfl rfl rfl (by (conv=>lhs;whnf);try rfl) (by (conv=>lhs;whnf);try rfl) (by rfl) (by rfl) (Nat.le_of_ble_eq_true rfl) (by (conv=>lhs;whnf);try rfl) ?_ | refine Zn rfl rfl ?_ | refine Za rfl rfl rfl (by rfl) (by decide) (by (conv=>lhs;whnf);try rfl) ?_ | refine Zf rfl rfl rfl ?_ | refine ZQ rfl rfl ?_ | refine ZB rfl rfl (by (conv=>lhs;whnf);try rfl) ?_ | refine g_field rfl rfl rfl ?_ | refine Zo ?_ | refine Zp (by kernel_rfl) ?_ | refine Zr ?_ | refine Zb ?_ | refine Zh ?_ | refine Zj ?_ | refine Zs ?_ | refine Zk ?_ | refine Zq ?_ | refine Zt ?_ | refine ZC ?_ | refine Zg ?_ | refine Zu ?_ | refine ZD ?_)
  exact Zbr (.inr rfl) (νc _ _) [_] [] rfl rfl trivial rfl rfl
 by_cases h8:tk=8
 ·subst h8
  rw [if_neg (show ¬ ((8:Int)=1∨(8:Int)=2) by decide)] at h
  rw [if_neg (show ¬ (8:Int)=9 by decide)] at h
  rw [if_neg (show ¬ (8:Int)=10 by decide)] at h
  rw [if_neg (show ¬ (8:Int)=3 by decide)] at h
  rw [if_neg (show ¬ (8:Int)=5 by decide)] at h
  rw [if_neg (show ¬ (8:Int)=11 by decide)] at h
  rw [if_neg (show ¬ (8:Int)=7 by decide)] at h
  rw [if_pos (show (8:Int)=8 by decide)] at h
  obtain ⟨a,ha,h⟩:=Option.map_eq_some_iff.1 h
  injection h with q1 q2
  subst q1 q2
  repeat (first | (refine ZV rfl rfl ?_) | (refine Zw rfl rfl ?_) | (refine ZY [_] νa (ZqX e a r hft ha) rfl rfl rfl rfl rfl rfl ?_) | refine ZA rfl (by (conv=>lhs;whnf);try rfl) ?_ | refine Zx rfl rfl rfl ?_ | refine Zc rfl rfl ?_ | refine Zi rfl (by (conv=>lhs;whnf);try rfl) ?_ | refine ZM rfl rfl (by omega) ?_ | refine ZL rfl rfl rfl (by omega) (by omega) ?_ | refine ZI rfl rfl rfl (by omega) ?_ | refine ZK rfl rfl rfl (by omega) (by omega) ?_ | refine ZN rfl rfl rfl rfl (by (conv=>lhs;whnf);try rfl) ?_ | refine ZP rfl rfl rfl rfl (by (conv=>lhs;whnf);try rfl) ?_ | refine ZR rfl rfl ?_ | refine Zd rfl rfl ?_ | refine Zz rfl rfl ?_ | refine g_bits rfl rfl rfl rfl ?_ | refine ZS rfl rfl rfl (by decide) ?_ | refine g_rem rfl rfl rfl (by first | decide | omega) ?_ | refine ZU rfl rfl ?_ | refine Zv Tryz.underlying9 rfl rfl ?_ | refine ZT rfl (by (conv=>lhs;whnf);try rfl) (by (conv=>lhs;whnf);try rfl) (by rfl) ?_ | refine Zl rfl rfl ?_ | refine Zm rfl rfl rfl (by (conv=>lhs;whnf);try rfl) (by (conv=>lhs;whnf);try rfl) (by rfl) (by rfl) (Nat.le_of_ble_eq_true rfl) (by (conv=>lhs;whnf);try rfl) ?_ | refine Zn rfl rfl ?_ | refine Za rfl rfl rfl (by rfl) (by decide) (by (conv=>lhs;whnf);try rfl) ?_ | refine Zf rfl rfl rfl ?_ | refine ZQ rfl rfl ?_ | refine ZB rfl rfl (by (conv=>lhs;whnf);try rfl) ?_ | refine g_field rfl rfl rfl ?_ | refine Zo ?_ | refine Zp (by kernel_rfl) ?_ | refine Zr ?_ | refine Zb ?_ | refine Zh ?_ | refine Zj ?_ | refine Zs ?_ | refine Zk ?_ | refine Zq ?_ | refine Zt ?_ | refine ZC ?_ | refine Zg ?_ | refine Zu ?_ | refine ZD ?_)
  exact Zbr (.inr rfl) (νc _ _) [_] [] rfl rfl trivial rfl rfl
 by_cases h6:tk=6
 ·subst h6
  rw [if_neg (show ¬ ((6:Int)=1∨(6:Int)=2) by decide)] at h
  rw [if_neg (show ¬ (6:Int)=9 by decide)] at h
  rw [if_neg (show ¬ (6:Int)=10 by decide)] at h
  rw [if_neg (show ¬ (6:Int)=3 by decide)] at h
  rw [if_neg (show ¬ (6:Int)=5 by decide)] at h
  rw [if_neg (show ¬ (6:Int)=11 by decide)] at h
  rw [if_neg (show ¬ (6:Int)=7 by decide)] at h
  rw [if_neg (show ¬ (6:Int)=8 by decide)] at h
  rw [if_pos (show (6:Int)=6 by decide)] at h
  repeat (first | (refine ZV rfl rfl ?_) | (refine Zw rfl rfl ?_) | (refine ZY [_] νa (ZlE e e' r r' hf h) rfl rfl rfl rfl rfl rfl ?_) | refine ZA rfl (by (conv=>lhs;whnf);try rfl) ?_ | refine Zx rfl rfl rfl ?_ | refine Zc rfl rfl ?_ | refine Zi rfl (by (conv=>lhs;whnf);try rfl) ?_ | refine ZM rfl rfl (by omega) ?_ | refine ZL rfl rfl rfl (by omega) (by omega) ?_ | refine ZI rfl rfl rfl (by omega) ?_ | refine ZK rfl rfl rfl (by omega) (by omega) ?_ | refine ZN rfl rfl rfl rfl (by (conv=>lhs;whnf);try rfl) ?_ | refine ZP rfl rfl rfl rfl (by (conv=>lhs;whnf);try rfl) ?_ | refine ZR rfl rfl ?_ | refine Zd rfl rfl ?_ | refine Zz rfl rfl ?_ | refine g_bits rfl rfl rfl rfl ?_ | refine ZS rfl rfl rfl (by decide) ?_ | refine g_rem rfl rfl rfl (by first | decide | omega) ?_ | refine ZU rfl rfl ?_ | refine Zv Tryz.underlying9 rfl rfl ?_ | refine ZT rfl (by (conv=>lhs;whnf);try rfl) (by (conv=>lhs;whnf);try rfl) (by rfl) ?_ | refine Zl rfl rfl ?_ | refine Zm rfl rfl rfl (by (conv=>lhs;whnf);try rfl) (by (conv=>lhs;whnf);try rfl) (by rfl) (by rfl) (Nat.le_of_ble_eq_true rfl) (by (conv=>lhs;whnf);try rfl) ?_ | refine Zn rfl rfl ?_ | refine Za rfl rfl rfl (by rfl) (by decide) (by (conv=>lhs;whnf);try rfl) ?_ | refine Zf rfl rfl rfl ?_ | refine ZQ rfl rfl ?_ | refine ZB rfl rfl (by (conv=>lhs;whnf);try rfl) ?_ | refine g_field rfl rfl rfl ?_ | refine Zo ?_ | refine Zp (by kernel_rfl) ?_ | refine Zr ?_ | refine Zb ?_ | refine Zh ?_ | refine Zj ?_ | refine Zs ?_ | refine Zk ?_ | refine Zq ?_ | refine Zt ?_ | refine ZC ?_ | refine Zg ?_ | refine Zu ?_ | refine ZD ?_)
  exact Zbr (.inr rfl) (νc _ _) [_] [] rfl rfl trivial rfl rfl
 by_cases h12:tk=12
 ·subst h12
  rw [if_neg (show ¬ ((12:Int)=1∨(12:Int)=2) by decide)] at h
  rw [if_neg (show ¬ (12:Int)=9 by decide)] at h
  rw [if_neg (show ¬ (12:Int)=10 by decide)] at h
  rw [if_neg (show ¬ (12:Int)=3 by decide)] at h
  rw [if_neg (show ¬ (12:Int)=5 by decide)] at h
  rw [if_neg (show ¬ (12:Int)=11 by decide)] at h
  rw [if_neg (show ¬ (12:Int)=7 by decide)] at h
  rw [if_neg (show ¬ (12:Int)=8 by decide)] at h
  rw [if_neg (show ¬ (12:Int)=6 by decide)] at h
  rw [if_pos (show (12:Int)=12 by decide)] at h
  obtain ⟨k,hk,h⟩:=Option.bind_eq_some_iff.1 h
  repeat (first | (refine ZV rfl rfl ?_) | (refine Zw rfl rfl ?_) | (refine ZeV (Zh5 _ _ _ hk) rfl rfl ?_) | (refine ZY [_] νa (Zm4 k x e e' r r' hf h) rfl rfl rfl rfl rfl rfl ?_) | refine ZA rfl (by (conv=>lhs;whnf);try rfl) ?_ | refine Zx rfl rfl rfl ?_ | refine Zc rfl rfl ?_ | refine Zi rfl (by (conv=>lhs;whnf);try rfl) ?_ | refine ZM rfl rfl (by omega) ?_ | refine ZL rfl rfl rfl (by omega) (by omega) ?_ | refine ZI rfl rfl rfl (by omega) ?_ | refine ZK rfl rfl rfl (by omega) (by omega) ?_ | refine ZN rfl rfl rfl rfl (by (conv=>lhs;whnf);try rfl) ?_ | refine ZP rfl rfl rfl rfl (by (conv=>lhs;whnf);try rfl) ?_ | refine ZR rfl rfl ?_ | refine Zd rfl rfl ?_ | refine Zz rfl rfl ?_ | refine g_bits rfl rfl rfl rfl ?_ | refine ZS rfl rfl rfl (by decide) ?_ | refine g_rem rfl rfl rfl (by first | decide | omega) ?_ | refine ZU rfl rfl ?_ | refine Zv Tryz.underlying9 rfl rfl ?_ | refine ZT rfl (by (conv=>lhs;whnf);try rfl) (by (conv=>lhs;whnf);try rfl) (by rfl) ?_ | refine Zl rfl rfl ?_ | refine Zm rfl rfl rfl (by (conv=>lhs;whnf);try rfl) (by (conv=>lhs;whnf);try rfl) (by rfl) (by rfl) (Nat.le_of_ble_eq_true rfl) (by (conv=>lhs;whnf);try rfl) ?_ | refine Zn rfl rfl ?_ | refine Za rfl rfl rfl (by rfl) (by decide) (by (conv=>lhs;whnf);try rfl) ?_ | refine Zf rfl rfl rfl ?_ | refine ZQ rfl rfl ?_ | refine ZB rfl rfl (by (conv=>lhs;whnf);try rfl) ?_ | refine g_field rfl rfl rfl ?_ | refine Zo ?_ | refine Zp (by kernel_rfl) ?_ | refine Zr ?_ | refine Zb ?_ | refine Zh ?_ | refine Zj ?_ | refine Zs ?_ | refine Zk ?_ | refine Zq ?_ | refine Zt ?_ | refine ZC ?_ | refine Zg ?_ | refine Zu ?_ | refine ZD ?_)
  exact Zbr (.inr rfl) (νc _ _) [_] [] rfl rfl trivial rfl rfl
 by_cases h4:tk=4
 ·subst h4
  rw [if_neg (show ¬ ((4:Int)=1∨(4:Int)=2) by decide)] at h
  rw [if_neg (show ¬ (4:Int)=9 by decide)] at h
  rw [if_neg (show ¬ (4:Int)=10 by decide)] at h
  rw [if_neg (show ¬ (4:Int)=3 by decide)] at h
  rw [if_neg (show ¬ (4:Int)=5 by decide)] at h
  rw [if_neg (show ¬ (4:Int)=11 by decide)] at h
  rw [if_neg (show ¬ (4:Int)=7 by decide)] at h
  rw [if_neg (show ¬ (4:Int)=8 by decide)] at h
  rw [if_neg (show ¬ (4:Int)=6 by decide)] at h
  rw [if_neg (show ¬ (4:Int)=12 by decide)] at h
  rw [if_pos (show (4:Int)=4 by decide)] at h
  repeat (first | (refine ZV rfl rfl ?_) | (refine Zw rfl rfl ?_) | (refine ZY [_] νa (Zko _ x.size e e' r r' hf h) rfl rfl rfl rfl rfl rfl ?_) | refine ZA rfl (by (conv=>lhs;whnf);try rfl) ?_ | refine Zx rfl rfl rfl ?_ | refine Zc rfl rfl ?_ | refine Zi rfl (by (conv=>lhs;whnf);try rfl) ?_ | refine ZM rfl rfl (by omega) ?_ | refine ZL rfl rfl rfl (by omega) (by omega) ?_ | refine ZI rfl rfl rfl (by omega) ?_ | refine ZK rfl rfl rfl (by omega) (by omega) ?_ | refine ZN rfl rfl rfl rfl (by (conv=>lhs;whnf);try rfl) ?_ | refine ZP rfl rfl rfl rfl (by (conv=>lhs;whnf);try rfl) ?_ | refine ZR rfl rfl ?_ | refine Zd rfl rfl ?_ | refine Zz rfl rfl ?_ | refine g_bits rfl rfl rfl rfl ?_ | refine ZS rfl rfl rfl (by decide) ?_ | refine g_rem rfl rfl rfl (by first | decide | omega) ?_ | refine ZU rfl rfl ?_ | refine Zv Tryz.underlying9 rfl rfl ?_ | refine ZT rfl (by (conv=>lhs;whnf);try rfl) (by (conv=>lhs;whnf);try rfl) (by rfl) ?_ | refine Zl rfl rfl ?_ | refine Zm rfl rfl rfl (by (conv=>lhs;whnf);try rfl) (by (conv=>lhs;whnf);try rfl) (by rfl) (by rfl) (Nat.le_of_ble_eq_true rfl) (by (conv=>lhs;whnf);try rfl) ?_ | refine Zn rfl rfl ?_ | refine Za rfl rfl rfl (by rfl) (by decide) (by (conv=>lhs;whnf);try rfl) ?_ | refine Zf rfl rfl rfl ?_ | refine ZQ rfl rfl ?_ | refine ZB rfl rfl (by (conv=>lhs;whnf);try rfl) ?_ | refine g_field rfl rfl rfl ?_ | refine Zo ?_ | refine Zp (by kernel_rfl) ?_ | refine Zr ?_ | refine Zb ?_ | refine Zh ?_ | refine Zj ?_ | refine Zs ?_ | refine Zk ?_ | refine Zq ?_ | refine Zt ?_ | refine ZC ?_ | refine Zg ?_ | refine Zu ?_ | refine ZD ?_)
  exact Zbr (.inr rfl) (νc _ _) [_] [] rfl rfl trivial rfl rfl
 rw [if_neg (fun q:tk=1∨tk=2=>q.elim h1 h2)] at h
 rw [if_neg h9] at h
 rw [if_neg h10] at h
 rw [if_neg h3] at h
 rw [if_neg h5] at h
 rw [if_neg h11] at h
 rw [if_neg h7] at h
 rw [if_neg h8] at h
 rw [if_neg h6] at h
 rw [if_neg h12] at h
 rw [if_neg h4] at h
 injection h with h
 injection h with q1 q2
 subst q1 q2
 rw [decide_eq_false h1]
 repeat (first | (refine Zw rfl rfl ?_) | refine ZA rfl (by (conv=>lhs;whnf);try rfl) ?_ | refine Zx rfl rfl rfl ?_ | refine Zc rfl rfl ?_ | refine Zi rfl (by (conv=>lhs;whnf);try rfl) ?_ | refine ZM rfl rfl (by omega) ?_ | refine ZL rfl rfl rfl (by omega) (by omega) ?_ | refine ZI rfl rfl rfl (by omega) ?_ | refine ZK rfl rfl rfl (by omega) (by omega) ?_ | refine ZN rfl rfl rfl rfl (by (conv=>lhs;whnf);try rfl) ?_ | refine ZP rfl rfl rfl rfl (by (conv=>lhs;whnf);try rfl) ?_ | refine ZR rfl rfl ?_ | refine Zd rfl rfl ?_ | refine Zz rfl rfl ?_ | refine g_bits rfl rfl rfl rfl ?_ | refine ZS rfl rfl rfl (by decide) ?_ | refine g_rem rfl rfl rfl (by first | decide | omega) ?_ | refine ZU rfl rfl ?_ | refine Zv Tryz.underlying9 rfl rfl ?_ | refine ZT rfl (by (conv=>lhs;whnf);try rfl) (by (conv=>lhs;whnf);try rfl) (by rfl) ?_ | refine Zl rfl rfl ?_ | refine Zm rfl rfl rfl (by (conv=>lhs;whnf);try rfl) (by (conv=>lhs;whnf);try rfl) (by rfl) (by rfl) (Nat.le_of_ble_eq_true rfl) (by (conv=>lhs;whnf);try rfl) ?_ | refine Zn rfl rfl ?_ | refine Za rfl rfl rfl (by rfl) (by decide) (by (conv=>lhs;whnf);try rfl) ?_ | refine Zf rfl rfl rfl ?_ | refine ZQ rfl rfl ?_ | refine ZB rfl rfl (by (conv=>lhs;whnf);try rfl) ?_ | refine g_field rfl rfl rfl ?_ | refine Zo ?_ | refine Zp (by kernel_rfl) ?_ | refine Zr ?_ | refine Zb ?_ | refine Zh ?_ | refine Zj ?_ | refine Zs ?_ | refine Zk ?_ | refine Zq ?_ | refine Zt ?_ | refine ZC ?_ | refine Zg ?_ | refine Zu ?_ | refine ZD ?_)
 rw [decide_eq_false h2]
 repeat (first | (refine Zw rfl rfl ?_) | refine ZA rfl (by (conv=>lhs;whnf);try rfl) ?_ | refine Zx rfl rfl rfl ?_ | refine Zc rfl rfl ?_ | refine Zi rfl (by (conv=>lhs;whnf);try rfl) ?_ | refine ZM rfl rfl (by omega) ?_ | refine ZL rfl rfl rfl (by omega) (by omega) ?_ | refine ZI rfl rfl rfl (by omega) ?_ | refine ZK rfl rfl rfl (by omega) (by omega) ?_ | refine ZN rfl rfl rfl rfl (by (conv=>lhs;whnf);try rfl) ?_ | refine ZP rfl rfl rfl rfl (by (conv=>lhs;whnf);try rfl) ?_ | refine ZR rfl rfl ?_ | refine Zd rfl rfl ?_ | refine Zz rfl rfl ?_ | refine g_bits rfl rfl rfl rfl ?_ | refine ZS rfl rfl rfl (by decide) ?_ | refine g_rem rfl rfl rfl (by first | decide | omega) ?_ | refine ZU rfl rfl ?_ | refine Zv Tryz.underlying9 rfl rfl ?_ | refine ZT rfl (by (conv=>lhs;whnf);try rfl) (by (conv=>lhs;whnf);try rfl) (by rfl) ?_ | refine Zl rfl rfl ?_ | refine Zm rfl rfl rfl (by (conv=>lhs;whnf);try rfl) (by (conv=>lhs;whnf);try rfl) (by rfl) (by rfl) (Nat.le_of_ble_eq_true rfl) (by (conv=>lhs;whnf);try rfl) ?_ | refine Zn rfl rfl ?_ | refine Za rfl rfl rfl (by rfl) (by decide) (by (conv=>lhs;whnf);try rfl) ?_ | refine Zf rfl rfl rfl ?_ | refine ZQ rfl rfl ?_ | refine ZB rfl rfl (by (conv=>lhs;whnf);try rfl) ?_ | refine g_field rfl rfl rfl ?_ | refine Zo ?_ | refine Zp (by kernel_rfl) ?_ | refine Zr ?_ | refine Zb ?_ | refine Zh ?_ | refine Zj ?_ | refine Zs ?_ | refine Zk ?_ | refine Zq ?_ | refine Zt ?_ | refine ZC ?_ | refine Zg ?_ | refine Zu ?_ | refine ZD ?_)
 rw [decide_eq_false h9]
 repeat (first | (refine Zw rfl rfl ?_) | refine ZA rfl (by (conv=>lhs;whnf);try rfl) ?_ | refine Zx rfl rfl rfl ?_ | refine Zc rfl rfl ?_ | refine Zi rfl (by (conv=>lhs;whnf);try rfl) ?_ | refine ZM rfl rfl (by omega) ?_ | refine ZL rfl rfl rfl (by omega) (by omega) ?_ | refine ZI rfl rfl rfl (by omega) ?_ | refine ZK rfl rfl rfl (by omega) (by omega) ?_ | refine ZN rfl rfl rfl rfl (by (conv=>lhs;whnf);try rfl) ?_ | refine ZP rfl rfl rfl rfl (by (conv=>lhs;whnf);try rfl) ?_ | refine ZR rfl rfl ?_ | refine Zd rfl rfl ?_ | refine Zz rfl rfl ?_ | refine g_bits rfl rfl rfl rfl ?_ | refine ZS rfl rfl rfl (by decide) ?_ | refine g_rem rfl rfl rfl (by first | decide | omega) ?_ | refine ZU rfl rfl ?_ | refine Zv Tryz.underlying9 rfl rfl ?_ | refine ZT rfl (by (conv=>lhs;whnf);try rfl) (by (conv=>lhs;whnf);try rfl) (by rfl) ?_ | refine Zl rfl rfl ?_ | refine Zm rfl rfl rfl (by (conv=>lhs;whnf);try rfl) (by (conv=>lhs;whnf);try rfl) (by rfl) (by rfl) (Nat.le_of_ble_eq_true rfl) (by (conv=>lhs;whnf);try rfl) ?_ | refine Zn rfl rfl ?_ | refine Za rfl rfl rfl (by rfl) (by decide) (by (conv=>lhs;whnf);try rfl) ?_ | refine Zf rfl rfl rfl ?_ | refine ZQ rfl rfl ?_ | refine ZB rfl rfl (by (conv=>lhs;whnf);try rfl) ?_ | refine g_field rfl rfl rfl ?_ | refine Zo ?_ | refine Zp (by kernel_rfl) ?_ | refine Zr ?_ | refine Zb ?_ | refine Zh ?_ | refine Zj ?_ | refine Zs ?_ | refine Zk ?_ | refine Zq ?_ | refine Zt ?_ | refine ZC ?_ | refine Zg ?_ | refine Zu ?_ | refine ZD ?_)
 rw [decide_eq_false h10]
 repeat (first | (refine Zw rfl rfl ?_) | refine ZA rfl (by (conv=>lhs;whnf);try rfl) ?_ | refine Zx rfl rfl rfl ?_ | refine Zc rfl rfl ?_ | refine Zi rfl (by (conv=>lhs;whnf);try rfl) ?_ | refine ZM rfl rfl (by omega) ?_ | refine ZL rfl rfl rfl (by omega) (by omega) ?_ | refine ZI rfl rfl rfl (by omega) ?_ | refine ZK rfl rfl rfl (by omega) (by omega) ?_ | refine ZN rfl rfl rfl rfl (by (conv=>lhs;whnf);try rfl) ?_ | refine ZP rfl rfl rfl rfl (by (conv=>lhs;whnf);try rfl) ?_ | refine ZR rfl rfl ?_ | refine Zd rfl rfl ?_ | refine Zz rfl rfl ?_ | refine g_bits rfl rfl rfl rfl ?_ | refine ZS rfl rfl rfl (by decide) ?_ | refine g_rem rfl rfl rfl (by first | decide | omega) ?_ | refine ZU rfl rfl ?_ | refine Zv Tryz.underlying9 rfl rfl ?_ | refine ZT rfl (by (conv=>lhs;whnf);try rfl) (by (conv=>lhs;whnf);try rfl) (by rfl) ?_ | refine Zl rfl rfl ?_ | refine Zm rfl rfl rfl (by (conv=>lhs;whnf);try rfl) (by (conv=>lhs;whnf);try rfl) (by rfl) (by rfl) (Nat.le_of_ble_eq_true rfl) (by (conv=>lhs;whnf);try rfl) ?_ | refine Zn rfl rfl ?_ | refine Za rfl rfl rfl (by rfl) (by decide) (by (conv=>lhs;whnf);try rfl) ?_ | refine Zf rfl rfl rfl ?_ | refine ZQ rfl rfl ?_ | refine ZB rfl rfl (by (conv=>lhs;whnf);try rfl) ?_ | refine g_field rfl rfl rfl ?_ | refine Zo ?_ | refine Zp (by kernel_rfl) ?_ | refine Zr ?_ | refine Zb ?_ | refine Zh ?_ | refine Zj ?_ | refine Zs ?_ | refine Zk ?_ | refine Zq ?_ | refine Zt ?_ | refine ZC ?_ | refine Zg ?_ | refine Zu ?_ | refine ZD ?_)
 rw [decide_eq_false h3]
 repeat (first | (refine Zw rfl rfl ?_) | refine ZA rfl (by (conv=>lhs;whnf);try rfl) ?_ | refine Zx rfl rfl rfl ?_ | refine Zc rfl rfl ?_ | refine Zi rfl (by (conv=>lhs;whnf);try rfl) ?_ | refine ZM rfl rfl (by omega) ?_ | refine ZL rfl rfl rfl (by omega) (by omega) ?_ | refine ZI rfl rfl rfl (by omega) ?_ | refine ZK rfl rfl rfl (by omega) (by omega) ?_ | refine ZN rfl rfl rfl rfl (by (conv=>lhs;whnf);try rfl) ?_ | refine ZP rfl rfl rfl rfl (by (conv=>lhs;whnf);try rfl) ?_ | refine ZR rfl rfl ?_ | refine Zd rfl rfl ?_ | refine Zz rfl rfl ?_ | refine g_bits rfl rfl rfl rfl ?_ | refine ZS rfl rfl rfl (by decide) ?_ | refine g_rem rfl rfl rfl (by first | decide | omega) ?_ | refine ZU rfl rfl ?_ | refine Zv Tryz.underlying9 rfl rfl ?_ | refine ZT rfl (by (conv=>lhs;whnf);try rfl) (by (conv=>lhs;whnf);try rfl) (by rfl) ?_ | refine Zl rfl rfl ?_ | refine Zm rfl rfl rfl (by (conv=>lhs;whnf);try rfl) (by (conv=>lhs;whnf);try rfl) (by rfl) (by rfl) (Nat.le_of_ble_eq_true rfl) (by (conv=>lhs;whnf);try rfl) ?_ | refine Zn rfl rfl ?_ | refine Za rfl rfl rfl (by rfl) (by decide) (by (conv=>lhs;whnf);try rfl) ?_ | refine Zf rfl rfl rfl ?_ | refine ZQ rfl rfl ?_ | refine ZB rfl rfl (by (conv=>lhs;whnf);try rfl) ?_ | refine g_field rfl rfl rfl ?_ | refine Zo ?_ | refine Zp (by kernel_rfl) ?_ | refine Zr ?_ | refine Zb ?_ | refine Zh ?_ | refine Zj ?_ | refine Zs ?_ | refine Zk ?_ | refine Zq ?_ | refine Zt ?_ | refine ZC ?_ | refine Zg ?_ | refine Zu ?_ | refine ZD ?_)
 rw [decide_eq_false h5]
 repeat (first | (refine Zw rfl rfl ?_) | refine ZA rfl (by (conv=>lhs;whnf);try rfl) ?_ | refine Zx rfl rfl rfl ?_ | refine Zc rfl rfl ?_ | refine Zi rfl (by (conv=>lhs;whnf);try rfl) ?_ | refine ZM rfl rfl (by omega) ?_ | refine ZL rfl rfl rfl (by omega) (by omega) ?_ | refine ZI rfl rfl rfl (by omega) ?_ | refine ZK rfl rfl rfl (by omega) (by omega) ?_ | refine ZN rfl rfl rfl rfl (by (conv=>lhs;whnf);try rfl) ?_ | refine ZP rfl rfl rfl rfl (by (conv=>lhs;whnf);try rfl) ?_ | refine ZR rfl rfl ?_ | refine Zd rfl rfl ?_ | refine Zz rfl rfl ?_ | refine g_bits rfl rfl rfl rfl ?_ | refine ZS rfl rfl rfl (by decide) ?_ | refine g_rem rfl rfl rfl (by first | decide | omega) ?_ | refine ZU rfl rfl ?_ | refine Zv Tryz.underlying9 rfl rfl ?_ | refine ZT rfl (by (conv=>lhs;whnf);try rfl) (by (conv=>lhs;whnf);try rfl) (by rfl) ?_ | refine Zl rfl rfl ?_ | refine Zm rfl rfl rfl (by (conv=>lhs;whnf);try rfl) (by (conv=>lhs;whnf);try rfl) (by rfl) (by rfl) (Nat.le_of_ble_eq_true rfl) (by (conv=>lhs;whnf);try rfl) ?_ | refine Zn rfl rfl ?_ | refine Za rfl rfl rfl (by rfl) (by decide) (by (conv=>lhs;whnf);try rfl) ?_ | refine Zf rfl rfl rfl ?_ | refine ZQ rfl rfl ?_ | refine ZB rfl rfl (by (conv=>lhs;whnf);try rfl) ?_ | refine g_field rfl rfl rfl ?_ | refine Zo ?_ | refine Zp (by kernel_rfl) ?_ | refine Zr ?_ | refine Zb ?_ | refine Zh ?_ | refine Zj ?_ | refine Zs ?_ | refine Zk ?_ | refine Zq ?_ | refine Zt ?_ | refine ZC ?_ | refine Zg ?_ | refine Zu ?_ | refine ZD ?_)
 rw [decide_eq_false h11]
 repeat (first | (refine Zw rfl rfl ?_) | refine ZA rfl (by (conv=>lhs;whnf);try rfl) ?_ | refine Zx rfl rfl rfl ?_ | refine Zc rfl rfl ?_ | refine Zi rfl (by (conv=>lhs;whnf);try rfl) ?_ | refine ZM rfl rfl (by omega) ?_ | refine ZL rfl rfl rfl (by omega) (by omega) ?_ | refine ZI rfl rfl rfl (by omega) ?_ | refine ZK rfl rfl rfl (by omega) (by omega) ?_ | refine ZN rfl rfl rfl rfl (by (conv=>lhs;whnf);try rfl) ?_ | refine ZP rfl rfl rfl rfl (by (conv=>lhs;whnf);try rfl) ?_ | refine ZR rfl rfl ?_ | refine Zd rfl rfl ?_ | refine Zz rfl rfl ?_ | refine g_bits rfl rfl rfl rfl ?_ | refine ZS rfl rfl rfl (by decide) ?_ | refine g_rem rfl rfl rfl (by first | decide | omega) ?_ | refine ZU rfl rfl ?_ | refine Zv Tryz.underlying9 rfl rfl ?_ | refine ZT rfl (by (conv=>lhs;whnf);try rfl) (by (conv=>lhs;whnf);try rfl) (by rfl) ?_ | refine Zl rfl rfl ?_ | refine Zm rfl rfl rfl (by (conv=>lhs;whnf);try rfl) (by (conv=>lhs;whnf);try rfl) (by rfl) (by rfl) (Nat.le_of_ble_eq_true rfl) (by (conv=>lhs;whnf);try rfl) ?_ | refine Zn rfl rfl ?_ | refine Za rfl rfl rfl (by rfl) (by decide) (by (conv=>lhs;whnf);try rfl) ?_ | refine Zf rfl rfl rfl ?_ | refine ZQ rfl rfl ?_ | refine ZB rfl rfl (by (conv=>lhs;whnf);try rfl) ?_ | refine g_field rfl rfl rfl ?_ | refine Zo ?_ | refine Zp (by kernel_rfl) ?_ | refine Zr ?_ | refine Zb ?_ | refine Zh ?_ | refine Zj ?_ | refine Zs ?_ | refine Zk ?_ | refine Zq ?_ | refine Zt ?_ | refine ZC ?_ | refine Zg ?_ | refine Zu ?_ | refine ZD ?_)
 rw [decide_eq_false h7]
 repeat (first | (refine Zw rfl rfl ?_) | refine ZA rfl (by (conv=>lhs;whnf);try rfl) ?_ | refine Zx rfl rfl rfl ?_ | refine Zc rfl rfl ?_ | refine Zi rfl (by (conv=>lhs;whnf);try rfl) ?_ | refine ZM rfl rfl (by omega) ?_ | refine ZL rfl rfl rfl (by omega) (by omega) ?_ | refine ZI rfl rfl rfl (by omega) ?_ | refine ZK rfl rfl rfl (by omega) (by omega) ?_ | refine ZN rfl rfl rfl rfl (by (conv=>lhs;whnf);try rfl) ?_ | refine ZP rfl rfl rfl rfl (by (conv=>lhs;whnf);try rfl) ?_ | refine ZR rfl rfl ?_ | refine Zd rfl rfl ?_ | refine Zz rfl rfl ?_ | refine g_bits rfl rfl rfl rfl ?_ | refine ZS rfl rfl rfl (by decide) ?_ | refine g_rem rfl rfl rfl (by first | decide | omega) ?_ | refine ZU rfl rfl ?_ | refine Zv Tryz.underlying9 rfl rfl ?_ | refine ZT rfl (by (conv=>lhs;whnf);try rfl) (by (conv=>lhs;whnf);try rfl) (by rfl) ?_ | refine Zl rfl rfl ?_ | refine Zm rfl rfl rfl (by (conv=>lhs;whnf);try rfl) (by (conv=>lhs;whnf);try rfl) (by rfl) (by rfl) (Nat.le_of_ble_eq_true rfl) (by (conv=>lhs;whnf);try rfl) ?_ | refine Zn rfl rfl ?_ | refine Za rfl rfl rfl (by rfl) (by decide) (by (conv=>lhs;whnf);try rfl) ?_ | refine Zf rfl rfl rfl ?_ | refine ZQ rfl rfl ?_ | refine ZB rfl rfl (by (conv=>lhs;whnf);try rfl) ?_ | refine g_field rfl rfl rfl ?_ | refine Zo ?_ | refine Zp (by kernel_rfl) ?_ | refine Zr ?_ | refine Zb ?_ | refine Zh ?_ | refine Zj ?_ | refine Zs ?_ | refine Zk ?_ | refine Zq ?_ | refine Zt ?_ | refine ZC ?_ | refine Zg ?_ | refine Zu ?_ | refine ZD ?_)
 rw [decide_eq_false h8]
 repeat (first | (refine Zw rfl rfl ?_) | refine ZA rfl (by (conv=>lhs;whnf);try rfl) ?_ | refine Zx rfl rfl rfl ?_ | refine Zc rfl rfl ?_ | refine Zi rfl (by (conv=>lhs;whnf);try rfl) ?_ | refine ZM rfl rfl (by omega) ?_ | refine ZL rfl rfl rfl (by omega) (by omega) ?_ | refine ZI rfl rfl rfl (by omega) ?_ | refine ZK rfl rfl rfl (by omega) (by omega) ?_ | refine ZN rfl rfl rfl rfl (by (conv=>lhs;whnf);try rfl) ?_ | refine ZP rfl rfl rfl rfl (by (conv=>lhs;whnf);try rfl) ?_ | refine ZR rfl rfl ?_ | refine Zd rfl rfl ?_ | refine Zz rfl rfl ?_ | refine g_bits rfl rfl rfl rfl ?_ | refine ZS rfl rfl rfl (by decide) ?_ | refine g_rem rfl rfl rfl (by first | decide | omega) ?_ | refine ZU rfl rfl ?_ | refine Zv Tryz.underlying9 rfl rfl ?_ | refine ZT rfl (by (conv=>lhs;whnf);try rfl) (by (conv=>lhs;whnf);try rfl) (by rfl) ?_ | refine Zl rfl rfl ?_ | refine Zm rfl rfl rfl (by (conv=>lhs;whnf);try rfl) (by (conv=>lhs;whnf);try rfl) (by rfl) (by rfl) (Nat.le_of_ble_eq_true rfl) (by (conv=>lhs;whnf);try rfl) ?_ | refine Zn rfl rfl ?_ | refine Za rfl rfl rfl (by rfl) (by decide) (by (conv=>lhs;whnf);try rfl) ?_ | refine Zf rfl rfl rfl ?_ | refine ZQ rfl rfl ?_ | refine ZB rfl rfl (by (conv=>lhs;whnf);try rfl) ?_ | refine g_field rfl rfl rfl ?_ | refine Zo ?_ | refine Zp (by kernel_rfl) ?_ | refine Zr ?_ | refine Zb ?_ | refine Zh ?_ | refine Zj ?_ | refine Zs ?_ | refine Zk ?_ | refine Zq ?_ | refine Zt ?_ | refine ZC ?_ | refine Zg ?_ | refine Zu ?_ | refine ZD ?_)
 rw [decide_eq_false h6]
 repeat (first | (refine Zw rfl rfl ?_) | refine ZA rfl (by (conv=>lhs;whnf);try rfl) ?_ | refine Zx rfl rfl rfl ?_ | refine Zc rfl rfl ?_ | refine Zi rfl (by (conv=>lhs;whnf);try rfl) ?_ | refine ZM rfl rfl (by omega) ?_ | refine ZL rfl rfl rfl (by omega) (by omega) ?_ | refine ZI rfl rfl rfl (by omega) ?_ | refine ZK rfl rfl rfl (by omega) (by omega) ?_ | refine ZN rfl rfl rfl rfl (by (conv=>lhs;whnf);try rfl) ?_ | refine ZP rfl rfl rfl rfl (by (conv=>lhs;whnf);try rfl) ?_ | refine ZR rfl rfl ?_ | refine Zd rfl rfl ?_ | refine Zz rfl rfl ?_ | refine g_bits rfl rfl rfl rfl ?_ | refine ZS rfl rfl rfl (by decide) ?_ | refine g_rem rfl rfl rfl (by first | decide | omega) ?_ | refine ZU rfl rfl ?_ | refine Zv Tryz.underlying9 rfl rfl ?_ | refine ZT rfl (by (conv=>lhs;whnf);try rfl) (by (conv=>lhs;whnf);try rfl) (by rfl) ?_ | refine Zl rfl rfl ?_ | refine Zm rfl rfl rfl (by (conv=>lhs;whnf);try rfl) (by (conv=>lhs;whnf);try rfl) (by rfl) (by rfl) (Nat.le_of_ble_eq_true rfl) (by (conv=>lhs;whnf);try rfl) ?_ | refine Zn rfl rfl ?_ | refine Za rfl rfl rfl (by rfl) (by decide) (by (conv=>lhs;whnf);try rfl) ?_ | refine Zf rfl rfl rfl ?_ | refine ZQ rfl rfl ?_ | refine ZB rfl rfl (by (conv=>lhs;whnf);try rfl) ?_ | refine g_field rfl rfl rfl ?_ | refine Zo ?_ | refine Zp (by kernel_rfl) ?_ | refine Zr ?_ | refine Zb ?_ | refine Zh ?_ | refine Zj ?_ | refine Zs ?_ | refine Zk ?_ | refine Zq ?_ | refine Zt ?_ | refine ZC ?_ | refine Zg ?_ | refine Zu ?_ | refine ZD ?_)
 rw [decide_eq_false h12]
 repeat (first | (refine Zw rfl rfl ?_) | refine ZA rfl (by (conv=>lhs;whnf);try rfl) ?_ | refine Zx rfl rfl rfl ?_ | refine Zc rfl rfl ?_ | refine Zi rfl (by (conv=>lhs;whnf);try rfl) ?_ | refine ZM rfl rfl (by omega) ?_ | refine ZL rfl rfl rfl (by omega) (by omega) ?_ | refine ZI rfl rfl rfl (by omega) ?_ | refine ZK rfl rfl rfl (by omega) (by omega) ?_ | refine ZN rfl rfl rfl rfl (by (conv=>lhs;whnf);try rfl) ?_ | refine ZP rfl rfl rfl rfl (by (conv=>lhs;whnf);try rfl) ?_ | refine ZR rfl rfl ?_ | refine Zd rfl rfl ?_ | refine Zz rfl rfl ?_ | refine g_bits rfl rfl rfl rfl ?_ | refine ZS rfl rfl rfl (by decide) ?_ | refine g_rem rfl rfl rfl (by first | decide | omega) ?_ | refine ZU rfl rfl ?_ | refine Zv Tryz.underlying9 rfl rfl ?_ | refine ZT rfl (by (conv=>lhs;whnf);try rfl) (by (conv=>lhs;whnf);try rfl) (by rfl) ?_ | refine Zl rfl rfl ?_ | refine Zm rfl rfl rfl (by (conv=>lhs;whnf);try rfl) (by (conv=>lhs;whnf);try rfl) (by rfl) (by rfl) (Nat.le_of_ble_eq_true rfl) (by (conv=>lhs;whnf);try rfl) ?_ | refine Zn rfl rfl ?_ | refine Za rfl rfl rfl (by rfl) (by decide) (by (conv=>lhs;whnf);try rfl) ?_ | refine Zf rfl rfl rfl ?_ | refine ZQ rfl rfl ?_ | refine ZB rfl rfl (by (conv=>lhs;whnf);try rfl) ?_ | refine g_field rfl rfl rfl ?_ | refine Zo ?_ | refine Zp (by kernel_rfl) ?_ | refine Zr ?_ | refine Zb ?_ | refine Zh ?_ | refine Zj ?_ | refine Zs ?_ | refine Zk ?_ | refine Zq ?_ | refine Zt ?_ | refine ZC ?_ | refine Zg ?_ | refine Zu ?_ | refine ZD ?_)
 rw [decide_eq_false h4]
 repeat (first | (refine Zw rfl rfl ?_) | refine ZA rfl (by (conv=>lhs;whnf);try rfl) ?_ | refine Zx rfl rfl rfl ?_ | refine Zc rfl rfl ?_ | refine Zi rfl (by (conv=>lhs;whnf);try rfl) ?_ | refine ZM rfl rfl (by omega) ?_ | refine ZL rfl rfl rfl (by omega) (by omega) ?_ | refine ZI rfl rfl rfl (by omega) ?_ | refine ZK rfl rfl rfl (by omega) (by omega) ?_ | refine ZN rfl rfl rfl rfl (by (conv=>lhs;whnf);try rfl) ?_ | refine ZP rfl rfl rfl rfl (by (conv=>lhs;whnf);try rfl) ?_ | refine ZR rfl rfl ?_ | refine Zd rfl rfl ?_ | refine Zz rfl rfl ?_ | refine g_bits rfl rfl rfl rfl ?_ | refine ZS rfl rfl rfl (by decide) ?_ | refine g_rem rfl rfl rfl (by first | decide | omega) ?_ | refine ZU rfl rfl ?_ | refine Zv Tryz.underlying9 rfl rfl ?_ | refine ZT rfl (by (conv=>lhs;whnf);try rfl) (by (conv=>lhs;whnf);try rfl) (by rfl) ?_ | refine Zl rfl rfl ?_ | refine Zm rfl rfl rfl (by (conv=>lhs;whnf);try rfl) (by (conv=>lhs;whnf);try rfl) (by rfl) (by rfl) (Nat.le_of_ble_eq_true rfl) (by (conv=>lhs;whnf);try rfl) ?_ | refine Zn rfl rfl ?_ | refine Za rfl rfl rfl (by rfl) (by decide) (by (conv=>lhs;whnf);try rfl) ?_ | refine Zf rfl rfl rfl ?_ | refine ZQ rfl rfl ?_ | refine ZB rfl rfl (by (conv=>lhs;whnf);try rfl) ?_ | refine g_field rfl rfl rfl ?_ | refine Zo ?_ | refine Zp (by kernel_rfl) ?_ | refine Zr ?_ | refine Zb ?_ | refine Zh ?_ | refine Zj ?_ | refine Zs ?_ | refine Zk ?_ | refine Zq ?_ | refine Zt ?_ | refine ZC ?_ | refine Zg ?_ | refine Zu ?_ | refine ZD ?_)
 exact Zbr (.inr rfl) νa [_] [] rfl rfl trivial rfl rfl
def νp (k:Nat):Gen:=(1,k)
theorem ZlA (ν:Nat→Gen) {e:El} {r:List El} (lits:List (Nat×Option (Gen×VObj))) {tm tm':List (Nat×PV)} {ob:List (Nat×Option (Gen×VObj))} {ng:Nat} (h1:Zfb (σf fun k=>(k,ν k)) tm tm') (hob:ob=lits++somes (stP ν e r)) (hl:(lits.all fun q=>!Zbk q.1)=true) :
  Shift (mkS tm ob ng) (mkS tm' (somes (stP νp e r)) 2):=
 ZeO _ h1 (ZjB (ν:=νp) (ν':=ν) (fun _ _=>rfl) e r) (by rw [hob];exact Zbe hl) (ZaY _ _ _)
def ZbH (s:ByteArray):List Tok→El→List El→Option (El×List El)
 | [],e,r=>some (e,r)
 | t::l,e,r=>(ZcG s t e r).bind fun q=>ZbH s l q.1 q.2
theorem Zh8 {s:ByteArray}:∀ {l:List Tok} {e e':El} {r r':List El},fits e r→ZbH s l e r=some (e',r')→fits e' r'
 | [],e,e',r,r',hf,h=>by injection h with h;injection h with h1 h2;rw [← h1,← h2];exact hf
 | t::l,e,e',r,r',hf,h=>by
   obtain ⟨⟨e1,r1⟩,h1,h⟩:=Option.bind_eq_some_iff.1 h
   exact Zh8 (Zjk hf h1) h
def Zl3 (s:ByteArray):Option (List (List PV)×Int):=(Zef s).bind fun q=>if q.2=0 then (if q.1.length≤4611686018427387904 then (ZbH s q.1 ⟨0,0,0,[],none⟩ []).bind fun p=>(Zc7 p.2.length p.1 p.2).map fun z=>(z.1.list,0) else none) else some ([],q.2)
abbrev startf (k:Nat):Nat×Gen:=if k=0 then (21,(4,4)) else if k=1000 then (19,(4,2)) else if k=1001 then (18,(4,1)) else if k=1002 then (60,(6,0)) else (61,(7,0))
set_option maxRecDepth 100000 in
set_option maxHeartbeats 2000000 in
theorem Zpw (s:ByteArray) (res:List (List PV)×Int) (h:Zl3 s=some res):ZH Tryz.prog 29 [.str s] (.tup [.sl res.1,.int .i64 res.2]):=by
 obtain ⟨⟨l,e0⟩,hq,h⟩:=Option.bind_eq_some_iff.1 h
 refine Zbz mix Tryz.func29 (by kernel_rfl) rfl (by kernel_rfl) ?_
 repeat (first | (refine ZeV (Zkw _ _ hq) rfl rfl ?_) | refine ZA rfl (by (conv=>lhs;whnf);try rfl) ?_ | refine Zx rfl rfl rfl ?_ | refine Zc rfl rfl ?_ | refine Zi rfl (by (conv=>lhs;whnf);try rfl) ?_ | refine ZM rfl rfl (by omega) ?_ | refine ZL rfl rfl rfl (by omega) (by omega) ?_ | refine ZI rfl rfl rfl (by omega) ?_ | refine ZK rfl rfl rfl (by omega) (by omega) ?_ | refine ZN rfl rfl rfl rfl (by (conv=>lhs;whnf);try rfl) ?_ | refine ZP rfl rfl rfl rfl (by (conv=>lhs;whnf);try rfl) ?_ | refine ZR rfl rfl ?_ | refine Zd rfl rfl ?_ | refine Zz rfl rfl ?_ | refine g_bits rfl rfl rfl rfl ?_ | refine ZS rfl rfl rfl (by decide) ?_ | refine g_rem rfl rfl rfl (by first | decide | omega) ?_ | refine ZU rfl rfl ?_ | refine Zv Tryz.underlying9 rfl rfl ?_ | refine ZT rfl (by (conv=>lhs;whnf);try rfl) (by (conv=>lhs;whnf);try rfl) (by rfl) ?_ | refine Zl rfl rfl ?_ | refine Zm rfl rfl rfl (by (conv=>lhs;whnf);try rfl) (by (conv=>lhs;whnf);try rfl) (by rfl) (by rfl) (Nat.le_of_ble_eq_true rfl) (by (conv=>lhs;whnf);try rfl) ?_ | refine Zn rfl rfl ?_ | refine Za rfl rfl rfl (by rfl) (by decide) (by (conv=>lhs;whnf);try rfl) ?_ | refine Zf rfl rfl rfl ?_ | refine ZQ rfl rfl ?_ | refine ZB rfl rfl (by (conv=>lhs;whnf);try rfl) ?_ | refine g_field rfl rfl rfl ?_ | refine Zo ?_ | refine Zp (by kernel_rfl) ?_ | refine Zr ?_ | refine Zb ?_ | refine Zh ?_ | refine Zj ?_ | refine Zs ?_ | refine Zk ?_ | refine Zq ?_ | refine Zt ?_ | refine ZC ?_ | refine Zg ?_ | refine Zu ?_ | refine ZD ?_)
 dsimp only at h
 by_cases he:e0=0
 rotate_left
 ·rw [if_neg he] at h
  injection h with h
  subst h
  rw [decide_eq_false he]
  repeat (first | (refine ZV rfl rfl ?_) | refine ZA rfl (by (conv=>lhs;whnf);try rfl) ?_ | refine Zx rfl rfl rfl ?_ | refine Zc rfl rfl ?_ | refine Zi rfl (by (conv=>lhs;whnf);try rfl) ?_ | refine ZM rfl rfl (by omega) ?_ | refine ZL rfl rfl rfl (by omega) (by omega) ?_ | refine ZI rfl rfl rfl (by omega) ?_ | refine ZK rfl rfl rfl (by omega) (by omega) ?_ | refine ZN rfl rfl rfl rfl (by (conv=>lhs;whnf);try rfl) ?_ | refine ZP rfl rfl rfl rfl (by (conv=>lhs;whnf);try rfl) ?_ | refine ZR rfl rfl ?_ | refine Zd rfl rfl ?_ | refine Zz rfl rfl ?_ | refine g_bits rfl rfl rfl rfl ?_ | refine ZS rfl rfl rfl (by decide) ?_ | refine g_rem rfl rfl rfl (by first | decide | omega) ?_ | refine ZU rfl rfl ?_ | refine Zv Tryz.underlying9 rfl rfl ?_ | refine ZT rfl (by (conv=>lhs;whnf);try rfl) (by (conv=>lhs;whnf);try rfl) (by rfl) ?_ | refine Zl rfl rfl ?_ | refine Zm rfl rfl rfl (by (conv=>lhs;whnf);try rfl) (by (conv=>lhs;whnf);try rfl) (by rfl) (by rfl) (Nat.le_of_ble_eq_true rfl) (by (conv=>lhs;whnf);try rfl) ?_ | refine Zn rfl rfl ?_ | refine Za rfl rfl rfl (by rfl) (by decide) (by (conv=>lhs;whnf);try rfl) ?_ | refine Zf rfl rfl rfl ?_ | refine ZQ rfl rfl ?_ | refine ZB rfl rfl (by (conv=>lhs;whnf);try rfl) ?_ | refine g_field rfl rfl rfl ?_ | refine Zo ?_ | refine Zp (by kernel_rfl) ?_ | refine Zr ?_ | refine Zb ?_ | refine Zh ?_ | refine Zj ?_ | refine Zs ?_ | refine Zk ?_ | refine Zq ?_ | refine Zt ?_ | refine ZC ?_ | refine Zg ?_ | refine Zu ?_ | refine ZD ?_)
  exact Zd4 rfl rfl rfl
 rw [if_pos he] at h
 by_cases hl:l.length≤4611686018427387904
 rotate_left
 ·rw [if_neg hl] at h
  cases h
 rw [if_pos hl] at h
 obtain ⟨⟨e1,r1⟩,hp,h⟩:=Option.bind_eq_some_iff.1 h
 obtain ⟨⟨e2,r2⟩,hz,h⟩:=Option.map_eq_some_iff.1 h
 subst h
 rw [decide_eq_true he]
 have hf0:fits ⟨0,0,0,[],none⟩ []:=⟨Nat.zero_le _,fun x hx=>by
  rw [List.mem_singleton.1 hx]
  exact ⟨fun q hq=>(by cases hq),Nat.zero_le _⟩⟩
 have hf1:=Zh8 hf0 hp
 repeat (first | (refine Zw rfl rfl ?_) | (refine ZhT rfl rfl rfl rfl (Nat.le_of_ble_eq_true rfl) rfl ?_) | refine ZA rfl (by (conv=>lhs;whnf);try rfl) ?_ | refine Zx rfl rfl rfl ?_ | refine Zc rfl rfl ?_ | refine Zi rfl (by (conv=>lhs;whnf);try rfl) ?_ | refine ZM rfl rfl (by omega) ?_ | refine ZL rfl rfl rfl (by omega) (by omega) ?_ | refine ZI rfl rfl rfl (by omega) ?_ | refine ZK rfl rfl rfl (by omega) (by omega) ?_ | refine ZN rfl rfl rfl rfl (by (conv=>lhs;whnf);try rfl) ?_ | refine ZP rfl rfl rfl rfl (by (conv=>lhs;whnf);try rfl) ?_ | refine ZR rfl rfl ?_ | refine Zd rfl rfl ?_ | refine Zz rfl rfl ?_ | refine g_bits rfl rfl rfl rfl ?_ | refine ZS rfl rfl rfl (by decide) ?_ | refine g_rem rfl rfl rfl (by first | decide | omega) ?_ | refine ZU rfl rfl ?_ | refine Zv Tryz.underlying9 rfl rfl ?_ | refine ZT rfl (by (conv=>lhs;whnf);try rfl) (by (conv=>lhs;whnf);try rfl) (by rfl) ?_ | refine Zl rfl rfl ?_ | refine Zm rfl rfl rfl (by (conv=>lhs;whnf);try rfl) (by (conv=>lhs;whnf);try rfl) (by rfl) (by rfl) (Nat.le_of_ble_eq_true rfl) (by (conv=>lhs;whnf);try rfl) ?_ | refine Zn rfl rfl ?_ | refine Za rfl rfl rfl (by rfl) (by decide) (by (conv=>lhs;whnf);try rfl) ?_ | refine Zf rfl rfl rfl ?_ | refine ZQ rfl rfl ?_ | refine ZB rfl rfl (by (conv=>lhs;whnf);try rfl) ?_ | refine g_field rfl rfl rfl ?_ | refine Zo ?_ | refine Zp (by kernel_rfl) ?_ | refine Zr ?_ | refine Zb ?_ | refine Zh ?_ | refine Zj ?_ | refine Zs ?_ | refine Zk ?_ | refine Zq ?_ | refine Zt ?_ | refine ZC ?_ | refine Zg ?_ | refine Zu ?_ | refine ZD ?_)
 refine Zac (fun (a:Nat×El×List El) _=>mkS [(0,.str s),(6,.ptr 0 (1,0) 0),(22,.sl (l.map Tok.cs)),(23,.int .i64 ((l.map Tok.cs).length:Int)),(24,.int .i64 ((a.1:Nat):Int))] (somes (stP νp a.2.1 a.2.2)) 2) (fun a=>a.1≤l.length∧fits a.2.1 a.2.2∧ZbH s (l.drop a.1) a.2.1 a.2.2=some (e1,r1)) (fun a=>l.length - a.1) (0,⟨0,0,0,[],none⟩,[]) 2 ⟨Nat.zero_le _,hf0,hp⟩
  (Shift.trans (Zce 18 60 3 78 5 rfl rfl rfl) (Shift.trans (Zce 18 61 4 111 3 rfl rfl rfl) (Shift.trans (Zcl (t:=61) rfl) (ZeO startf ⟨rfl,rfl,rfl,rfl,rfl,trivial⟩ rfl (ZG rfl (ZG rfl (ZG rfl (ZG rfl (ZG rfl (Zal _)))))) (by decide))))) (fun a ng hJ=>?_)
 obtain ⟨q,e3,r3⟩:=a
 obtain ⟨hqq,hf3,ht⟩:=hJ
 dsimp only at hqq hf3 ht ⊢
 repeat (first | refine ZA rfl (by (conv=>lhs;whnf);try rfl) ?_ | refine Zx rfl rfl rfl ?_ | refine Zc rfl rfl ?_ | refine Zi rfl (by (conv=>lhs;whnf);try rfl) ?_ | refine ZM rfl rfl (by omega) ?_ | refine ZL rfl rfl rfl (by omega) (by omega) ?_ | refine ZI rfl rfl rfl (by omega) ?_ | refine ZK rfl rfl rfl (by omega) (by omega) ?_ | refine ZN rfl rfl rfl rfl (by (conv=>lhs;whnf);try rfl) ?_ | refine ZP rfl rfl rfl rfl (by (conv=>lhs;whnf);try rfl) ?_ | refine ZR rfl rfl ?_ | refine Zd rfl rfl ?_ | refine Zz rfl rfl ?_ | refine g_bits rfl rfl rfl rfl ?_ | refine ZS rfl rfl rfl (by decide) ?_ | refine g_rem rfl rfl rfl (by first | decide | omega) ?_ | refine ZU rfl rfl ?_ | refine Zv Tryz.underlying9 rfl rfl ?_ | refine ZT rfl (by (conv=>lhs;whnf);try rfl) (by (conv=>lhs;whnf);try rfl) (by rfl) ?_ | refine Zl rfl rfl ?_ | refine Zm rfl rfl rfl (by (conv=>lhs;whnf);try rfl) (by (conv=>lhs;whnf);try rfl) (by rfl) (by rfl) (Nat.le_of_ble_eq_true rfl) (by (conv=>lhs;whnf);try rfl) ?_ | refine Zn rfl rfl ?_ | refine Za rfl rfl rfl (by rfl) (by decide) (by (conv=>lhs;whnf);try rfl) ?_ | refine Zf rfl rfl rfl ?_ | refine ZQ rfl rfl ?_ | refine ZB rfl rfl (by (conv=>lhs;whnf);try rfl) ?_ | refine g_field rfl rfl rfl ?_ | refine Zo ?_ | refine Zp (by kernel_rfl) ?_ | refine Zr ?_ | refine Zb ?_ | refine Zh ?_ | refine Zj ?_ | refine Zs ?_ | refine Zk ?_ | refine Zq ?_ | refine Zt ?_ | refine ZC ?_ | refine Zg ?_ | refine Zu ?_ | refine ZD ?_)
 by_cases hlt:q<l.length
 ·refine ZV (by (conv=>lhs;whnf);try rfl) (by simp;omega) ?_
  rw [List.drop_eq_getElem_cons hlt] at ht
  obtain ⟨⟨e4,r4⟩,h4,ht⟩:=Option.bind_eq_some_iff.1 ht
  have hcs:(l.map Tok.cs)[q]? = some (Tok.cs l[q]):=by rw [List.getElem?_map,List.getElem?_eq_getElem hlt];rfl
  repeat (first | (refine Zdp rfl rfl rfl hcs rfl ?_) | (refine ZY [_,_] νp (ZrQ s _ e3 e4 r3 r4 hf3 h4) rfl rfl rfl rfl rfl rfl ?_) | refine ZA rfl (by (conv=>lhs;whnf);try rfl) ?_ | refine Zx rfl rfl rfl ?_ | refine Zc rfl rfl ?_ | refine Zi rfl (by (conv=>lhs;whnf);try rfl) ?_ | refine ZM rfl rfl (by omega) ?_ | refine ZL rfl rfl rfl (by omega) (by omega) ?_ | refine ZI rfl rfl rfl (by omega) ?_ | refine ZK rfl rfl rfl (by omega) (by omega) ?_ | refine ZN rfl rfl rfl rfl (by (conv=>lhs;whnf);try rfl) ?_ | refine ZP rfl rfl rfl rfl (by (conv=>lhs;whnf);try rfl) ?_ | refine ZR rfl rfl ?_ | refine Zd rfl rfl ?_ | refine Zz rfl rfl ?_ | refine g_bits rfl rfl rfl rfl ?_ | refine ZS rfl rfl rfl (by decide) ?_ | refine g_rem rfl rfl rfl (by first | decide | omega) ?_ | refine ZU rfl rfl ?_ | refine Zv Tryz.underlying9 rfl rfl ?_ | refine ZT rfl (by (conv=>lhs;whnf);try rfl) (by (conv=>lhs;whnf);try rfl) (by rfl) ?_ | refine Zl rfl rfl ?_ | refine Zm rfl rfl rfl (by (conv=>lhs;whnf);try rfl) (by (conv=>lhs;whnf);try rfl) (by rfl) (by rfl) (Nat.le_of_ble_eq_true rfl) (by (conv=>lhs;whnf);try rfl) ?_ | refine Zn rfl rfl ?_ | refine Za rfl rfl rfl (by rfl) (by decide) (by (conv=>lhs;whnf);try rfl) ?_ | refine Zf rfl rfl rfl ?_ | refine ZQ rfl rfl ?_ | refine ZB rfl rfl (by (conv=>lhs;whnf);try rfl) ?_ | refine g_field rfl rfl rfl ?_ | refine Zo ?_ | refine Zp (by kernel_rfl) ?_ | refine Zr ?_ | refine Zb ?_ | refine Zh ?_ | refine Zj ?_ | refine Zs ?_ | refine Zk ?_ | refine Zq ?_ | refine Zt ?_ | refine ZC ?_ | refine Zg ?_ | refine Zu ?_ | refine ZD ?_)
  exact Zax (q+1,e4,r4) 2 ⟨by dsimp only;omega,Zjk hf3 h4,ht⟩ (by dsimp only;omega) (ZlA (νn (1,0) 4 3) [_,_] ⟨rfl,rfl,rfl,rfl,rfl,trivial⟩ rfl rfl)
 ·refine Zw (by (conv=>lhs;whnf);try rfl) (by simp;omega) ?_
  obtain rfl:q=l.length:=by omega
  rw [List.drop_length] at ht
  injection ht with ht
  injection ht with q1 q2
  subst q1 q2
  repeat (first | refine ZA rfl (by (conv=>lhs;whnf);try rfl) ?_ | refine Zx rfl rfl rfl ?_ | refine Zc rfl rfl ?_ | refine Zi rfl (by (conv=>lhs;whnf);try rfl) ?_ | refine ZM rfl rfl (by omega) ?_ | refine ZL rfl rfl rfl (by omega) (by omega) ?_ | refine ZI rfl rfl rfl (by omega) ?_ | refine ZK rfl rfl rfl (by omega) (by omega) ?_ | refine ZN rfl rfl rfl rfl (by (conv=>lhs;whnf);try rfl) ?_ | refine ZP rfl rfl rfl rfl (by (conv=>lhs;whnf);try rfl) ?_ | refine ZR rfl rfl ?_ | refine Zd rfl rfl ?_ | refine Zz rfl rfl ?_ | refine g_bits rfl rfl rfl rfl ?_ | refine ZS rfl rfl rfl (by decide) ?_ | refine g_rem rfl rfl rfl (by first | decide | omega) ?_ | refine ZU rfl rfl ?_ | refine Zv Tryz.underlying9 rfl rfl ?_ | refine ZT rfl (by (conv=>lhs;whnf);try rfl) (by (conv=>lhs;whnf);try rfl) (by rfl) ?_ | refine Zl rfl rfl ?_ | refine Zm rfl rfl rfl (by (conv=>lhs;whnf);try rfl) (by (conv=>lhs;whnf);try rfl) (by rfl) (by rfl) (Nat.le_of_ble_eq_true rfl) (by (conv=>lhs;whnf);try rfl) ?_ | refine Zn rfl rfl ?_ | refine Za rfl rfl rfl (by rfl) (by decide) (by (conv=>lhs;whnf);try rfl) ?_ | refine Zf rfl rfl rfl ?_ | refine ZQ rfl rfl ?_ | refine ZB rfl rfl (by (conv=>lhs;whnf);try rfl) ?_ | refine g_field rfl rfl rfl ?_ | refine Zo ?_ | refine Zp (by kernel_rfl) ?_ | refine Zr ?_ | refine Zb ?_ | refine Zh ?_ | refine Zj ?_ | refine Zs ?_ | refine Zk ?_ | refine Zq ?_ | refine Zt ?_ | refine ZC ?_ | refine Zg ?_ | refine Zu ?_ | refine ZD ?_)
  refine Zac (fun (a:El×List El) _=>mkS [(6,.ptr 0 (1,0) 0)] (somes (stP νp a.1 a.2)) 2) (fun a=>fits a.1 a.2∧Zc7 a.2.length a.1 a.2=some (e2,r2)) (fun a=>a.2.length) (e3,r3) 2 ⟨hf3,hz⟩ (ZlA νp [] ⟨rfl,trivial⟩ rfl rfl) (fun a ng hJ=>?_)
  obtain ⟨e5,r5⟩:=a
  obtain ⟨hf5,hft⟩:=hJ
  dsimp only at hf5 hft ⊢
  have hr5:=hf5.1
  repeat (first | (refine Zbc rfl rfl (ZbU _ _ _) ?_) | refine ZA rfl (by (conv=>lhs;whnf);try rfl) ?_ | refine Zx rfl rfl rfl ?_ | refine Zc rfl rfl ?_ | refine Zi rfl (by (conv=>lhs;whnf);try rfl) ?_ | refine ZM rfl rfl (by omega) ?_ | refine ZL rfl rfl rfl (by omega) (by omega) ?_ | refine ZI rfl rfl rfl (by omega) ?_ | refine ZK rfl rfl rfl (by omega) (by omega) ?_ | refine ZN rfl rfl rfl rfl (by (conv=>lhs;whnf);try rfl) ?_ | refine ZP rfl rfl rfl rfl (by (conv=>lhs;whnf);try rfl) ?_ | refine ZR rfl rfl ?_ | refine Zd rfl rfl ?_ | refine Zz rfl rfl ?_ | refine g_bits rfl rfl rfl rfl ?_ | refine ZS rfl rfl rfl (by decide) ?_ | refine g_rem rfl rfl rfl (by first | decide | omega) ?_ | refine ZU rfl rfl ?_ | refine Zv Tryz.underlying9 rfl rfl ?_ | refine ZT rfl (by (conv=>lhs;whnf);try rfl) (by (conv=>lhs;whnf);try rfl) (by rfl) ?_ | refine Zl rfl rfl ?_ | refine Zm rfl rfl rfl (by (conv=>lhs;whnf);try rfl) (by (conv=>lhs;whnf);try rfl) (by rfl) (by rfl) (Nat.le_of_ble_eq_true rfl) (by (conv=>lhs;whnf);try rfl) ?_ | refine Zn rfl rfl ?_ | refine Za rfl rfl rfl (by rfl) (by decide) (by (conv=>lhs;whnf);try rfl) ?_ | refine Zf rfl rfl rfl ?_ | refine ZQ rfl rfl ?_ | refine ZB rfl rfl (by (conv=>lhs;whnf);try rfl) ?_ | refine g_field rfl rfl rfl ?_ | refine Zo ?_ | refine Zp (by kernel_rfl) ?_ | refine Zr ?_ | refine Zb ?_ | refine Zh ?_ | refine Zj ?_ | refine Zs ?_ | refine Zk ?_ | refine Zq ?_ | refine Zt ?_ | refine ZC ?_ | refine Zg ?_ | refine Zu ?_ | refine ZD ?_)
  rcases r5 with _ | ⟨e6,r6⟩
  ·injection hft with hft
   injection hft with q1 q2
   subst q1 q2
   repeat (first | (refine Zw rfl rfl ?_) | (refine Zad [] νp (Zb8 e5 [] (Nat.zero_le _)) rfl rfl rfl rfl rfl rfl ?_) | refine ZA rfl (by (conv=>lhs;whnf);try rfl) ?_ | refine Zx rfl rfl rfl ?_ | refine Zc rfl rfl ?_ | refine Zi rfl (by (conv=>lhs;whnf);try rfl) ?_ | refine ZM rfl rfl (by omega) ?_ | refine ZL rfl rfl rfl (by omega) (by omega) ?_ | refine ZI rfl rfl rfl (by omega) ?_ | refine ZK rfl rfl rfl (by omega) (by omega) ?_ | refine ZN rfl rfl rfl rfl (by (conv=>lhs;whnf);try rfl) ?_ | refine ZP rfl rfl rfl rfl (by (conv=>lhs;whnf);try rfl) ?_ | refine ZR rfl rfl ?_ | refine Zd rfl rfl ?_ | refine Zz rfl rfl ?_ | refine g_bits rfl rfl rfl rfl ?_ | refine ZS rfl rfl rfl (by decide) ?_ | refine g_rem rfl rfl rfl (by first | decide | omega) ?_ | refine ZU rfl rfl ?_ | refine Zv Tryz.underlying9 rfl rfl ?_ | refine ZT rfl (by (conv=>lhs;whnf);try rfl) (by (conv=>lhs;whnf);try rfl) (by rfl) ?_ | refine Zl rfl rfl ?_ | refine Zm rfl rfl rfl (by (conv=>lhs;whnf);try rfl) (by (conv=>lhs;whnf);try rfl) (by rfl) (by rfl) (Nat.le_of_ble_eq_true rfl) (by (conv=>lhs;whnf);try rfl) ?_ | refine Zn rfl rfl ?_ | refine Za rfl rfl rfl (by rfl) (by decide) (by (conv=>lhs;whnf);try rfl) ?_ | refine Zf rfl rfl rfl ?_ | refine ZQ rfl rfl ?_ | refine ZB rfl rfl (by (conv=>lhs;whnf);try rfl) ?_ | refine g_field rfl rfl rfl ?_ | refine Zo ?_ | refine Zp (by kernel_rfl) ?_ | refine Zr ?_ | refine Zb ?_ | refine Zh ?_ | refine Zj ?_ | refine Zs ?_ | refine Zk ?_ | refine Zq ?_ | refine Zt ?_ | refine ZC ?_ | refine Zg ?_ | refine Zu ?_ | refine ZD ?_)
   exact Zd4 rfl rfl rfl
  ·rw [show decide ((1:Int)<(((e6::r6).length+1:Nat):Int))=true from decide_eq_true (by simp;omega)]
   obtain ⟨e7,he7,hft⟩:=Option.bind_eq_some_iff.1 hft
   repeat (first | (refine ZV rfl rfl ?_) | (refine ZY [] νp (Zh4 e5 e6 e7 r6 (by simp at hr5;omega) (Zay (ZaQ hf5)) he7) rfl rfl rfl rfl rfl rfl ?_) | refine ZA rfl (by (conv=>lhs;whnf);try rfl) ?_ | refine Zx rfl rfl rfl ?_ | refine Zc rfl rfl ?_ | refine Zi rfl (by (conv=>lhs;whnf);try rfl) ?_ | refine ZM rfl rfl (by omega) ?_ | refine ZL rfl rfl rfl (by omega) (by omega) ?_ | refine ZI rfl rfl rfl (by omega) ?_ | refine ZK rfl rfl rfl (by omega) (by omega) ?_ | refine ZN rfl rfl rfl rfl (by (conv=>lhs;whnf);try rfl) ?_ | refine ZP rfl rfl rfl rfl (by (conv=>lhs;whnf);try rfl) ?_ | refine ZR rfl rfl ?_ | refine Zd rfl rfl ?_ | refine Zz rfl rfl ?_ | refine g_bits rfl rfl rfl rfl ?_ | refine ZS rfl rfl rfl (by decide) ?_ | refine g_rem rfl rfl rfl (by first | decide | omega) ?_ | refine ZU rfl rfl ?_ | refine Zv Tryz.underlying9 rfl rfl ?_ | refine ZT rfl (by (conv=>lhs;whnf);try rfl) (by (conv=>lhs;whnf);try rfl) (by rfl) ?_ | refine Zl rfl rfl ?_ | refine Zm rfl rfl rfl (by (conv=>lhs;whnf);try rfl) (by (conv=>lhs;whnf);try rfl) (by rfl) (by rfl) (Nat.le_of_ble_eq_true rfl) (by (conv=>lhs;whnf);try rfl) ?_ | refine Zn rfl rfl ?_ | refine Za rfl rfl rfl (by rfl) (by decide) (by (conv=>lhs;whnf);try rfl) ?_ | refine Zf rfl rfl rfl ?_ | refine ZQ rfl rfl ?_ | refine ZB rfl rfl (by (conv=>lhs;whnf);try rfl) ?_ | refine g_field rfl rfl rfl ?_ | refine Zo ?_ | refine Zp (by kernel_rfl) ?_ | refine Zr ?_ | refine Zb ?_ | refine Zh ?_ | refine Zj ?_ | refine Zs ?_ | refine Zk ?_ | refine Zq ?_ | refine Zt ?_ | refine ZC ?_ | refine Zg ?_ | refine Zu ?_ | refine ZD ?_)
   exact Zax (e7,r6) 2 ⟨Zdg hf5 he7,hft⟩ (by dsimp only;simp) (ZlA (νn (1,0) 3 1) [] ⟨rfl,trivial⟩ rfl rfl)
def ZbV (s:ByteArray):Option (List Node×Int):=(Zl3 s).bind fun q=>(Za6 q.1).map fun l=>(l,q.2)
theorem ZjX (s:ByteArray) (r:List Node×Int) (h:ZbV s=some r):ZH Tryz.prog 29 [.str s] (.tup [.sl (List.map Node.cs r.1),.int .i64 r.2]):=by
 obtain ⟨q,hq,h⟩:=Option.bind_eq_some_iff.1 h
 obtain ⟨l,hl,h⟩:=Option.map_eq_some_iff.1 h
 subst h
 have:=Zpw s q hq
 rw [Zcj hl] at this
 exact this
end Go.Proofs.YtmgfammllddkhaaGreatDoor
namespace Go.Proofs.YtmgfammllddkhaaGreatDoor
open VL Go.RowKit
theorem ZqD (B b:Nat) (bs:List Value) (s:ByteArray) (w:World) (h:Lib.IsBuilderF 186 5 B b bs w) (hlen:bs.length+s.size≤140737488355328) (hBw:B≤w.heap.size) :
  Calls Tryz.prog 174 #[.pointer (some ⟨b,0,none⟩),.string s] w fun e w'=>e = .returned (.tuple #[.int .i64 s.size,.nilIface])∧(Lib.BuilderAtF 186 5 B b (.pointer (some ⟨b,0,none⟩)) (bs++Lib.strCells s) w'∧Below B w w'):=
 Any.Builder_WriteString_f (P:=Tryz.prog) (ρ:=Tryz.lays105_ren) { Tryz.lays105 with } Tryz.Builder_Extra_105 B b bs s w h hlen hBw
structure SlW where
 a:Option Addr
 n:Nat
 c:Nat
structure NodeW where
 kind:Int
 tag:Int
 text:ByteArray
 kids:SlW
 args:SlW
instance:Enc NodeW where
 k:=5
 R _ _ x cs:=cs = [.int .i64 x.kind,.int .i64 x.tag,.string x.text,.slice x.kids.a x.kids.n x.kids.c,.slice x.args.a x.args.n x.args.c]
 len h:=by rw [h];rfl
 one h:=by
  obtain rfl:=h
  intro u hu
  simp only [List.mem_cons,List.not_mem_nil,or_false] at hu
  rcases hu with rfl | rfl | rfl | rfl | rfl<;>rfl
 keep _ _ h:=h
 weak _ h:=h
def ZeW (acc:List UInt8):List NodeW→Option (Option (List UInt8))
 | []=>some (some acc)
 | x::xs=>if x.kind=1∨x.kind=3 then (if acc.length+x.text.size≤140737488355328 then ZeW (acc++x.text.data.toList) xs else none) else if x.kind=2 then ZeW acc xs else some none
def Zmf:Option (List UInt8)→Value
 | some l=>.tuple #[.string ⟨l.toArray⟩,.bool true]
 | none=>.tuple #[.string ⟨#[]⟩,.bool false]
set_option maxRecDepth 100000 in
set_option maxHeartbeats 4000000 in
theorem Zoo (A:Option Addr) (n c:Nat) (xs:List NodeW) (r:Option (List UInt8)) (hr:ZeW [] xs=some r) (w:World) (hS:SlR w A n c xs) :
  Calls Tryz.prog 117 #[.slice A n c] w fun e w'=>e = .returned (Zmf r)∧Below w.heap.size w w':=by
 have HN:=Lib.hid hS.1
 have hle:=hS.le
 go_enter Tryz.func117,Tryz.ntmps117
 go_wp2
 go_loopw [9] (fun i wr=>∃ (q:Nat) (acc:List UInt8),q≤n∧i = .int .i64 q∧Below w.heap.size w wr∧Lib.IsBuilderF 186 5 w.heap.size w.heap.size (Lib.byteCells acc) wr∧Hid (ZeW acc (xs.drop q)=some r)) (fun i _=>n - (intOf i).toNat)
 case atStart=>
  exact ⟨0,[],Nat.zero_le _,rfl,(Below.refl _ w).alloc (Nat.le_refl _) _,Lib.IsBuilderF.of (Lib.fresh_isBuilder 186 5 w),hr⟩
 case round=>
  obtain ⟨q,acc,hq,rfl,hbw,hI,hF⟩:=hrel
  have HW:=Lib.hid hbw
  clear hbw
  by_cases hlt:q<n
  ·obtain ⟨b,off,x,cs,hA,hbl,hx,hd,hR,hc⟩:=(SlR.mono HW.out hS).elem hlt
   obtain rfl:=hA
   have d0:wr.cell? ⟨b,off+q * 5,none⟩=some (.int .i64 x.kind):=by subst hR;exact hc 0 _ rfl
   have d1:wr.cell? ⟨b,off+q * 5+1,none⟩=some (.int .i64 x.tag):=by subst hR;exact hc 1 _ rfl
   have d2:wr.cell? ⟨b,off+q * 5+2,none⟩=some (.string x.text):=by subst hR;exact hc 2 _ rfl
   have d3:wr.cell? ⟨b,off+q * 5+3,none⟩=some (.slice x.kids.a x.kids.n x.kids.c):=by subst hR;exact hc 3 _ rfl
   have d4:wr.cell? ⟨b,off+q * 5+4,none⟩=some (.slice x.args.a x.args.n x.args.c):=by subst hR;exact hc 4 _ rfl
   have HD:=Lib.hid hd
   have HX:=Lib.hid hx
   clear hx hd hR hc
   by_cases h13:x.kind=1∨x.kind=3
   ·have hfit:acc.length+x.text.size≤140737488355328∧ZeW (acc++x.text.data.toList) (xs.drop (q+1))=some r:=by
     have e:=hF.out
     rw [HD.out] at e
     simp only [ZeW,if_pos h13] at e
     split at e
     ·exact ⟨‹_›,e⟩
     ·cases e
    have HI2:∀ o,Lib.IsBuilderF 186 5 w.heap.size w.heap.size (Lib.byteCells acc) (wr.alloc o):=fun o=>hI.alloc o
    rcases h13 with h13 | h13
    ·go_wp2_with (go_at_call 174;refine (ZqD w.heap.size w.heap.size _ x.text _ (HI2 _) (by rw [Lib.byteCells_length];exact hfit.1) (Nat.le_trans HW.out.size (by simp))).mono ?_)
     rintro e W1 ⟨rfl,h1,b1⟩
     go_wp2
     go_roundw
     case rel=>
      refine ⟨q+1,acc++x.text.data.toList,by omega,by go_num,?_,?_,Lib.hid hfit.2⟩
      ·exact (Below.al HW.out _).trans b1
      ·rw [Lib.byteCells_append,← Lib.strCells_eq];exact Or.inr h1
     case measure=>simp [intOf];omega
    ·go_wp2_with (go_at_call 174;refine (ZqD w.heap.size w.heap.size _ x.text _ (HI2 _) (by rw [Lib.byteCells_length];exact hfit.1) (Nat.le_trans HW.out.size (by simp))).mono ?_)
     rintro e W1 ⟨rfl,h1,b1⟩
     go_wp2
     go_roundw
     case rel=>
      refine ⟨q+1,acc++x.text.data.toList,by omega,by go_num,?_,?_,Lib.hid hfit.2⟩
      ·exact (Below.al HW.out _).trans b1
      ·rw [Lib.byteCells_append,← Lib.strCells_eq];exact Or.inr h1
     case measure=>simp [intOf];omega
   ·by_cases h2:x.kind=2
    ·have hn2:ZeW acc (xs.drop (q+1))=some r:=by
      have e:=hF.out
      rw [HD.out] at e
      simp only [ZeW,if_neg h13,if_pos h2] at e
      exact e
     go_wp2
     go_roundw
     case rel=>exact ⟨q+1,acc,by omega,by go_num,Below.al HW.out _,hI.alloc _,Lib.hid hn2⟩
     case measure=>simp [intOf];omega
    ·have hn2:r=none:=by
      have e:=hF.out
      rw [HD.out] at e
      simp only [ZeW,if_neg h13,if_neg h2] at e
      exact (Option.some.inj e).symm
     subst hn2
     go_wp2
     exact bodyPost_ret (v:=Zmf none) (by simp [results,Tryz.results117,go_sem, *];rfl) rfl ⟨rfl,Below.al HW.out _⟩
  ·have hz:r=some acc:=by
    have e:=hF.out
    rw [List.drop_eq_nil_of_le (by rw [← HN.out];omega)] at e
    exact (Option.some.inj e).symm
   subst hz
   go_wp2_with (go_at_call 176;refine (Tryz.Builder_String_any_f w.heap.size w.heap.size acc _ hI HW.out.size).mono ?_)
   rintro e W1 ⟨rfl,_,b1⟩
   go_wp2
   exact bodyPost_ret (v:=Zmf (some acc)) (by simp [results,Tryz.results117,go_sem, *];rfl) rfl ⟨rfl,HW.out.trans b1⟩
def Zir (acc:List UInt8):List Node→Option (Option (List UInt8))
 | []=>some (some acc)
 | x::xs=>if x.kind=1∨x.kind=3 then (if acc.length+x.text.size≤140737488355328 then Zir (acc++x.text.data.toList) xs else none) else if x.kind=2 then Zir acc xs else some none
theorem Zmg:∀ (xs:List NodeW) (l:List Node) (acc:List UInt8),xs.length=l.length→(∀ (i:Nat) (x:NodeW) (y:Node),xs[i]? = some x→l[i]? = some y→x.kind=y.kind∧x.text=y.text)→ZeW acc xs=Zir acc l
 | [],[],acc,_,_=>rfl
 | x::xs,y::l,acc,hl,h=>by
   obtain ⟨h1,h2⟩:=h 0 x y rfl rfl
   have ih:=fun acc=>Zmg xs l acc (by simpa using hl) (fun i a b ha hb=>h (i+1) a b ha hb)
   simp only [ZeW,Zir,h1,h2,ih]
def Zf0:Value→SlW
 | .slice A n c=>⟨A,n,c⟩
 | _=>⟨none,0,0⟩
theorem ZqE {x:Ctx} {els:List (List PV)} {v:Value} (h:Rep x (.sl els) v):v = .slice (Zf0 v).a (Zf0 v).n (Zf0 v).c:=by
 cases h
 rfl
theorem ZkT {x:Ctx} (hflt:∀ b o,x.F b o→b<x.W.heap.size) {L:List Node} {v:Value} (h:Rep x (.sl (L.map Node.cs)) v):∃ A n c xs,v = .slice A n c∧SlR x.W A n c xs∧∀ acc,ZeW acc xs=Zir acc L:=by
 generalize hels:(L.map Node.cs)=els at h
 cases h with
 | sl _ A n c k b off f hn hc hm hk hA hcell hh=>
   subst hels
   have hx:∀ (i:Nat) (y:NodeW),(L.mapIdx fun i nd=>(⟨nd.kind,nd.tag,nd.text,Zf0 (f i 3),Zf0 (f i 4)⟩:NodeW))[i]? = some y→∃ nd,L[i]? = some nd∧y=⟨nd.kind,nd.tag,nd.text,Zf0 (f i 3),Zf0 (f i 4)⟩:=fun i y hi=>by
    rw [List.getElem?_mapIdx] at hi
    cases hL:L[i]? with
    | none=>rw [hL] at hi;cases hi
    | some nd=>rw [hL] at hi;injection hi with hi;exact ⟨nd,rfl,hi.symm⟩
   refine ⟨A,n,c,L.mapIdx fun i nd=>(⟨nd.kind,nd.tag,nd.text,Zf0 (f i 3),Zf0 (f i 4)⟩:NodeW),rfl,⟨by simpa using hn,hc,hm,fun h0=>?_⟩,fun acc=>Zmg _ _ _ (by simp) fun i y nd hi hd=>?_⟩
   ·have hL:0<L.length:=by rw [hn,List.length_map] at h0;exact h0
    have hk5:k=5:=by
     obtain ⟨s,hs⟩:∃ s,L[0]? = some s:=⟨_,List.getElem?_eq_getElem hL⟩
     exact (hk (Node.cs s) (List.mem_map.2 ⟨s,List.mem_of_getElem? hs,rfl⟩)).symm
    subst hk5
    have el:∀ i nd,L[i]? = some nd→(L.map Node.cs)[i]? = some (Node.cs nd):=fun i nd hi=>by rw [List.getElem?_map,hi];rfl
    obtain ⟨s0,hs0⟩:∃ s,L[0]? = some s:=⟨_,List.getElem?_eq_getElem hL⟩
    refine ⟨b,off,fun i=>[f i 0,f i 1,f i 2,f i 3,f i 4],hA h0,trivial,hflt _ _ (hcell 0 0 _ _ (el 0 s0 hs0) rfl).2.1,fun i y hi=>?_⟩
    obtain ⟨nd,hd,rfl⟩:=hx i y hi
    have e:=el i nd hd
    refine ⟨?_,fun j u hj=>?_⟩
    ·have r0:=hh i 0 _ _ e rfl
     have r1:=hh i 1 _ _ e rfl
     have r2:=hh i 2 _ _ e rfl
     have r3:=ZqE (hh i 3 _ _ e rfl)
     have r4:=ZqE (hh i 4 _ _ e rfl)
     have q0:f i 0 = .int .i64 nd.kind:=by generalize f i 0=u at r0;cases r0;rfl
     have q1:f i 1 = .int .i64 nd.tag:=by generalize f i 1=u at r1;cases r1;rfl
     have q2:f i 2 = .string nd.text:=by generalize f i 2=u at r2;cases r2;rfl
     show [f i 0,f i 1,f i 2,f i 3,f i 4] = [.int .i64 nd.kind,.int .i64 nd.tag,.string nd.text,.slice (Zf0 (f i 3)).a (Zf0 (f i 3)).n (Zf0 (f i 3)).c,.slice (Zf0 (f i 4)).a (Zf0 (f i 4)).n (Zf0 (f i 4)).c]
     rw [q0,q1,q2,← r3,← r4]
    ·match j,hj with
     | 0,hj=>injection hj with hj;subst hj;exact (hcell i 0 _ _ e rfl).2.2
     | 1,hj=>injection hj with hj;subst hj;exact (hcell i 1 _ _ e rfl).2.2
     | 2,hj=>injection hj with hj;subst hj;exact (hcell i 2 _ _ e rfl).2.2
     | 3,hj=>injection hj with hj;subst hj;exact (hcell i 3 _ _ e rfl).2.2
     | 4,hj=>injection hj with hj;subst hj;exact (hcell i 4 _ _ e rfl).2.2
     | j+5,hj=>simp at hj
   ·obtain ⟨nd',h1,rfl⟩:=hx i y hi
    rw [hd] at h1
    injection h1 with h1
    subst h1
    exact ⟨rfl,rfl⟩
def ZgX (l:List Node):Option (ByteArray×Bool):=match Zir [] l with
 | some (some t)=>some (⟨t.toArray⟩,true)
 | some none=>some (⟨#[]⟩,false)
 | none=>none
theorem ZsB {x:Ctx} (a:ByteArray) (c:Bool):Rep x (.tup [.str a,.bool c]) (.tuple #[.string a,.bool c]):=.tup _ _ rfl fun i p v hp hv=>by
 match i,hp,hv with
 | 0,hp,hv=>injection hp with hp;injection hv with hv;subst hp hv;exact .str _
 | 1,hp,hv=>injection hp with hp;injection hv with hv;subst hp hv;exact .bool _
 | i+2,hp,_=>simp at hp
theorem args1 {x:Ctx} {p:PV} {vs:Array Value} (h:Pre x [p] none vs):∃ v,vs = #[v]∧Rep x p v:=by
 obtain ⟨v,hv⟩:∃ v,vs = #[v]:=Array.size_eq_one_iff.1 h.size.symm
 exact ⟨v,hv,h.rep 0 _ _ rfl (by rw [hv];rfl)⟩
theorem ZkU (l:List Node) (r:ByteArray×Bool) (h:ZgX l=some r):ZH Tryz.prog 117 [.sl (List.map Node.cs l)] (.tup [.str r.1,.bool r.2]):=by
 obtain ⟨o,ho,hv⟩:∃ o,Zir [] l=some o∧Zmf o = .tuple #[.string r.1,.bool r.2]:=by
  unfold ZgX at h
  split at h
  ·cases h;exact ⟨_,‹_›,rfl⟩
  ·cases h;exact ⟨_,‹_›,rfl⟩
  ·cases h
 exact Zd6 (by kernel_rfl) rfl (fun x=>ZsB _ _) fun x vs hp _=>by
  obtain ⟨v,rfl,h1⟩:=args1 hp
  obtain ⟨A,n,c,xs,rfl,hS,he⟩:=ZkT hp.flt h1
  rw [← hv]
  exact Zoo A n c xs o ((he []).trans ho) x.W hS
end Go.Proofs.YtmgfammllddkhaaGreatDoor
