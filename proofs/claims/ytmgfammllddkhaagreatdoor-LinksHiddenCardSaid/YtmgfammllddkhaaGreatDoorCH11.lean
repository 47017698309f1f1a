/- The parser's bar and equal. | The parser's nodes. | What is taken off the parser's stack: the call, and the element made plain. No program is named. | Braces that close: the top's rows made plain with the node that is made of them. No program is named. -/
import Derived.Test.YtmgfammllddkhaaGreatDoorCH10
import Derived.Test.YtmgfammllddkhaaGreatDoorCH09
import Derived.Test.YtmgfammllddkhaaGreatDoorCH02
namespace Go.Proofs.YtmgfammllddkhaaGreatDoor
open VL
def ZdV (e:El):Option El:=match e.args with
 | some (pre,a)=>if e.kind=3∧a.named=false then some ⟨e.kind,e.tag,e.count,e.list,some (pre,⟨true,a.value,[]⟩)⟩ else ZaR e ⟨#[61]⟩
 | none=>ZaR e ⟨#[61]⟩
set_option maxRecDepth 100000 in
set_option maxHeartbeats 1000000 in
theorem Zpo (e e':El) (r:List El) (hs:small e r) (h63:e.cur.length≤9223372036854775807) (hk:e.kind≠3) (h:ZaR e ⟨#[124]⟩=some e'):PC 106 [] e r (.tup []) e' r:=by
 refine ZZ mix Tryz.func106 (by kernel_rfl) rfl (by kernel_rfl) ?_
 rw [ZbY]
 repeat (first | (refine Zad [] νa (Zb8 e r hs.1) rfl rfl rfl rfl rfl rfl ?_) | refine ZA rfl (by (conv=>lhs;whnf);try rfl) ?_ | refine Zx rfl rfl rfl ?_ | refine Zc rfl rfl ?_ | refine Zi rfl (by (conv=>lhs;whnf);try rfl) ?_ | refine ZM rfl rfl (by omega) ?_ | refine ZL rfl rfl rfl (by omega) (by omega) ?_ | refine ZI rfl rfl rfl (by omega) ?_ | refine ZK rfl rfl rfl (by omega) (by omega) ?_ | refine ZN rfl rfl rfl rfl (by (conv=>lhs;whnf);try rfl) ?_ | refine ZP rfl rfl rfl rfl (by (conv=>lhs;whnf);try rfl) ?_ | refine ZR rfl rfl ?_ | refine Zd rfl rfl ?_ | refine Zz rfl rfl ?_ | refine g_bits rfl rfl rfl rfl ?_ | refine ZS rfl rfl rfl (by decide) ?_ | refine g_rem rfl rfl rfl (by first | decide | omega) ?_ | refine ZU rfl rfl ?_ | refine Zv Tryz.underlying9 rfl rfl ?_ | refine ZT rfl (by (conv=>lhs;whnf);try rfl) (by (conv=>lhs;whnf);try rfl) (by rfl) ?_ | refine Zl rfl rfl ?_ | refine Zm rfl rfl rfl (by (conv=>lhs;whnf);try rfl) (by (conv=>lhs;whnf);try rfl) (by rfl) (by rfl) (Nat.le_of_ble_eq_true rfl) (by (conv=>lhs;whnf);try rfl) ?_ | refine Zn rfl rfl ?_ | refine Za rfl rfl rfl (by rfl) (by decide) (by (conv=>lhs;whnf);try rfl) ?_ | refine Zf rfl rfl rfl ?_ | refine ZQ rfl rfl ?_ | refine ZB rfl rfl (by (conv=>lhs;whnf);try rfl) ?_ | refine g_field rfl rfl rfl ?_ | refine Zo ?_ | refine Zp (by kernel_rfl) ?_ | refine Zr ?_ | refine Zb ?_ | refine Zh ?_ | refine Zj ?_ | refine Zs ?_ | refine Zk ?_ | refine Zq ?_ | refine Zt ?_ | refine ZC ?_ | refine Zg ?_ | refine Zu ?_ | refine ZD ?_)
 rw [decide_eq_false hk]
 repeat (first | (refine Zw rfl rfl ?_) | (refine ZY [] νa (ZbP e r _ hs h63 e' h) rfl rfl rfl rfl rfl rfl ?_) | refine ZA rfl (by (conv=>lhs;whnf);try rfl) ?_ | refine Zx rfl rfl rfl ?_ | refine Zc rfl rfl ?_ | refine Zi rfl (by (conv=>lhs;whnf);try rfl) ?_ | refine ZM rfl rfl (by omega) ?_ | refine ZL rfl rfl rfl (by omega) (by omega) ?_ | refine ZI rfl rfl rfl (by omega) ?_ | refine ZK rfl rfl rfl (by omega) (by omega) ?_ | refine ZN rfl rfl rfl rfl (by (conv=>lhs;whnf);try rfl) ?_ | refine ZP rfl rfl rfl rfl (by (conv=>lhs;whnf);try rfl) ?_ | refine ZR rfl rfl ?_ | refine Zd rfl rfl ?_ | refine Zz rfl rfl ?_ | refine g_bits rfl rfl rfl rfl ?_ | refine ZS rfl rfl rfl (by decide) ?_ | refine g_rem rfl rfl rfl (by first | decide | omega) ?_ | refine ZU rfl rfl ?_ | refine Zv Tryz.underlying9 rfl rfl ?_ | refine ZT rfl (by (conv=>lhs;whnf);try rfl) (by (conv=>lhs;whnf);try rfl) (by rfl) ?_ | refine Zl rfl rfl ?_ | refine Zm rfl rfl rfl (by (conv=>lhs;whnf);try rfl) (by (conv=>lhs;whnf);try rfl) (by rfl) (by rfl) (Nat.le_of_ble_eq_true rfl) (by (conv=>lhs;whnf);try rfl) ?_ | refine Zn rfl rfl ?_ | refine Za rfl rfl rfl (by rfl) (by decide) (by (conv=>lhs;whnf);try rfl) ?_ | refine Zf rfl rfl rfl ?_ | refine ZQ rfl rfl ?_ | refine ZB rfl rfl (by (conv=>lhs;whnf);try rfl) ?_ | refine g_field rfl rfl rfl ?_ | refine Zo ?_ | refine Zp (by kernel_rfl) ?_ | refine Zr ?_ | refine Zb ?_ | refine Zh ?_ | refine Zj ?_ | refine Zs ?_ | refine Zk ?_ | refine Zq ?_ | refine Zt ?_ | refine ZC ?_ | refine Zg ?_ | refine Zu ?_ | refine ZD ?_)
 exact Zbr (.inr rfl) (νc 3 1) [] [] rfl rfl trivial rfl rfl
set_option maxRecDepth 100000 in
set_option maxHeartbeats 1000000 in
theorem Zpp (tag count:Int) (list:List (List PV)) (r:List El) (hr:r.length≤1000):PC 106 [] ⟨3,tag,count,list,none⟩ r (.tup []) ⟨3,tag,count,list,some ([],⟨false,[],[]⟩)⟩ r:=by
 refine ZZ mix Tryz.func106 (by kernel_rfl) rfl (by kernel_rfl) ?_
 rw [ZbY]
 repeat (first | (refine Zad [] νa (Zb8 _ r hr) rfl rfl rfl rfl rfl rfl ?_) | (refine ZV rfl rfl ?_) | (refine ZhT rfl rfl rfl rfl (Nat.le_of_ble_eq_true rfl) rfl ?_) | (refine ZiC (els:=[]) (new:=[[.bool false,.nil,.nil]]) rfl rfl rfl rfl (by simp) (by simp) (by simp) ?_) | refine ZA rfl (by (conv=>lhs;whnf);try rfl) ?_ | refine Zx rfl rfl rfl ?_ | refine Zc rfl rfl ?_ | refine Zi rfl (by (conv=>lhs;whnf);try rfl) ?_ | refine ZM rfl rfl (by omega) ?_ | refine ZL rfl rfl rfl (by omega) (by omega) ?_ | refine ZI rfl rfl rfl (by omega) ?_ | refine ZK rfl rfl rfl (by omega) (by omega) ?_ | refine ZN rfl rfl rfl rfl (by (conv=>lhs;whnf);try rfl) ?_ | refine ZP rfl rfl rfl rfl (by (conv=>lhs;whnf);try rfl) ?_ | refine ZR rfl rfl ?_ | refine Zd rfl rfl ?_ | refine Zz rfl rfl ?_ | refine g_bits rfl rfl rfl rfl ?_ | refine ZS rfl rfl rfl (by decide) ?_ | refine g_rem rfl rfl rfl (by first | decide | omega) ?_ | refine ZU rfl rfl ?_ | refine Zv Tryz.underlying9 rfl rfl ?_ | refine ZT rfl (by (conv=>lhs;whnf);try rfl) (by (conv=>lhs;whnf);try rfl) (by rfl) ?_ | refine Zl rfl rfl ?_ | refine Zm rfl rfl rfl (by (conv=>lhs;whnf);try rfl) (by (conv=>lhs;whnf);try rfl) (by rfl) (by rfl) (Nat.le_of_ble_eq_true rfl) (by (conv=>lhs;whnf);try rfl) ?_ | refine Zn rfl rfl ?_ | refine Za rfl rfl rfl (by rfl) (by decide) (by (conv=>lhs;whnf);try rfl) ?_ | refine Zf rfl rfl rfl ?_ | refine ZQ rfl rfl ?_ | refine ZB rfl rfl (by (conv=>lhs;whnf);try rfl) ?_ | refine g_field rfl rfl rfl ?_ | refine Zo ?_ | refine Zp (by kernel_rfl) ?_ | refine Zr ?_ | refine Zb ?_ | refine Zh ?_ | refine Zj ?_ | refine Zs ?_ | refine Zk ?_ | refine Zq ?_ | refine Zt ?_ | refine ZC ?_ | refine Zg ?_ | refine Zu ?_ | refine ZD ?_)
 exact Zdk (Zda 1003 0 1 rfl rfl rfl rfl rfl) (Zdk (ZjG 1003 1004 0 2 78 5 rfl rfl rfl rfl rfl) (Zdt (.inl rfl) (0,0) (0,1000) (fun k=>if k=1003 then (3,7) else if k=1004 then (4,0) else νa k) νa [_,_,_,_,_,_] [] rfl rfl trivial rfl rfl (ZG rfl (ZG rfl (ZG rfl (ZG rfl (Zal _))))) rfl rfl))
theorem ZnA (pre:List Arg) (a:Arg):(pre.map Arg.cs ++ [a.cs]).length=pre.length+1:=by simp
theorem ZnB (pre:List Arg) (a:Arg) (x:List PV):(pre.map Arg.cs ++ [a.cs] ++ [x])[pre.length+1]? = some x:=by
 have:=Zbm (pre.map Arg.cs ++ [a.cs]) x
 rwa [ZnA] at this
theorem ZnC (pre:List Arg) (a:Arg) (x y:List PV):(pre.map Arg.cs ++ [a.cs] ++ [x]).set (pre.length+1) y=pre.map Arg.cs ++ [a.cs] ++ [y]:=by
 have:=ZbT (pre.map Arg.cs ++ [a.cs]) x y
 rwa [ZnA] at this
theorem ZnD (pre:List Arg) (x:List PV):(pre.map Arg.cs ++ [x])[pre.length]? = some x:=by
 have:=Zbm (pre.map Arg.cs) x
 rwa [List.length_map] at this
theorem ZnE (pre:List Arg) (x y:List PV):(pre.map Arg.cs ++ [x]).set pre.length y=pre.map Arg.cs ++ [y]:=by
 have:=ZbT (pre.map Arg.cs) x y
 rwa [List.length_map] at this
theorem Zpq (pre:List Arg) (a:Arg) (x y:List PV):(pre.map Arg.cs ++ [a.cs] ++ [x]).set (pre.length+1) y=(pre ++ [a]).map Arg.cs ++ [y]:=by
 rw [ZnC]
 simp
set_option maxRecDepth 100000 in
set_option maxHeartbeats 1000000 in
theorem Zpr (tag count:Int) (list:List (List PV)) (pre:List Arg) (a:Arg) (r:List El) (hs:small ⟨3,tag,count,list,some (pre,a)⟩ r):PC 106 [] ⟨3,tag,count,list,some (pre,a)⟩ r (.tup []) ⟨3,tag,count,list,some (pre ++ [a],⟨false,[],[]⟩)⟩ r:=by
 have hp:pre.length≤1000000:=hs.2 _ rfl
 refine ZZ mix Tryz.func106 (by kernel_rfl) rfl (by kernel_rfl) ?_
 rw [ZbY]
 repeat (first | (refine Zad [] νa (Zb8 _ r hs.1) rfl rfl rfl rfl rfl rfl ?_) | refine ZA rfl (by (conv=>lhs;whnf);try rfl) ?_ | refine Zx rfl rfl rfl ?_ | refine Zc rfl rfl ?_ | refine Zi rfl (by (conv=>lhs;whnf);try rfl) ?_ | refine ZM rfl rfl (by omega) ?_ | refine ZL rfl rfl rfl (by omega) (by omega) ?_ | refine ZI rfl rfl rfl (by omega) ?_ | refine ZK rfl rfl rfl (by omega) (by omega) ?_ | refine ZN rfl rfl rfl rfl (by (conv=>lhs;whnf);try rfl) ?_ | refine ZP rfl rfl rfl rfl (by (conv=>lhs;whnf);try rfl) ?_ | refine ZR rfl rfl ?_ | refine Zd rfl rfl ?_ | refine Zz rfl rfl ?_ | refine g_bits rfl rfl rfl rfl ?_ | refine ZS rfl rfl rfl (by decide) ?_ | refine g_rem rfl rfl rfl (by first | decide | omega) ?_ | refine ZU rfl rfl ?_ | refine Zv Tryz.underlying9 rfl rfl ?_ | refine ZT rfl (by (conv=>lhs;whnf);try rfl) (by (conv=>lhs;whnf);try rfl) (by rfl) ?_ | refine Zl rfl rfl ?_ | refine Zm rfl rfl rfl (by (conv=>lhs;whnf);try rfl) (by (conv=>lhs;whnf);try rfl) (by rfl) (by rfl) (Nat.le_of_ble_eq_true rfl) (by (conv=>lhs;whnf);try rfl) ?_ | refine Zn rfl rfl ?_ | refine Za rfl rfl rfl (by rfl) (by decide) (by (conv=>lhs;whnf);try rfl) ?_ | refine Zf rfl rfl rfl ?_ | refine ZQ rfl rfl ?_ | refine ZB rfl rfl (by (conv=>lhs;whnf);try rfl) ?_ | refine g_field rfl rfl rfl ?_ | refine Zo ?_ | refine Zp (by kernel_rfl) ?_ | refine Zr ?_ | refine Zb ?_ | refine Zh ?_ | refine Zj ?_ | refine Zs ?_ | refine Zk ?_ | refine Zq ?_ | refine Zt ?_ | refine ZC ?_ | refine Zg ?_ | refine Zu ?_ | refine ZD ?_)
 refine ZV rfl rfl ?_
 refine ZaF (Zda 1003 pre.length 2 rfl (Za9 _ _ _ _) rfl rfl (ZfB _ _ _ _ _)) ?_ (List.cons_ne_nil _ _)
 repeat (first | (refine ZhT rfl rfl rfl rfl (Nat.le_of_ble_eq_true rfl) rfl ?_) | (refine ZiC (els:=pre.map Arg.cs ++ [a.cs]) (new:=[[.bool false,.nil,.nil]]) rfl rfl rfl rfl (by simp;omega) (by simp;omega) (by simp) ?_) | refine ZA rfl (by (conv=>lhs;whnf);try rfl) ?_ | refine Zx rfl rfl rfl ?_ | refine Zc rfl rfl ?_ | refine Zi rfl (by (conv=>lhs;whnf);try rfl) ?_ | refine ZM rfl rfl (by omega) ?_ | refine ZL rfl rfl rfl (by omega) (by omega) ?_ | refine ZI rfl rfl rfl (by omega) ?_ | refine ZK rfl rfl rfl (by omega) (by omega) ?_ | refine ZN rfl rfl rfl rfl (by (conv=>lhs;whnf);try rfl) ?_ | refine ZP rfl rfl rfl rfl (by (conv=>lhs;whnf);try rfl) ?_ | refine ZR rfl rfl ?_ | refine Zd rfl rfl ?_ | refine Zz rfl rfl ?_ | refine g_bits rfl rfl rfl rfl ?_ | refine ZS rfl rfl rfl (by decide) ?_ | refine g_rem rfl rfl rfl (by first | decide | omega) ?_ | refine ZU rfl rfl ?_ | refine Zv Tryz.underlying9 rfl rfl ?_ | refine ZT rfl (by (conv=>lhs;whnf);try rfl) (by (conv=>lhs;whnf);try rfl) (by rfl) ?_ | refine Zl rfl rfl ?_ | refine Zm rfl rfl rfl (by (conv=>lhs;whnf);try rfl) (by (conv=>lhs;whnf);try rfl) (by rfl) (by rfl) (Nat.le_of_ble_eq_true rfl) (by (conv=>lhs;whnf);try rfl) ?_ | refine Zn rfl rfl ?_ | refine Za rfl rfl rfl (by rfl) (by decide) (by (conv=>lhs;whnf);try rfl) ?_ | refine Zf rfl rfl rfl ?_ | refine ZQ rfl rfl ?_ | refine ZB rfl rfl (by (conv=>lhs;whnf);try rfl) ?_ | refine g_field rfl rfl rfl ?_ | refine Zo ?_ | refine Zp (by kernel_rfl) ?_ | refine Zr ?_ | refine Zb ?_ | refine Zh ?_ | refine Zj ?_ | refine Zs ?_ | refine Zk ?_ | refine Zq ?_ | refine Zt ?_ | refine ZC ?_ | refine Zg ?_ | refine Zu ?_ | refine ZD ?_)
 exact Zdk (Zda 1003 (pre.length+1) 1 rfl (ZnB _ _ _) rfl rfl (ZnC _ _ _ _)) (Zdk (ZjG 1003 1004 (pre.length+1) 2 78 5 rfl rfl (ZnB _ _ _) rfl (Zpq _ _ _ _)) (Zdt (.inl rfl) (0,0) (0,1000) (fun k=>if k=1003 then (3,7) else if k=1004 then (4,0) else νa k) νa [_,_,_,_,_,_,_,_] [] rfl rfl trivial rfl rfl (ZG rfl (ZG rfl (ZG rfl (ZG rfl (Zal _))))) rfl rfl))
set_option maxRecDepth 100000 in
set_option maxHeartbeats 1000000 in
theorem Zjf (e e':El) (r:List El) (hs:small e r) (h63:e.cur.length≤9223372036854775807) (hc:e.kind≠3∨e.args=none∨∃ pre a,e.args=some (pre,a)∧a.named=true) (h:ZaR e ⟨#[61]⟩=some e'):PC 107 [] e r (.tup []) e' r:=by
 refine ZZ mix Tryz.func107 (by kernel_rfl) rfl (by kernel_rfl) ?_
 rw [ZbY]
 obtain ⟨kind,tag,count,list,args⟩:=e
 rcases args with _ | ⟨pre,a⟩
 ·by_cases hk:kind=3
  ·subst hk
   repeat (first | (refine Zad [] νa (Zb8 _ r hs.1) rfl rfl rfl rfl rfl rfl ?_) | (refine Zbc (n:=0) rfl rfl rfl ?_) | (refine Zaj rfl ?_) | (refine Zw rfl rfl ?_) | (refine ZY [] νa (ZbP _ r _ hs h63 e' h) rfl rfl rfl rfl rfl rfl ?_) | refine ZA rfl (by (conv=>lhs;whnf);try rfl) ?_ | refine Zx rfl rfl rfl ?_ | refine Zc rfl rfl ?_ | refine Zi rfl (by (conv=>lhs;whnf);try rfl) ?_ | refine ZM rfl rfl (by omega) ?_ | refine ZL rfl rfl rfl (by omega) (by omega) ?_ | refine ZI rfl rfl rfl (by omega) ?_ | refine ZK rfl rfl rfl (by omega) (by omega) ?_ | refine ZN rfl rfl rfl rfl (by (conv=>lhs;whnf);try rfl) ?_ | refine ZP rfl rfl rfl rfl (by (conv=>lhs;whnf);try rfl) ?_ | refine ZR rfl rfl ?_ | refine Zd rfl rfl ?_ | refine Zz rfl rfl ?_ | refine g_bits rfl rfl rfl rfl ?_ | refine ZS rfl rfl rfl (by decide) ?_ | refine g_rem rfl rfl rfl (by first | decide | omega) ?_ | refine ZU rfl rfl ?_ | refine Zv Tryz.underlying9 rfl rfl ?_ | refine ZT rfl (by (conv=>lhs;whnf);try rfl) (by (conv=>lhs;whnf);try rfl) (by rfl) ?_ | refine Zl rfl rfl ?_ | refine Zm rfl rfl rfl (by (conv=>lhs;whnf);try rfl) (by (conv=>lhs;whnf);try rfl) (by rfl) (by rfl) (Nat.le_of_ble_eq_true rfl) (by (conv=>lhs;whnf);try rfl) ?_ | refine Zn rfl rfl ?_ | refine Za rfl rfl rfl (by rfl) (by decide) (by (conv=>lhs;whnf);try rfl) ?_ | refine Zf rfl rfl rfl ?_ | refine ZQ rfl rfl ?_ | refine ZB rfl rfl (by (conv=>lhs;whnf);try rfl) ?_ | refine g_field rfl rfl rfl ?_ | refine Zo ?_ | refine Zp (by kernel_rfl) ?_ | refine Zr ?_ | refine Zb ?_ | refine Zh ?_ | refine Zj ?_ | refine Zs ?_ | refine Zk ?_ | refine Zq ?_ | refine Zt ?_ | refine ZC ?_ | refine Zg ?_ | refine Zu ?_ | refine ZD ?_)
   exact Zbr (.inr rfl) (νc 4 1) [] [] rfl rfl trivial rfl rfl
  ·repeat (first | (refine Zad [] νa (Zb8 _ r hs.1) rfl rfl rfl rfl rfl rfl ?_) | (refine Zbc (n:=0) rfl rfl rfl ?_) | refine ZA rfl (by (conv=>lhs;whnf);try rfl) ?_ | refine Zx rfl rfl rfl ?_ | refine Zc rfl rfl ?_ | refine Zi rfl (by (conv=>lhs;whnf);try rfl) ?_ | refine ZM rfl rfl (by omega) ?_ | refine ZL rfl rfl rfl (by omega) (by omega) ?_ | refine ZI rfl rfl rfl (by omega) ?_ | refine ZK rfl rfl rfl (by omega) (by omega) ?_ | refine ZN rfl rfl rfl rfl (by (conv=>lhs;whnf);try rfl) ?_ | refine ZP rfl rfl rfl rfl (by (conv=>lhs;whnf);try rfl) ?_ | refine ZR rfl rfl ?_ | refine Zd rfl rfl ?_ | refine Zz rfl rfl ?_ | refine g_bits rfl rfl rfl rfl ?_ | refine ZS rfl rfl rfl (by decide) ?_ | refine g_rem rfl rfl rfl (by first | decide | omega) ?_ | refine ZU rfl rfl ?_ | refine Zv Tryz.underlying9 rfl rfl ?_ | refine ZT rfl (by (conv=>lhs;whnf);try rfl) (by (conv=>lhs;whnf);try rfl) (by rfl) ?_ | refine Zl rfl rfl ?_ | refine Zm rfl rfl rfl (by (conv=>lhs;whnf);try rfl) (by (conv=>lhs;whnf);try rfl) (by rfl) (by rfl) (Nat.le_of_ble_eq_true rfl) (by (conv=>lhs;whnf);try rfl) ?_ | refine Zn rfl rfl ?_ | refine Za rfl rfl rfl (by rfl) (by decide) (by (conv=>lhs;whnf);try rfl) ?_ | refine Zf rfl rfl rfl ?_ | refine ZQ rfl rfl ?_ | refine ZB rfl rfl (by (conv=>lhs;whnf);try rfl) ?_ | refine g_field rfl rfl rfl ?_ | refine Zo ?_ | refine Zp (by kernel_rfl) ?_ | refine Zr ?_ | refine Zb ?_ | refine Zh ?_ | refine Zj ?_ | refine Zs ?_ | refine Zk ?_ | refine Zq ?_ | refine Zt ?_ | refine ZC ?_ | refine Zg ?_ | refine Zu ?_ | refine ZD ?_)
   rw [decide_eq_false hk]
   repeat (first | (refine Zaj rfl ?_) | (refine Zw rfl rfl ?_) | (refine ZY [] νa (ZbP _ r _ hs h63 e' h) rfl rfl rfl rfl rfl rfl ?_) | refine ZA rfl (by (conv=>lhs;whnf);try rfl) ?_ | refine Zx rfl rfl rfl ?_ | refine Zc rfl rfl ?_ | refine Zi rfl (by (conv=>lhs;whnf);try rfl) ?_ | refine ZM rfl rfl (by omega) ?_ | refine ZL rfl rfl rfl (by omega) (by omega) ?_ | refine ZI rfl rfl rfl (by omega) ?_ | refine ZK rfl rfl rfl (by omega) (by omega) ?_ | refine ZN rfl rfl rfl rfl (by (conv=>lhs;whnf);try rfl) ?_ | refine ZP rfl rfl rfl rfl (by (conv=>lhs;whnf);try rfl) ?_ | refine ZR rfl rfl ?_ | refine Zd rfl rfl ?_ | refine Zz rfl rfl ?_ | refine g_bits rfl rfl rfl rfl ?_ | refine ZS rfl rfl rfl (by decide) ?_ | refine g_rem rfl rfl rfl (by first | decide | omega) ?_ | refine ZU rfl rfl ?_ | refine Zv Tryz.underlying9 rfl rfl ?_ | refine ZT rfl (by (conv=>lhs;whnf);try rfl) (by (conv=>lhs;whnf);try rfl) (by rfl) ?_ | refine Zl rfl rfl ?_ | refine Zm rfl rfl rfl (by (conv=>lhs;whnf);try rfl) (by (conv=>lhs;whnf);try rfl) (by rfl) (by rfl) (Nat.le_of_ble_eq_true rfl) (by (conv=>lhs;whnf);try rfl) ?_ | refine Zn rfl rfl ?_ | refine Za rfl rfl rfl (by rfl) (by decide) (by (conv=>lhs;whnf);try rfl) ?_ | refine Zf rfl rfl rfl ?_ | refine ZQ rfl rfl ?_ | refine ZB rfl rfl (by (conv=>lhs;whnf);try rfl) ?_ | refine g_field rfl rfl rfl ?_ | refine Zo ?_ | refine Zp (by kernel_rfl) ?_ | refine Zr ?_ | refine Zb ?_ | refine Zh ?_ | refine Zj ?_ | refine Zs ?_ | refine Zk ?_ | refine Zq ?_ | refine Zt ?_ | refine ZC ?_ | refine Zg ?_ | refine Zu ?_ | refine ZD ?_)
   exact Zbr (.inr rfl) (νc 4 1) [] [] rfl rfl trivial rfl rfl
 ·have hp:pre.length≤1000000:=hs.2 _ rfl
  by_cases hk:kind=3
  ·obtain ⟨named,name,value⟩:=a
   obtain rfl:named=true:=by
    rcases hc with hc | hc | ⟨pre',a',h1,h2⟩
    ·exact absurd hk hc
    ·cases hc
    ·injection h1 with h1
     injection h1 with _ h1
     rw [← h1] at h2
     exact h2
   subst hk
   repeat (first | (refine Zad [] νa (Zb8 _ r hs.1) rfl rfl rfl rfl rfl rfl ?_) | (refine Zbc rfl rfl (Zdn ..) ?_) | refine ZA rfl (by (conv=>lhs;whnf);try rfl) ?_ | refine Zx rfl rfl rfl ?_ | refine Zc rfl rfl ?_ | refine Zi rfl (by (conv=>lhs;whnf);try rfl) ?_ | refine ZM rfl rfl (by omega) ?_ | refine ZL rfl rfl rfl (by omega) (by omega) ?_ | refine ZI rfl rfl rfl (by omega) ?_ | refine ZK rfl rfl rfl (by omega) (by omega) ?_ | refine ZN rfl rfl rfl rfl (by (conv=>lhs;whnf);try rfl) ?_ | refine ZP rfl rfl rfl rfl (by (conv=>lhs;whnf);try rfl) ?_ | refine ZR rfl rfl ?_ | refine Zd rfl rfl ?_ | refine Zz rfl rfl ?_ | refine g_bits rfl rfl rfl rfl ?_ | refine ZS rfl rfl rfl (by decide) ?_ | refine g_rem rfl rfl rfl (by first | decide | omega) ?_ | refine ZU rfl rfl ?_ | refine Zv Tryz.underlying9 rfl rfl ?_ | refine ZT rfl (by (conv=>lhs;whnf);try rfl) (by (conv=>lhs;whnf);try rfl) (by rfl) ?_ | refine Zl rfl rfl ?_ | refine Zm rfl rfl rfl (by (conv=>lhs;whnf);try rfl) (by (conv=>lhs;whnf);try rfl) (by rfl) (by rfl) (Nat.le_of_ble_eq_true rfl) (by (conv=>lhs;whnf);try rfl) ?_ | refine Zn rfl rfl ?_ | refine Za rfl rfl rfl (by rfl) (by decide) (by (conv=>lhs;whnf);try rfl) ?_ | refine Zf rfl rfl rfl ?_ | refine ZQ rfl rfl ?_ | refine ZB rfl rfl (by (conv=>lhs;whnf);try rfl) ?_ | refine g_field rfl rfl rfl ?_ | refine Zo ?_ | refine Zp (by kernel_rfl) ?_ | refine Zr ?_ | refine Zb ?_ | refine Zh ?_ | refine Zj ?_ | refine Zs ?_ | refine Zk ?_ | refine Zq ?_ | refine Zt ?_ | refine ZC ?_ | refine Zg ?_ | refine Zu ?_ | refine ZD ?_)
   rw [show decide ((0:Int)<((pre.length+1:Nat):Int))=true from decide_eq_true (by omega)]
   repeat (first | (refine ZI rfl rfl rfl (by omega) ?_) | (refine Zd0 rfl rfl rfl rfl (by rw [Zdn];omega) ?_) | (refine Zcy rfl rfl rfl (Za9 _ _ _ _) rfl ?_) | (refine Zw rfl rfl ?_) | (refine ZY [] νa (ZbP _ r _ hs h63 e' h) rfl rfl rfl rfl rfl rfl ?_) | refine ZA rfl (by (conv=>lhs;whnf);try rfl) ?_ | refine Zx rfl rfl rfl ?_ | refine Zc rfl rfl ?_ | refine Zi rfl (by (conv=>lhs;whnf);try rfl) ?_ | refine ZM rfl rfl (by omega) ?_ | refine ZL rfl rfl rfl (by omega) (by omega) ?_ | refine ZI rfl rfl rfl (by omega) ?_ | refine ZK rfl rfl rfl (by omega) (by omega) ?_ | refine ZN rfl rfl rfl rfl (by (conv=>lhs;whnf);try rfl) ?_ | refine ZP rfl rfl rfl rfl (by (conv=>lhs;whnf);try rfl) ?_ | refine ZR rfl rfl ?_ | refine Zd rfl rfl ?_ | refine Zz rfl rfl ?_ | refine g_bits rfl rfl rfl rfl ?_ | refine ZS rfl rfl rfl (by decide) ?_ | refine g_rem rfl rfl rfl (by first | decide | omega) ?_ | refine ZU rfl rfl ?_ | refine Zv Tryz.underlying9 rfl rfl ?_ | refine ZT rfl (by (conv=>lhs;whnf);try rfl) (by (conv=>lhs;whnf);try rfl) (by rfl) ?_ | refine Zl rfl rfl ?_ | refine Zm rfl rfl rfl (by (conv=>lhs;whnf);try rfl) (by (conv=>lhs;whnf);try rfl) (by rfl) (by rfl) (Nat.le_of_ble_eq_true rfl) (by (conv=>lhs;whnf);try rfl) ?_ | refine Zn rfl rfl ?_ | refine Za rfl rfl rfl (by rfl) (by decide) (by (conv=>lhs;whnf);try rfl) ?_ | refine Zf rfl rfl rfl ?_ | refine ZQ rfl rfl ?_ | refine ZB rfl rfl (by (conv=>lhs;whnf);try rfl) ?_ | refine g_field rfl rfl rfl ?_ | refine Zo ?_ | refine Zp (by kernel_rfl) ?_ | refine Zr ?_ | refine Zb ?_ | refine Zh ?_ | refine Zj ?_ | refine Zs ?_ | refine Zk ?_ | refine Zq ?_ | refine Zt ?_ | refine ZC ?_ | refine Zg ?_ | refine Zu ?_ | refine ZD ?_)
   exact Zbr (.inr rfl) (νc 4 1) [] [] rfl rfl trivial rfl rfl
  ·repeat (first | (refine Zad [] νa (Zb8 _ r hs.1) rfl rfl rfl rfl rfl rfl ?_) | (refine Zbc rfl rfl (Zdn ..) ?_) | refine ZA rfl (by (conv=>lhs;whnf);try rfl) ?_ | refine Zx rfl rfl rfl ?_ | refine Zc rfl rfl ?_ | refine Zi rfl (by (conv=>lhs;whnf);try rfl) ?_ | refine ZM rfl rfl (by omega) ?_ | refine ZL rfl rfl rfl (by omega) (by omega) ?_ | refine ZI rfl rfl rfl (by omega) ?_ | refine ZK rfl rfl rfl (by omega) (by omega) ?_ | refine ZN rfl rfl rfl rfl (by (conv=>lhs;whnf);try rfl) ?_ | refine ZP rfl rfl rfl rfl (by (conv=>lhs;whnf);try rfl) ?_ | refine ZR rfl rfl ?_ | refine Zd rfl rfl ?_ | refine Zz rfl rfl ?_ | refine g_bits rfl rfl rfl rfl ?_ | refine ZS rfl rfl rfl (by decide) ?_ | refine g_rem rfl rfl rfl (by first | decide | omega) ?_ | refine ZU rfl rfl ?_ | refine Zv Tryz.underlying9 rfl rfl ?_ | refine ZT rfl (by (conv=>lhs;whnf);try rfl) (by (conv=>lhs;whnf);try rfl) (by rfl) ?_ | refine Zl rfl rfl ?_ | refine Zm rfl rfl rfl (by (conv=>lhs;whnf);try rfl) (by (conv=>lhs;whnf);try rfl) (by rfl) (by rfl) (Nat.le_of_ble_eq_true rfl) (by (conv=>lhs;whnf);try rfl) ?_ | refine Zn rfl rfl ?_ | refine Za rfl rfl rfl (by rfl) (by decide) (by (conv=>lhs;whnf);try rfl) ?_ | refine Zf rfl rfl rfl ?_ | refine ZQ rfl rfl ?_ | refine ZB rfl rfl (by (conv=>lhs;whnf);try rfl) ?_ | refine g_field rfl rfl rfl ?_ | refine Zo ?_ | refine Zp (by kernel_rfl) ?_ | refine Zr ?_ | refine Zb ?_ | refine Zh ?_ | refine Zj ?_ | refine Zs ?_ | refine Zk ?_ | refine Zq ?_ | refine Zt ?_ | refine ZC ?_ | refine Zg ?_ | refine Zu ?_ | refine ZD ?_)
   rw [decide_eq_false hk]
   repeat (first | (refine Zaj rfl ?_) | (refine Zw rfl rfl ?_) | (refine ZY [] νa (ZbP _ r _ hs h63 e' h) rfl rfl rfl rfl rfl rfl ?_) | refine ZA rfl (by (conv=>lhs;whnf);try rfl) ?_ | refine Zx rfl rfl rfl ?_ | refine Zc rfl rfl ?_ | refine Zi rfl (by (conv=>lhs;whnf);try rfl) ?_ | refine ZM rfl rfl (by omega) ?_ | refine ZL rfl rfl rfl (by omega) (by omega) ?_ | refine ZI rfl rfl rfl (by omega) ?_ | refine ZK rfl rfl rfl (by omega) (by omega) ?_ | refine ZN rfl rfl rfl rfl (by (conv=>lhs;whnf);try rfl) ?_ | refine ZP rfl rfl rfl rfl (by (conv=>lhs;whnf);try rfl) ?_ | refine ZR rfl rfl ?_ | refine Zd rfl rfl ?_ | refine Zz rfl rfl ?_ | refine g_bits rfl rfl rfl rfl ?_ | refine ZS rfl rfl rfl (by decide) ?_ | refine g_rem rfl rfl rfl (by first | decide | omega) ?_ | refine ZU rfl rfl ?_ | refine Zv Tryz.underlying9 rfl rfl ?_ | refine ZT rfl (by (conv=>lhs;whnf);try rfl) (by (conv=>lhs;whnf);try rfl) (by rfl) ?_ | refine Zl rfl rfl ?_ | refine Zm rfl rfl rfl (by (conv=>lhs;whnf);try rfl) (by (conv=>lhs;whnf);try rfl) (by rfl) (by rfl) (Nat.le_of_ble_eq_true rfl) (by (conv=>lhs;whnf);try rfl) ?_ | refine Zn rfl rfl ?_ | refine Za rfl rfl rfl (by rfl) (by decide) (by (conv=>lhs;whnf);try rfl) ?_ | refine Zf rfl rfl rfl ?_ | refine ZQ rfl rfl ?_ | refine ZB rfl rfl (by (conv=>lhs;whnf);try rfl) ?_ | refine g_field rfl rfl rfl ?_ | refine Zo ?_ | refine Zp (by kernel_rfl) ?_ | refine Zr ?_ | refine Zb ?_ | refine Zh ?_ | refine Zj ?_ | refine Zs ?_ | refine Zk ?_ | refine Zq ?_ | refine Zt ?_ | refine ZC ?_ | refine Zg ?_ | refine Zu ?_ | refine ZD ?_)
   exact Zbr (.inr rfl) (νc 4 1) [] [] rfl rfl trivial rfl rfl
set_option maxRecDepth 100000 in
set_option maxHeartbeats 1000000 in
theorem ZnF (tag count:Int) (list:List (List PV)) (pre:List Arg) (name value:List (List PV)) (r:List El) (hs:small ⟨3,tag,count,list,some (pre,⟨false,name,value⟩)⟩ r):PC 107 [] ⟨3,tag,count,list,some (pre,⟨false,name,value⟩)⟩ r (.tup []) ⟨3,tag,count,list,some (pre,⟨true,value,[]⟩)⟩ r:=by
 have hp:pre.length≤1000000:=hs.2 _ rfl
 refine ZZ mix Tryz.func107 (by kernel_rfl) rfl (by kernel_rfl) ?_
 rw [ZbY]
 repeat (first | (refine Zad [] νa (Zb8 _ r hs.1) rfl rfl rfl rfl rfl rfl ?_) | (refine Zbc rfl rfl (Zdn ..) ?_) | refine ZA rfl (by (conv=>lhs;whnf);try rfl) ?_ | refine Zx rfl rfl rfl ?_ | refine Zc rfl rfl ?_ | refine Zi rfl (by (conv=>lhs;whnf);try rfl) ?_ | refine ZM rfl rfl (by omega) ?_ | refine ZL rfl rfl rfl (by omega) (by omega) ?_ | refine ZI rfl rfl rfl (by omega) ?_ | refine ZK rfl rfl rfl (by omega) (by omega) ?_ | refine ZN rfl rfl rfl rfl (by (conv=>lhs;whnf);try rfl) ?_ | refine ZP rfl rfl rfl rfl (by (conv=>lhs;whnf);try rfl) ?_ | refine ZR rfl rfl ?_ | refine Zd rfl rfl ?_ | refine Zz rfl rfl ?_ | refine g_bits rfl rfl rfl rfl ?_ | refine ZS rfl rfl rfl (by decide) ?_ | refine g_rem rfl rfl rfl (by first | decide | omega) ?_ | refine ZU rfl rfl ?_ | refine Zv Tryz.underlying9 rfl rfl ?_ | refine ZT rfl (by (conv=>lhs;whnf);try rfl) (by (conv=>lhs;whnf);try rfl) (by rfl) ?_ | refine Zl rfl rfl ?_ | refine Zm rfl rfl rfl (by (conv=>lhs;whnf);try rfl) (by (conv=>lhs;whnf);try rfl) (by rfl) (by rfl) (Nat.le_of_ble_eq_true rfl) (by (conv=>lhs;whnf);try rfl) ?_ | refine Zn rfl rfl ?_ | refine Za rfl rfl rfl (by rfl) (by decide) (by (conv=>lhs;whnf);try rfl) ?_ | refine Zf rfl rfl rfl ?_ | refine ZQ rfl rfl ?_ | refine ZB rfl rfl (by (conv=>lhs;whnf);try rfl) ?_ | refine g_field rfl rfl rfl ?_ | refine Zo ?_ | refine Zp (by kernel_rfl) ?_ | refine Zr ?_ | refine Zb ?_ | refine Zh ?_ | refine Zj ?_ | refine Zs ?_ | refine Zk ?_ | refine Zq ?_ | refine Zt ?_ | refine ZC ?_ | refine Zg ?_ | refine Zu ?_ | refine ZD ?_)
 rw [show decide ((0:Int)<((pre.length+1:Nat):Int))=true from decide_eq_true (by omega)]
 repeat (first | (refine ZI rfl rfl rfl (by omega) ?_) | (refine Zd0 rfl rfl rfl rfl (by rw [Zdn];omega) ?_) | (refine Zcy rfl rfl rfl (Za9 _ _ _ _) rfl ?_) | (refine ZV rfl rfl ?_) | (refine ZhS rfl rfl rfl (Za9 _ _ _ _) rfl rfl rfl rfl (Nat.le_of_ble_eq_true rfl) (ZfB _ _ _ _ _) ?_) | refine ZA rfl (by (conv=>lhs;whnf);try rfl) ?_ | refine Zx rfl rfl rfl ?_ | refine Zc rfl rfl ?_ | refine Zi rfl (by (conv=>lhs;whnf);try rfl) ?_ | refine ZM rfl rfl (by omega) ?_ | refine ZL rfl rfl rfl (by omega) (by omega) ?_ | refine ZI rfl rfl rfl (by omega) ?_ | refine ZK rfl rfl rfl (by omega) (by omega) ?_ | refine ZN rfl rfl rfl rfl (by (conv=>lhs;whnf);try rfl) ?_ | refine ZP rfl rfl rfl rfl (by (conv=>lhs;whnf);try rfl) ?_ | refine ZR rfl rfl ?_ | refine Zd rfl rfl ?_ | refine Zz rfl rfl ?_ | refine g_bits rfl rfl rfl rfl ?_ | refine ZS rfl rfl rfl (by decide) ?_ | refine g_rem rfl rfl rfl (by first | decide | omega) ?_ | refine ZU rfl rfl ?_ | refine Zv Tryz.underlying9 rfl rfl ?_ | refine ZT rfl (by (conv=>lhs;whnf);try rfl) (by (conv=>lhs;whnf);try rfl) (by rfl) ?_ | refine Zl rfl rfl ?_ | refine Zm rfl rfl rfl (by (conv=>lhs;whnf);try rfl) (by (conv=>lhs;whnf);try rfl) (by rfl) (by rfl) (Nat.le_of_ble_eq_true rfl) (by (conv=>lhs;whnf);try rfl) ?_ | refine Zn rfl rfl ?_ | refine Za rfl rfl rfl (by rfl) (by decide) (by (conv=>lhs;whnf);try rfl) ?_ | refine Zf rfl rfl rfl ?_ | refine ZQ rfl rfl ?_ | refine ZB rfl rfl (by (conv=>lhs;whnf);try rfl) ?_ | refine g_field rfl rfl rfl ?_ | refine Zo ?_ | refine Zp (by kernel_rfl) ?_ | refine Zr ?_ | refine Zb ?_ | refine Zh ?_ | refine Zj ?_ | refine Zs ?_ | refine Zk ?_ | refine Zq ?_ | refine Zt ?_ | refine ZC ?_ | refine Zg ?_ | refine Zu ?_ | refine ZD ?_)
 exact Zdk (Zda 1003 pre.length 1 rfl (ZnD _ _) rfl rfl (ZnE _ _ _)) (Zdk (ZjG 1003 1004 pre.length 2 78 5 rfl rfl (ZnD _ _) rfl (ZnE _ _ _)) (Zdt (.inl rfl) (0,0) (0,1000) (fun k=>if k=1004 then (5,0) else νa k) νa [_,_,_,_,_] [] rfl rfl trivial rfl rfl (ZG rfl (ZG rfl (ZG rfl (ZG rfl (Zal _))))) rfl rfl))
def ZgI:El→List (List PV)→Option El
 | e,[]=>some e
 | e,x::l=>(Zrd x).bind fun n=>(if n.kind=1 then ZaR e n.text else ZdG e n).bind fun e'=>ZgI e' l
def fit (e:El) (r:List El):Prop:=small e r∧e.cur.length≤9223372036854775807
theorem Zhy {e:El} {r:List El} {l:List (List PV)} (h:small e r):small (e.setCur l) r:=by
 obtain ⟨kind,tag,count,list,args⟩:=e
 refine ⟨h.1,fun q hq=>?_⟩
 rcases args with _ | ⟨pre,a⟩
 ·cases hq
 ·by_cases hk:kind=3
  ·have e1:VL.El.setCur ⟨kind,tag,count,list,some (pre,a)⟩ l=⟨kind,tag,count,list,some (pre,⟨a.named,a.name,l⟩)⟩:=if_pos hk
   rw [e1] at hq
   injection hq with hq
   rw [← hq]
   exact h.2 (pre,a) rfl
  ·have e1:VL.El.setCur ⟨kind,tag,count,list,some (pre,a)⟩ l=⟨kind,tag,count,l,some (pre,a)⟩:=if_neg hk
   rw [e1] at hq
   exact h.2 q hq
theorem ZjD (e:El) (l:List (List PV)):(e.setCur l).cur=l:=by
 obtain ⟨kind,tag,count,list,args⟩:=e
 rcases args with _ | ⟨pre,a⟩
 ·rfl
 ·by_cases hk:kind=3
  ·have e1:VL.El.setCur ⟨kind,tag,count,list,some (pre,a)⟩ l=⟨kind,tag,count,list,some (pre,⟨a.named,a.name,l⟩)⟩:=if_pos hk
   rw [e1]
   exact if_pos hk
  ·have e1:VL.El.setCur ⟨kind,tag,count,list,some (pre,a)⟩ l=⟨kind,tag,count,l,some (pre,a)⟩:=if_neg hk
   rw [e1]
   exact if_neg hk
theorem ZiT {l l':List (List PV)} {n:Node} (h:ZgZ l n=some l'):l'.length≤9223372036854775807:=by
 obtain ⟨_,h2,rfl⟩:=Zco h
 simpa using h2
theorem ZaA {e e':El} {r:List El} {s:ByteArray} (hf:fit e r) (h:ZaR e s=some e'):fit e' r:=by
 unfold ZaR at h
 split at h
 ·injection h with h
  rw [← h]
  exact hf
 ·obtain ⟨l',hR,rfl⟩:=Option.map_eq_some_iff.1 h
  refine ⟨Zhy hf.1,?_⟩
  rw [ZjD]
  rcases ZdF hR with ⟨_,hR⟩ | ⟨init,n,hl,⟨_,y,_,rfl⟩ | ⟨_,hR⟩⟩
  ·exact ZiT hR
  ·have:=hf.2
   rw [hl,Zcq] at this
   rw [Zcq]
   exact this
  ·exact ZiT hR
theorem ZeB {e e':El} {r:List El} {n:Node} (hf:fit e r) (h:ZdG e n=some e'):fit e' r:=by
 obtain ⟨l',hR,rfl⟩:=Option.map_eq_some_iff.1 h
 exact ⟨Zhy hf.1,by rw [ZjD];exact ZiT hR⟩
theorem ZjE {r:List El}:∀ {l:List (List PV)} {e e':El},fit e r→ZgI e l=some e'→fit e' r
 | [],e,e',hf,h=>by injection h with h;rw [← h];exact hf
 | x::l,e,e',hf,h=>by
   obtain ⟨n,_,h⟩:=Option.bind_eq_some_iff.1 h
   obtain ⟨e1,h1,h⟩:=Option.bind_eq_some_iff.1 h
   refine ZjE (l:=l) (e:=e1) ?_ h
   split at h1
   ·exact ZaA hf h1
   ·exact ZeB hf h1
set_option maxRecDepth 100000 in
set_option maxHeartbeats 1000000 in
theorem ZrB (l:List (List PV)) (e e2:El) (r:List El) (hf:fit e r) (h:ZgI e l=some e2) (hl:l.length≤4611686018427387904):PC 114 [.sl l] e r (.tup []) e2 r:=by
 refine ZZ mix Tryz.func114 (by kernel_rfl) rfl (by kernel_rfl) ?_
 rw [ZbY]
 repeat (first | refine ZA rfl (by (conv=>lhs;whnf);try rfl) ?_ | refine Zx rfl rfl rfl ?_ | refine Zc rfl rfl ?_ | refine Zi rfl (by (conv=>lhs;whnf);try rfl) ?_ | refine ZM rfl rfl (by omega) ?_ | refine ZL rfl rfl rfl (by omega) (by omega) ?_ | refine ZI rfl rfl rfl (by omega) ?_ | refine ZK rfl rfl rfl (by omega) (by omega) ?_ | refine ZN rfl rfl rfl rfl (by (conv=>lhs;whnf);try rfl) ?_ | refine ZP rfl rfl rfl rfl (by (conv=>lhs;whnf);try rfl) ?_ | refine ZR rfl rfl ?_ | refine Zd rfl rfl ?_ | refine Zz rfl rfl ?_ | refine g_bits rfl rfl rfl rfl ?_ | refine ZS rfl rfl rfl (by decide) ?_ | refine g_rem rfl rfl rfl (by first | decide | omega) ?_ | refine ZU rfl rfl ?_ | refine Zv Tryz.underlying9 rfl rfl ?_ | refine ZT rfl (by (conv=>lhs;whnf);try rfl) (by (conv=>lhs;whnf);try rfl) (by rfl) ?_ | refine Zl rfl rfl ?_ | refine Zm rfl rfl rfl (by (conv=>lhs;whnf);try rfl) (by (conv=>lhs;whnf);try rfl) (by rfl) (by rfl) (Nat.le_of_ble_eq_true rfl) (by (conv=>lhs;whnf);try rfl) ?_ | refine Zn rfl rfl ?_ | refine Za rfl rfl rfl (by rfl) (by decide) (by (conv=>lhs;whnf);try rfl) ?_ | refine Zf rfl rfl rfl ?_ | refine ZQ rfl rfl ?_ | refine ZB rfl rfl (by (conv=>lhs;whnf);try rfl) ?_ | refine g_field rfl rfl rfl ?_ | refine Zo ?_ | refine Zp (by kernel_rfl) ?_ | refine Zr ?_ | refine Zb ?_ | refine Zh ?_ | refine Zj ?_ | refine Zs ?_ | refine Zk ?_ | refine Zq ?_ | refine Zt ?_ | refine ZC ?_ | refine Zg ?_ | refine Zu ?_ | refine ZD ?_)
 refine Zac (fun (a:Nat×El) _=>mkS [(0,.ptr 0 (0,0) 0),(6,.sl l),(7,.int .i64 (l.length:Int)),(8,.int .i64 ((a.1:Nat):Int))] (somes (stP νb a.2 r)) 2) (fun a=>a.1≤l.length∧fit a.2 r∧ZgI a.2 (l.drop a.1)=some e2) (fun a=>l.length - a.1) (0,e) 2 ⟨Nat.zero_le _,hf,h⟩
  (Za7 νa [] (fun k=>(k,νa k)) (fun _ _=>rfl) rfl ⟨rfl,rfl,rfl,rfl,trivial⟩ (x:=[]) (x':=[]) rfl rfl rfl (Zal _) rfl) (fun a ng hJ=>?_)
 obtain ⟨q,e1⟩:=a
 obtain ⟨hq,hf1,hn⟩:=hJ
 dsimp only at hq hf1 hn ⊢
 repeat (first | refine ZA rfl (by (conv=>lhs;whnf);try rfl) ?_ | refine Zx rfl rfl rfl ?_ | refine Zc rfl rfl ?_ | refine Zi rfl (by (conv=>lhs;whnf);try rfl) ?_ | refine ZM rfl rfl (by omega) ?_ | refine ZL rfl rfl rfl (by omega) (by omega) ?_ | refine ZI rfl rfl rfl (by omega) ?_ | refine ZK rfl rfl rfl (by omega) (by omega) ?_ | refine ZN rfl rfl rfl rfl (by (conv=>lhs;whnf);try rfl) ?_ | refine ZP rfl rfl rfl rfl (by (conv=>lhs;whnf);try rfl) ?_ | refine ZR rfl rfl ?_ | refine Zd rfl rfl ?_ | refine Zz rfl rfl ?_ | refine g_bits rfl rfl rfl rfl ?_ | refine ZS rfl rfl rfl (by decide) ?_ | refine g_rem rfl rfl rfl (by first | decide | omega) ?_ | refine ZU rfl rfl ?_ | refine Zv Tryz.underlying9 rfl rfl ?_ | refine ZT rfl (by (conv=>lhs;whnf);try rfl) (by (conv=>lhs;whnf);try rfl) (by rfl) ?_ | refine Zl rfl rfl ?_ | refine Zm rfl rfl rfl (by (conv=>lhs;whnf);try rfl) (by (conv=>lhs;whnf);try rfl) (by rfl) (by rfl) (Nat.le_of_ble_eq_true rfl) (by (conv=>lhs;whnf);try rfl) ?_ | refine Zn rfl rfl ?_ | refine Za rfl rfl rfl (by rfl) (by decide) (by (conv=>lhs;whnf);try rfl) ?_ | refine Zf rfl rfl rfl ?_ | refine ZQ rfl rfl ?_ | refine ZB rfl rfl (by (conv=>lhs;whnf);try rfl) ?_ | refine g_field rfl rfl rfl ?_ | refine Zo ?_ | refine Zp (by kernel_rfl) ?_ | refine Zr ?_ | refine Zb ?_ | refine Zh ?_ | refine Zj ?_ | refine Zs ?_ | refine Zk ?_ | refine Zq ?_ | refine Zt ?_ | refine ZC ?_ | refine Zg ?_ | refine Zu ?_ | refine ZD ?_)
 by_cases hlt:q<l.length
 ·refine ZV (by (conv=>lhs;whnf);try rfl) (by simp;omega) ?_
  rw [List.drop_eq_getElem_cons hlt] at hn
  obtain ⟨n,hx,hn⟩:=Option.bind_eq_some_iff.1 hn
  obtain ⟨e3,h3,hn⟩:=Option.bind_eq_some_iff.1 hn
  have hcs:l[q]? = some n.cs:=by rw [List.getElem?_eq_getElem hlt,ZkX hx]
  by_cases hk:n.kind=1
  ·rw [if_pos hk] at h3
   repeat (first | (refine Zdp rfl rfl rfl hcs rfl ?_) | refine ZA rfl (by (conv=>lhs;whnf);try rfl) ?_ | refine Zx rfl rfl rfl ?_ | refine Zc rfl rfl ?_ | refine Zi rfl (by (conv=>lhs;whnf);try rfl) ?_ | refine ZM rfl rfl (by omega) ?_ | refine ZL rfl rfl rfl (by omega) (by omega) ?_ | refine ZI rfl rfl rfl (by omega) ?_ | refine ZK rfl rfl rfl (by omega) (by omega) ?_ | refine ZN rfl rfl rfl rfl (by (conv=>lhs;whnf);try rfl) ?_ | refine ZP rfl rfl rfl rfl (by (conv=>lhs;whnf);try rfl) ?_ | refine ZR rfl rfl ?_ | refine Zd rfl rfl ?_ | refine Zz rfl rfl ?_ | refine g_bits rfl rfl rfl rfl ?_ | refine ZS rfl rfl rfl (by decide) ?_ | refine g_rem rfl rfl rfl (by first | decide | omega) ?_ | refine ZU rfl rfl ?_ | refine Zv Tryz.underlying9 rfl rfl ?_ | refine ZT rfl (by (conv=>lhs;whnf);try rfl) (by (conv=>lhs;whnf);try rfl) (by rfl) ?_ | refine Zl rfl rfl ?_ | refine Zm rfl rfl rfl (by (conv=>lhs;whnf);try rfl) (by (conv=>lhs;whnf);try rfl) (by rfl) (by rfl) (Nat.le_of_ble_eq_true rfl) (by (conv=>lhs;whnf);try rfl) ?_ | refine Zn rfl rfl ?_ | refine Za rfl rfl rfl (by rfl) (by decide) (by (conv=>lhs;whnf);try rfl) ?_ | refine Zf rfl rfl rfl ?_ | refine ZQ rfl rfl ?_ | refine ZB rfl rfl (by (conv=>lhs;whnf);try rfl) ?_ | refine g_field rfl rfl rfl ?_ | refine Zo ?_ | refine Zp (by kernel_rfl) ?_ | refine Zr ?_ | refine Zb ?_ | refine Zh ?_ | refine Zj ?_ | refine Zs ?_ | refine Zk ?_ | refine Zq ?_ | refine Zt ?_ | refine ZC ?_ | refine Zg ?_ | refine Zu ?_ | refine ZD ?_)
   rw [decide_eq_true hk]
   repeat (first | (refine ZV rfl rfl ?_) | (refine ZY [_,_] νb (ZbP e1 r n.text hf1.1 hf1.2 e3 h3) rfl rfl rfl rfl rfl rfl ?_) | refine ZA rfl (by (conv=>lhs;whnf);try rfl) ?_ | refine Zx rfl rfl rfl ?_ | refine Zc rfl rfl ?_ | refine Zi rfl (by (conv=>lhs;whnf);try rfl) ?_ | refine ZM rfl rfl (by omega) ?_ | refine ZL rfl rfl rfl (by omega) (by omega) ?_ | refine ZI rfl rfl rfl (by omega) ?_ | refine ZK rfl rfl rfl (by omega) (by omega) ?_ | refine ZN rfl rfl rfl rfl (by (conv=>lhs;whnf);try rfl) ?_ | refine ZP rfl rfl rfl rfl (by (conv=>lhs;whnf);try rfl) ?_ | refine ZR rfl rfl ?_ | refine Zd rfl rfl ?_ | refine Zz rfl rfl ?_ | refine g_bits rfl rfl rfl rfl ?_ | refine ZS rfl rfl rfl (by decide) ?_ | refine g_rem rfl rfl rfl (by first | decide | omega) ?_ | refine ZU rfl rfl ?_ | refine Zv Tryz.underlying9 rfl rfl ?_ | refine ZT rfl (by (conv=>lhs;whnf);try rfl) (by (conv=>lhs;whnf);try rfl) (by rfl) ?_ | refine Zl rfl rfl ?_ | refine Zm rfl rfl rfl (by (conv=>lhs;whnf);try rfl) (by (conv=>lhs;whnf);try rfl) (by rfl) (by rfl) (Nat.le_of_ble_eq_true rfl) (by (conv=>lhs;whnf);try rfl) ?_ | refine Zn rfl rfl ?_ | refine Za rfl rfl rfl (by rfl) (by decide) (by (conv=>lhs;whnf);try rfl) ?_ | refine Zf rfl rfl rfl ?_ | refine ZQ rfl rfl ?_ | refine ZB rfl rfl (by (conv=>lhs;whnf);try rfl) ?_ | refine g_field rfl rfl rfl ?_ | refine Zo ?_ | refine Zp (by kernel_rfl) ?_ | refine Zr ?_ | refine Zb ?_ | refine Zh ?_ | refine Zj ?_ | refine Zs ?_ | refine Zk ?_ | refine Zq ?_ | refine Zt ?_ | refine ZC ?_ | refine Zg ?_ | refine Zu ?_ | refine ZD ?_)
   exact Zax (q+1,e3) 2 ⟨by omega,ZaA hf1 h3,hn⟩ (by dsimp only;omega) (Za7 (νc 5 3) [_,_] (fun k=>(k,νc 5 3 k)) (fun _ _=>rfl) rfl ⟨rfl,rfl,rfl,rfl,trivial⟩ (x:=[]) (x':=[]) rfl rfl rfl (Zal _) rfl)
  ·rw [if_neg hk] at h3
   repeat (first | (refine Zdp rfl rfl rfl hcs rfl ?_) | refine ZA rfl (by (conv=>lhs;whnf);try rfl) ?_ | refine Zx rfl rfl rfl ?_ | refine Zc rfl rfl ?_ | refine Zi rfl (by (conv=>lhs;whnf);try rfl) ?_ | refine ZM rfl rfl (by omega) ?_ | refine ZL rfl rfl rfl (by omega) (by omega) ?_ | refine ZI rfl rfl rfl (by omega) ?_ | refine ZK rfl rfl rfl (by omega) (by omega) ?_ | refine ZN rfl rfl rfl rfl (by (conv=>lhs;whnf);try rfl) ?_ | refine ZP rfl rfl rfl rfl (by (conv=>lhs;whnf);try rfl) ?_ | refine ZR rfl rfl ?_ | refine Zd rfl rfl ?_ | refine Zz rfl rfl ?_ | refine g_bits rfl rfl rfl rfl ?_ | refine ZS rfl rfl rfl (by decide) ?_ | refine g_rem rfl rfl rfl (by first | decide | omega) ?_ | refine ZU rfl rfl ?_ | refine Zv Tryz.underlying9 rfl rfl ?_ | refine ZT rfl (by (conv=>lhs;whnf);try rfl) (by (conv=>lhs;whnf);try rfl) (by rfl) ?_ | refine Zl rfl rfl ?_ | refine Zm rfl rfl rfl (by (conv=>lhs;whnf);try rfl) (by (conv=>lhs;whnf);try rfl) (by rfl) (by rfl) (Nat.le_of_ble_eq_true rfl) (by (conv=>lhs;whnf);try rfl) ?_ | refine Zn rfl rfl ?_ | refine Za rfl rfl rfl (by rfl) (by decide) (by (conv=>lhs;whnf);try rfl) ?_ | refine Zf rfl rfl rfl ?_ | refine ZQ rfl rfl ?_ | refine ZB rfl rfl (by (conv=>lhs;whnf);try rfl) ?_ | refine g_field rfl rfl rfl ?_ | refine Zo ?_ | refine Zp (by kernel_rfl) ?_ | refine Zr ?_ | refine Zb ?_ | refine Zh ?_ | refine Zj ?_ | refine Zs ?_ | refine Zk ?_ | refine Zq ?_ | refine Zt ?_ | refine ZC ?_ | refine Zg ?_ | refine Zu ?_ | refine ZD ?_)
   rw [decide_eq_false hk]
   repeat (first | (refine Zw rfl rfl ?_) | (refine ZY [_,_] νb (Zgd e1 r n hf1.1 e3 h3) rfl rfl rfl rfl rfl rfl ?_) | refine ZA rfl (by (conv=>lhs;whnf);try rfl) ?_ | refine Zx rfl rfl rfl ?_ | refine Zc rfl rfl ?_ | refine Zi rfl (by (conv=>lhs;whnf);try rfl) ?_ | refine ZM rfl rfl (by omega) ?_ | refine ZL rfl rfl rfl (by omega) (by omega) ?_ | refine ZI rfl rfl rfl (by omega) ?_ | refine ZK rfl rfl rfl (by omega) (by omega) ?_ | refine ZN rfl rfl rfl rfl (by (conv=>lhs;whnf);try rfl) ?_ | refine ZP rfl rfl rfl rfl (by (conv=>lhs;whnf);try rfl) ?_ | refine ZR rfl rfl ?_ | refine Zd rfl rfl ?_ | refine Zz rfl rfl ?_ | refine g_bits rfl rfl rfl rfl ?_ | refine ZS rfl rfl rfl (by decide) ?_ | refine g_rem rfl rfl rfl (by first | decide | omega) ?_ | refine ZU rfl rfl ?_ | refine Zv Tryz.underlying9 rfl rfl ?_ | refine ZT rfl (by (conv=>lhs;whnf);try rfl) (by (conv=>lhs;whnf);try rfl) (by rfl) ?_ | refine Zl rfl rfl ?_ | refine Zm rfl rfl rfl (by (conv=>lhs;whnf);try rfl) (by (conv=>lhs;whnf);try rfl) (by rfl) (by rfl) (Nat.le_of_ble_eq_true rfl) (by (conv=>lhs;whnf);try rfl) ?_ | refine Zn rfl rfl ?_ | refine Za rfl rfl rfl (by rfl) (by decide) (by (conv=>lhs;whnf);try rfl) ?_ | refine Zf rfl rfl rfl ?_ | refine ZQ rfl rfl ?_ | refine ZB rfl rfl (by (conv=>lhs;whnf);try rfl) ?_ | refine g_field rfl rfl rfl ?_ | refine Zo ?_ | refine Zp (by kernel_rfl) ?_ | refine Zr ?_ | refine Zb ?_ | refine Zh ?_ | refine Zj ?_ | refine Zs ?_ | refine Zk ?_ | refine Zq ?_ | refine Zt ?_ | refine ZC ?_ | refine Zg ?_ | refine Zu ?_ | refine ZD ?_)
   exact Zax (q+1,e3) 2 ⟨by omega,ZeB hf1 h3,hn⟩ (by dsimp only;omega) (Za7 (νc 5 2) [_,_] (fun k=>(k,νc 5 2 k)) (fun _ _=>rfl) rfl ⟨rfl,rfl,rfl,rfl,trivial⟩ (x:=[]) (x':=[]) rfl rfl rfl (Zal _) rfl)
 ·refine Zw (by (conv=>lhs;whnf);try rfl) (by simp;omega) ?_
  repeat (first | refine ZA rfl (by (conv=>lhs;whnf);try rfl) ?_ | refine Zx rfl rfl rfl ?_ | refine Zc rfl rfl ?_ | refine Zi rfl (by (conv=>lhs;whnf);try rfl) ?_ | refine ZM rfl rfl (by omega) ?_ | refine ZL rfl rfl rfl (by omega) (by omega) ?_ | refine ZI rfl rfl rfl (by omega) ?_ | refine ZK rfl rfl rfl (by omega) (by omega) ?_ | refine ZN rfl rfl rfl rfl (by (conv=>lhs;whnf);try rfl) ?_ | refine ZP rfl rfl rfl rfl (by (conv=>lhs;whnf);try rfl) ?_ | refine ZR rfl rfl ?_ | refine Zd rfl rfl ?_ | refine Zz rfl rfl ?_ | refine g_bits rfl rfl rfl rfl ?_ | refine ZS rfl rfl rfl (by decide) ?_ | refine g_rem rfl rfl rfl (by first | decide | omega) ?_ | refine ZU rfl rfl ?_ | refine Zv Tryz.underlying9 rfl rfl ?_ | refine ZT rfl (by (conv=>lhs;whnf);try rfl) (by (conv=>lhs;whnf);try rfl) (by rfl) ?_ | refine Zl rfl rfl ?_ | refine Zm rfl rfl rfl (by (conv=>lhs;whnf);try rfl) (by (conv=>lhs;whnf);try rfl) (by rfl) (by rfl) (Nat.le_of_ble_eq_true rfl) (by (conv=>lhs;whnf);try rfl) ?_ | refine Zn rfl rfl ?_ | refine Za rfl rfl rfl (by rfl) (by decide) (by (conv=>lhs;whnf);try rfl) ?_ | refine Zf rfl rfl rfl ?_ | refine ZQ rfl rfl ?_ | refine ZB rfl rfl (by (conv=>lhs;whnf);try rfl) ?_ | refine g_field rfl rfl rfl ?_ | refine Zo ?_ | refine Zp (by kernel_rfl) ?_ | refine Zr ?_ | refine Zb ?_ | refine Zh ?_ | refine Zj ?_ | refine Zs ?_ | refine Zk ?_ | refine Zq ?_ | refine Zt ?_ | refine ZC ?_ | refine Zg ?_ | refine Zu ?_ | refine ZD ?_)
  obtain rfl:q=l.length:=by omega
  rw [List.drop_length] at hn
  injection hn with hn
  subst hn
  exact Zbr (.inr rfl) νb [] [] rfl rfl trivial rfl rfl
end Go.Proofs.YtmgfammllddkhaaGreatDoor
namespace Go.Proofs.YtmgfammllddkhaaGreatDoor
namespace VL
def El.argL (e:El):List Arg:=match e.args with
 | none=>[]
 | some (pre,a)=>pre ++ [a]
def El.cells (e:El):List PV:=[.int .i64 e.kind,.int .i64 e.tag,.int .i64 e.count,.sl e.list,.sl (e.argL.map Arg.cs)]
section
variable {NT AT ET:Nat}
theorem Ze7 {pre:List Arg}:∀ el ∈ pre.map Arg.cs,∀ p ∈ el,p.pure=true:=fun el hel p hp=>by
 obtain ⟨a,_,rfl⟩:=List.mem_map.1 hel
 simp [Arg.cs] at hp
 rcases hp with rfl | rfl | rfl<;>rfl
theorem Zdd {f:Nat→Option (Gen×VObj)} {t E k:Nat} {g:Gen} {els:List (List PV)} (h:f t=some (g,.row E k false els)):Zkq f (.row t g)=some (.sl els,[(t,some (g,.row E k true els))]):=by
 simp [Zkq,Zaq,h]
theorem ZkC {b:Nat} {g g1 g2:Gen} {tm:List (Nat×PV)} {ob:List (Nat×Option (Gen×VObj))} {ng:Nat} {k t c:Int} {l els:List (List PV)} (h0:ZJ ob b=some (g,.box [.int .i64 k,.int .i64 t,.int .i64 c,.row (b+1) g1,.row (b+2) g2])) (h1:ZJ ob (b+1)=some (g1,.row NT 5 false l)) (h2:ZJ ob (b+2)=some (g2,.prow AT 3 els))
  (hp:∀ el ∈ els,∀ p ∈ el,p.pure=true):Shift (mkS tm ob ng) (mkS tm ((b,some (g,.box [.int .i64 k,.int .i64 t,.int .i64 c,.sl l,.sl els]))::(b+2,some (g2,.row AT 3 true els))::(b+1,some (g1,.row NT 5 true l))::(b+2,some (g2,.row AT 3 false els))::ob) ng):=by
 have n1:∀ {j i:Nat},j≠i→b+j≠b+i:=fun h e=>h (by omega)
 have e0:ZJ ((b+2,some (g2,VObj.row AT 3 false els))::ob) b=some (g,.box [.int .i64 k,.int .i64 t,.int .i64 c,.row (b+1) g1,.row (b+2) g2]):=by
  show (if b=b+2 then _ else ZJ ob b)=_
  rw [if_neg (by omega),h0]
 have e1:ZJ ((b+2,some (g2,VObj.row AT 3 false els))::ob) (b+1)=some (g1,.row NT 5 false l):=by
  show (if b+1=b+2 then _ else ZJ ob (b+1))=_
  rw [if_neg (by omega),h1]
 have e2:ZJ ((b+2,some (g2,VObj.row AT 3 false els))::ob) (b+2)=some (g2,.row AT 3 false els):=if_pos rfl
 refine Shift.trans (ZhY (b+2) h2 hp) ?_
 exact Zlz b e0 (us:=[(b+1,some (g1,.row NT 5 true l)),(b+2,some (g2,.row AT 3 true els))]) (by
  have r1:=Zdd e1
  have r2:=Zdd e2
  simp only [Zex]
  rw [r1,r2]
  rfl)
theorem ZgT (n1:Gen) (ν:Nat→Gen) {e e2:El} {r:List El} {tm tm':List (Nat×PV)} {ng:Nat} (h1:Zfb (σf (popf (0,0) n1 (fun _=>(1001,ν 1001)) ν (Zbi r))) tm tm') :
  Shift (mkS tm ((0,some ((0,0),.box [.row 1000 n1]))::(1000,some (n1,.prow ET 1 (Zdl ν (e2::r))))::somes (stO NT AT ET ν e (e2::r))) ng) (mkS tm' (somes ((300,νb 300,.box e.cells)::stO NT AT ET νb e2 r)) 2):=by
 obtain ⟨k,t,c,l,args⟩:=e
 have hx:∀ e:El,Zba (σf (popf (0,0) n1 (fun _=>(1001,ν 1001)) ν (Zbi r))) [(300,νb 300,.box e.cells)]=some [(1001,ν 1001,.box e.cells)]:=fun _=>rfl
 rcases args with _ | ⟨pre,a⟩
 ·refine Shift.trans (ZkC (b:=1001) rfl rfl rfl (fun e he=>absurd he List.not_mem_nil)) ?_
  exact Zgi (0,0) n1 (fun _=>(1001,ν 1001)) ν tm' h1 rfl rfl (hx ⟨k,t,c,l,none⟩) (fun q hq=>by rw [List.mem_singleton.1 hq];exact ⟨by show 1001≠0;omega,by show 1001≠1000;omega,by show 1001<2000;omega⟩) (by simp) (ZG rfl (Zal _)) (ZcP (A:=[_,_,_,_,_,_]) rfl)
 ·have hset:(ZfI 1001 ν (some (pre,a))).set pre.length (ZaE [.bool a.named,.sl a.name,.row (1001+3) (ν (1001+3))] 2 [.sl a.value])=(pre ++ [a]).map Arg.cs:=by
   have:=ZbT (pre.map Arg.cs) [.bool a.named,.sl a.name,.row (1001+3) (ν (1001+3))] a.cs
   rw [List.length_map] at this
   rw [List.map_append]
   exact this
  have hget:(ZfI 1001 ν (some (pre,a)))[pre.length]? = some [.bool a.named,.sl a.name,.row (1001+3) (ν (1001+3))]:=by
   have:=Zbm (pre.map Arg.cs) [.bool a.named,.sl a.name,.row (1001+3) (ν (1001+3))]
   rwa [List.length_map] at this
  refine Shift.trans (Zda 1003 pre.length 2 rfl hget rfl (Zdd rfl) hset) ?_
  refine Shift.trans (ZkC (b:=1001) rfl rfl rfl Ze7) ?_
  exact Zgi (0,0) n1 (fun _=>(1001,ν 1001)) ν tm' h1 rfl rfl (hx ⟨k,t,c,l,some (pre,a)⟩) (fun q hq=>by rw [List.mem_singleton.1 hq];exact ⟨by show 1001≠0;omega,by show 1001≠1000;omega,by show 1001<2000;omega⟩) (by simp) (ZG rfl (Zal _)) (ZcP (A:=[_,_,_,_,_,_,_,_]) rfl)
end
section
variable {NT AT ET:Nat} {P:Program} [WInv P] {ops:Array Oper} {draw:Bool} {i:Nat} {L:List Oper} {acc:List (List Nat×List Nat)} {K:FS→Prop} {tm:List (Nat×PV)} {ob:List (Nat×Option (Gen×VObj))} {ng:Nat}
 {d:Option Tmp} {ty:TypeId} {pos:String} {after:Array Edge} {gd:Option (Nat×Bool)}
theorem Zei {f:FuncId} {es:Array Operand} {ts:Array TypeId} {e e2:El} {r:List El} (lits:List (Nat×Option (Gen×VObj))) (ν:Nat→Gen) (hc:ContractG P f [.ptr 0 (0,0) 0] (objs (stO NT AT ET νa e (e2::r))) (.ptr 1001 (0,1001) 0) (Zlr NT AT ET νa (1,1000) e e2 r)) (hob:ob=lits++somes (stO NT AT ET ν e (e2::r))) (hl:(lits.all fun q=>!Zbk q.1)=true)
  (hw:Zy ops (mkS tm ob ng) ⟨d,.call ⟨.value (.func f),es,ts⟩,ty,pos,after,gd⟩=some true) (he:es.toList.map (evL tm) = [.ptr 0 (ν 0) 0])
  (k:GoL P ops draw (i+1) L (acc ++ [(Zaa (mkS tm ob ng) ⟨d,.call ⟨.value (.func f),es,ts⟩,ty,pos,after,gd⟩,(usG (κp id) (objs (stO NT AT ET νa e (e2::r))) (Zlr NT AT ET ν (ng,i+1000000 * (1000+1)) e e2 r)).map (·.1))]) (mkS (Zbh d (.ptr 1001 (ν 1001) 0) tm) ((0,some (ν 0,.box [.row 1000 (ng,i+1000000 * (1000+1))]))::(1000,some ((ng,i+1000000 * (1000+1)),.prow ET 1 (Zdl ν (e2::r))))::ob) ng) K) :
  GoL P ops draw i (⟨d,.call ⟨.value (.func f),es,ts⟩,ty,pos,after,gd⟩::L) acc (mkS tm ob ng) K:=by
 have hHas:Has ob (stO NT AT ET ν e (e2::r)):=by rw [hob];exact Zbe hl
 have hk:=Znx (NT:=NT) (AT:=AT) (ET:=ET) ν ng i e (e2::r)
 have hn:∀ (ν:Nat→Gen) (n1:Gen),((Zlr NT AT ET ν n1 e e2 r).map (·.1)).Nodup:=fun ν n1=>by rw [ZiD];exact ZaY _ _ _
 have hlow:∀ q ∈ ZeY NT AT νa (e2::r),σ1 (Zlq (objs (stO NT AT ET νa e (e2::r)))) (κp id) (γp ν ν) id ng i (νa q.1)=some (q.1,ν q.1):=fun q hq=>hk q (List.mem_cons_of_mem _ (List.mem_cons_of_mem _ (List.mem_append_right _ hq)))
 have hX:Zba (σ1 (Zlq (objs (stO NT AT ET νa e (e2::r)))) (κp id) (γp ν ν) id ng i) (Zlr NT AT ET νa (1,1000) e e2 r)=some (Zlr NT AT ET ν (ng,i+1000000 * (1000+1)) e e2 r):=by
  have e0:=hk _ (List.mem_cons_self ..)
  have e1:σ1 (Zlq (objs (stO NT AT ET νa e (e2::r)))) (κp id) (γp ν ν) id ng i (1,1000)=some (1000,(ng,i+1000000 * (1000+1))):=by simp [σ1]
  have hp:=ZjN hlow
  have he:=ZaL (Zlt (NT:=NT) (AT:=AT) (b:=1001) (ν:=νa) (ν':=ν) (e:=e) fun q hq=>hk q (List.mem_cons_of_mem _ (List.mem_cons_of_mem _ (List.mem_append_left _ hq)))) (ZjM hlow)
  simp only [Zlr,Zba,rnO,rnL,rn1,e0,e1,Option.map_some,hp,he]
 have hp:rnP (σ1 (Zlq (objs (stO NT AT ET νa e (e2::r)))) (κp id) (γp ν ν) id ng i) (.ptr 1001 (0,1001) 0)=some (.ptr 1001 (ν 1001) 0):=by
  have e1:=hk _ (List.mem_cons_of_mem _ (List.mem_cons_of_mem _ (List.mem_append_left _ (List.mem_cons_self ..))))
  have e2:σ1 (Zlq (objs (stO NT AT ET νa e (e2::r)))) (κp id) (γp ν ν) id ng i (0,1001)=some (1001,ν 1001):=e1
  simp only [rnP,rn1,e2,Option.map_some]
 refine Zjd lits ν hc hob hl hw he rfl hp hX (hn _ _) (fun t=>?_) k
 rw [ZhK (hn _ _)]
 by_cases h1:∃ q ∈ Zlr NT AT ET ν (ng,i+1000000 * (1000+1)) e e2 r,q.1=t
 ·rw [if_pos h1]
  obtain ⟨⟨t',g,o⟩,hq,rfl⟩:=h1
  have w:=ZbF [] (hn _ _) hq
  rw [List.append_nil] at w
  rw [w]
  rcases List.mem_cons.1 hq with e1 | hq
  ·injection e1 with e1 e2;injection e2 with e2 e3;subst e1 e2 e3;rfl
  ·rcases List.mem_cons.1 hq with e1 | hq
   ·injection e1 with e1 e2;injection e2 with e2 e3;subst e1 e2 e3;rfl
   ·have hk2:1001≤t':=by
     rcases List.mem_append.1 hq with h | h
     ·exact (ZcV h).1
     ·have:=(ZcD h).1;change 2000≤t' at this;omega
    show _=if t'=0 then _ else if t'=1000 then _ else ZJ ob t'
    rw [if_neg (by omega),if_neg (by omega)]
    exact (hHas _ _ _ (List.mem_cons_of_mem _ (List.mem_cons_of_mem _ hq))).symm
 ·rw [if_neg h1,if_neg fun ⟨q,hq,e3⟩=>h1 (by
   obtain ⟨g,hg⟩:=Zfs (l:=stO NT AT ET νa e (e2::r)) (t:=q.1) (o:=q.2) hq
   have hm2:q.1 ∈ (Zlr NT AT ET ν (ng,i+1000000 * (1000+1)) e e2 r).map (·.1):=by
    rw [ZiD,Zej ν νa]
    exact List.mem_map.2 ⟨_,hg,rfl⟩
   obtain ⟨q2,hq2,e4⟩:=List.mem_map.1 hm2
   have hk:κp id q.1=q.1:=by simp [κp]
   exact ⟨q2,hq2,by rw [e4,← hk];exact e3⟩)]
  have t0:¬ t=0:=fun e=>h1 ⟨_,List.mem_cons_self ..,e.symm⟩
  have t1:¬ t=1000:=fun e=>h1 ⟨_,List.mem_cons_of_mem _ (List.mem_cons_self ..),e.symm⟩
  show _=if t=0 then _ else if t=1000 then _ else ZJ ob t
  rw [if_neg t0,if_neg t1]
end
end VL
end Go.Proofs.YtmgfammllddkhaaGreatDoor
namespace Go.Proofs.YtmgfammllddkhaaGreatDoor
namespace VL
section
variable {NT AT ET:Nat}
theorem ZkB {f:Nat→Option (Gen×VObj)} {t E k:Nat} {g:Gen} {els:List (List PV)} (h:f t=some (g,.row E k true els)):Zkq f (.row t g)=some (.sl els,[]):=by
 simp [Zkq,Zaq,h]
theorem ZfT {ν:Nat→Gen} {kind tag count m:Int} {list:List (List PV)} {args:Option (List Arg×Arg)} {r:List El} {lits:List (Nat×Option (Gen×VObj))} {tm:List (Nat×PV)} {ng:Nat} (hl:(lits.all fun q=>!Zbk q.1)=true) :
  Shift (mkS tm ((1001,some (ν 1001,.box [.int .i64 kind,.int .i64 tag,.int .i64 m,.row 1002 (ν 1002),.row 1003 (ν 1003)]))::(lits++somes (stO NT AT ET ν ⟨kind,tag,count,list,args⟩ r))) ng) (mkS tm (lits++somes (stO NT AT ET ν ⟨kind,tag,m,list,args⟩ r)) ng):=by
 rw [Ze8 (ob':=lits++somes (stO NT AT ET ν ⟨kind,tag,m,list,args⟩ r)) fun t=>?_]
 ·exact Shift.refl _
 ·show (if t=1001 then _ else ZJ (lits++somes (stO NT AT ET ν ⟨kind,tag,count,list,args⟩ r)) t)=_
  by_cases ht:t=1001
  ·rw [if_pos ht,ht]
   have hm:(1001,ν 1001,VObj.box [.int .i64 kind,.int .i64 tag,.int .i64 m,.row 1002 (ν 1002),.row 1003 (ν 1003)]) ∈ stO NT AT ET ν ⟨kind,tag,m,list,args⟩ r:=List.mem_cons_of_mem _ (List.mem_cons_of_mem _ (List.mem_append_left _ (List.mem_cons_self ..)))
   exact (Zbe hl _ _ _ hm).symm
  ·rw [if_neg ht]
   have two:∀ (a:List (Nat×Option (Gen×VObj))),ZJ (a++somes (stO NT AT ET ν ⟨kind,tag,count,list,args⟩ r)) t=ZJ (a++somes (stO NT AT ET ν ⟨kind,tag,m,list,args⟩ r)) t:=fun a=>by
    induction a with
    | nil=>
      show (if t=0 then _ else if t=1000 then _ else if t=1001 then _ else _)=(if t=0 then _ else if t=1000 then _ else if t=1001 then _ else _)
      by_cases h0:t=0
      ·rw [if_pos h0,if_pos h0]
      ·rw [if_neg h0,if_neg h0]
       by_cases h1:t=1000
       ·rw [if_pos h1,if_pos h1]
       ·rw [if_neg h1,if_neg h1,if_neg ht,if_neg ht]
    | cons q a ih=>
      show (if t=q.1 then q.2 else ZJ (a++_) t)=if t=q.1 then q.2 else ZJ (a++_) t
      rw [ih]
   exact two lits
theorem ZdW {b u:Nat} {g g1 g2:Gen} {tm:List (Nat×PV)} {ob:List (Nat×Option (Gen×VObj))} {ng:Nat} {k t:Int} {s:ByteArray} {l els:List (List PV)} (hu:u≠b+2) (h0:ZJ ob u=some (g,.box [.int .i64 k,.int .i64 t,.str s,.row (b+1) g1,.row (b+2) g2])) (h1:ZJ ob (b+1)=some (g1,.row NT 5 false l)) (h2:ZJ ob (b+2)=some (g2,.prow AT 3 els))
  (hp:∀ el ∈ els,∀ p ∈ el,p.pure=true):Shift (mkS tm ob ng) (mkS tm ((u,some (g,.box [.int .i64 k,.int .i64 t,.str s,.sl l,.sl els]))::(b+2,some (g2,.row AT 3 true els))::(b+1,some (g1,.row NT 5 true l))::(b+2,some (g2,.row AT 3 false els))::ob) ng):=by
 have e0:ZJ ((b+2,some (g2,VObj.row AT 3 false els))::ob) u=some (g,.box [.int .i64 k,.int .i64 t,.str s,.row (b+1) g1,.row (b+2) g2]):=by
  show (if u=b+2 then _ else ZJ ob u)=_
  rw [if_neg hu,h0]
 have e1:ZJ ((b+2,some (g2,VObj.row AT 3 false els))::ob) (b+1)=some (g1,.row NT 5 false l):=by
  show (if b+1=b+2 then _ else ZJ ob (b+1))=_
  rw [if_neg (by omega),h1]
 have e2:ZJ ((b+2,some (g2,VObj.row AT 3 false els))::ob) (b+2)=some (g2,.row AT 3 false els):=if_pos rfl
 refine Shift.trans (ZhY (b+2) h2 hp) ?_
 exact Zlz u e0 (us:=[(b+1,some (g1,.row NT 5 true l)),(b+2,some (g2,.row AT 3 true els))]) (by
  have r1:=Zdd e1
  have r2:=Zdd e2
  simp only [Zex]
  rw [r1,r2]
  rfl)
theorem Zl8 {b:Nat} {g g1 g2:Gen} {tm:List (Nat×PV)} {ob:List (Nat×Option (Gen×VObj))} {ng:Nat} {k t c:Int} {l els:List (List PV)} (h0:ZJ ob b=some (g,.box [.int .i64 k,.int .i64 t,.int .i64 c,.row (b+1) g1,.row (b+2) g2])) (h1:ZJ ob (b+1)=some (g1,.row NT 5 true l)) (h2:ZJ ob (b+2)=some (g2,.row AT 3 true els)) :
  Shift (mkS tm ob ng) (mkS tm ((b,some (g,.box [.int .i64 k,.int .i64 t,.int .i64 c,.sl l,.sl els]))::ob) ng):=
 Zlz b h0 (us:=[]) (by
  have r1:=ZkB h1
  have r2:=ZkB h2
  simp only [Zex]
  rw [r1,r2]
  rfl)
theorem ZgS (n1 g8:Gen) (ν:Nat→Gen) {e e2:El} {r:List El} {k t:Int} {s:ByteArray} {tm tm':List (Nat×PV)} {ng:Nat} (h1:Zfb (σf (popf (0,0) n1 (fun k=>if k=8 then (8,g8) else (1001,ν 1001)) ν (Zbi r))) tm tm') :
  Shift (mkS tm ((0,some ((0,0),.box [.row 1000 n1]))::(1000,some (n1,.prow ET 1 (Zdl ν (e2::r))))::(8,some (g8,.box [.int .i64 k,.int .i64 t,.str s,.row 1002 (ν 1002),.row 1003 (ν 1003)]))::somes (stO NT AT ET ν e (e2::r))) ng)
   (mkS tm' (somes ((8,νb 8,.box [.int .i64 k,.int .i64 t,.str s,.sl e.list,.sl (e.argL.map Arg.cs)])::(300,νb 300,.box e.cells)::stO NT AT ET νb e2 r)) 2):=by
 obtain ⟨k1,t1,c,l,args⟩:=e
 have hx:∀ e:El,Zba (σf (popf (0,0) n1 (fun k=>if k=8 then (8,g8) else (1001,ν 1001)) ν (Zbi r))) [(8,νb 8,.box [.int .i64 k,.int .i64 t,.str s,.sl e.list,.sl (e.argL.map Arg.cs)]),(300,νb 300,.box e.cells)]=some [(8,g8,.box [.int .i64 k,.int .i64 t,.str s,.sl e.list,.sl (e.argL.map Arg.cs)]),(1001,ν 1001,.box e.cells)]:=fun _=>rfl
 have hX:∀ e:El,∀ q ∈ [(8,g8,VObj.box [.int .i64 k,.int .i64 t,.str s,.sl e.list,.sl (e.argL.map Arg.cs)]),(1001,ν 1001,.box e.cells)],q.1≠0∧q.1≠1000∧q.1<2000:=fun e q hq=>by
  rcases List.mem_cons.1 hq with rfl | hq
  ·exact ⟨by show 8≠0;omega,by show 8≠1000;omega,by show 8<2000;omega⟩
  ·rw [List.mem_singleton.1 hq]
   exact ⟨by show 1001≠0;omega,by show 1001≠1000;omega,by show 1001<2000;omega⟩
 rcases args with _ | ⟨pre,a⟩
 ·refine Shift.trans (ZdW (b:=1001) (u:=8) (by omega) rfl rfl rfl (fun e he=>absurd he List.not_mem_nil)) ?_
  refine Shift.trans (Zl8 (b:=1001) rfl rfl rfl) ?_
  exact Zgi (0,0) n1 _ ν tm' h1 rfl rfl (hx ⟨k1,t1,c,l,none⟩) (hX ⟨k1,t1,c,l,none⟩) (by simp) (ZG rfl (ZG rfl (Zal _))) (ZcP (A:=[_,_,_,_,_,_,_,_]) rfl)
 ·have hset:(ZfI 1001 ν (some (pre,a))).set pre.length (ZaE [.bool a.named,.sl a.name,.row (1001+3) (ν (1001+3))] 2 [.sl a.value])=(pre ++ [a]).map Arg.cs:=by
   have:=ZbT (pre.map Arg.cs) [.bool a.named,.sl a.name,.row (1001+3) (ν (1001+3))] a.cs
   rw [List.length_map] at this
   rw [List.map_append]
   exact this
  have hget:(ZfI 1001 ν (some (pre,a)))[pre.length]? = some [.bool a.named,.sl a.name,.row (1001+3) (ν (1001+3))]:=by
   have:=Zbm (pre.map Arg.cs) [.bool a.named,.sl a.name,.row (1001+3) (ν (1001+3))]
   rwa [List.length_map] at this
  refine Shift.trans (Zda 1003 pre.length 2 rfl hget rfl (Zdd rfl) hset) ?_
  refine Shift.trans (ZdW (b:=1001) (u:=8) (by omega) rfl rfl rfl Ze7) ?_
  refine Shift.trans (Zl8 (b:=1001) rfl rfl rfl) ?_
  exact Zgi (0,0) n1 _ ν tm' h1 rfl rfl (hx ⟨k1,t1,c,l,some (pre,a)⟩) (hX ⟨k1,t1,c,l,some (pre,a)⟩) (by simp) (ZG rfl (ZG rfl (Zal _))) (ZcP (A:=[_,_,_,_,_,_,_,_,_,_]) rfl)
def newf (m2 m3:Gen) (k2 k3:Nat) (ν:Nat→Gen) (k:Nat):Nat×Gen:=if k=1002 then (k2,m2) else if k=1003 then (k3,m3) else (k,ν k)
theorem Zci (m2 m3:Gen) (k2 k3:Nat) (ν:Nat→Gen) (h00:ν 0=(0,0)) {r:List El} {kind tag count:Int} {list:List (List PV)} {tm tm':List (Nat×PV)} {ob:List (Nat×Option (Gen×VObj))} {ng:Nat} (h1:Zfb (σf (newf m2 m3 k2 k3 ν)) tm tm') (a0:ZJ ob 0=some (ν 0,.box [.row 1000 (ν 1000)])) (a1:ZJ ob 1000=some (ν 1000,.prow ET 1 (Zdl ν r ++ [[.ptr 1001 (ν 1001) 0]])))
  (b1:ZJ ob 1001=some (ν 1001,.box [.int .i64 kind,.int .i64 tag,.int .i64 count,.row k2 m2,.row k3 m3])) (b2:ZJ ob k2=some (m2,.row NT 5 false list)) (b3:ZJ ob k3=some (m3,.prow AT 3 [])) (hk:(decide ([k2,k3].Nodup) && [k2,k3].all fun k=>!Zbk k)=true) (a3:Has ob (ZeY NT AT ν r)) :
  Shift (mkS tm ob ng) (mkS tm' (somes (stO NT AT ET νb ⟨kind,tag,count,list,none⟩ r)) 2):=by
 have hl:∀ k,2000≤k→σf (newf m2 m3 k2 k3 ν) (νb k)=some (k,ν k):=fun k hk=>by
  have h1:¬ k=0:=by omega
  have h2:¬ k=1002:=by omega
  have h3:¬ k=1003:=by omega
  simp [σf,νb,newf,h1,h2,h3]
 have e0:σf (newf m2 m3 k2 k3 ν) (νb 0)=some (0,ν 0):=by rw [h00];rfl
 have e1:σf (newf m2 m3 k2 k3 ν) (νb 1000)=some (1000,ν 1000):=rfl
 have e2:σf (newf m2 m3 k2 k3 ν) (νb 1001)=some (1001,ν 1001):=rfl
 have e3:σf (newf m2 m3 k2 k3 ν) (νb (1001+1))=some (k2,m2):=rfl
 have e4:σf (newf m2 m3 k2 k3 ν) (νb (1001+2))=some (k3,m3):=rfl
 have hp:ZeX (σf (newf m2 m3 k2 k3 ν)) (Zdl νb r ++ [[.ptr 1001 (νb 1001) 0]])=some (Zdl ν r ++ [[.ptr 1001 (ν 1001) 0]]):=Za4 (Zhc hl r) (by simp only [ZeX,rnL,rn1,e2,Option.map_some])
 have he:=Zhb (NT:=NT) (AT:=AT) hl r
 have h2:Zba (σf (newf m2 m3 k2 k3 ν)) (stO NT AT ET νb ⟨kind,tag,count,list,none⟩ r)=some ((0,ν 0,.box [.row 1000 (ν 1000)])::(1000,ν 1000,.prow ET 1 (Zdl ν r ++ [[.ptr 1001 (ν 1001) 0]]))::(1001,ν 1001,.box [.int .i64 kind,.int .i64 tag,.int .i64 count,.row k2 m2,.row k3 m3])::(k2,m2,.row NT 5 false list)::(k3,m3,.prow AT 3 [])::ZeY NT AT ν r):=by
  have key:∀ X,elO NT AT 1001 νb ⟨kind,tag,count,list,none⟩++X=(1001,νb 1001,.box [.int .i64 kind,.int .i64 tag,.int .i64 count,.row (1001+1) (νb (1001+1)),.row (1001+2) (νb (1001+2))])::(1001+1,νb (1001+1),.row NT 5 false list)::(1001+2,νb (1001+2),.prow AT 3 [])::X:=fun _=>rfl
  unfold stO
  rw [key]
  simp only [Zba,rnO,rnL,ZeX,rn1,e0,e1,e2,e3,e4,Option.map_some,hp,he]
 simp only [Bool.and_eq_true,decide_eq_true_eq,List.all_eq_true,Bool.not_eq_true'] at hk
 obtain ⟨hn,hpk⟩:=hk
 have hpk':∀ k ∈ [k2,k3],¬ (k=0∨1000≤k):=fun k hk h=>by
  have:=hpk k hk
  rw [Zc0 h] at this
  cases this
 refine ZeO _ h1 h2 (ZG a0 (ZG a1 (ZG b1 (ZG b2 (ZG b3 a3))))) ?_
 have hrest:∀ k ∈ (ZeY NT AT ν r).map (·.1),2000≤k:=fun k hk=>by
  obtain ⟨q,hq,rfl⟩:=List.mem_map.1 hk
  exact (ZcD hq).1
 have p2:=hpk' k2 (by simp)
 have p3:=hpk' k3 (by simp)
 simp only [List.nodup_cons,List.mem_cons,List.not_mem_nil,or_false] at hn
 obtain ⟨n23,_⟩:=hn
 simp only [List.map_cons,List.nodup_cons,List.mem_cons,not_or]
 refine ⟨⟨by omega,by omega,by omega,by omega,fun h=>by have:=hrest _ h;omega⟩,⟨by omega,by omega,by omega,fun h=>by have:=hrest _ h;omega⟩,⟨by omega,by omega,fun h=>by have:=hrest _ h;omega⟩,⟨n23,fun h=>by have:=hrest _ h;omega⟩,fun h=>by have:=hrest _ h;omega,Zfz ν r⟩
end
end VL
end Go.Proofs.YtmgfammllddkhaaGreatDoor
