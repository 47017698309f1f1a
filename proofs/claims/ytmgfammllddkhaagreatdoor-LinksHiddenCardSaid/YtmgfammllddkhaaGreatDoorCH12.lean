/- The parser's closeLink and flatten. | The parser's lastBrace and closeTag. | The parser's closeTag. -/
import Derived.Test.YtmgfammllddkhaaGreatDoorCH11
import Derived.Test.YtmgfammllddkhaaGreatDoorCH08
namespace Go.Proofs.YtmgfammllddkhaaGreatDoor
open VL
def Zcc (e:El) (l:List (List PV)):Option El:=if l.length≤4611686018427387904 then ZgI e l else none
theorem ZcL {r:List El} {l:List (List PV)} {e e':El} (hf:fit e r) (h:Zcc e l=some e'):fit e' r:=by
 unfold Zcc at h
 split at h
 ·exact ZjE hf h
 ·cases h
theorem Zgc (l:List (List PV)) (e e2:El) (r:List El) (hf:fit e r) (h:Zcc e l=some e2):PC 114 [.sl l] e r (.tup []) e2 r:=by
 unfold Zcc at h
 split at h
 ·rename_i hl
  exact ZrB l e e2 r hf h hl
 ·cases h
def Zbo (e:El) (r:List El):Option (El×List El):=if e.kind=1 then match r with
  | []=>none
  | e2::r=>(ZaR e2 ⟨#[91,91]⟩).bind fun a=>(Zcc a e.list).bind fun b=>(ZaR b ⟨#[93,93]⟩).map fun c=>(c,r)
 else (ZaR e ⟨#[93,93]⟩).map fun c=>(c,r)
set_option maxRecDepth 100000 in
set_option maxHeartbeats 1000000 in
theorem ZiY (e e':El) (r:List El) (hf:fit e r) (hk:e.kind≠1) (h:ZaR e ⟨#[93,93]⟩=some e'):PC 108 [] e r (.tup []) e' r:=by
 refine ZZ mix Tryz.func108 (by kernel_rfl) rfl (by kernel_rfl) ?_
 rw [ZbY]
 repeat (first | (refine Zad [] νa (Zb8 e r hf.1.1) rfl rfl rfl rfl rfl rfl ?_) | refine ZA rfl (by (conv=>lhs;whnf);try rfl) ?_ | refine Zx rfl rfl rfl ?_ | refine Zc rfl rfl ?_ | refine Zi rfl (by (conv=>lhs;whnf);try rfl) ?_ | refine ZM rfl rfl (by omega) ?_ | refine ZL rfl rfl rfl (by omega) (by omega) ?_ | refine ZI rfl rfl rfl (by omega) ?_ | refine ZK rfl rfl rfl (by omega) (by omega) ?_ | refine ZN rfl rfl rfl rfl (by (conv=>lhs;whnf);try rfl) ?_ | refine ZP rfl rfl rfl rfl (by (conv=>lhs;whnf);try rfl) ?_ | refine ZR rfl rfl ?_ | refine Zd rfl rfl ?_ | refine Zz rfl rfl ?_ | refine g_bits rfl rfl rfl rfl ?_ | refine ZS rfl rfl rfl (by decide) ?_ | refine g_rem rfl rfl rfl (by first | decide | omega) ?_ | refine ZU rfl rfl ?_ | refine Zv Tryz.underlying9 rfl rfl ?_ | refine ZT rfl (by (conv=>lhs;whnf);try rfl) (by (conv=>lhs;whnf);try rfl) (by rfl) ?_ | refine Zl rfl rfl ?_ | refine Zm rfl rfl rfl (by (conv=>lhs;whnf);try rfl) (by (conv=>lhs;whnf);try rfl) (by rfl) (by rfl) (Nat.le_of_ble_eq_true rfl) (by (conv=>lhs;whnf);try rfl) ?_ | refine Zn rfl rfl ?_ | refine Za rfl rfl rfl (by rfl) (by decide) (by (conv=>lhs;whnf);try rfl) ?_ | refine Zf rfl rfl rfl ?_ | refine ZQ rfl rfl ?_ | refine ZB rfl rfl (by (conv=>lhs;whnf);try rfl) ?_ | refine g_field rfl rfl rfl ?_ | refine Zo ?_ | refine Zp (by kernel_rfl) ?_ | refine Zr ?_ | refine Zb ?_ | refine Zh ?_ | refine Zj ?_ | refine Zs ?_ | refine Zk ?_ | refine Zq ?_ | refine Zt ?_ | refine ZC ?_ | refine Zg ?_ | refine Zu ?_ | refine ZD ?_)
 rw [decide_eq_false hk]
 repeat (first | (refine ZV rfl rfl ?_) | (refine ZY [] νa (ZbP e r _ hf.1 hf.2 e' h) rfl rfl rfl rfl rfl rfl ?_) | refine ZA rfl (by (conv=>lhs;whnf);try rfl) ?_ | refine Zx rfl rfl rfl ?_ | refine Zc rfl rfl ?_ | refine Zi rfl (by (conv=>lhs;whnf);try rfl) ?_ | refine ZM rfl rfl (by omega) ?_ | refine ZL rfl rfl rfl (by omega) (by omega) ?_ | refine ZI rfl rfl rfl (by omega) ?_ | refine ZK rfl rfl rfl (by omega) (by omega) ?_ | refine ZN rfl rfl rfl rfl (by (conv=>lhs;whnf);try rfl) ?_ | refine ZP rfl rfl rfl rfl (by (conv=>lhs;whnf);try rfl) ?_ | refine ZR rfl rfl ?_ | refine Zd rfl rfl ?_ | refine Zz rfl rfl ?_ | refine g_bits rfl rfl rfl rfl ?_ | refine ZS rfl rfl rfl (by decide) ?_ | refine g_rem rfl rfl rfl (by first | decide | omega) ?_ | refine ZU rfl rfl ?_ | refine Zv Tryz.underlying9 rfl rfl ?_ | refine ZT rfl (by (conv=>lhs;whnf);try rfl) (by (conv=>lhs;whnf);try rfl) (by rfl) ?_ | refine Zl rfl rfl ?_ | refine Zm rfl rfl rfl (by (conv=>lhs;whnf);try rfl) (by (conv=>lhs;whnf);try rfl) (by rfl) (by rfl) (Nat.le_of_ble_eq_true rfl) (by (conv=>lhs;whnf);try rfl) ?_ | refine Zn rfl rfl ?_ | refine Za rfl rfl rfl (by rfl) (by decide) (by (conv=>lhs;whnf);try rfl) ?_ | refine Zf rfl rfl rfl ?_ | refine ZQ rfl rfl ?_ | refine ZB rfl rfl (by (conv=>lhs;whnf);try rfl) ?_ | refine g_field rfl rfl rfl ?_ | refine Zo ?_ | refine Zp (by kernel_rfl) ?_ | refine Zr ?_ | refine Zb ?_ | refine Zh ?_ | refine Zj ?_ | refine Zs ?_ | refine Zk ?_ | refine Zq ?_ | refine Zt ?_ | refine ZC ?_ | refine Zg ?_ | refine Zu ?_ | refine ZD ?_)
 exact Zbr (.inl rfl) (νc 2 1) [] [] rfl rfl trivial rfl rfl
set_option maxRecDepth 100000 in
set_option maxHeartbeats 1000000 in
theorem ZjS (tag count:Int) (list:List (List PV)) (args:Option (List Arg×Arg)) (e2 a b c:El) (r:List El) (hr:r.length≤999) (hf:fit e2 r) (h1:ZaR e2 ⟨#[91,91]⟩=some a) (h2:Zcc a list=some b) (h3:ZaR b ⟨#[93,93]⟩=some c) :
  PC 108 [] ⟨1,tag,count,list,args⟩ (e2::r) (.tup []) c r:=by
 have hfa:=ZaA hf h1
 have hfb:=ZcL hfa h2
 refine ZZ mix Tryz.func108 (by kernel_rfl) rfl (by kernel_rfl) ?_
 rw [ZbY]
 repeat (first | (refine Zad [] νa (Zb8 _ (e2::r) (by simp;omega)) rfl rfl rfl rfl rfl rfl ?_) | (refine Zw rfl rfl ?_) | refine ZA rfl (by (conv=>lhs;whnf);try rfl) ?_ | refine Zx rfl rfl rfl ?_ | refine Zc rfl rfl ?_ | refine Zi rfl (by (conv=>lhs;whnf);try rfl) ?_ | refine ZM rfl rfl (by omega) ?_ | refine ZL rfl rfl rfl (by omega) (by omega) ?_ | refine ZI rfl rfl rfl (by omega) ?_ | refine ZK rfl rfl rfl (by omega) (by omega) ?_ | refine ZN rfl rfl rfl rfl (by (conv=>lhs;whnf);try rfl) ?_ | refine ZP rfl rfl rfl rfl (by (conv=>lhs;whnf);try rfl) ?_ | refine ZR rfl rfl ?_ | refine Zd rfl rfl ?_ | refine Zz rfl rfl ?_ | refine g_bits rfl rfl rfl rfl ?_ | refine ZS rfl rfl rfl (by decide) ?_ | refine g_rem rfl rfl rfl (by first | decide | omega) ?_ | refine ZU rfl rfl ?_ | refine Zv Tryz.underlying9 rfl rfl ?_ | refine ZT rfl (by (conv=>lhs;whnf);try rfl) (by (conv=>lhs;whnf);try rfl) (by rfl) ?_ | refine Zl rfl rfl ?_ | refine Zm rfl rfl rfl (by (conv=>lhs;whnf);try rfl) (by (conv=>lhs;whnf);try rfl) (by rfl) (by rfl) (Nat.le_of_ble_eq_true rfl) (by (conv=>lhs;whnf);try rfl) ?_ | refine Zn rfl rfl ?_ | refine Za rfl rfl rfl (by rfl) (by decide) (by (conv=>lhs;whnf);try rfl) ?_ | refine Zf rfl rfl rfl ?_ | refine ZQ rfl rfl ?_ | refine ZB rfl rfl (by (conv=>lhs;whnf);try rfl) ?_ | refine g_field rfl rfl rfl ?_ | refine Zo ?_ | refine Zp (by kernel_rfl) ?_ | refine Zr ?_ | refine Zb ?_ | refine Zh ?_ | refine Zj ?_ | refine Zs ?_ | refine Zk ?_ | refine Zq ?_ | refine Zt ?_ | refine ZC ?_ | refine Zg ?_ | refine Zu ?_ | refine ZD ?_)
 refine Zei [] νa (ZmP _ e2 r hr) rfl rfl rfl rfl ?_
 iterate 2 (refine Zg9 ?_)
 refine ZaF (ZgT (2,1+1000000 * (1000+1)) νa (tm':=[(0,.ptr 0 (0,0) 0),(2,.ptr 300 (1,300) 0)]) ⟨rfl,rfl,trivial⟩) ?_ (List.cons_ne_nil _ _)
 repeat (first | (refine ZY [_] νb (ZbP e2 r _ hf.1 hf.2 a h1) rfl rfl rfl rfl rfl rfl ?_) | (refine ZY [_] (νc _ _) (Zgc list a b r hfa h2) rfl rfl rfl rfl rfl rfl ?_) | (refine ZY [_] (νc _ _) (ZbP b r _ hfb.1 hfb.2 c h3) rfl rfl rfl rfl rfl rfl ?_) | refine ZA rfl (by (conv=>lhs;whnf);try rfl) ?_ | refine Zx rfl rfl rfl ?_ | refine Zc rfl rfl ?_ | refine Zi rfl (by (conv=>lhs;whnf);try rfl) ?_ | refine ZM rfl rfl (by omega) ?_ | refine ZL rfl rfl rfl (by omega) (by omega) ?_ | refine ZI rfl rfl rfl (by omega) ?_ | refine ZK rfl rfl rfl (by omega) (by omega) ?_ | refine ZN rfl rfl rfl rfl (by (conv=>lhs;whnf);try rfl) ?_ | refine ZP rfl rfl rfl rfl (by (conv=>lhs;whnf);try rfl) ?_ | refine ZR rfl rfl ?_ | refine Zd rfl rfl ?_ | refine Zz rfl rfl ?_ | refine g_bits rfl rfl rfl rfl ?_ | refine ZS rfl rfl rfl (by decide) ?_ | refine g_rem rfl rfl rfl (by first | decide | omega) ?_ | refine ZU rfl rfl ?_ | refine Zv Tryz.underlying9 rfl rfl ?_ | refine ZT rfl (by (conv=>lhs;whnf);try rfl) (by (conv=>lhs;whnf);try rfl) (by rfl) ?_ | refine Zl rfl rfl ?_ | refine Zm rfl rfl rfl (by (conv=>lhs;whnf);try rfl) (by (conv=>lhs;whnf);try rfl) (by rfl) (by rfl) (Nat.le_of_ble_eq_true rfl) (by (conv=>lhs;whnf);try rfl) ?_ | refine Zn rfl rfl ?_ | refine Za rfl rfl rfl (by rfl) (by decide) (by (conv=>lhs;whnf);try rfl) ?_ | refine Zf rfl rfl rfl ?_ | refine ZQ rfl rfl ?_ | refine ZB rfl rfl (by (conv=>lhs;whnf);try rfl) ?_ | refine g_field rfl rfl rfl ?_ | refine Zo ?_ | refine Zp (by kernel_rfl) ?_ | refine Zr ?_ | refine Zb ?_ | refine Zh ?_ | refine Zj ?_ | refine Zs ?_ | refine Zk ?_ | refine Zq ?_ | refine Zt ?_ | refine ZC ?_ | refine Zg ?_ | refine Zu ?_ | refine ZD ?_)
 exact Zbr (.inr rfl) (νc 4 1) [_] [] rfl rfl trivial rfl rfl
def ZeD (e e2:El):Option El:=if e.kind=1 then ZaR e2 ⟨#[91,91]⟩ else if e.kind=2 then (Zdc e.tag).bind fun s=>ZaR e2 s else if e.kind=3 then (strings_Repeat ⟨#[123]⟩ e.count).bind fun s=>ZaR e2 s else some e2
def ZgN (e:El) (a:Arg):Option El:=(ZaR e ⟨#[124]⟩).bind fun b=>((if a.named=true then (Zcc b a.name).bind fun c=>ZaR c ⟨#[61]⟩ else some b):Option El).bind fun d=>Zcc d a.value
def Zdb:El→List Arg→Option El
 | e,[]=>some e
 | e,a::l=>(ZgN e a).bind fun e'=>Zdb e' l
def ZeE (e e2:El):Option El:=(ZeD e e2).bind fun a=>(Zcc a e.list).bind fun b=>if e.argL.length≤4611686018427387904 then Zdb b e.argL else none
theorem Zhk {e e2 a:El} {r:List El} (hf:fit e2 r) (h:ZeD e e2=some a):fit a r:=by
 unfold ZeD at h
 split at h
 ·exact ZaA hf h
 ·split at h
  ·obtain ⟨s,_,h⟩:=Option.bind_eq_some_iff.1 h
   exact ZaA hf h
  ·split at h
   ·obtain ⟨s,_,h⟩:=Option.bind_eq_some_iff.1 h
    exact ZaA hf h
   ·injection h with h
    rw [← h]
    exact hf
theorem Zh3 {e e':El} {a:Arg} {r:List El} (hf:fit e r) (h:ZgN e a=some e'):fit e' r:=by
 obtain ⟨b,hb,h⟩:=Option.bind_eq_some_iff.1 h
 obtain ⟨d,hd,h⟩:=Option.bind_eq_some_iff.1 h
 refine ZcL ?_ h
 split at hd
 ·obtain ⟨c,hc,hd⟩:=Option.bind_eq_some_iff.1 hd
  exact ZaA (ZcL (ZaA hf hb) hc) hd
 ·injection hd with hd
  rw [← hd]
  exact ZaA hf hb
abbrev ZrT (ν:Nat→Gen) (k:Nat):Nat×Gen:=if k=300 then (300,νb 300) else (k,ν k)
theorem ZhI {ν:Nat→Gen} (k:Nat) (h:k=0∨1000≤k):ZrT ν k=(k,ν k):=if_neg (by omega)
set_option maxRecDepth 100000 in
set_option maxHeartbeats 1000000 in
theorem Zh4 (e e2 e3:El) (r:List El) (hr:r.length≤999) (hf:fit e2 r) (h:ZeE e e2=some e3):PC 64 [] e (e2::r) (.tup []) e3 r:=by
 obtain ⟨a0,ha0,h⟩:=Option.bind_eq_some_iff.1 h
 obtain ⟨b0,hb0,h4⟩:=Option.bind_eq_some_iff.1 h
 by_cases hal:e.argL.length≤4611686018427387904
 rotate_left
 ·rw [if_neg hal] at h4
  cases h4
 rw [if_pos hal] at h4
 have hfa:=Zhk hf ha0
 have hfb:=ZcL hfa hb0
 refine ZZ mix Tryz.func64 (by kernel_rfl) rfl (by kernel_rfl) ?_
 rw [ZbY]
 repeat (first | refine ZA rfl (by (conv=>lhs;whnf);try rfl) ?_ | refine Zx rfl rfl rfl ?_ | refine Zc rfl rfl ?_ | refine Zi rfl (by (conv=>lhs;whnf);try rfl) ?_ | refine ZM rfl rfl (by omega) ?_ | refine ZL rfl rfl rfl (by omega) (by omega) ?_ | refine ZI rfl rfl rfl (by omega) ?_ | refine ZK rfl rfl rfl (by omega) (by omega) ?_ | refine ZN rfl rfl rfl rfl (by (conv=>lhs;whnf);try rfl) ?_ | refine ZP rfl rfl rfl rfl (by (conv=>lhs;whnf);try rfl) ?_ | refine ZR rfl rfl ?_ | refine Zd rfl rfl ?_ | refine Zz rfl rfl ?_ | refine g_bits rfl rfl rfl rfl ?_ | refine ZS rfl rfl rfl (by decide) ?_ | refine g_rem rfl rfl rfl (by first | decide | omega) ?_ | refine ZU rfl rfl ?_ | refine Zv Tryz.underlying9 rfl rfl ?_ | refine ZT rfl (by (conv=>lhs;whnf);try rfl) (by (conv=>lhs;whnf);try rfl) (by rfl) ?_ | refine Zl rfl rfl ?_ | refine Zm rfl rfl rfl (by (conv=>lhs;whnf);try rfl) (by (conv=>lhs;whnf);try rfl) (by rfl) (by rfl) (Nat.le_of_ble_eq_true rfl) (by (conv=>lhs;whnf);try rfl) ?_ | refine Zn rfl rfl ?_ | refine Za rfl rfl rfl (by rfl) (by decide) (by (conv=>lhs;whnf);try rfl) ?_ | refine Zf rfl rfl rfl ?_ | refine ZQ rfl rfl ?_ | refine ZB rfl rfl (by (conv=>lhs;whnf);try rfl) ?_ | refine g_field rfl rfl rfl ?_ | refine Zo ?_ | refine Zp (by kernel_rfl) ?_ | refine Zr ?_ | refine Zb ?_ | refine Zh ?_ | refine Zj ?_ | refine Zs ?_ | refine Zk ?_ | refine Zq ?_ | refine Zt ?_ | refine ZC ?_ | refine Zg ?_ | refine Zu ?_ | refine ZD ?_)
 refine Zei [] νa (ZmP e e2 r hr) rfl rfl rfl rfl ?_
 iterate 2 (refine Zg9 ?_)
 refine ZaF (ZgT (1,1+1000000 * (1000+1)) νa (tm':=[(0,.ptr 0 (0,0) 0),(2,.ptr 300 (1,300) 0)]) ⟨rfl,rfl,trivial⟩) ?_ (List.cons_ne_nil _ _)
 repeat (first | (refine ZbC (α:=El) (c:=.block 0 _) (fun a _=>mkS [(0,.ptr 0 (0,0) 0),(2,.ptr 300 (1,300) 0)] (somes ((300,νb 300,.box e.cells)::stP νb a r)) 2) (fun a=>a=a0) ?_ (fun a _ hJ=>?_)) | refine ZA rfl (by (conv=>lhs;whnf);try rfl) ?_ | refine Zx rfl rfl rfl ?_ | refine Zc rfl rfl ?_ | refine Zi rfl (by (conv=>lhs;whnf);try rfl) ?_ | refine ZM rfl rfl (by omega) ?_ | refine ZL rfl rfl rfl (by omega) (by omega) ?_ | refine ZI rfl rfl rfl (by omega) ?_ | refine ZK rfl rfl rfl (by omega) (by omega) ?_ | refine ZN rfl rfl rfl rfl (by (conv=>lhs;whnf);try rfl) ?_ | refine ZP rfl rfl rfl rfl (by (conv=>lhs;whnf);try rfl) ?_ | refine ZR rfl rfl ?_ | refine Zd rfl rfl ?_ | refine Zz rfl rfl ?_ | refine g_bits rfl rfl rfl rfl ?_ | refine ZS rfl rfl rfl (by decide) ?_ | refine g_rem rfl rfl rfl (by first | decide | omega) ?_ | refine ZU rfl rfl ?_ | refine Zv Tryz.underlying9 rfl rfl ?_ | refine ZT rfl (by (conv=>lhs;whnf);try rfl) (by (conv=>lhs;whnf);try rfl) (by rfl) ?_ | refine Zl rfl rfl ?_ | refine Zm rfl rfl rfl (by (conv=>lhs;whnf);try rfl) (by (conv=>lhs;whnf);try rfl) (by rfl) (by rfl) (Nat.le_of_ble_eq_true rfl) (by (conv=>lhs;whnf);try rfl) ?_ | refine Zn rfl rfl ?_ | refine Za rfl rfl rfl (by rfl) (by decide) (by (conv=>lhs;whnf);try rfl) ?_ | refine Zf rfl rfl rfl ?_ | refine ZQ rfl rfl ?_ | refine ZB rfl rfl (by (conv=>lhs;whnf);try rfl) ?_ | refine g_field rfl rfl rfl ?_ | refine Zo ?_ | refine Zp (by kernel_rfl) ?_ | refine Zr ?_ | refine Zb ?_ | refine Zh ?_ | refine Zj ?_ | refine Zs ?_ | refine Zk ?_ | refine Zq ?_ | refine Zt ?_ | refine ZC ?_ | refine Zg ?_ | refine Zu ?_ | refine ZD ?_)
 ·unfold ZeD at ha0
  by_cases h1:e.kind=1
  ·rw [if_pos h1] at ha0
   rw [decide_eq_true h1]
   repeat (first | (refine ZV rfl rfl ?_) | (refine ZY [_] νb (ZbP e2 r _ hf.1 hf.2 a0 ha0) rfl rfl rfl rfl rfl rfl ?_) | refine ZA rfl (by (conv=>lhs;whnf);try rfl) ?_ | refine Zx rfl rfl rfl ?_ | refine Zc rfl rfl ?_ | refine Zi rfl (by (conv=>lhs;whnf);try rfl) ?_ | refine ZM rfl rfl (by omega) ?_ | refine ZL rfl rfl rfl (by omega) (by omega) ?_ | refine ZI rfl rfl rfl (by omega) ?_ | refine ZK rfl rfl rfl (by omega) (by omega) ?_ | refine ZN rfl rfl rfl rfl (by (conv=>lhs;whnf);try rfl) ?_ | refine ZP rfl rfl rfl rfl (by (conv=>lhs;whnf);try rfl) ?_ | refine ZR rfl rfl ?_ | refine Zd rfl rfl ?_ | refine Zz rfl rfl ?_ | refine g_bits rfl rfl rfl rfl ?_ | refine ZS rfl rfl rfl (by decide) ?_ | refine g_rem rfl rfl rfl (by first | decide | omega) ?_ | refine ZU rfl rfl ?_ | refine Zv Tryz.underlying9 rfl rfl ?_ | refine ZT rfl (by (conv=>lhs;whnf);try rfl) (by (conv=>lhs;whnf);try rfl) (by rfl) ?_ | refine Zl rfl rfl ?_ | refine Zm rfl rfl rfl (by (conv=>lhs;whnf);try rfl) (by (conv=>lhs;whnf);try rfl) (by rfl) (by rfl) (Nat.le_of_ble_eq_true rfl) (by (conv=>lhs;whnf);try rfl) ?_ | refine Zn rfl rfl ?_ | refine Za rfl rfl rfl (by rfl) (by decide) (by (conv=>lhs;whnf);try rfl) ?_ | refine Zf rfl rfl rfl ?_ | refine ZQ rfl rfl ?_ | refine ZB rfl rfl (by (conv=>lhs;whnf);try rfl) ?_ | refine g_field rfl rfl rfl ?_ | refine Zo ?_ | refine Zp (by kernel_rfl) ?_ | refine Zr ?_ | refine Zb ?_ | refine Zh ?_ | refine Zj ?_ | refine Zs ?_ | refine Zk ?_ | refine Zq ?_ | refine Zt ?_ | refine ZC ?_ | refine Zg ?_ | refine Zu ?_ | refine ZD ?_)
   exact ZcW a0 2 rfl (Za7 (νc 4 1) [_] (ZrT (νc 4 1)) ZhI rfl ⟨rfl,rfl,trivial⟩ (x:=[(300,νb 300,.box e.cells)]) (x':=[(300,νb 300,.box e.cells)]) rfl rfl rfl (ZG rfl (Zal _)) rfl)
  ·rw [if_neg h1] at ha0
   rw [decide_eq_false h1]
   repeat (first | (refine Zw rfl rfl ?_) | refine ZA rfl (by (conv=>lhs;whnf);try rfl) ?_ | refine Zx rfl rfl rfl ?_ | refine Zc rfl rfl ?_ | refine Zi rfl (by (conv=>lhs;whnf);try rfl) ?_ | refine ZM rfl rfl (by omega) ?_ | refine ZL rfl rfl rfl (by omega) (by omega) ?_ | refine ZI rfl rfl rfl (by omega) ?_ | refine ZK rfl rfl rfl (by omega) (by omega) ?_ | refine ZN rfl rfl rfl rfl (by (conv=>lhs;whnf);try rfl) ?_ | refine ZP rfl rfl rfl rfl (by (conv=>lhs;whnf);try rfl) ?_ | refine ZR rfl rfl ?_ | refine Zd rfl rfl ?_ | refine Zz rfl rfl ?_ | refine g_bits rfl rfl rfl rfl ?_ | refine ZS rfl rfl rfl (by decide) ?_ | refine g_rem rfl rfl rfl (by first | decide | omega) ?_ | refine ZU rfl rfl ?_ | refine Zv Tryz.underlying9 rfl rfl ?_ | refine ZT rfl (by (conv=>lhs;whnf);try rfl) (by (conv=>lhs;whnf);try rfl) (by rfl) ?_ | refine Zl rfl rfl ?_ | refine Zm rfl rfl rfl (by (conv=>lhs;whnf);try rfl) (by (conv=>lhs;whnf);try rfl) (by rfl) (by rfl) (Nat.le_of_ble_eq_true rfl) (by (conv=>lhs;whnf);try rfl) ?_ | refine Zn rfl rfl ?_ | refine Za rfl rfl rfl (by rfl) (by decide) (by (conv=>lhs;whnf);try rfl) ?_ | refine Zf rfl rfl rfl ?_ | refine ZQ rfl rfl ?_ | refine ZB rfl rfl (by (conv=>lhs;whnf);try rfl) ?_ | refine g_field rfl rfl rfl ?_ | refine Zo ?_ | refine Zp (by kernel_rfl) ?_ | refine Zr ?_ | refine Zb ?_ | refine Zh ?_ | refine Zj ?_ | refine Zs ?_ | refine Zk ?_ | refine Zq ?_ | refine Zt ?_ | refine ZC ?_ | refine Zg ?_ | refine Zu ?_ | refine ZD ?_)
   by_cases h2:e.kind=2
   ·rw [if_pos h2] at ha0
    obtain ⟨s,hs,ha0⟩:=Option.bind_eq_some_iff.1 ha0
    rw [decide_eq_true h2]
    repeat (first | (refine ZV rfl rfl ?_) | (refine ZeV (Zh6 _ _ hs) rfl rfl ?_) | (refine ZY [_] νb (ZbP e2 r s hf.1 hf.2 a0 ha0) rfl rfl rfl rfl rfl rfl ?_) | refine ZA rfl (by (conv=>lhs;whnf);try rfl) ?_ | refine Zx rfl rfl rfl ?_ | refine Zc rfl rfl ?_ | refine Zi rfl (by (conv=>lhs;whnf);try rfl) ?_ | refine ZM rfl rfl (by omega) ?_ | refine ZL rfl rfl rfl (by omega) (by omega) ?_ | refine ZI rfl rfl rfl (by omega) ?_ | refine ZK rfl rfl rfl (by omega) (by omega) ?_ | refine ZN rfl rfl rfl rfl (by (conv=>lhs;whnf);try rfl) ?_ | refine ZP rfl rfl rfl rfl (by (conv=>lhs;whnf);try rfl) ?_ | refine ZR rfl rfl ?_ | refine Zd rfl rfl ?_ | refine Zz rfl rfl ?_ | refine g_bits rfl rfl rfl rfl ?_ | refine ZS rfl rfl rfl (by decide) ?_ | refine g_rem rfl rfl rfl (by first | decide | omega) ?_ | refine ZU rfl rfl ?_ | refine Zv Tryz.underlying9 rfl rfl ?_ | refine ZT rfl (by (conv=>lhs;whnf);try rfl) (by (conv=>lhs;whnf);try rfl) (by rfl) ?_ | refine Zl rfl rfl ?_ | refine Zm rfl rfl rfl (by (conv=>lhs;whnf);try rfl) (by (conv=>lhs;whnf);try rfl) (by rfl) (by rfl) (Nat.le_of_ble_eq_true rfl) (by (conv=>lhs;whnf);try rfl) ?_ | refine Zn rfl rfl ?_ | refine Za rfl rfl rfl (by rfl) (by decide) (by (conv=>lhs;whnf);try rfl) ?_ | refine Zf rfl rfl rfl ?_ | refine ZQ rfl rfl ?_ | refine ZB rfl rfl (by (conv=>lhs;whnf);try rfl) ?_ | refine g_field rfl rfl rfl ?_ | refine Zo ?_ | refine Zp (by kernel_rfl) ?_ | refine Zr ?_ | refine Zb ?_ | refine Zh ?_ | refine Zj ?_ | refine Zs ?_ | refine Zk ?_ | refine Zq ?_ | refine Zt ?_ | refine ZC ?_ | refine Zg ?_ | refine Zu ?_ | refine ZD ?_)
    exact ZcW a0 2 rfl (Za7 (νc 5 6) [_] (ZrT (νc 5 6)) ZhI rfl ⟨rfl,rfl,trivial⟩ (x:=[(300,νb 300,.box e.cells)]) (x':=[(300,νb 300,.box e.cells)]) rfl rfl rfl (ZG rfl (Zal _)) rfl)
   ·rw [if_neg h2] at ha0
    rw [decide_eq_false h2]
    repeat (first | (refine Zw rfl rfl ?_) | refine ZA rfl (by (conv=>lhs;whnf);try rfl) ?_ | refine Zx rfl rfl rfl ?_ | refine Zc rfl rfl ?_ | refine Zi rfl (by (conv=>lhs;whnf);try rfl) ?_ | refine ZM rfl rfl (by omega) ?_ | refine ZL rfl rfl rfl (by omega) (by omega) ?_ | refine ZI rfl rfl rfl (by omega) ?_ | refine ZK rfl rfl rfl (by omega) (by omega) ?_ | refine ZN rfl rfl rfl rfl (by (conv=>lhs;whnf);try rfl) ?_ | refine ZP rfl rfl rfl rfl (by (conv=>lhs;whnf);try rfl) ?_ | refine ZR rfl rfl ?_ | refine Zd rfl rfl ?_ | refine Zz rfl rfl ?_ | refine g_bits rfl rfl rfl rfl ?_ | refine ZS rfl rfl rfl (by decide) ?_ | refine g_rem rfl rfl rfl (by first | decide | omega) ?_ | refine ZU rfl rfl ?_ | refine Zv Tryz.underlying9 rfl rfl ?_ | refine ZT rfl (by (conv=>lhs;whnf);try rfl) (by (conv=>lhs;whnf);try rfl) (by rfl) ?_ | refine Zl rfl rfl ?_ | refine Zm rfl rfl rfl (by (conv=>lhs;whnf);try rfl) (by (conv=>lhs;whnf);try rfl) (by rfl) (by rfl) (Nat.le_of_ble_eq_true rfl) (by (conv=>lhs;whnf);try rfl) ?_ | refine Zn rfl rfl ?_ | refine Za rfl rfl rfl (by rfl) (by decide) (by (conv=>lhs;whnf);try rfl) ?_ | refine Zf rfl rfl rfl ?_ | refine ZQ rfl rfl ?_ | refine ZB rfl rfl (by (conv=>lhs;whnf);try rfl) ?_ | refine g_field rfl rfl rfl ?_ | refine Zo ?_ | refine Zp (by kernel_rfl) ?_ | refine Zr ?_ | refine Zb ?_ | refine Zh ?_ | refine Zj ?_ | refine Zs ?_ | refine Zk ?_ | refine Zq ?_ | refine Zt ?_ | refine ZC ?_ | refine Zg ?_ | refine Zu ?_ | refine ZD ?_)
    by_cases h3:e.kind=3
    ·rw [if_pos h3] at ha0
     obtain ⟨s,hs,ha0⟩:=Option.bind_eq_some_iff.1 ha0
     rw [decide_eq_true h3]
     repeat (first | (refine ZV rfl rfl ?_) | (refine ZeV (Zc3 _ _ _ hs) rfl rfl ?_) | (refine ZY [_] νb (ZbP e2 r s hf.1 hf.2 a0 ha0) rfl rfl rfl rfl rfl rfl ?_) | refine ZA rfl (by (conv=>lhs;whnf);try rfl) ?_ | refine Zx rfl rfl rfl ?_ | refine Zc rfl rfl ?_ | refine Zi rfl (by (conv=>lhs;whnf);try rfl) ?_ | refine ZM rfl rfl (by omega) ?_ | refine ZL rfl rfl rfl (by omega) (by omega) ?_ | refine ZI rfl rfl rfl (by omega) ?_ | refine ZK rfl rfl rfl (by omega) (by omega) ?_ | refine ZN rfl rfl rfl rfl (by (conv=>lhs;whnf);try rfl) ?_ | refine ZP rfl rfl rfl rfl (by (conv=>lhs;whnf);try rfl) ?_ | refine ZR rfl rfl ?_ | refine Zd rfl rfl ?_ | refine Zz rfl rfl ?_ | refine g_bits rfl rfl rfl rfl ?_ | refine ZS rfl rfl rfl (by decide) ?_ | refine g_rem rfl rfl rfl (by first | decide | omega) ?_ | refine ZU rfl rfl ?_ | refine Zv Tryz.underlying9 rfl rfl ?_ | refine ZT rfl (by (conv=>lhs;whnf);try rfl) (by (conv=>lhs;whnf);try rfl) (by rfl) ?_ | refine Zl rfl rfl ?_ | refine Zm rfl rfl rfl (by (conv=>lhs;whnf);try rfl) (by (conv=>lhs;whnf);try rfl) (by rfl) (by rfl) (Nat.le_of_ble_eq_true rfl) (by (conv=>lhs;whnf);try rfl) ?_ | refine Zn rfl rfl ?_ | refine Za rfl rfl rfl (by rfl) (by decide) (by (conv=>lhs;whnf);try rfl) ?_ | refine Zf rfl rfl rfl ?_ | refine ZQ rfl rfl ?_ | refine ZB rfl rfl (by (conv=>lhs;whnf);try rfl) ?_ | refine g_field rfl rfl rfl ?_ | refine Zo ?_ | refine Zp (by kernel_rfl) ?_ | refine Zr ?_ | refine Zb ?_ | refine Zh ?_ | refine Zj ?_ | refine Zs ?_ | refine Zk ?_ | refine Zq ?_ | refine Zt ?_ | refine ZC ?_ | refine Zg ?_ | refine Zu ?_ | refine ZD ?_)
     exact ZcW a0 2 rfl (Za7 (νc 6 6) [_] (ZrT (νc 6 6)) ZhI rfl ⟨rfl,rfl,trivial⟩ (x:=[(300,νb 300,.box e.cells)]) (x':=[(300,νb 300,.box e.cells)]) rfl rfl rfl (ZG rfl (Zal _)) rfl)
    ·rw [if_neg h3] at ha0
     injection ha0 with ha0
     subst ha0
     rw [decide_eq_false h3]
     repeat (first | (refine Zw rfl rfl ?_) | refine ZA rfl (by (conv=>lhs;whnf);try rfl) ?_ | refine Zx rfl rfl rfl ?_ | refine Zc rfl rfl ?_ | refine Zi rfl (by (conv=>lhs;whnf);try rfl) ?_ | refine ZM rfl rfl (by omega) ?_ | refine ZL rfl rfl rfl (by omega) (by omega) ?_ | refine ZI rfl rfl rfl (by omega) ?_ | refine ZK rfl rfl rfl (by omega) (by omega) ?_ | refine ZN rfl rfl rfl rfl (by (conv=>lhs;whnf);try rfl) ?_ | refine ZP rfl rfl rfl rfl (by (conv=>lhs;whnf);try rfl) ?_ | refine ZR rfl rfl ?_ | refine Zd rfl rfl ?_ | refine Zz rfl rfl ?_ | refine g_bits rfl rfl rfl rfl ?_ | refine ZS rfl rfl rfl (by decide) ?_ | refine g_rem rfl rfl rfl (by first | decide | omega) ?_ | refine ZU rfl rfl ?_ | refine Zv Tryz.underlying9 rfl rfl ?_ | refine ZT rfl (by (conv=>lhs;whnf);try rfl) (by (conv=>lhs;whnf);try rfl) (by rfl) ?_ | refine Zl rfl rfl ?_ | refine Zm rfl rfl rfl (by (conv=>lhs;whnf);try rfl) (by (conv=>lhs;whnf);try rfl) (by rfl) (by rfl) (Nat.le_of_ble_eq_true rfl) (by (conv=>lhs;whnf);try rfl) ?_ | refine Zn rfl rfl ?_ | refine Za rfl rfl rfl (by rfl) (by decide) (by (conv=>lhs;whnf);try rfl) ?_ | refine Zf rfl rfl rfl ?_ | refine ZQ rfl rfl ?_ | refine ZB rfl rfl (by (conv=>lhs;whnf);try rfl) ?_ | refine g_field rfl rfl rfl ?_ | refine Zo ?_ | refine Zp (by kernel_rfl) ?_ | refine Zr ?_ | refine Zb ?_ | refine Zh ?_ | refine Zj ?_ | refine Zs ?_ | refine Zk ?_ | refine Zq ?_ | refine Zt ?_ | refine ZC ?_ | refine Zg ?_ | refine Zu ?_ | refine ZD ?_)
     exact ZcW e2 2 rfl (Za7 (νb) [_] (ZrT (νb)) ZhI rfl ⟨rfl,rfl,trivial⟩ (x:=[(300,νb 300,.box e.cells)]) (x':=[(300,νb 300,.box e.cells)]) rfl rfl rfl (ZG rfl (Zal _)) rfl)
 ·subst hJ
  repeat (first | (refine ZY [_] νb (Zgc e.list _ b0 r hfa hb0) rfl rfl rfl rfl rfl rfl ?_) | refine ZA rfl (by (conv=>lhs;whnf);try rfl) ?_ | refine Zx rfl rfl rfl ?_ | refine Zc rfl rfl ?_ | refine Zi rfl (by (conv=>lhs;whnf);try rfl) ?_ | refine ZM rfl rfl (by omega) ?_ | refine ZL rfl rfl rfl (by omega) (by omega) ?_ | refine ZI rfl rfl rfl (by omega) ?_ | refine ZK rfl rfl rfl (by omega) (by omega) ?_ | refine ZN rfl rfl rfl rfl (by (conv=>lhs;whnf);try rfl) ?_ | refine ZP rfl rfl rfl rfl (by (conv=>lhs;whnf);try rfl) ?_ | refine ZR rfl rfl ?_ | refine Zd rfl rfl ?_ | refine Zz rfl rfl ?_ | refine g_bits rfl rfl rfl rfl ?_ | refine ZS rfl rfl rfl (by decide) ?_ | refine g_rem rfl rfl rfl (by first | decide | omega) ?_ | refine ZU rfl rfl ?_ | refine Zv Tryz.underlying9 rfl rfl ?_ | refine ZT rfl (by (conv=>lhs;whnf);try rfl) (by (conv=>lhs;whnf);try rfl) (by rfl) ?_ | refine Zl rfl rfl ?_ | refine Zm rfl rfl rfl (by (conv=>lhs;whnf);try rfl) (by (conv=>lhs;whnf);try rfl) (by rfl) (by rfl) (Nat.le_of_ble_eq_true rfl) (by (conv=>lhs;whnf);try rfl) ?_ | refine Zn rfl rfl ?_ | refine Za rfl rfl rfl (by rfl) (by decide) (by (conv=>lhs;whnf);try rfl) ?_ | refine Zf rfl rfl rfl ?_ | refine ZQ rfl rfl ?_ | refine ZB rfl rfl (by (conv=>lhs;whnf);try rfl) ?_ | refine g_field rfl rfl rfl ?_ | refine Zo ?_ | refine Zp (by kernel_rfl) ?_ | refine Zr ?_ | refine Zb ?_ | refine Zh ?_ | refine Zj ?_ | refine Zs ?_ | refine Zk ?_ | refine Zq ?_ | refine Zt ?_ | refine ZC ?_ | refine Zg ?_ | refine Zu ?_ | refine ZD ?_)
  refine Zac (fun (a:Nat×El) _=>mkS [(0,.ptr 0 (0,0) 0),(42,.sl (e.argL.map Arg.cs)),(43,.int .i64 ((e.argL.map Arg.cs).length:Int)),(44,.int .i64 ((a.1:Nat):Int))] (somes (stP νb a.2 r)) 2) (fun a=>a.1≤e.argL.length∧fit a.2 r∧Zdb a.2 (e.argL.drop a.1)=some e3) (fun a=>e.argL.length - a.1) (0,b0) 2 ⟨Nat.zero_le _,hfb,h4⟩
   (Za7 (νc 2 5) [_] (fun k=>(k,νc 2 5 k)) (fun _ _=>rfl) rfl ⟨rfl,rfl,rfl,rfl,trivial⟩ (x:=[]) (x':=[]) rfl rfl rfl (Zal _) rfl) (fun a ng hJ=>?_)
  obtain ⟨q,e1⟩:=a
  obtain ⟨hq,hf1,hn⟩:=hJ
  dsimp only at hq hf1 hn ⊢
  repeat (first | refine ZA rfl (by (conv=>lhs;whnf);try rfl) ?_ | refine Zx rfl rfl rfl ?_ | refine Zc rfl rfl ?_ | refine Zi rfl (by (conv=>lhs;whnf);try rfl) ?_ | refine ZM rfl rfl (by omega) ?_ | refine ZL rfl rfl rfl (by omega) (by omega) ?_ | refine ZI rfl rfl rfl (by omega) ?_ | refine ZK rfl rfl rfl (by omega) (by omega) ?_ | refine ZN rfl rfl rfl rfl (by (conv=>lhs;whnf);try rfl) ?_ | refine ZP rfl rfl rfl rfl (by (conv=>lhs;whnf);try rfl) ?_ | refine ZR rfl rfl ?_ | refine Zd rfl rfl ?_ | refine Zz rfl rfl ?_ | refine g_bits rfl rfl rfl rfl ?_ | refine ZS rfl rfl rfl (by decide) ?_ | refine g_rem rfl rfl rfl (by first | decide | omega) ?_ | refine ZU rfl rfl ?_ | refine Zv Tryz.underlying9 rfl rfl ?_ | refine ZT rfl (by (conv=>lhs;whnf);try rfl) (by (conv=>lhs;whnf);try rfl) (by rfl) ?_ | refine Zl rfl rfl ?_ | refine Zm rfl rfl rfl (by (conv=>lhs;whnf);try rfl) (by (conv=>lhs;whnf);try rfl) (by rfl) (by rfl) (Nat.le_of_ble_eq_true rfl) (by (conv=>lhs;whnf);try rfl) ?_ | refine Zn rfl rfl ?_ | refine Za rfl rfl rfl (by rfl) (by decide) (by (conv=>lhs;whnf);try rfl) ?_ | refine Zf rfl rfl rfl ?_ | refine ZQ rfl rfl ?_ | refine ZB rfl rfl (by (conv=>lhs;whnf);try rfl) ?_ | refine g_field rfl rfl rfl ?_ | refine Zo ?_ | refine Zp (by kernel_rfl) ?_ | refine Zr ?_ | refine Zb ?_ | refine Zh ?_ | refine Zj ?_ | refine Zs ?_ | refine Zk ?_ | refine Zq ?_ | refine Zt ?_ | refine ZC ?_ | refine Zg ?_ | refine Zu ?_ | refine ZD ?_)
  by_cases hlt:q<e.argL.length
  ·refine ZV (by (conv=>lhs;whnf);try rfl) (by simp;omega) ?_
   rw [List.drop_eq_getElem_cons hlt] at hn
   obtain ⟨e5,h5,hn⟩:=Option.bind_eq_some_iff.1 hn
   have hf5:=Zh3 hf1 h5
   have hcs:(e.argL.map Arg.cs)[q]? = some (Arg.cs e.argL[q]):=by rw [List.getElem?_map,List.getElem?_eq_getElem hlt];rfl
   generalize e.argL[q]=ar at hcs h5
   obtain ⟨named,name,value⟩:=ar
   obtain ⟨b,hb,h5⟩:=Option.bind_eq_some_iff.1 h5
   obtain ⟨d,hd,h5⟩:=Option.bind_eq_some_iff.1 h5
   have hfb2:=ZaA hf1 hb
   cases named with
   | true=>
     rw [if_pos rfl] at hd
     obtain ⟨c,hc,hd⟩:=Option.bind_eq_some_iff.1 hd
     have hfc:=ZcL hfb2 hc
     have hfd:=ZaA hfc hd
     repeat (first | (refine Zdp rfl rfl rfl hcs rfl ?_) | (refine ZV rfl rfl ?_) | (refine ZY [_,_] νb (ZbP e1 r _ hf1.1 hf1.2 b hb) rfl rfl rfl rfl rfl rfl ?_) | (refine ZY [_,_] (νc _ _) (Zgc name b c r hfb2 hc) rfl rfl rfl rfl rfl rfl ?_) | (refine ZY [_,_] (νc _ _) (ZbP c r _ hfc.1 hfc.2 d hd) rfl rfl rfl rfl rfl rfl ?_) | (refine ZY [_,_] (νc _ _) (Zgc value d e5 r hfd h5) rfl rfl rfl rfl rfl rfl ?_) | refine ZA rfl (by (conv=>lhs;whnf);try rfl) ?_ | refine Zx rfl rfl rfl ?_ | refine Zc rfl rfl ?_ | refine Zi rfl (by (conv=>lhs;whnf);try rfl) ?_ | refine ZM rfl rfl (by omega) ?_ | refine ZL rfl rfl rfl (by omega) (by omega) ?_ | refine ZI rfl rfl rfl (by omega) ?_ | refine ZK rfl rfl rfl (by omega) (by omega) ?_ | refine ZN rfl rfl rfl rfl (by (conv=>lhs;whnf);try rfl) ?_ | refine ZP rfl rfl rfl rfl (by (conv=>lhs;whnf);try rfl) ?_ | refine ZR rfl rfl ?_ | refine Zd rfl rfl ?_ | refine Zz rfl rfl ?_ | refine g_bits rfl rfl rfl rfl ?_ | refine ZS rfl rfl rfl (by decide) ?_ | refine g_rem rfl rfl rfl (by first | decide | omega) ?_ | refine ZU rfl rfl ?_ | refine Zv Tryz.underlying9 rfl rfl ?_ | refine ZT rfl (by (conv=>lhs;whnf);try rfl) (by (conv=>lhs;whnf);try rfl) (by rfl) ?_ | refine Zl rfl rfl ?_ | refine Zm rfl rfl rfl (by (conv=>lhs;whnf);try rfl) (by (conv=>lhs;whnf);try rfl) (by rfl) (by rfl) (Nat.le_of_ble_eq_true rfl) (by (conv=>lhs;whnf);try rfl) ?_ | refine Zn rfl rfl ?_ | refine Za rfl rfl rfl (by rfl) (by decide) (by (conv=>lhs;whnf);try rfl) ?_ | refine Zf rfl rfl rfl ?_ | refine ZQ rfl rfl ?_ | refine ZB rfl rfl (by (conv=>lhs;whnf);try rfl) ?_ | refine g_field rfl rfl rfl ?_ | refine Zo ?_ | refine Zp (by kernel_rfl) ?_ | refine Zr ?_ | refine Zb ?_ | refine Zh ?_ | refine Zj ?_ | refine Zs ?_ | refine Zk ?_ | refine Zq ?_ | refine Zt ?_ | refine ZC ?_ | refine Zg ?_ | refine Zu ?_ | refine ZD ?_)
     exact Zax (q+1,e5) 2 ⟨by omega,hf5,hn⟩ (by dsimp only;omega) (Za7 (νc 8 3) [_,_] (fun k=>(k,νc 8 3 k)) (fun _ _=>rfl) rfl ⟨rfl,rfl,rfl,rfl,trivial⟩ (x:=[]) (x':=[]) rfl rfl rfl (Zal _) rfl)
   | false=>
     rw [if_neg Bool.false_ne_true] at hd
     injection hd with hd
     subst hd
     repeat (first | (refine Zdp rfl rfl rfl hcs rfl ?_) | (refine Zw rfl rfl ?_) | (refine ZY [_,_] νb (ZbP e1 r _ hf1.1 hf1.2 b hb) rfl rfl rfl rfl rfl rfl ?_) | (refine ZY [_,_] (νc _ _) (Zgc value b e5 r hfb2 h5) rfl rfl rfl rfl rfl rfl ?_) | refine ZA rfl (by (conv=>lhs;whnf);try rfl) ?_ | refine Zx rfl rfl rfl ?_ | refine Zc rfl rfl ?_ | refine Zi rfl (by (conv=>lhs;whnf);try rfl) ?_ | refine ZM rfl rfl (by omega) ?_ | refine ZL rfl rfl rfl (by omega) (by omega) ?_ | refine ZI rfl rfl rfl (by omega) ?_ | refine ZK rfl rfl rfl (by omega) (by omega) ?_ | refine ZN rfl rfl rfl rfl (by (conv=>lhs;whnf);try rfl) ?_ | refine ZP rfl rfl rfl rfl (by (conv=>lhs;whnf);try rfl) ?_ | refine ZR rfl rfl ?_ | refine Zd rfl rfl ?_ | refine Zz rfl rfl ?_ | refine g_bits rfl rfl rfl rfl ?_ | refine ZS rfl rfl rfl (by decide) ?_ | refine g_rem rfl rfl rfl (by first | decide | omega) ?_ | refine ZU rfl rfl ?_ | refine Zv Tryz.underlying9 rfl rfl ?_ | refine ZT rfl (by (conv=>lhs;whnf);try rfl) (by (conv=>lhs;whnf);try rfl) (by rfl) ?_ | refine Zl rfl rfl ?_ | refine Zm rfl rfl rfl (by (conv=>lhs;whnf);try rfl) (by (conv=>lhs;whnf);try rfl) (by rfl) (by rfl) (Nat.le_of_ble_eq_true rfl) (by (conv=>lhs;whnf);try rfl) ?_ | refine Zn rfl rfl ?_ | refine Za rfl rfl rfl (by rfl) (by decide) (by (conv=>lhs;whnf);try rfl) ?_ | refine Zf rfl rfl rfl ?_ | refine ZQ rfl rfl ?_ | refine ZB rfl rfl (by (conv=>lhs;whnf);try rfl) ?_ | refine g_field rfl rfl rfl ?_ | refine Zo ?_ | refine Zp (by kernel_rfl) ?_ | refine Zr ?_ | refine Zb ?_ | refine Zh ?_ | refine Zj ?_ | refine Zs ?_ | refine Zk ?_ | refine Zq ?_ | refine Zt ?_ | refine ZC ?_ | refine Zg ?_ | refine Zu ?_ | refine ZD ?_)
     exact Zax (q+1,e5) 2 ⟨by omega,hf5,hn⟩ (by dsimp only;omega) (Za7 (νc 6 3) [_,_] (fun k=>(k,νc 6 3 k)) (fun _ _=>rfl) rfl ⟨rfl,rfl,rfl,rfl,trivial⟩ (x:=[]) (x':=[]) rfl rfl rfl (Zal _) rfl)
  ·refine Zw (by (conv=>lhs;whnf);try rfl) (by simp;omega) ?_
   repeat (first | refine ZA rfl (by (conv=>lhs;whnf);try rfl) ?_ | refine Zx rfl rfl rfl ?_ | refine Zc rfl rfl ?_ | refine Zi rfl (by (conv=>lhs;whnf);try rfl) ?_ | refine ZM rfl rfl (by omega) ?_ | refine ZL rfl rfl rfl (by omega) (by omega) ?_ | refine ZI rfl rfl rfl (by omega) ?_ | refine ZK rfl rfl rfl (by omega) (by omega) ?_ | refine ZN rfl rfl rfl rfl (by (conv=>lhs;whnf);try rfl) ?_ | refine ZP rfl rfl rfl rfl (by (conv=>lhs;whnf);try rfl) ?_ | refine ZR rfl rfl ?_ | refine Zd rfl rfl ?_ | refine Zz rfl rfl ?_ | refine g_bits rfl rfl rfl rfl ?_ | refine ZS rfl rfl rfl (by decide) ?_ | refine g_rem rfl rfl rfl (by first | decide | omega) ?_ | refine ZU rfl rfl ?_ | refine Zv Tryz.underlying9 rfl rfl ?_ | refine ZT rfl (by (conv=>lhs;whnf);try rfl) (by (conv=>lhs;whnf);try rfl) (by rfl) ?_ | refine Zl rfl rfl ?_ | refine Zm rfl rfl rfl (by (conv=>lhs;whnf);try rfl) (by (conv=>lhs;whnf);try rfl) (by rfl) (by rfl) (Nat.le_of_ble_eq_true rfl) (by (conv=>lhs;whnf);try rfl) ?_ | refine Zn rfl rfl ?_ | refine Za rfl rfl rfl (by rfl) (by decide) (by (conv=>lhs;whnf);try rfl) ?_ | refine Zf rfl rfl rfl ?_ | refine ZQ rfl rfl ?_ | refine ZB rfl rfl (by (conv=>lhs;whnf);try rfl) ?_ | refine g_field rfl rfl rfl ?_ | refine Zo ?_ | refine Zp (by kernel_rfl) ?_ | refine Zr ?_ | refine Zb ?_ | refine Zh ?_ | refine Zj ?_ | refine Zs ?_ | refine Zk ?_ | refine Zq ?_ | refine Zt ?_ | refine ZC ?_ | refine Zg ?_ | refine Zu ?_ | refine ZD ?_)
   obtain rfl:q=e.argL.length:=by omega
   rw [List.drop_length] at hn
   injection hn with hn
   subst hn
   exact Zbr (.inr rfl) νb [] [] rfl rfl trivial rfl rfl
end Go.Proofs.YtmgfammllddkhaaGreatDoor
namespace Go.Proofs.YtmgfammllddkhaaGreatDoor
namespace VL
section
variable {P:Program} [WInv P] {ops:Array Oper} {draw:Bool} {i:Nat} {L:List Oper} {acc:List (List Nat×List Nat)} {K:FS→Prop} {tm:List (Nat×PV)} {ob:List (Nat×Option (Gen×VObj))} {ng:Nat}
 {d:Option Tmp} {ty:TypeId} {pos:String} {after:Array Edge} {gd:Option (Nat×Bool)}
theorem ZjP {x:Operand} {T:TypeId} {agg:Bool} {n:Nat} [h:Ld P T agg n] (hw:Zy ops (mkS tm ob ng) ⟨d,.load T x,ty,pos,after,gd⟩=some true) {cs:List PV} {t off:Nat} {g:Gen} {v:PV} (hx:evL tm x = .ptr t g off) (hb:ZJ ob t=some (g,.box cs)) (hv:ZkJ agg n (cs.drop off)=some v)
  (k:GoL P ops draw (i+1) L (acc ++ [(Zaa (mkS tm ob ng) ⟨d,.load T x,ty,pos,after,gd⟩,[])]) (mkS (Zbh d v tm) ob ng) K):GoL P ops draw i (⟨d,.load T x,ty,pos,after,gd⟩::L) acc (mkS tm ob ng) K:=by
 refine Zx (cs:=cs.drop off) hw ?_ hv k
 rw [hx]
 simp only [Zey,Zaq,hb,if_true]
end
theorem Zqr {ν:Nat→Gen} {NT AT:Nat} {e':El} {r':List El}:∀ {r:List El},(e'::r') <:+ r→(Zdl ν r)[r'.length]? = some [.ptr (Zbi r') (ν (Zbi r')) 0]∧(Zbi r',ν (Zbi r'),VObj.box [.int .i64 e'.kind,.int .i64 e'.tag,.int .i64 e'.count,.row (Zbi r'+1) (ν (Zbi r'+1)),.row (Zbi r'+2) (ν (Zbi r'+2))]) ∈ ZeY NT AT ν r
 | [],h=>by cases List.suffix_nil.1 h
 | x::r,h=>by
   rcases List.suffix_cons_iff.1 h with h | h
   ·injection h with h1 h2
    subst h1 h2
    exact ⟨by unfold Zdl;have:=Zlx ν r' [.ptr (Zbi r') (ν (Zbi r')) 0];exact this,List.mem_append_left _ (List.mem_cons_self ..)⟩
   ·obtain ⟨h1,h2⟩:=Zqr (NT:=NT) (AT:=AT) h
    refine ⟨?_,List.mem_append_right _ h2⟩
    unfold Zdl
    rw [List.getElem?_append_left (List.getElem?_eq_some_iff.1 h1).1]
    exact h1
theorem Zqs {ν:Nat→Gen} {NT AT ET:Nat} {e e':El} {r r':List El} (h:(e'::r') <:+ (e::r)):∃ b c1 c2,(Zdl ν r ++ [[.ptr 1001 (ν 1001) 0]])[r'.length]? = some [.ptr b (ν b) 0]∧(b,ν b,VObj.box [.int .i64 e'.kind,.int .i64 e'.tag,.int .i64 e'.count,c1,c2]) ∈ stO NT AT ET ν e r:=by
 rcases List.suffix_cons_iff.1 h with h | h
 ·injection h with h1 h2
  subst h1 h2
  exact ⟨1001,_,_,Zlx ν r' _,List.mem_cons_of_mem _ (List.mem_cons_of_mem _ (List.mem_append_left _ (List.mem_cons_self ..)))⟩
 ·obtain ⟨h1,h2⟩:=Zqr (NT:=NT) (AT:=AT) (ν:=ν) h
  refine ⟨_,_,_,?_,List.mem_cons_of_mem _ (List.mem_cons_of_mem _ (List.mem_append_right _ h2))⟩
  rw [List.getElem?_append_left (List.getElem?_eq_some_iff.1 h1).1]
  exact h1
end VL
open VL
def Zai:El→List El→Nat
 | _,[]=>0
 | e,e2::r=>if e.kind=2 then 0 else if e.kind=3 then r.length+1 else Zai e2 r
def ZaT (k:Int):El→List El→Nat
 | _,[]=>0
 | e,e2::r=>if e.kind=2∧e.tag=k then r.length+1 else ZaT k e2 r
theorem ZfN {e:El} {r:List El} {tm tm':List (Nat×PV)} {ng:Nat} (h1:Zfb (σf fun k=>(k,νa k)) tm tm'):Shift (mkS tm (somes (stP νa e r)) ng) (mkS tm' (somes (stP νa e r)) 2):=
 ZeO _ h1 (ZjB (ν:=νa) (ν':=νa) (fun _ _=>rfl) e r) (Zbe (lits:=[]) rfl) (ZaY _ _ _)
set_option maxRecDepth 100000 in
set_option maxHeartbeats 1000000 in
theorem Zlv (e:El) (r:List El) (hr:r.length≤1000):ContractG Tryz.prog 171 [.ptr 0 (0,0) 0] (objs (stP νa e r)) (.int .i64 (Zai e r:Int)) (stP νa e r):=by
 refine ZZ mix Tryz.func171 (by kernel_rfl) rfl (by kernel_rfl) ?_
 rw [ZbY]
 repeat (first | (refine Zbc rfl rfl (ZbU _ _ _) ?_) | (refine ZI rfl rfl rfl (by omega) ?_) | refine ZA rfl (by (conv=>lhs;whnf);try rfl) ?_ | refine Zx rfl rfl rfl ?_ | refine Zc rfl rfl ?_ | refine Zi rfl (by (conv=>lhs;whnf);try rfl) ?_ | refine ZM rfl rfl (by omega) ?_ | refine ZL rfl rfl rfl (by omega) (by omega) ?_ | refine ZI rfl rfl rfl (by omega) ?_ | refine ZK rfl rfl rfl (by omega) (by omega) ?_ | refine ZN rfl rfl rfl rfl (by (conv=>lhs;whnf);try rfl) ?_ | refine ZP rfl rfl rfl rfl (by (conv=>lhs;whnf);try rfl) ?_ | refine ZR rfl rfl ?_ | refine Zd rfl rfl ?_ | refine Zz rfl rfl ?_ | refine g_bits rfl rfl rfl rfl ?_ | refine ZS rfl rfl rfl (by decide) ?_ | refine g_rem rfl rfl rfl (by first | decide | omega) ?_ | refine ZU rfl rfl ?_ | refine Zv Tryz.underlying9 rfl rfl ?_ | refine ZT rfl (by (conv=>lhs;whnf);try rfl) (by (conv=>lhs;whnf);try rfl) (by rfl) ?_ | refine Zl rfl rfl ?_ | refine Zm rfl rfl rfl (by (conv=>lhs;whnf);try rfl) (by (conv=>lhs;whnf);try rfl) (by rfl) (by rfl) (Nat.le_of_ble_eq_true rfl) (by (conv=>lhs;whnf);try rfl) ?_ | refine Zn rfl rfl ?_ | refine Za rfl rfl rfl (by rfl) (by decide) (by (conv=>lhs;whnf);try rfl) ?_ | refine Zf rfl rfl rfl ?_ | refine ZQ rfl rfl ?_ | refine ZB rfl rfl (by (conv=>lhs;whnf);try rfl) ?_ | refine g_field rfl rfl rfl ?_ | refine Zo ?_ | refine Zp (by kernel_rfl) ?_ | refine Zr ?_ | refine Zb ?_ | refine Zh ?_ | refine Zj ?_ | refine Zs ?_ | refine Zk ?_ | refine Zq ?_ | refine Zt ?_ | refine ZC ?_ | refine Zg ?_ | refine Zu ?_ | refine ZD ?_)
 refine Zac (fun (a:El×List El) _=>mkS [(0,.ptr 0 (0,0) 0),(3,.int .i64 (a.2.length:Int))] (somes (stP νa e r)) 2) (fun a=>(a.1::a.2) <:+ (e::r)∧Zai a.1 a.2=Zai e r) (fun a=>a.2.length) (e,r) 2 ⟨List.suffix_refl _,rfl⟩ (ZfN ⟨rfl,rfl,trivial⟩) (fun a ng hJ=>?_)
 obtain ⟨e1,r1⟩:=a
 obtain ⟨hsuf,hlb⟩:=hJ
 dsimp only at hsuf hlb ⊢
 have hlt:r1.length<r.length+1:=by have:=hsuf.length_le;simp at this;omega
 obtain ⟨b,c1,c2,hp,hm⟩:=Zqs (ν:=νa) (NT:=78) (AT:=111) (ET:=98) hsuf
 have hb:=Zbe (lits:=[]) rfl _ _ _ hm
 rcases r1 with _ | ⟨e2,r2⟩
 ·repeat (first | (refine Zaj rfl ?_) | (refine Zw rfl rfl ?_) | refine ZA rfl (by (conv=>lhs;whnf);try rfl) ?_ | refine Zx rfl rfl rfl ?_ | refine Zc rfl rfl ?_ | refine Zi rfl (by (conv=>lhs;whnf);try rfl) ?_ | refine ZM rfl rfl (by omega) ?_ | refine ZL rfl rfl rfl (by omega) (by omega) ?_ | refine ZI rfl rfl rfl (by omega) ?_ | refine ZK rfl rfl rfl (by omega) (by omega) ?_ | refine ZN rfl rfl rfl rfl (by (conv=>lhs;whnf);try rfl) ?_ | refine ZP rfl rfl rfl rfl (by (conv=>lhs;whnf);try rfl) ?_ | refine ZR rfl rfl ?_ | refine Zd rfl rfl ?_ | refine Zz rfl rfl ?_ | refine g_bits rfl rfl rfl rfl ?_ | refine ZS rfl rfl rfl (by decide) ?_ | refine g_rem rfl rfl rfl (by first | decide | omega) ?_ | refine ZU rfl rfl ?_ | refine Zv Tryz.underlying9 rfl rfl ?_ | refine ZT rfl (by (conv=>lhs;whnf);try rfl) (by (conv=>lhs;whnf);try rfl) (by rfl) ?_ | refine Zl rfl rfl ?_ | refine Zm rfl rfl rfl (by (conv=>lhs;whnf);try rfl) (by (conv=>lhs;whnf);try rfl) (by rfl) (by rfl) (Nat.le_of_ble_eq_true rfl) (by (conv=>lhs;whnf);try rfl) ?_ | refine Zn rfl rfl ?_ | refine Za rfl rfl rfl (by rfl) (by decide) (by (conv=>lhs;whnf);try rfl) ?_ | refine Zf rfl rfl rfl ?_ | refine ZQ rfl rfl ?_ | refine ZB rfl rfl (by (conv=>lhs;whnf);try rfl) ?_ | refine g_field rfl rfl rfl ?_ | refine Zo ?_ | refine Zp (by kernel_rfl) ?_ | refine Zr ?_ | refine Zb ?_ | refine Zh ?_ | refine Zj ?_ | refine Zs ?_ | refine Zk ?_ | refine Zq ?_ | refine Zt ?_ | refine ZC ?_ | refine Zg ?_ | refine Zu ?_ | refine ZD ?_)
  rw [← hlb]
  exact Zgr (Shift.refl _) rfl rfl (Zbe (lits:=[]) rfl)
 ·have h0:decide ((0:Int)<(((e2::r2).length:Nat):Int))=true:=decide_eq_true (by simp)
  repeat (first | refine ZA rfl (by (conv=>lhs;whnf);try rfl) ?_ | refine Zx rfl rfl rfl ?_ | refine Zc rfl rfl ?_ | refine Zi rfl (by (conv=>lhs;whnf);try rfl) ?_ | refine ZM rfl rfl (by omega) ?_ | refine ZL rfl rfl rfl (by omega) (by omega) ?_ | refine ZI rfl rfl rfl (by omega) ?_ | refine ZK rfl rfl rfl (by omega) (by omega) ?_ | refine ZN rfl rfl rfl rfl (by (conv=>lhs;whnf);try rfl) ?_ | refine ZP rfl rfl rfl rfl (by (conv=>lhs;whnf);try rfl) ?_ | refine ZR rfl rfl ?_ | refine Zd rfl rfl ?_ | refine Zz rfl rfl ?_ | refine g_bits rfl rfl rfl rfl ?_ | refine ZS rfl rfl rfl (by decide) ?_ | refine g_rem rfl rfl rfl (by first | decide | omega) ?_ | refine ZU rfl rfl ?_ | refine Zv Tryz.underlying9 rfl rfl ?_ | refine ZT rfl (by (conv=>lhs;whnf);try rfl) (by (conv=>lhs;whnf);try rfl) (by rfl) ?_ | refine Zl rfl rfl ?_ | refine Zm rfl rfl rfl (by (conv=>lhs;whnf);try rfl) (by (conv=>lhs;whnf);try rfl) (by rfl) (by rfl) (Nat.le_of_ble_eq_true rfl) (by (conv=>lhs;whnf);try rfl) ?_ | refine Zn rfl rfl ?_ | refine Za rfl rfl rfl (by rfl) (by decide) (by (conv=>lhs;whnf);try rfl) ?_ | refine Zf rfl rfl rfl ?_ | refine ZQ rfl rfl ?_ | refine ZB rfl rfl (by (conv=>lhs;whnf);try rfl) ?_ | refine g_field rfl rfl rfl ?_ | refine Zo ?_ | refine Zp (by kernel_rfl) ?_ | refine Zr ?_ | refine Zb ?_ | refine Zh ?_ | refine Zj ?_ | refine Zs ?_ | refine Zk ?_ | refine Zq ?_ | refine Zt ?_ | refine ZC ?_ | refine Zg ?_ | refine Zu ?_ | refine ZD ?_)
  rw [h0]
  repeat (first | (refine Zd0 rfl rfl rfl rfl (by rw [ZbU];exact hlt) ?_) | (refine Zcy rfl rfl rfl hp rfl ?_) | (refine ZjP rfl rfl hb rfl ?_) | refine ZA rfl (by (conv=>lhs;whnf);try rfl) ?_ | refine Zx rfl rfl rfl ?_ | refine Zc rfl rfl ?_ | refine Zi rfl (by (conv=>lhs;whnf);try rfl) ?_ | refine ZM rfl rfl (by omega) ?_ | refine ZL rfl rfl rfl (by omega) (by omega) ?_ | refine ZI rfl rfl rfl (by omega) ?_ | refine ZK rfl rfl rfl (by omega) (by omega) ?_ | refine ZN rfl rfl rfl rfl (by (conv=>lhs;whnf);try rfl) ?_ | refine ZP rfl rfl rfl rfl (by (conv=>lhs;whnf);try rfl) ?_ | refine ZR rfl rfl ?_ | refine Zd rfl rfl ?_ | refine Zz rfl rfl ?_ | refine g_bits rfl rfl rfl rfl ?_ | refine ZS rfl rfl rfl (by decide) ?_ | refine g_rem rfl rfl rfl (by first | decide | omega) ?_ | refine ZU rfl rfl ?_ | refine Zv Tryz.underlying9 rfl rfl ?_ | refine ZT rfl (by (conv=>lhs;whnf);try rfl) (by (conv=>lhs;whnf);try rfl) (by rfl) ?_ | refine Zl rfl rfl ?_ | refine Zm rfl rfl rfl (by (conv=>lhs;whnf);try rfl) (by (conv=>lhs;whnf);try rfl) (by rfl) (by rfl) (Nat.le_of_ble_eq_true rfl) (by (conv=>lhs;whnf);try rfl) ?_ | refine Zn rfl rfl ?_ | refine Za rfl rfl rfl (by rfl) (by decide) (by (conv=>lhs;whnf);try rfl) ?_ | refine Zf rfl rfl rfl ?_ | refine ZQ rfl rfl ?_ | refine ZB rfl rfl (by (conv=>lhs;whnf);try rfl) ?_ | refine g_field rfl rfl rfl ?_ | refine Zo ?_ | refine Zp (by kernel_rfl) ?_ | refine Zr ?_ | refine Zb ?_ | refine Zh ?_ | refine Zj ?_ | refine Zs ?_ | refine Zk ?_ | refine Zq ?_ | refine Zt ?_ | refine ZC ?_ | refine Zg ?_ | refine Zu ?_ | refine ZD ?_)
  by_cases h2:e1.kind=2
  ·rw [decide_eq_true h2]
   repeat (first | (refine Zw rfl rfl ?_) | refine ZA rfl (by (conv=>lhs;whnf);try rfl) ?_ | refine Zx rfl rfl rfl ?_ | refine Zc rfl rfl ?_ | refine Zi rfl (by (conv=>lhs;whnf);try rfl) ?_ | refine ZM rfl rfl (by omega) ?_ | refine ZL rfl rfl rfl (by omega) (by omega) ?_ | refine ZI rfl rfl rfl (by omega) ?_ | refine ZK rfl rfl rfl (by omega) (by omega) ?_ | refine ZN rfl rfl rfl rfl (by (conv=>lhs;whnf);try rfl) ?_ | refine ZP rfl rfl rfl rfl (by (conv=>lhs;whnf);try rfl) ?_ | refine ZR rfl rfl ?_ | refine Zd rfl rfl ?_ | refine Zz rfl rfl ?_ | refine g_bits rfl rfl rfl rfl ?_ | refine ZS rfl rfl rfl (by decide) ?_ | refine g_rem rfl rfl rfl (by first | decide | omega) ?_ | refine ZU rfl rfl ?_ | refine Zv Tryz.underlying9 rfl rfl ?_ | refine ZT rfl (by (conv=>lhs;whnf);try rfl) (by (conv=>lhs;whnf);try rfl) (by rfl) ?_ | refine Zl rfl rfl ?_ | refine Zm rfl rfl rfl (by (conv=>lhs;whnf);try rfl) (by (conv=>lhs;whnf);try rfl) (by rfl) (by rfl) (Nat.le_of_ble_eq_true rfl) (by (conv=>lhs;whnf);try rfl) ?_ | refine Zn rfl rfl ?_ | refine Za rfl rfl rfl (by rfl) (by decide) (by (conv=>lhs;whnf);try rfl) ?_ | refine Zf rfl rfl rfl ?_ | refine ZQ rfl rfl ?_ | refine ZB rfl rfl (by (conv=>lhs;whnf);try rfl) ?_ | refine g_field rfl rfl rfl ?_ | refine Zo ?_ | refine Zp (by kernel_rfl) ?_ | refine Zr ?_ | refine Zb ?_ | refine Zh ?_ | refine Zj ?_ | refine Zs ?_ | refine Zk ?_ | refine Zq ?_ | refine Zt ?_ | refine ZC ?_ | refine Zg ?_ | refine Zu ?_ | refine ZD ?_)
   rw [show Zai e r=0 by rw [← hlb];simp only [Zai,if_pos h2]]
   exact Zgr (Shift.refl _) rfl rfl (Zbe (lits:=[]) rfl)
  ·rw [decide_eq_false h2]
   repeat (first | (refine ZV rfl rfl ?_) | (refine Zd0 rfl rfl rfl rfl (by rw [ZbU];exact hlt) ?_) | (refine Zcy rfl rfl rfl hp rfl ?_) | (refine ZjP rfl rfl hb rfl ?_) | refine ZA rfl (by (conv=>lhs;whnf);try rfl) ?_ | refine Zx rfl rfl rfl ?_ | refine Zc rfl rfl ?_ | refine Zi rfl (by (conv=>lhs;whnf);try rfl) ?_ | refine ZM rfl rfl (by omega) ?_ | refine ZL rfl rfl rfl (by omega) (by omega) ?_ | refine ZI rfl rfl rfl (by omega) ?_ | refine ZK rfl rfl rfl (by omega) (by omega) ?_ | refine ZN rfl rfl rfl rfl (by (conv=>lhs;whnf);try rfl) ?_ | refine ZP rfl rfl rfl rfl (by (conv=>lhs;whnf);try rfl) ?_ | refine ZR rfl rfl ?_ | refine Zd rfl rfl ?_ | refine Zz rfl rfl ?_ | refine g_bits rfl rfl rfl rfl ?_ | refine ZS rfl rfl rfl (by decide) ?_ | refine g_rem rfl rfl rfl (by first | decide | omega) ?_ | refine ZU rfl rfl ?_ | refine Zv Tryz.underlying9 rfl rfl ?_ | refine ZT rfl (by (conv=>lhs;whnf);try rfl) (by (conv=>lhs;whnf);try rfl) (by rfl) ?_ | refine Zl rfl rfl ?_ | refine Zm rfl rfl rfl (by (conv=>lhs;whnf);try rfl) (by (conv=>lhs;whnf);try rfl) (by rfl) (by rfl) (Nat.le_of_ble_eq_true rfl) (by (conv=>lhs;whnf);try rfl) ?_ | refine Zn rfl rfl ?_ | refine Za rfl rfl rfl (by rfl) (by decide) (by (conv=>lhs;whnf);try rfl) ?_ | refine Zf rfl rfl rfl ?_ | refine ZQ rfl rfl ?_ | refine ZB rfl rfl (by (conv=>lhs;whnf);try rfl) ?_ | refine g_field rfl rfl rfl ?_ | refine Zo ?_ | refine Zp (by kernel_rfl) ?_ | refine Zr ?_ | refine Zb ?_ | refine Zh ?_ | refine Zj ?_ | refine Zs ?_ | refine Zk ?_ | refine Zq ?_ | refine Zt ?_ | refine ZC ?_ | refine Zg ?_ | refine Zu ?_ | refine ZD ?_)
   by_cases h3:e1.kind=3
   ·rw [decide_eq_true h3]
    repeat (first | (refine ZV rfl rfl ?_) | refine ZA rfl (by (conv=>lhs;whnf);try rfl) ?_ | refine Zx rfl rfl rfl ?_ | refine Zc rfl rfl ?_ | refine Zi rfl (by (conv=>lhs;whnf);try rfl) ?_ | refine ZM rfl rfl (by omega) ?_ | refine ZL rfl rfl rfl (by omega) (by omega) ?_ | refine ZI rfl rfl rfl (by omega) ?_ | refine ZK rfl rfl rfl (by omega) (by omega) ?_ | refine ZN rfl rfl rfl rfl (by (conv=>lhs;whnf);try rfl) ?_ | refine ZP rfl rfl rfl rfl (by (conv=>lhs;whnf);try rfl) ?_ | refine ZR rfl rfl ?_ | refine Zd rfl rfl ?_ | refine Zz rfl rfl ?_ | refine g_bits rfl rfl rfl rfl ?_ | refine ZS rfl rfl rfl (by decide) ?_ | refine g_rem rfl rfl rfl (by first | decide | omega) ?_ | refine ZU rfl rfl ?_ | refine Zv Tryz.underlying9 rfl rfl ?_ | refine ZT rfl (by (conv=>lhs;whnf);try rfl) (by (conv=>lhs;whnf);try rfl) (by rfl) ?_ | refine Zl rfl rfl ?_ | refine Zm rfl rfl rfl (by (conv=>lhs;whnf);try rfl) (by (conv=>lhs;whnf);try rfl) (by rfl) (by rfl) (Nat.le_of_ble_eq_true rfl) (by (conv=>lhs;whnf);try rfl) ?_ | refine Zn rfl rfl ?_ | refine Za rfl rfl rfl (by rfl) (by decide) (by (conv=>lhs;whnf);try rfl) ?_ | refine Zf rfl rfl rfl ?_ | refine ZQ rfl rfl ?_ | refine ZB rfl rfl (by (conv=>lhs;whnf);try rfl) ?_ | refine g_field rfl rfl rfl ?_ | refine Zo ?_ | refine Zp (by kernel_rfl) ?_ | refine Zr ?_ | refine Zb ?_ | refine Zh ?_ | refine Zj ?_ | refine Zs ?_ | refine Zk ?_ | refine Zq ?_ | refine Zt ?_ | refine ZC ?_ | refine Zg ?_ | refine Zu ?_ | refine ZD ?_)
    rw [show Zai e r=r2.length+1 by rw [← hlb];simp only [Zai,if_neg h2,if_pos h3]]
    exact Zgr (Shift.refl _) rfl rfl (Zbe (lits:=[]) rfl)
   ·rw [decide_eq_false h3]
    repeat (first | (refine Zw rfl rfl ?_) | (refine ZI (a:=r2.length) rfl rfl rfl (by simp at hlt;omega) ?_) | refine ZA rfl (by (conv=>lhs;whnf);try rfl) ?_ | refine Zx rfl rfl rfl ?_ | refine Zc rfl rfl ?_ | refine Zi rfl (by (conv=>lhs;whnf);try rfl) ?_ | refine ZM rfl rfl (by omega) ?_ | refine ZL rfl rfl rfl (by omega) (by omega) ?_ | refine ZI rfl rfl rfl (by omega) ?_ | refine ZK rfl rfl rfl (by omega) (by omega) ?_ | refine ZN rfl rfl rfl rfl (by (conv=>lhs;whnf);try rfl) ?_ | refine ZP rfl rfl rfl rfl (by (conv=>lhs;whnf);try rfl) ?_ | refine ZR rfl rfl ?_ | refine Zd rfl rfl ?_ | refine Zz rfl rfl ?_ | refine g_bits rfl rfl rfl rfl ?_ | refine ZS rfl rfl rfl (by decide) ?_ | refine g_rem rfl rfl rfl (by first | decide | omega) ?_ | refine ZU rfl rfl ?_ | refine Zv Tryz.underlying9 rfl rfl ?_ | refine ZT rfl (by (conv=>lhs;whnf);try rfl) (by (conv=>lhs;whnf);try rfl) (by rfl) ?_ | refine Zl rfl rfl ?_ | refine Zm rfl rfl rfl (by (conv=>lhs;whnf);try rfl) (by (conv=>lhs;whnf);try rfl) (by rfl) (by rfl) (Nat.le_of_ble_eq_true rfl) (by (conv=>lhs;whnf);try rfl) ?_ | refine Zn rfl rfl ?_ | refine Za rfl rfl rfl (by rfl) (by decide) (by (conv=>lhs;whnf);try rfl) ?_ | refine Zf rfl rfl rfl ?_ | refine ZQ rfl rfl ?_ | refine ZB rfl rfl (by (conv=>lhs;whnf);try rfl) ?_ | refine g_field rfl rfl rfl ?_ | refine Zo ?_ | refine Zp (by kernel_rfl) ?_ | refine Zr ?_ | refine Zb ?_ | refine Zh ?_ | refine Zj ?_ | refine Zs ?_ | refine Zk ?_ | refine Zq ?_ | refine Zt ?_ | refine ZC ?_ | refine Zg ?_ | refine Zu ?_ | refine ZD ?_)
    refine Zax (e2,r2) 2 ⟨(List.suffix_cons _ _).trans hsuf,?_⟩ (by dsimp only;simp) (ZfN ⟨rfl,rfl,trivial⟩)
    rw [← hlb]
    simp only [Zai,if_neg h2,if_neg h3]
end Go.Proofs.YtmgfammllddkhaaGreatDoor
namespace Go.Proofs.YtmgfammllddkhaaGreatDoor
open VL
def ok1 (x:El):Prop:=(∀ q,x.args=some q→q.1.length≤1000000)∧x.cur.length≤9223372036854775807
def fits (e:El) (r:List El):Prop:=r.length≤999∧∀ x ∈ e::r,ok1 x
theorem Zay {e:El} {r:List El} (h:fits e r):fit e r:=⟨⟨by have:=h.1;omega,(h.2 e (List.mem_cons_self ..)).1⟩,(h.2 e (List.mem_cons_self ..)).2⟩
theorem ZaQ {e e2:El} {r:List El} (h:fits e (e2::r)):fits e2 r:=⟨by have:=h.1;simp at this;omega,fun x hx=>h.2 x (List.mem_cons_of_mem _ hx)⟩
theorem Zbu {e e':El} {r:List El} (h:fits e r) (h':fit e' r):fits e' r:=⟨h.1,fun x hx=>by
 rcases List.mem_cons.1 hx with rfl | hx
 ·exact ⟨h'.1.2,h'.2⟩
 ·exact h.2 x (List.mem_cons_of_mem _ hx)⟩
theorem Zhs {r:List El}:∀ {l:List Arg} {e e':El},fit e r→Zdb e l=some e'→fit e' r
 | [],e,e',hf,h=>by injection h with h;rw [← h];exact hf
 | a::l,e,e',hf,h=>by
   obtain ⟨e1,h1,h⟩:=Option.bind_eq_some_iff.1 h
   exact Zhs (Zh3 hf h1) h
theorem Zdg {e e2 e3:El} {r:List El} (hf:fits e (e2::r)) (h:ZeE e e2=some e3):fits e3 r:=by
 refine Zbu (ZaQ hf) ?_
 obtain ⟨a,ha,h⟩:=Option.bind_eq_some_iff.1 h
 obtain ⟨b,hb,h⟩:=Option.bind_eq_some_iff.1 h
 split at h
 ·exact Zhs (ZcL (Zhk (Zay (ZaQ hf)) ha) hb) h
 ·cases h
def Zc7:Nat→El→List El→Option (El×List El)
 | 0,e,r=>some (e,r)
 | _+1,_,[]=>none
 | n+1,e,e2::r=>(ZeE e e2).bind fun e3=>Zc7 n e3 r
theorem Zi5 {P:Program} [WInv P] {f:FuncId} {args args':List PV} {obs:List (Nat×VObj)} {res:PV} {obs':List (Nat×Gen×VObj)} (hl:args.length=args'.length) (h:∀ (x:Ctx) (i:Nat) (p p':PV) (v:Value),args[i]? = some p→args'[i]? = some p'→Rep x p v→Rep x p' v)
  (hc:ContractG P f args' obs res obs'):ContractG P f args obs res obs':=by
 refine ⟨hc.isGo,fun x vs hp hI=>hc.calls x vs ⟨hl.symm.trans hp.size,fun i p' v hp' hv=>?_,hp.ob,hp.gen,hp.flt⟩ hI⟩
 have hlt:i<args.length:=by rw [hl];exact (List.getElem?_eq_some_iff.1 hp').1
 exact h x i _ p' v (List.getElem?_eq_getElem hlt) hp' (hp.rep i _ v (List.getElem?_eq_getElem hlt) hv)
theorem Zsa {x:Ctx} {v:Value} (h:Rep x .nil v):Rep x (.sl []) v:=by
 cases h
 exact .sl [] none 0 0 0 0 0 (fun _ _=>undef) rfl (Nat.le_refl _) (by omega) (by simp) (by omega) (fun i j e p he=>by simp at he) (fun i j e p he=>by simp at he)
theorem Zrp {x:Ctx} {v:Value} {cs cs':List PV} (hl:cs.length=cs'.length) (h:∀ (j:Nat) (q q':PV),cs[j]? = some q→cs'[j]? = some q'→q=q'∨(q = .nil∧q' = .sl [])) (hr:Rep x (.agg cs) v):Rep x (.agg cs') v:=by
 cases hr with
 | agg _ vs hl2 hh=>
   refine .agg cs' vs (hl.symm.trans hl2) fun i p' w hp' hw=>?_
   have hlt:i<cs.length:=by rw [hl];exact (List.getElem?_eq_some_iff.1 hp').1
   have hp:=List.getElem?_eq_getElem hlt
   rcases h i _ p' hp hp' with e | ⟨e1,e2⟩
   ·rw [← e]
    exact hh i _ w hp hw
   ·rw [e2]
    have:=hh i _ w hp hw
    rw [e1] at this
    exact Zsa this
theorem Zk7 {e e':El} {r:List El} {n:Node} {cs:List PV} (hl:cs.length=5) (h:∀ (j:Nat) (q q':PV),cs[j]? = some q→n.cs[j]? = some q'→q=q'∨(q = .nil∧q' = .sl [])) (hc:PC 103 [.agg n.cs] e r (.tup []) e' r):PC 103 [.agg cs] e r (.tup []) e' r:=
 Zi5 (args':=[.ptr 0 (0,0) 0,.agg n.cs]) rfl (fun x i p p' v hp hp' hr=>by
  match i with
  | 0=>
    injection hp with hp
    injection hp' with hp'
    rw [← hp',hp]
    exact hr
  | 1=>
    injection hp with hp
    injection hp' with hp'
    have hr':Rep x (.agg cs) v:=by rw [hp];exact hr
    rw [← hp']
    exact Zrp (hl.trans rfl) h hr'
  | i+2=>simp at hp) hc
theorem Zrq (e e':El) (r:List El) (k t:Int) (s:ByteArray) (l:List (List PV)) (hs:small e r) (h:ZdG e ⟨k,t,s,l,[]⟩=some e'):PC 103 [.agg [.int .i64 k,.int .i64 t,.str s,.sl l,.nil]] e r (.tup []) e' r:=
 Zk7 (n:=⟨k,t,s,l,[]⟩) rfl (fun j q q' hq hq'=>by
  match j with
  | 0=>injection hq with hq;injection hq' with hq';exact .inl (hq.symm.trans hq')
  | 1=>injection hq with hq;injection hq' with hq';exact .inl (hq.symm.trans hq')
  | 2=>injection hq with hq;injection hq' with hq';exact .inl (hq.symm.trans hq')
  | 3=>injection hq with hq;injection hq' with hq';exact .inl (hq.symm.trans hq')
  | 4=>injection hq with hq;injection hq' with hq';exact .inr ⟨hq.symm,hq'.symm⟩
  | j+5=>simp at hq) (Zgd e r _ hs e' h)
theorem ZoI (e e':El) (r:List El) (k t:Int) (s:ByteArray) (hs:small e r) (h:ZdG e ⟨k,t,s,[],[]⟩=some e'):PC 103 [.agg [.int .i64 k,.int .i64 t,.str s,.nil,.nil]] e r (.tup []) e' r:=
 Zk7 (n:=⟨k,t,s,[],[]⟩) rfl (fun j q q' hq hq'=>by
  match j with
  | 0=>injection hq with hq;injection hq' with hq';exact .inl (hq.symm.trans hq')
  | 1=>injection hq with hq;injection hq' with hq';exact .inl (hq.symm.trans hq')
  | 2=>injection hq with hq;injection hq' with hq';exact .inl (hq.symm.trans hq')
  | 3=>injection hq with hq;injection hq' with hq';exact .inr ⟨hq.symm,hq'.symm⟩
  | 4=>injection hq with hq;injection hq' with hq';exact .inr ⟨hq.symm,hq'.symm⟩
  | j+5=>simp at hq) (Zgd e r _ hs e' h)
theorem Zg6 (k:Int):∀ (e:El) (r:List El),ZaT k e r≤r.length
 | _,[]=>Nat.le_refl _
 | e,e2::r=>by
   unfold ZaT
   split
   ·simp
   ·have:=Zg6 k e2 r
    simp
    omega
def ZbZ (k:Int) (s:ByteArray) (e:El) (r:List El):Option (El×List El):=if ZaT k e r=0 then (ZaR e s).map fun e'=>(e',r) else (Zc7 (r.length - ZaT k e r) e r).bind fun q=>match q.2 with
 | []=>none
 | e2::r2=>(ZdG e2 ⟨6,k,⟨#[]⟩,q.1.list,[]⟩).map fun e3=>(e3,r2)
set_option maxRecDepth 100000 in
set_option maxHeartbeats 1000000 in
theorem Zm4 (k:Int) (s:ByteArray) (e e3:El) (r r3:List El) (hf:fits e r) (h:ZbZ k s e r=some (e3,r3)):PC 109 [.int .i64 k,.str s] e r (.tup []) e3 r3:=by
 have hr:=hf.1
 have hat:=Zg6 k e r
 refine ZZ mix Tryz.func109 (by kernel_rfl) rfl (by kernel_rfl) ?_
 rw [ZbY]
 repeat (first | (refine Zbc rfl rfl (ZbU _ _ _) ?_) | (refine ZI rfl rfl rfl (by omega) ?_) | (refine ZbC (α:=Unit) (c:=.block 0 _) (fun _ _=>mkS [(0,.ptr 0 (0,0) 0),(1,.int .i64 k),(2,.str s),(6,.int .i64 (ZaT k e r:Int))] (somes (stP νa e r)) 2) (fun _=>True) ?_ (fun a _ _=>?_)) | refine ZA rfl (by (conv=>lhs;whnf);try rfl) ?_ | refine Zx rfl rfl rfl ?_ | refine Zc rfl rfl ?_ | refine Zi rfl (by (conv=>lhs;whnf);try rfl) ?_ | refine ZM rfl rfl (by omega) ?_ | refine ZL rfl rfl rfl (by omega) (by omega) ?_ | refine ZI rfl rfl rfl (by omega) ?_ | refine ZK rfl rfl rfl (by omega) (by omega) ?_ | refine ZN rfl rfl rfl rfl (by (conv=>lhs;whnf);try rfl) ?_ | refine ZP rfl rfl rfl rfl (by (conv=>lhs;whnf);try rfl) ?_ | refine ZR rfl rfl ?_ | refine Zd rfl rfl ?_ | refine Zz rfl rfl ?_ | refine g_bits rfl rfl rfl rfl ?_ | refine ZS rfl rfl rfl (by decide) ?_ | refine g_rem rfl rfl rfl (by first | decide | omega) ?_ | refine ZU rfl rfl ?_ | refine Zv Tryz.underlying9 rfl rfl ?_ | refine ZT rfl (by (conv=>lhs;whnf);try rfl) (by (conv=>lhs;whnf);try rfl) (by rfl) ?_ | refine Zl rfl rfl ?_ | refine Zm rfl rfl rfl (by (conv=>lhs;whnf);try rfl) (by (conv=>lhs;whnf);try rfl) (by rfl) (by rfl) (Nat.le_of_ble_eq_true rfl) (by (conv=>lhs;whnf);try rfl) ?_ | refine Zn rfl rfl ?_ | refine Za rfl rfl rfl (by rfl) (by decide) (by (conv=>lhs;whnf);try rfl) ?_ | refine Zf rfl rfl rfl ?_ | refine ZQ rfl rfl ?_ | refine ZB rfl rfl (by (conv=>lhs;whnf);try rfl) ?_ | refine g_field rfl rfl rfl ?_ | refine Zo ?_ | refine Zp (by kernel_rfl) ?_ | refine Zr ?_ | refine Zb ?_ | refine Zh ?_ | refine Zj ?_ | refine Zs ?_ | refine Zk ?_ | refine Zq ?_ | refine Zt ?_ | refine ZC ?_ | refine Zg ?_ | refine Zu ?_ | refine ZD ?_)
 ·refine Zac (fun (a:El×List El) _=>mkS [(0,.ptr 0 (0,0) 0),(1,.int .i64 k),(2,.str s),(6,.int .i64 (a.2.length:Int))] (somes (stP νa e r)) 2) (fun a=>(a.1::a.2) <:+ (e::r)∧ZaT k a.1 a.2=ZaT k e r) (fun a=>a.2.length) (e,r) 2 ⟨List.suffix_refl _,rfl⟩ (ZfN ⟨rfl,rfl,rfl,rfl,trivial⟩) (fun a ng hJ=>?_)
  obtain ⟨e1,r1⟩:=a
  obtain ⟨hsuf,hlb⟩:=hJ
  dsimp only at hsuf hlb ⊢
  have hlt:r1.length<r.length+1:=by have:=hsuf.length_le;simp at this;omega
  obtain ⟨b,c1,c2,hp,hm⟩:=Zqs (ν:=νa) (NT:=78) (AT:=111) (ET:=98) hsuf
  have hb:=Zbe (lits:=[]) rfl _ _ _ hm
  rcases r1 with _ | ⟨e2,r2⟩
  ·repeat (first | (refine Zaj rfl ?_) | (refine Zw rfl rfl ?_) | refine ZA rfl (by (conv=>lhs;whnf);try rfl) ?_ | refine Zx rfl rfl rfl ?_ | refine Zc rfl rfl ?_ | refine Zi rfl (by (conv=>lhs;whnf);try rfl) ?_ | refine ZM rfl rfl (by omega) ?_ | refine ZL rfl rfl rfl (by omega) (by omega) ?_ | refine ZI rfl rfl rfl (by omega) ?_ | refine ZK rfl rfl rfl (by omega) (by omega) ?_ | refine ZN rfl rfl rfl rfl (by (conv=>lhs;whnf);try rfl) ?_ | refine ZP rfl rfl rfl rfl (by (conv=>lhs;whnf);try rfl) ?_ | refine ZR rfl rfl ?_ | refine Zd rfl rfl ?_ | refine Zz rfl rfl ?_ | refine g_bits rfl rfl rfl rfl ?_ | refine ZS rfl rfl rfl (by decide) ?_ | refine g_rem rfl rfl rfl (by first | decide | omega) ?_ | refine ZU rfl rfl ?_ | refine Zv Tryz.underlying9 rfl rfl ?_ | refine ZT rfl (by (conv=>lhs;whnf);try rfl) (by (conv=>lhs;whnf);try rfl) (by rfl) ?_ | refine Zl rfl rfl ?_ | refine Zm rfl rfl rfl (by (conv=>lhs;whnf);try rfl) (by (conv=>lhs;whnf);try rfl) (by rfl) (by rfl) (Nat.le_of_ble_eq_true rfl) (by (conv=>lhs;whnf);try rfl) ?_ | refine Zn rfl rfl ?_ | refine Za rfl rfl rfl (by rfl) (by decide) (by (conv=>lhs;whnf);try rfl) ?_ | refine Zf rfl rfl rfl ?_ | refine ZQ rfl rfl ?_ | refine ZB rfl rfl (by (conv=>lhs;whnf);try rfl) ?_ | refine g_field rfl rfl rfl ?_ | refine Zo ?_ | refine Zp (by kernel_rfl) ?_ | refine Zr ?_ | refine Zb ?_ | refine Zh ?_ | refine Zj ?_ | refine Zs ?_ | refine Zk ?_ | refine Zq ?_ | refine Zt ?_ | refine ZC ?_ | refine Zg ?_ | refine Zu ?_ | refine ZD ?_)
   rw [← hlb]
   exact ZcW () 2 trivial (ZfN ⟨rfl,rfl,rfl,rfl,trivial⟩)
  ·have h0:decide ((0:Int)<(((e2::r2).length:Nat):Int))=true:=decide_eq_true (by simp)
   repeat (first | refine ZA rfl (by (conv=>lhs;whnf);try rfl) ?_ | refine Zx rfl rfl rfl ?_ | refine Zc rfl rfl ?_ | refine Zi rfl (by (conv=>lhs;whnf);try rfl) ?_ | refine ZM rfl rfl (by omega) ?_ | refine ZL rfl rfl rfl (by omega) (by omega) ?_ | refine ZI rfl rfl rfl (by omega) ?_ | refine ZK rfl rfl rfl (by omega) (by omega) ?_ | refine ZN rfl rfl rfl rfl (by (conv=>lhs;whnf);try rfl) ?_ | refine ZP rfl rfl rfl rfl (by (conv=>lhs;whnf);try rfl) ?_ | refine ZR rfl rfl ?_ | refine Zd rfl rfl ?_ | refine Zz rfl rfl ?_ | refine g_bits rfl rfl rfl rfl ?_ | refine ZS rfl rfl rfl (by decide) ?_ | refine g_rem rfl rfl rfl (by first | decide | omega) ?_ | refine ZU rfl rfl ?_ | refine Zv Tryz.underlying9 rfl rfl ?_ | refine ZT rfl (by (conv=>lhs;whnf);try rfl) (by (conv=>lhs;whnf);try rfl) (by rfl) ?_ | refine Zl rfl rfl ?_ | refine Zm rfl rfl rfl (by (conv=>lhs;whnf);try rfl) (by (conv=>lhs;whnf);try rfl) (by rfl) (by rfl) (Nat.le_of_ble_eq_true rfl) (by (conv=>lhs;whnf);try rfl) ?_ | refine Zn rfl rfl ?_ | refine Za rfl rfl rfl (by rfl) (by decide) (by (conv=>lhs;whnf);try rfl) ?_ | refine Zf rfl rfl rfl ?_ | refine ZQ rfl rfl ?_ | refine ZB rfl rfl (by (conv=>lhs;whnf);try rfl) ?_ | refine g_field rfl rfl rfl ?_ | refine Zo ?_ | refine Zp (by kernel_rfl) ?_ | refine Zr ?_ | refine Zb ?_ | refine Zh ?_ | refine Zj ?_ | refine Zs ?_ | refine Zk ?_ | refine Zq ?_ | refine Zt ?_ | refine ZC ?_ | refine Zg ?_ | refine Zu ?_ | refine ZD ?_)
   rw [h0]
   repeat (first | (refine Zd0 rfl rfl rfl rfl (by rw [ZbU];exact hlt) ?_) | (refine Zcy rfl rfl rfl hp rfl ?_) | (refine ZjP rfl rfl hb rfl ?_) | refine ZA rfl (by (conv=>lhs;whnf);try rfl) ?_ | refine Zx rfl rfl rfl ?_ | refine Zc rfl rfl ?_ | refine Zi rfl (by (conv=>lhs;whnf);try rfl) ?_ | refine ZM rfl rfl (by omega) ?_ | refine ZL rfl rfl rfl (by omega) (by omega) ?_ | refine ZI rfl rfl rfl (by omega) ?_ | refine ZK rfl rfl rfl (by omega) (by omega) ?_ | refine ZN rfl rfl rfl rfl (by (conv=>lhs;whnf);try rfl) ?_ | refine ZP rfl rfl rfl rfl (by (conv=>lhs;whnf);try rfl) ?_ | refine ZR rfl rfl ?_ | refine Zd rfl rfl ?_ | refine Zz rfl rfl ?_ | refine g_bits rfl rfl rfl rfl ?_ | refine ZS rfl rfl rfl (by decide) ?_ | refine g_rem rfl rfl rfl (by first | decide | omega) ?_ | refine ZU rfl rfl ?_ | refine Zv Tryz.underlying9 rfl rfl ?_ | refine ZT rfl (by (conv=>lhs;whnf);try rfl) (by (conv=>lhs;whnf);try rfl) (by rfl) ?_ | refine Zl rfl rfl ?_ | refine Zm rfl rfl rfl (by (conv=>lhs;whnf);try rfl) (by (conv=>lhs;whnf);try rfl) (by rfl) (by rfl) (Nat.le_of_ble_eq_true rfl) (by (conv=>lhs;whnf);try rfl) ?_ | refine Zn rfl rfl ?_ | refine Za rfl rfl rfl (by rfl) (by decide) (by (conv=>lhs;whnf);try rfl) ?_ | refine Zf rfl rfl rfl ?_ | refine ZQ rfl rfl ?_ | refine ZB rfl rfl (by (conv=>lhs;whnf);try rfl) ?_ | refine g_field rfl rfl rfl ?_ | refine Zo ?_ | refine Zp (by kernel_rfl) ?_ | refine Zr ?_ | refine Zb ?_ | refine Zh ?_ | refine Zj ?_ | refine Zs ?_ | refine Zk ?_ | refine Zq ?_ | refine Zt ?_ | refine ZC ?_ | refine Zg ?_ | refine Zu ?_ | refine ZD ?_)
   by_cases h2:e1.kind=2
   ·rw [decide_eq_true h2]
    repeat (first | (refine Zd0 rfl rfl rfl rfl (by rw [ZbU];exact hlt) ?_) | (refine Zcy rfl rfl rfl hp rfl ?_) | (refine ZjP rfl rfl hb rfl ?_) | refine ZA rfl (by (conv=>lhs;whnf);try rfl) ?_ | refine Zx rfl rfl rfl ?_ | refine Zc rfl rfl ?_ | refine Zi rfl (by (conv=>lhs;whnf);try rfl) ?_ | refine ZM rfl rfl (by omega) ?_ | refine ZL rfl rfl rfl (by omega) (by omega) ?_ | refine ZI rfl rfl rfl (by omega) ?_ | refine ZK rfl rfl rfl (by omega) (by omega) ?_ | refine ZN rfl rfl rfl rfl (by (conv=>lhs;whnf);try rfl) ?_ | refine ZP rfl rfl rfl rfl (by (conv=>lhs;whnf);try rfl) ?_ | refine ZR rfl rfl ?_ | refine Zd rfl rfl ?_ | refine Zz rfl rfl ?_ | refine g_bits rfl rfl rfl rfl ?_ | refine ZS rfl rfl rfl (by decide) ?_ | refine g_rem rfl rfl rfl (by first | decide | omega) ?_ | refine ZU rfl rfl ?_ | refine Zv Tryz.underlying9 rfl rfl ?_ | refine ZT rfl (by (conv=>lhs;whnf);try rfl) (by (conv=>lhs;whnf);try rfl) (by rfl) ?_ | refine Zl rfl rfl ?_ | refine Zm rfl rfl rfl (by (conv=>lhs;whnf);try rfl) (by (conv=>lhs;whnf);try rfl) (by rfl) (by rfl) (Nat.le_of_ble_eq_true rfl) (by (conv=>lhs;whnf);try rfl) ?_ | refine Zn rfl rfl ?_ | refine Za rfl rfl rfl (by rfl) (by decide) (by (conv=>lhs;whnf);try rfl) ?_ | refine Zf rfl rfl rfl ?_ | refine ZQ rfl rfl ?_ | refine ZB rfl rfl (by (conv=>lhs;whnf);try rfl) ?_ | refine g_field rfl rfl rfl ?_ | refine Zo ?_ | refine Zp (by kernel_rfl) ?_ | refine Zr ?_ | refine Zb ?_ | refine Zh ?_ | refine Zj ?_ | refine Zs ?_ | refine Zk ?_ | refine Zq ?_ | refine Zt ?_ | refine ZC ?_ | refine Zg ?_ | refine Zu ?_ | refine ZD ?_)
    by_cases h3:e1.tag=k
    ·rw [decide_eq_true h3]
     repeat (first | (refine Zw rfl rfl ?_) | refine ZA rfl (by (conv=>lhs;whnf);try rfl) ?_ | refine Zx rfl rfl rfl ?_ | refine Zc rfl rfl ?_ | refine Zi rfl (by (conv=>lhs;whnf);try rfl) ?_ | refine ZM rfl rfl (by omega) ?_ | refine ZL rfl rfl rfl (by omega) (by omega) ?_ | refine ZI rfl rfl rfl (by omega) ?_ | refine ZK rfl rfl rfl (by omega) (by omega) ?_ | refine ZN rfl rfl rfl rfl (by (conv=>lhs;whnf);try rfl) ?_ | refine ZP rfl rfl rfl rfl (by (conv=>lhs;whnf);try rfl) ?_ | refine ZR rfl rfl ?_ | refine Zd rfl rfl ?_ | refine Zz rfl rfl ?_ | refine g_bits rfl rfl rfl rfl ?_ | refine ZS rfl rfl rfl (by decide) ?_ | refine g_rem rfl rfl rfl (by first | decide | omega) ?_ | refine ZU rfl rfl ?_ | refine Zv Tryz.underlying9 rfl rfl ?_ | refine ZT rfl (by (conv=>lhs;whnf);try rfl) (by (conv=>lhs;whnf);try rfl) (by rfl) ?_ | refine Zl rfl rfl ?_ | refine Zm rfl rfl rfl (by (conv=>lhs;whnf);try rfl) (by (conv=>lhs;whnf);try rfl) (by rfl) (by rfl) (Nat.le_of_ble_eq_true rfl) (by (conv=>lhs;whnf);try rfl) ?_ | refine Zn rfl rfl ?_ | refine Za rfl rfl rfl (by rfl) (by decide) (by (conv=>lhs;whnf);try rfl) ?_ | refine Zf rfl rfl rfl ?_ | refine ZQ rfl rfl ?_ | refine ZB rfl rfl (by (conv=>lhs;whnf);try rfl) ?_ | refine g_field rfl rfl rfl ?_ | refine Zo ?_ | refine Zp (by kernel_rfl) ?_ | refine Zr ?_ | refine Zb ?_ | refine Zh ?_ | refine Zj ?_ | refine Zs ?_ | refine Zk ?_ | refine Zq ?_ | refine Zt ?_ | refine ZC ?_ | refine Zg ?_ | refine Zu ?_ | refine ZD ?_)
     rw [show ZaT k e r=r2.length+1 by rw [← hlb];simp only [ZaT,if_pos (And.intro h2 h3)]]
     exact ZcW () 2 trivial (ZfN ⟨rfl,rfl,rfl,rfl,trivial⟩)
    ·rw [decide_eq_false h3]
     repeat (first | (refine ZV rfl rfl ?_) | (refine ZI (a:=r2.length) rfl rfl rfl (by simp at hlt;omega) ?_) | refine ZA rfl (by (conv=>lhs;whnf);try rfl) ?_ | refine Zx rfl rfl rfl ?_ | refine Zc rfl rfl ?_ | refine Zi rfl (by (conv=>lhs;whnf);try rfl) ?_ | refine ZM rfl rfl (by omega) ?_ | refine ZL rfl rfl rfl (by omega) (by omega) ?_ | refine ZI rfl rfl rfl (by omega) ?_ | refine ZK rfl rfl rfl (by omega) (by omega) ?_ | refine ZN rfl rfl rfl rfl (by (conv=>lhs;whnf);try rfl) ?_ | refine ZP rfl rfl rfl rfl (by (conv=>lhs;whnf);try rfl) ?_ | refine ZR rfl rfl ?_ | refine Zd rfl rfl ?_ | refine Zz rfl rfl ?_ | refine g_bits rfl rfl rfl rfl ?_ | refine ZS rfl rfl rfl (by decide) ?_ | refine g_rem rfl rfl rfl (by first | decide | omega) ?_ | refine ZU rfl rfl ?_ | refine Zv Tryz.underlying9 rfl rfl ?_ | refine ZT rfl (by (conv=>lhs;whnf);try rfl) (by (conv=>lhs;whnf);try rfl) (by rfl) ?_ | refine Zl rfl rfl ?_ | refine Zm rfl rfl rfl (by (conv=>lhs;whnf);try rfl) (by (conv=>lhs;whnf);try rfl) (by rfl) (by rfl) (Nat.le_of_ble_eq_true rfl) (by (conv=>lhs;whnf);try rfl) ?_ | refine Zn rfl rfl ?_ | refine Za rfl rfl rfl (by rfl) (by decide) (by (conv=>lhs;whnf);try rfl) ?_ | refine Zf rfl rfl rfl ?_ | refine ZQ rfl rfl ?_ | refine ZB rfl rfl (by (conv=>lhs;whnf);try rfl) ?_ | refine g_field rfl rfl rfl ?_ | refine Zo ?_ | refine Zp (by kernel_rfl) ?_ | refine Zr ?_ | refine Zb ?_ | refine Zh ?_ | refine Zj ?_ | refine Zs ?_ | refine Zk ?_ | refine Zq ?_ | refine Zt ?_ | refine ZC ?_ | refine Zg ?_ | refine Zu ?_ | refine ZD ?_)
     refine Zax (e2,r2) 2 ⟨(List.suffix_cons _ _).trans hsuf,?_⟩ (by dsimp only;simp) (ZfN ⟨rfl,rfl,rfl,rfl,trivial⟩)
     rw [← hlb]
     simp only [ZaT,if_neg (fun h:e1.kind=2∧e1.tag=k=>h3 h.2)]
   ·rw [decide_eq_false h2]
    repeat (first | (refine Zaj rfl ?_) | (refine ZV rfl rfl ?_) | (refine ZI (a:=r2.length) rfl rfl rfl (by simp at hlt;omega) ?_) | refine ZA rfl (by (conv=>lhs;whnf);try rfl) ?_ | refine Zx rfl rfl rfl ?_ | refine Zc rfl rfl ?_ | refine Zi rfl (by (conv=>lhs;whnf);try rfl) ?_ | refine ZM rfl rfl (by omega) ?_ | refine ZL rfl rfl rfl (by omega) (by omega) ?_ | refine ZI rfl rfl rfl (by omega) ?_ | refine ZK rfl rfl rfl (by omega) (by omega) ?_ | refine ZN rfl rfl rfl rfl (by (conv=>lhs;whnf);try rfl) ?_ | refine ZP rfl rfl rfl rfl (by (conv=>lhs;whnf);try rfl) ?_ | refine ZR rfl rfl ?_ | refine Zd rfl rfl ?_ | refine Zz rfl rfl ?_ | refine g_bits rfl rfl rfl rfl ?_ | refine ZS rfl rfl rfl (by decide) ?_ | refine g_rem rfl rfl rfl (by first | decide | omega) ?_ | refine ZU rfl rfl ?_ | refine Zv Tryz.underlying9 rfl rfl ?_ | refine ZT rfl (by (conv=>lhs;whnf);try rfl) (by (conv=>lhs;whnf);try rfl) (by rfl) ?_ | refine Zl rfl rfl ?_ | refine Zm rfl rfl rfl (by (conv=>lhs;whnf);try rfl) (by (conv=>lhs;whnf);try rfl) (by rfl) (by rfl) (Nat.le_of_ble_eq_true rfl) (by (conv=>lhs;whnf);try rfl) ?_ | refine Zn rfl rfl ?_ | refine Za rfl rfl rfl (by rfl) (by decide) (by (conv=>lhs;whnf);try rfl) ?_ | refine Zf rfl rfl rfl ?_ | refine ZQ rfl rfl ?_ | refine ZB rfl rfl (by (conv=>lhs;whnf);try rfl) ?_ | refine g_field rfl rfl rfl ?_ | refine Zo ?_ | refine Zp (by kernel_rfl) ?_ | refine Zr ?_ | refine Zb ?_ | refine Zh ?_ | refine Zj ?_ | refine Zs ?_ | refine Zk ?_ | refine Zq ?_ | refine Zt ?_ | refine ZC ?_ | refine Zg ?_ | refine Zu ?_ | refine ZD ?_)
    refine Zax (e2,r2) 2 ⟨(List.suffix_cons _ _).trans hsuf,?_⟩ (by dsimp only;simp) (ZfN ⟨rfl,rfl,rfl,rfl,trivial⟩)
    rw [← hlb]
    simp only [ZaT,if_neg (fun h:e1.kind=2∧e1.tag=k=>h2 h.1)]
 ·unfold ZbZ at h
  by_cases h0:ZaT k e r=0
  ·rw [if_pos h0] at h
   obtain ⟨e',he',h⟩:=Option.map_eq_some_iff.1 h
   injection h with q1 q2
   subst q1 q2
   repeat (first | refine ZA rfl (by (conv=>lhs;whnf);try rfl) ?_ | refine Zx rfl rfl rfl ?_ | refine Zc rfl rfl ?_ | refine Zi rfl (by (conv=>lhs;whnf);try rfl) ?_ | refine ZM rfl rfl (by omega) ?_ | refine ZL rfl rfl rfl (by omega) (by omega) ?_ | refine ZI rfl rfl rfl (by omega) ?_ | refine ZK rfl rfl rfl (by omega) (by omega) ?_ | refine ZN rfl rfl rfl rfl (by (conv=>lhs;whnf);try rfl) ?_ | refine ZP rfl rfl rfl rfl (by (conv=>lhs;whnf);try rfl) ?_ | refine ZR rfl rfl ?_ | refine Zd rfl rfl ?_ | refine Zz rfl rfl ?_ | refine g_bits rfl rfl rfl rfl ?_ | refine ZS rfl rfl rfl (by decide) ?_ | refine g_rem rfl rfl rfl (by first | decide | omega) ?_ | refine ZU rfl rfl ?_ | refine Zv Tryz.underlying9 rfl rfl ?_ | refine ZT rfl (by (conv=>lhs;whnf);try rfl) (by (conv=>lhs;whnf);try rfl) (by rfl) ?_ | refine Zl rfl rfl ?_ | refine Zm rfl rfl rfl (by (conv=>lhs;whnf);try rfl) (by (conv=>lhs;whnf);try rfl) (by rfl) (by rfl) (Nat.le_of_ble_eq_true rfl) (by (conv=>lhs;whnf);try rfl) ?_ | refine Zn rfl rfl ?_ | refine Za rfl rfl rfl (by rfl) (by decide) (by (conv=>lhs;whnf);try rfl) ?_ | refine Zf rfl rfl rfl ?_ | refine ZQ rfl rfl ?_ | refine ZB rfl rfl (by (conv=>lhs;whnf);try rfl) ?_ | refine g_field rfl rfl rfl ?_ | refine Zo ?_ | refine Zp (by kernel_rfl) ?_ | refine Zr ?_ | refine Zb ?_ | refine Zh ?_ | refine Zj ?_ | refine Zs ?_ | refine Zk ?_ | refine Zq ?_ | refine Zt ?_ | refine ZC ?_ | refine Zg ?_ | refine Zu ?_ | refine ZD ?_)
   rw [show decide (((ZaT k e r:Nat):Int)=0)=true from decide_eq_true (by omega)]
   repeat (first | (refine ZV rfl rfl ?_) | (refine ZY [] νa (ZbP e r s (Zay hf).1 (Zay hf).2 e' he') rfl rfl rfl rfl rfl rfl ?_) | refine ZA rfl (by (conv=>lhs;whnf);try rfl) ?_ | refine Zx rfl rfl rfl ?_ | refine Zc rfl rfl ?_ | refine Zi rfl (by (conv=>lhs;whnf);try rfl) ?_ | refine ZM rfl rfl (by omega) ?_ | refine ZL rfl rfl rfl (by omega) (by omega) ?_ | refine ZI rfl rfl rfl (by omega) ?_ | refine ZK rfl rfl rfl (by omega) (by omega) ?_ | refine ZN rfl rfl rfl rfl (by (conv=>lhs;whnf);try rfl) ?_ | refine ZP rfl rfl rfl rfl (by (conv=>lhs;whnf);try rfl) ?_ | refine ZR rfl rfl ?_ | refine Zd rfl rfl ?_ | refine Zz rfl rfl ?_ | refine g_bits rfl rfl rfl rfl ?_ | refine ZS rfl rfl rfl (by decide) ?_ | refine g_rem rfl rfl rfl (by first | decide | omega) ?_ | refine ZU rfl rfl ?_ | refine Zv Tryz.underlying9 rfl rfl ?_ | refine ZT rfl (by (conv=>lhs;whnf);try rfl) (by (conv=>lhs;whnf);try rfl) (by rfl) ?_ | refine Zl rfl rfl ?_ | refine Zm rfl rfl rfl (by (conv=>lhs;whnf);try rfl) (by (conv=>lhs;whnf);try rfl) (by rfl) (by rfl) (Nat.le_of_ble_eq_true rfl) (by (conv=>lhs;whnf);try rfl) ?_ | refine Zn rfl rfl ?_ | refine Za rfl rfl rfl (by rfl) (by decide) (by (conv=>lhs;whnf);try rfl) ?_ | refine Zf rfl rfl rfl ?_ | refine ZQ rfl rfl ?_ | refine ZB rfl rfl (by (conv=>lhs;whnf);try rfl) ?_ | refine g_field rfl rfl rfl ?_ | refine Zo ?_ | refine Zp (by kernel_rfl) ?_ | refine Zr ?_ | refine Zb ?_ | refine Zh ?_ | refine Zj ?_ | refine Zs ?_ | refine Zk ?_ | refine Zq ?_ | refine Zt ?_ | refine ZC ?_ | refine Zg ?_ | refine Zu ?_ | refine ZD ?_)
   exact Zbr (.inl rfl) (νc 3 2) [] [] rfl rfl trivial rfl rfl
  ·rw [if_neg h0] at h
   obtain ⟨⟨e4,r4⟩,hfl,h⟩:=Option.bind_eq_some_iff.1 h
   rcases r4 with _ | ⟨e5,r5⟩
   ·cases h
   obtain ⟨e6,he6,h⟩:=Option.map_eq_some_iff.1 h
   injection h with q1 q2
   subst q1 q2
   repeat (first | refine ZA rfl (by (conv=>lhs;whnf);try rfl) ?_ | refine Zx rfl rfl rfl ?_ | refine Zc rfl rfl ?_ | refine Zi rfl (by (conv=>lhs;whnf);try rfl) ?_ | refine ZM rfl rfl (by omega) ?_ | refine ZL rfl rfl rfl (by omega) (by omega) ?_ | refine ZI rfl rfl rfl (by omega) ?_ | refine ZK rfl rfl rfl (by omega) (by omega) ?_ | refine ZN rfl rfl rfl rfl (by (conv=>lhs;whnf);try rfl) ?_ | refine ZP rfl rfl rfl rfl (by (conv=>lhs;whnf);try rfl) ?_ | refine ZR rfl rfl ?_ | refine Zd rfl rfl ?_ | refine Zz rfl rfl ?_ | refine g_bits rfl rfl rfl rfl ?_ | refine ZS rfl rfl rfl (by decide) ?_ | refine g_rem rfl rfl rfl (by first | decide | omega) ?_ | refine ZU rfl rfl ?_ | refine Zv Tryz.underlying9 rfl rfl ?_ | refine ZT rfl (by (conv=>lhs;whnf);try rfl) (by (conv=>lhs;whnf);try rfl) (by rfl) ?_ | refine Zl rfl rfl ?_ | refine Zm rfl rfl rfl (by (conv=>lhs;whnf);try rfl) (by (conv=>lhs;whnf);try rfl) (by rfl) (by rfl) (Nat.le_of_ble_eq_true rfl) (by (conv=>lhs;whnf);try rfl) ?_ | refine Zn rfl rfl ?_ | refine Za rfl rfl rfl (by rfl) (by decide) (by (conv=>lhs;whnf);try rfl) ?_ | refine Zf rfl rfl rfl ?_ | refine ZQ rfl rfl ?_ | refine ZB rfl rfl (by (conv=>lhs;whnf);try rfl) ?_ | refine g_field rfl rfl rfl ?_ | refine Zo ?_ | refine Zp (by kernel_rfl) ?_ | refine Zr ?_ | refine Zb ?_ | refine Zh ?_ | refine Zj ?_ | refine Zs ?_ | refine Zk ?_ | refine Zq ?_ | refine Zt ?_ | refine ZC ?_ | refine Zg ?_ | refine Zu ?_ | refine ZD ?_)
   rw [show decide (((ZaT k e r:Nat):Int)=0)=false from decide_eq_false (by omega)]
   repeat (first | (refine Zw rfl rfl ?_) | refine ZA rfl (by (conv=>lhs;whnf);try rfl) ?_ | refine Zx rfl rfl rfl ?_ | refine Zc rfl rfl ?_ | refine Zi rfl (by (conv=>lhs;whnf);try rfl) ?_ | refine ZM rfl rfl (by omega) ?_ | refine ZL rfl rfl rfl (by omega) (by omega) ?_ | refine ZI rfl rfl rfl (by omega) ?_ | refine ZK rfl rfl rfl (by omega) (by omega) ?_ | refine ZN rfl rfl rfl rfl (by (conv=>lhs;whnf);try rfl) ?_ | refine ZP rfl rfl rfl rfl (by (conv=>lhs;whnf);try rfl) ?_ | refine ZR rfl rfl ?_ | refine Zd rfl rfl ?_ | refine Zz rfl rfl ?_ | refine g_bits rfl rfl rfl rfl ?_ | refine ZS rfl rfl rfl (by decide) ?_ | refine g_rem rfl rfl rfl (by first | decide | omega) ?_ | refine ZU rfl rfl ?_ | refine Zv Tryz.underlying9 rfl rfl ?_ | refine ZT rfl (by (conv=>lhs;whnf);try rfl) (by (conv=>lhs;whnf);try rfl) (by rfl) ?_ | refine Zl rfl rfl ?_ | refine Zm rfl rfl rfl (by (conv=>lhs;whnf);try rfl) (by (conv=>lhs;whnf);try rfl) (by rfl) (by rfl) (Nat.le_of_ble_eq_true rfl) (by (conv=>lhs;whnf);try rfl) ?_ | refine Zn rfl rfl ?_ | refine Za rfl rfl rfl (by rfl) (by decide) (by (conv=>lhs;whnf);try rfl) ?_ | refine Zf rfl rfl rfl ?_ | refine ZQ rfl rfl ?_ | refine ZB rfl rfl (by (conv=>lhs;whnf);try rfl) ?_ | refine g_field rfl rfl rfl ?_ | refine Zo ?_ | refine Zp (by kernel_rfl) ?_ | refine Zr ?_ | refine Zb ?_ | refine Zh ?_ | refine Zj ?_ | refine Zs ?_ | refine Zk ?_ | refine Zq ?_ | refine Zt ?_ | refine ZC ?_ | refine Zg ?_ | refine Zu ?_ | refine ZD ?_)
   generalize ZaT k e r=at_ at hat h0 hfl ⊢
   refine Zac (fun (a:El×List El) _=>mkS [(0,.ptr 0 (0,0) 0),(1,.int .i64 k),(6,.int .i64 (at_:Int))] (somes (stP νb a.1 a.2)) 2) (fun a=>fits a.1 a.2∧at_≤a.2.length∧Zc7 (a.2.length - at_) a.1 a.2=some (e4,e5::r5)) (fun a=>a.2.length) (e,r) 2 ⟨hf,hat,hfl⟩
    (Za7 νa [] (fun k=>(k,νa k)) (fun _ _=>rfl) rfl ⟨rfl,rfl,rfl,trivial⟩ (x:=[]) (x':=[]) rfl rfl rfl (Zal _) rfl) (fun a ng hJ=>?_)
   obtain ⟨e1,r1⟩:=a
   obtain ⟨hf1,hle,hft⟩:=hJ
   dsimp only at hf1 hle hft ⊢
   have hr1:=hf1.1
   repeat (first | (refine Zbc rfl rfl (ZbU _ _ _) ?_) | refine ZA rfl (by (conv=>lhs;whnf);try rfl) ?_ | refine Zx rfl rfl rfl ?_ | refine Zc rfl rfl ?_ | refine Zi rfl (by (conv=>lhs;whnf);try rfl) ?_ | refine ZM rfl rfl (by omega) ?_ | refine ZL rfl rfl rfl (by omega) (by omega) ?_ | refine ZI rfl rfl rfl (by omega) ?_ | refine ZK rfl rfl rfl (by omega) (by omega) ?_ | refine ZN rfl rfl rfl rfl (by (conv=>lhs;whnf);try rfl) ?_ | refine ZP rfl rfl rfl rfl (by (conv=>lhs;whnf);try rfl) ?_ | refine ZR rfl rfl ?_ | refine Zd rfl rfl ?_ | refine Zz rfl rfl ?_ | refine g_bits rfl rfl rfl rfl ?_ | refine ZS rfl rfl rfl (by decide) ?_ | refine g_rem rfl rfl rfl (by first | decide | omega) ?_ | refine ZU rfl rfl ?_ | refine Zv Tryz.underlying9 rfl rfl ?_ | refine ZT rfl (by (conv=>lhs;whnf);try rfl) (by (conv=>lhs;whnf);try rfl) (by rfl) ?_ | refine Zl rfl rfl ?_ | refine Zm rfl rfl rfl (by (conv=>lhs;whnf);try rfl) (by (conv=>lhs;whnf);try rfl) (by rfl) (by rfl) (Nat.le_of_ble_eq_true rfl) (by (conv=>lhs;whnf);try rfl) ?_ | refine Zn rfl rfl ?_ | refine Za rfl rfl rfl (by rfl) (by decide) (by (conv=>lhs;whnf);try rfl) ?_ | refine Zf rfl rfl rfl ?_ | refine ZQ rfl rfl ?_ | refine ZB rfl rfl (by (conv=>lhs;whnf);try rfl) ?_ | refine g_field rfl rfl rfl ?_ | refine Zo ?_ | refine Zp (by kernel_rfl) ?_ | refine Zr ?_ | refine Zb ?_ | refine Zh ?_ | refine Zj ?_ | refine Zs ?_ | refine Zk ?_ | refine Zq ?_ | refine Zt ?_ | refine ZC ?_ | refine Zg ?_ | refine Zu ?_ | refine ZD ?_)
   by_cases hgt:at_<r1.length
   ·rw [show decide (((at_+1:Nat):Int)<((r1.length+1:Nat):Int))=true from decide_eq_true (by omega)]
    rcases r1 with _ | ⟨e2,r2⟩
    ·simp at hgt
    simp only [List.length_cons] at hgt hle hft hr1
    rw [show r2.length+1 - at_=(r2.length - at_)+1 by omega] at hft
    obtain ⟨e7,he7,hft⟩:=Option.bind_eq_some_iff.1 hft
    repeat (first | (refine ZV rfl rfl ?_) | (refine ZY [] νb (Zh4 e1 e2 e7 r2 (by omega) (Zay (ZaQ hf1)) he7) rfl rfl rfl rfl rfl rfl ?_) | refine ZA rfl (by (conv=>lhs;whnf);try rfl) ?_ | refine Zx rfl rfl rfl ?_ | refine Zc rfl rfl ?_ | refine Zi rfl (by (conv=>lhs;whnf);try rfl) ?_ | refine ZM rfl rfl (by omega) ?_ | refine ZL rfl rfl rfl (by omega) (by omega) ?_ | refine ZI rfl rfl rfl (by omega) ?_ | refine ZK rfl rfl rfl (by omega) (by omega) ?_ | refine ZN rfl rfl rfl rfl (by (conv=>lhs;whnf);try rfl) ?_ | refine ZP rfl rfl rfl rfl (by (conv=>lhs;whnf);try rfl) ?_ | refine ZR rfl rfl ?_ | refine Zd rfl rfl ?_ | refine Zz rfl rfl ?_ | refine g_bits rfl rfl rfl rfl ?_ | refine ZS rfl rfl rfl (by decide) ?_ | refine g_rem rfl rfl rfl (by first | decide | omega) ?_ | refine ZU rfl rfl ?_ | refine Zv Tryz.underlying9 rfl rfl ?_ | refine ZT rfl (by (conv=>lhs;whnf);try rfl) (by (conv=>lhs;whnf);try rfl) (by rfl) ?_ | refine Zl rfl rfl ?_ | refine Zm rfl rfl rfl (by (conv=>lhs;whnf);try rfl) (by (conv=>lhs;whnf);try rfl) (by rfl) (by rfl) (Nat.le_of_ble_eq_true rfl) (by (conv=>lhs;whnf);try rfl) ?_ | refine Zn rfl rfl ?_ | refine Za rfl rfl rfl (by rfl) (by decide) (by (conv=>lhs;whnf);try rfl) ?_ | refine Zf rfl rfl rfl ?_ | refine ZQ rfl rfl ?_ | refine ZB rfl rfl (by (conv=>lhs;whnf);try rfl) ?_ | refine g_field rfl rfl rfl ?_ | refine Zo ?_ | refine Zp (by kernel_rfl) ?_ | refine Zr ?_ | refine Zb ?_ | refine Zh ?_ | refine Zj ?_ | refine Zs ?_ | refine Zk ?_ | refine Zq ?_ | refine Zt ?_ | refine ZC ?_ | refine Zg ?_ | refine Zu ?_ | refine ZD ?_)
    exact Zax (e7,r2) 2 ⟨Zdg hf1 he7,by dsimp only;omega,hft⟩ (by dsimp only;simp) (Za7 (νc 3 1) [] (fun k=>(k,νc 3 1 k)) (fun _ _=>rfl) rfl ⟨rfl,rfl,rfl,trivial⟩ (x:=[]) (x':=[]) rfl rfl rfl (Zal _) rfl)
   ·rw [show decide (((at_+1:Nat):Int)<((r1.length+1:Nat):Int))=false from decide_eq_false (by omega)]
    rw [show r1.length - at_=0 by omega] at hft
    injection hft with hft
    injection hft with q1 q2
    subst q1 q2
    repeat (first | (refine Zw rfl rfl ?_) | refine ZA rfl (by (conv=>lhs;whnf);try rfl) ?_ | refine Zx rfl rfl rfl ?_ | refine Zc rfl rfl ?_ | refine Zi rfl (by (conv=>lhs;whnf);try rfl) ?_ | refine ZM rfl rfl (by omega) ?_ | refine ZL rfl rfl rfl (by omega) (by omega) ?_ | refine ZI rfl rfl rfl (by omega) ?_ | refine ZK rfl rfl rfl (by omega) (by omega) ?_ | refine ZN rfl rfl rfl rfl (by (conv=>lhs;whnf);try rfl) ?_ | refine ZP rfl rfl rfl rfl (by (conv=>lhs;whnf);try rfl) ?_ | refine ZR rfl rfl ?_ | refine Zd rfl rfl ?_ | refine Zz rfl rfl ?_ | refine g_bits rfl rfl rfl rfl ?_ | refine ZS rfl rfl rfl (by decide) ?_ | refine g_rem rfl rfl rfl (by first | decide | omega) ?_ | refine ZU rfl rfl ?_ | refine Zv Tryz.underlying9 rfl rfl ?_ | refine ZT rfl (by (conv=>lhs;whnf);try rfl) (by (conv=>lhs;whnf);try rfl) (by rfl) ?_ | refine Zl rfl rfl ?_ | refine Zm rfl rfl rfl (by (conv=>lhs;whnf);try rfl) (by (conv=>lhs;whnf);try rfl) (by rfl) (by rfl) (Nat.le_of_ble_eq_true rfl) (by (conv=>lhs;whnf);try rfl) ?_ | refine Zn rfl rfl ?_ | refine Za rfl rfl rfl (by rfl) (by decide) (by (conv=>lhs;whnf);try rfl) ?_ | refine Zf rfl rfl rfl ?_ | refine ZQ rfl rfl ?_ | refine ZB rfl rfl (by (conv=>lhs;whnf);try rfl) ?_ | refine g_field rfl rfl rfl ?_ | refine Zo ?_ | refine Zp (by kernel_rfl) ?_ | refine Zr ?_ | refine Zb ?_ | refine Zh ?_ | refine Zj ?_ | refine Zs ?_ | refine Zk ?_ | refine Zq ?_ | refine Zt ?_ | refine ZC ?_ | refine Zg ?_ | refine Zu ?_ | refine ZD ?_)
    refine Zei [] νb (ZmP e1 e5 r5 (by simp at hr1;omega)) rfl rfl rfl rfl ?_
    iterate 2 (refine Zg9 ?_)
    refine ZaF (ZgT (3,1+1000000 * (1000+1)) νb (tm':=[(0,.ptr 0 (0,0) 0),(1,.int .i64 k),(7,.ptr 300 (1,300) 0)]) ⟨rfl,rfl,rfl,trivial⟩) ?_ (List.cons_ne_nil _ _)
    repeat (first | (refine ZY [_] νb (Zrq e5 e6 r5 6 k ⟨#[]⟩ e1.list (Zay (ZaQ hf1)).1 he6) rfl rfl rfl rfl rfl rfl ?_) | refine ZA rfl (by (conv=>lhs;whnf);try rfl) ?_ | refine Zx rfl rfl rfl ?_ | refine Zc rfl rfl ?_ | refine Zi rfl (by (conv=>lhs;whnf);try rfl) ?_ | refine ZM rfl rfl (by omega) ?_ | refine ZL rfl rfl rfl (by omega) (by omega) ?_ | refine ZI rfl rfl rfl (by omega) ?_ | refine ZK rfl rfl rfl (by omega) (by omega) ?_ | refine ZN rfl rfl rfl rfl (by (conv=>lhs;whnf);try rfl) ?_ | refine ZP rfl rfl rfl rfl (by (conv=>lhs;whnf);try rfl) ?_ | refine ZR rfl rfl ?_ | refine Zd rfl rfl ?_ | refine Zz rfl rfl ?_ | refine g_bits rfl rfl rfl rfl ?_ | refine ZS rfl rfl rfl (by decide) ?_ | refine g_rem rfl rfl rfl (by first | decide | omega) ?_ | refine ZU rfl rfl ?_ | refine Zv Tryz.underlying9 rfl rfl ?_ | refine ZT rfl (by (conv=>lhs;whnf);try rfl) (by (conv=>lhs;whnf);try rfl) (by rfl) ?_ | refine Zl rfl rfl ?_ | refine Zm rfl rfl rfl (by (conv=>lhs;whnf);try rfl) (by (conv=>lhs;whnf);try rfl) (by rfl) (by rfl) (Nat.le_of_ble_eq_true rfl) (by (conv=>lhs;whnf);try rfl) ?_ | refine Zn rfl rfl ?_ | refine Za rfl rfl rfl (by rfl) (by decide) (by (conv=>lhs;whnf);try rfl) ?_ | refine Zf rfl rfl rfl ?_ | refine ZQ rfl rfl ?_ | refine ZB rfl rfl (by (conv=>lhs;whnf);try rfl) ?_ | refine g_field rfl rfl rfl ?_ | refine Zo ?_ | refine Zp (by kernel_rfl) ?_ | refine Zr ?_ | refine Zb ?_ | refine Zh ?_ | refine Zj ?_ | refine Zs ?_ | refine Zk ?_ | refine Zq ?_ | refine Zt ?_ | refine ZC ?_ | refine Zg ?_ | refine Zu ?_ | refine ZD ?_)
    exact Zbr (.inr rfl) (νc 2 7) [_] [] rfl rfl trivial rfl rfl
end Go.Proofs.YtmgfammllddkhaaGreatDoor
