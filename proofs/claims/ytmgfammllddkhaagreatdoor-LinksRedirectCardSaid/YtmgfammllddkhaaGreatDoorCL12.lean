/- The parser's closeLink and flatten. | The parser's lastBrace and closeTag. | The parser's closeTag. -/
import Derived.Test.YtmgfammllddkhaaGreatDoorCL11
import Derived.Test.YtmgfammllddkhaaGreatDoorCL08
namespace Go.Proofs.YtmgfammllddkhaaGreatDoor
open VL
def ZfE (e:El) (l:List (List PV)):Option El:=if l.length≤4611686018427387904 then Zka e l else none
theorem Zcu {r:List El} {l:List (List PV)} {e e':El} (hf:fit e r) (h:ZfE e l=some e'):fit e' r:=by
 unfold ZfE at h
 split at h
 ·exact ZiG hf h
 ·cases h
theorem ZfF (l:List (List PV)) (e e2:El) (r:List El) (hf:fit e r) (h:ZfE e l=some e2):PC 114 [.sl l] e r (.tup []) e2 r:=by
 unfold ZfE at h
 split at h
 ·rename_i hl
  exact ZpB l e e2 r hf h hl
 ·cases h
def ZdQ (e:El) (r:List El):Option (El×List El):=if e.kind=1 then match r with
  | []=>none
  | e2::r=>(Zcz e2 ⟨#[91,91]⟩).bind fun a=>(ZfE a e.list).bind fun b=>(Zcz b ⟨#[93,93]⟩).map fun c=>(c,r)
 else (Zcz e ⟨#[93,93]⟩).map fun c=>(c,r)
set_option maxRecDepth 100000 in
set_option maxHeartbeats 1000000 in
theorem Zh5 (e e':El) (r:List El) (hf:fit e r) (hk:e.kind≠1) (h:Zcz e ⟨#[93,93]⟩=some e'):PC 108 [] e r (.tup []) e' r:=by
 refine Zaa mix Tryz.func108 (by kernel_rfl) rfl (by kernel_rfl) ?_
 rw [ZbL]
 repeat (first | (refine Zad [] νa (ZbU e r hf.1.1) rfl rfl rfl rfl rfl rfl ?_) | refine ZB rfl (by (conv=>lhs;whnf);try rfl) ?_ | refine Zy rfl rfl rfl ?_ | refine Zc rfl rfl ?_ | refine Zi rfl (by (conv=>lhs;whnf);try rfl) ?_ | refine ZL rfl rfl (by omega) ?_ | refine ZK rfl rfl rfl (by omega) (by omega) ?_ | refine ZI rfl rfl rfl (by omega) ?_ | refine ZJ rfl rfl rfl (by omega) (by omega) ?_ | refine ZM rfl rfl rfl rfl (by (conv=>lhs;whnf);try rfl) ?_ | refine ZO rfl rfl rfl rfl (by (conv=>lhs;whnf);try rfl) ?_ | refine ZQ rfl rfl ?_ | refine Zd rfl rfl ?_ | refine ZA rfl rfl ?_ | refine Zz rfl rfl rfl rfl ?_ | refine ZR rfl rfl rfl (by decide) ?_ | refine ZV rfl rfl rfl (by first | decide | omega) ?_ | refine ZT rfl rfl ?_ | refine Zv Tryz.underlying9 rfl rfl ?_ | refine ZS rfl (by (conv=>lhs;whnf);try rfl) (by (conv=>lhs;whnf);try rfl) (by rfl) ?_ | refine Zl rfl rfl ?_ | refine Zm rfl rfl rfl (by (conv=>lhs;whnf);try rfl) (by (conv=>lhs;whnf);try rfl) (by rfl) (by rfl) (Nat.le_of_ble_eq_true rfl) (by (conv=>lhs;whnf);try rfl) ?_ | refine Zn rfl rfl ?_ | refine Za rfl rfl rfl (by rfl) (by decide) (by (conv=>lhs;whnf);try rfl) ?_ | refine Zf rfl rfl rfl ?_ | refine ZP rfl rfl ?_ | refine ZC rfl rfl (by (conv=>lhs;whnf);try rfl) ?_ | refine g_field rfl rfl rfl ?_ | refine Zo ?_ | refine Zp (by kernel_rfl) ?_ | refine Zr ?_ | refine Zb ?_ | refine Zh ?_ | refine Zj ?_ | refine Zs ?_ | refine Zk ?_ | refine Zq ?_ | refine Zt ?_ | refine ZD ?_ | refine Zg ?_ | refine Zu ?_ | refine ZE ?_)
 rw [decide_eq_false hk]
 repeat (first | (refine ZW rfl rfl ?_) | (refine ZX [] νa (ZbC e r _ hf.1 hf.2 e' h) rfl rfl rfl rfl rfl rfl ?_) | refine ZB rfl (by (conv=>lhs;whnf);try rfl) ?_ | refine Zy rfl rfl rfl ?_ | refine Zc rfl rfl ?_ | refine Zi rfl (by (conv=>lhs;whnf);try rfl) ?_ | refine ZL rfl rfl (by omega) ?_ | refine ZK rfl rfl rfl (by omega) (by omega) ?_ | refine ZI rfl rfl rfl (by omega) ?_ | refine ZJ rfl rfl rfl (by omega) (by omega) ?_ | refine ZM rfl rfl rfl rfl (by (conv=>lhs;whnf);try rfl) ?_ | refine ZO rfl rfl rfl rfl (by (conv=>lhs;whnf);try rfl) ?_ | refine ZQ rfl rfl ?_ | refine Zd rfl rfl ?_ | refine ZA rfl rfl ?_ | refine Zz rfl rfl rfl rfl ?_ | refine ZR rfl rfl rfl (by decide) ?_ | refine ZV rfl rfl rfl (by first | decide | omega) ?_ | refine ZT rfl rfl ?_ | refine Zv Tryz.underlying9 rfl rfl ?_ | refine ZS rfl (by (conv=>lhs;whnf);try rfl) (by (conv=>lhs;whnf);try rfl) (by rfl) ?_ | refine Zl rfl rfl ?_ | refine Zm rfl rfl rfl (by (conv=>lhs;whnf);try rfl) (by (conv=>lhs;whnf);try rfl) (by rfl) (by rfl) (Nat.le_of_ble_eq_true rfl) (by (conv=>lhs;whnf);try rfl) ?_ | refine Zn rfl rfl ?_ | refine Za rfl rfl rfl (by rfl) (by decide) (by (conv=>lhs;whnf);try rfl) ?_ | refine Zf rfl rfl rfl ?_ | refine ZP rfl rfl ?_ | refine ZC rfl rfl (by (conv=>lhs;whnf);try rfl) ?_ | refine g_field rfl rfl rfl ?_ | refine Zo ?_ | refine Zp (by kernel_rfl) ?_ | refine Zr ?_ | refine Zb ?_ | refine Zh ?_ | refine Zj ?_ | refine Zs ?_ | refine Zk ?_ | refine Zq ?_ | refine Zt ?_ | refine ZD ?_ | refine Zg ?_ | refine Zu ?_ | refine ZE ?_)
 exact Zbj (.inl rfl) (νc 2 1) [] [] rfl rfl trivial rfl rfl
set_option maxRecDepth 100000 in
set_option maxHeartbeats 1000000 in
theorem ZiT (tag count:Int) (list:List (List PV)) (args:Option (List Arg×Arg)) (e2 a b c:El) (r:List El) (hr:r.length≤999) (hf:fit e2 r) (h1:Zcz e2 ⟨#[91,91]⟩=some a) (h2:ZfE a list=some b) (h3:Zcz b ⟨#[93,93]⟩=some c) :
  PC 108 [] ⟨1,tag,count,list,args⟩ (e2::r) (.tup []) c r:=by
 have hfa:=Zav hf h1
 have hfb:=Zcu hfa h2
 refine Zaa mix Tryz.func108 (by kernel_rfl) rfl (by kernel_rfl) ?_
 rw [ZbL]
 repeat (first | (refine Zad [] νa (ZbU _ (e2::r) (by simp;omega)) rfl rfl rfl rfl rfl rfl ?_) | (refine Zx rfl rfl ?_) | refine ZB rfl (by (conv=>lhs;whnf);try rfl) ?_ | refine Zy rfl rfl rfl ?_ | refine Zc rfl rfl ?_ | refine Zi rfl (by (conv=>lhs;whnf);try rfl) ?_ | refine ZL rfl rfl (by omega) ?_ | refine ZK rfl rfl rfl (by omega) (by omega) ?_ | refine ZI rfl rfl rfl (by omega) ?_ | refine ZJ rfl rfl rfl (by omega) (by omega) ?_ | refine ZM rfl rfl rfl rfl (by (conv=>lhs;whnf);try rfl) ?_ | refine ZO rfl rfl rfl rfl (by (conv=>lhs;whnf);try rfl) ?_ | refine ZQ rfl rfl ?_ | refine Zd rfl rfl ?_ | refine ZA rfl rfl ?_ | refine Zz rfl rfl rfl rfl ?_ | refine ZR rfl rfl rfl (by decide) ?_ | refine ZV rfl rfl rfl (by first | decide | omega) ?_ | refine ZT rfl rfl ?_ | refine Zv Tryz.underlying9 rfl rfl ?_ | refine ZS rfl (by (conv=>lhs;whnf);try rfl) (by (conv=>lhs;whnf);try rfl) (by rfl) ?_ | refine Zl rfl rfl ?_ | refine Zm rfl rfl rfl (by (conv=>lhs;whnf);try rfl) (by (conv=>lhs;whnf);try rfl) (by rfl) (by rfl) (Nat.le_of_ble_eq_true rfl) (by (conv=>lhs;whnf);try rfl) ?_ | refine Zn rfl rfl ?_ | refine Za rfl rfl rfl (by rfl) (by decide) (by (conv=>lhs;whnf);try rfl) ?_ | refine Zf rfl rfl rfl ?_ | refine ZP rfl rfl ?_ | refine ZC rfl rfl (by (conv=>lhs;whnf);try rfl) ?_ | refine g_field rfl rfl rfl ?_ | refine Zo ?_ | refine Zp (by kernel_rfl) ?_ | refine Zr ?_ | refine Zb ?_ | refine Zh ?_ | refine Zj ?_ | refine Zs ?_ | refine Zk ?_ | refine Zq ?_ | refine Zt ?_ | refine ZD ?_ | refine Zg ?_ | refine Zu ?_ | refine ZE ?_)
 refine ZdU [] νa (Zlp _ e2 r hr) rfl rfl rfl rfl ?_
 iterate 2 (refine Zgs ?_)
 refine ZaB (Zgh (2,1+1000000 * (1000+1)) νa (tm':=[(0,.ptr 0 (0,0) 0),(2,.ptr 300 (1,300) 0)]) ⟨rfl,rfl,trivial⟩) ?_ (List.cons_ne_nil _ _)
 repeat (first | (refine ZX [_] νb (ZbC e2 r _ hf.1 hf.2 a h1) rfl rfl rfl rfl rfl rfl ?_) | (refine ZX [_] (νc _ _) (ZfF list a b r hfa h2) rfl rfl rfl rfl rfl rfl ?_) | (refine ZX [_] (νc _ _) (ZbC b r _ hfb.1 hfb.2 c h3) rfl rfl rfl rfl rfl rfl ?_) | refine ZB rfl (by (conv=>lhs;whnf);try rfl) ?_ | refine Zy rfl rfl rfl ?_ | refine Zc rfl rfl ?_ | refine Zi rfl (by (conv=>lhs;whnf);try rfl) ?_ | refine ZL rfl rfl (by omega) ?_ | refine ZK rfl rfl rfl (by omega) (by omega) ?_ | refine ZI rfl rfl rfl (by omega) ?_ | refine ZJ rfl rfl rfl (by omega) (by omega) ?_ | refine ZM rfl rfl rfl rfl (by (conv=>lhs;whnf);try rfl) ?_ | refine ZO rfl rfl rfl rfl (by (conv=>lhs;whnf);try rfl) ?_ | refine ZQ rfl rfl ?_ | refine Zd rfl rfl ?_ | refine ZA rfl rfl ?_ | refine Zz rfl rfl rfl rfl ?_ | refine ZR rfl rfl rfl (by decide) ?_ | refine ZV rfl rfl rfl (by first | decide | omega) ?_ | refine ZT rfl rfl ?_ | refine Zv Tryz.underlying9 rfl rfl ?_ | refine ZS rfl (by (conv=>lhs;whnf);try rfl) (by (conv=>lhs;whnf);try rfl) (by rfl) ?_ | refine Zl rfl rfl ?_ | refine Zm rfl rfl rfl (by (conv=>lhs;whnf);try rfl) (by (conv=>lhs;whnf);try rfl) (by rfl) (by rfl) (Nat.le_of_ble_eq_true rfl) (by (conv=>lhs;whnf);try rfl) ?_ | refine Zn rfl rfl ?_ | refine Za rfl rfl rfl (by rfl) (by decide) (by (conv=>lhs;whnf);try rfl) ?_ | refine Zf rfl rfl rfl ?_ | refine ZP rfl rfl ?_ | refine ZC rfl rfl (by (conv=>lhs;whnf);try rfl) ?_ | refine g_field rfl rfl rfl ?_ | refine Zo ?_ | refine Zp (by kernel_rfl) ?_ | refine Zr ?_ | refine Zb ?_ | refine Zh ?_ | refine Zj ?_ | refine Zs ?_ | refine Zk ?_ | refine Zq ?_ | refine Zt ?_ | refine ZD ?_ | refine Zg ?_ | refine Zu ?_ | refine ZE ?_)
 exact Zbj (.inr rfl) (νc 4 1) [_] [] rfl rfl trivial rfl rfl
def ZgV (e e2:El):Option El:=if e.kind=1 then Zcz e2 ⟨#[91,91]⟩ else if e.kind=2 then (Zea e.tag).bind fun s=>Zcz e2 s else if e.kind=3 then (strings_Repeat ⟨#[123]⟩ e.count).bind fun s=>Zcz e2 s else some e2
def Zmf (e:El) (a:Arg):Option El:=(Zcz e ⟨#[124]⟩).bind fun b=>((if a.named=true then (ZfE b a.name).bind fun c=>Zcz c ⟨#[61]⟩ else some b):Option El).bind fun d=>ZfE d a.value
def ZgW:El→List Arg→Option El
 | e,[]=>some e
 | e,a::l=>(Zmf e a).bind fun e'=>ZgW e' l
def ZiU (e e2:El):Option El:=(ZgV e e2).bind fun a=>(ZfE a e.list).bind fun b=>if e.argL.length≤4611686018427387904 then ZgW b e.argL else none
theorem ZgC {e e2 a:El} {r:List El} (hf:fit e2 r) (h:ZgV e e2=some a):fit a r:=by
 unfold ZgV at h
 split at h
 ·exact Zav hf h
 ·split at h
  ·obtain ⟨s,_,h⟩:=Option.bind_eq_some_iff.1 h
   exact Zav hf h
  ·split at h
   ·obtain ⟨s,_,h⟩:=Option.bind_eq_some_iff.1 h
    exact Zav hf h
   ·injection h with h
    rw [← h]
    exact hf
theorem Zhe {e e':El} {a:Arg} {r:List El} (hf:fit e r) (h:Zmf e a=some e'):fit e' r:=by
 obtain ⟨b,hb,h⟩:=Option.bind_eq_some_iff.1 h
 obtain ⟨d,hd,h⟩:=Option.bind_eq_some_iff.1 h
 refine Zcu ?_ h
 split at hd
 ·obtain ⟨c,hc,hd⟩:=Option.bind_eq_some_iff.1 hd
  exact Zav (Zcu (Zav hf hb) hc) hd
 ·injection hd with hd
  rw [← hd]
  exact Zav hf hb
abbrev ZpV (ν:Nat→Gen) (k:Nat):Nat×Gen:=if k=300 then (300,νb 300) else (k,ν k)
theorem ZgX {ν:Nat→Gen} (k:Nat) (h:k=0∨1000≤k):ZpV ν k=(k,ν k):=if_neg (by omega)
set_option maxRecDepth 100000 in
set_option maxHeartbeats 1000000 in
theorem Zhf (e e2 e3:El) (r:List El) (hr:r.length≤999) (hf:fit e2 r) (h:ZiU e e2=some e3):PC 64 [] e (e2::r) (.tup []) e3 r:=by
 obtain ⟨a0,ha0,h⟩:=Option.bind_eq_some_iff.1 h
 obtain ⟨b0,hb0,h4⟩:=Option.bind_eq_some_iff.1 h
 by_cases hal:e.argL.length≤4611686018427387904
 rotate_left
 ·rw [if_neg hal] at h4
  cases h4
 rw [if_pos hal] at h4
 have hfa:=ZgC hf ha0
 have hfb:=Zcu hfa hb0
 refine Zaa mix Tryz.func64 (by kernel_rfl) rfl (by kernel_rfl) ?_
 rw [ZbL]
 repeat (first | refine ZB rfl (by (conv=>lhs;whnf);try rfl) ?_ | refine Zy rfl rfl rfl ?_ | refine Zc rfl rfl ?_ | refine Zi rfl (by (conv=>lhs;whnf);try rfl) ?_ | refine ZL rfl rfl (by omega) ?_ | refine ZK rfl rfl rfl (by omega) (by omega) ?_ | refine ZI rfl rfl rfl (by omega) ?_ | refine ZJ rfl rfl rfl (by omega) (by omega) ?_ | refine ZM rfl rfl rfl rfl (by (conv=>lhs;whnf);try rfl) ?_ | refine ZO rfl rfl rfl rfl (by (conv=>lhs;whnf);try rfl) ?_ | refine ZQ rfl rfl ?_ | refine Zd rfl rfl ?_ | refine ZA rfl rfl ?_ | refine Zz rfl rfl rfl rfl ?_ | refine ZR rfl rfl rfl (by decide) ?_ | refine ZV rfl rfl rfl (by first | decide | omega) ?_ | refine ZT rfl rfl ?_ | refine Zv Tryz.underlying9 rfl rfl ?_ | refine ZS rfl (by (conv=>lhs;whnf);try rfl) (by (conv=>lhs;whnf);try rfl) (by rfl) ?_ | refine Zl rfl rfl ?_ | refine Zm rfl rfl rfl (by (conv=>lhs;whnf);try rfl) (by (conv=>lhs;whnf);try rfl) (by rfl) (by rfl) (Nat.le_of_ble_eq_true rfl) (by (conv=>lhs;whnf);try rfl) ?_ | refine Zn rfl rfl ?_ | refine Za rfl rfl rfl (by rfl) (by decide) (by (conv=>lhs;whnf);try rfl) ?_ | refine Zf rfl rfl rfl ?_ | refine ZP rfl rfl ?_ | refine ZC rfl rfl (by (conv=>lhs;whnf);try rfl) ?_ | refine g_field rfl rfl rfl ?_ | refine Zo ?_ | refine Zp (by kernel_rfl) ?_ | refine Zr ?_ | refine Zb ?_ | refine Zh ?_ | refine Zj ?_ | refine Zs ?_ | refine Zk ?_ | refine Zq ?_ | refine Zt ?_ | refine ZD ?_ | refine Zg ?_ | refine Zu ?_ | refine ZE ?_)
 refine ZdU [] νa (Zlp e e2 r hr) rfl rfl rfl rfl ?_
 iterate 2 (refine Zgs ?_)
 refine ZaB (Zgh (1,1+1000000 * (1000+1)) νa (tm':=[(0,.ptr 0 (0,0) 0),(2,.ptr 300 (1,300) 0)]) ⟨rfl,rfl,trivial⟩) ?_ (List.cons_ne_nil _ _)
 repeat (first | (refine Zbs (α:=El) (c:=.block 0 _) (fun a _=>mkS [(0,.ptr 0 (0,0) 0),(2,.ptr 300 (1,300) 0)] (somes ((300,νb 300,.box e.cells)::stP νb a r)) 2) (fun a=>a=a0) ?_ (fun a _ hJ=>?_)) | refine ZB rfl (by (conv=>lhs;whnf);try rfl) ?_ | refine Zy rfl rfl rfl ?_ | refine Zc rfl rfl ?_ | refine Zi rfl (by (conv=>lhs;whnf);try rfl) ?_ | refine ZL rfl rfl (by omega) ?_ | refine ZK rfl rfl rfl (by omega) (by omega) ?_ | refine ZI rfl rfl rfl (by omega) ?_ | refine ZJ rfl rfl rfl (by omega) (by omega) ?_ | refine ZM rfl rfl rfl rfl (by (conv=>lhs;whnf);try rfl) ?_ | refine ZO rfl rfl rfl rfl (by (conv=>lhs;whnf);try rfl) ?_ | refine ZQ rfl rfl ?_ | refine Zd rfl rfl ?_ | refine ZA rfl rfl ?_ | refine Zz rfl rfl rfl rfl ?_ | refine ZR rfl rfl rfl (by decide) ?_ | refine ZV rfl rfl rfl (by first | decide | omega) ?_ | refine ZT rfl rfl ?_ | refine Zv Tryz.underlying9 rfl rfl ?_ | refine ZS rfl (by (conv=>lhs;whnf);try rfl) (by (conv=>lhs;whnf);try rfl) (by rfl) ?_ | refine Zl rfl rfl ?_ | refine Zm rfl rfl rfl (by (conv=>lhs;whnf);try rfl) (by (conv=>lhs;whnf);try rfl) (by rfl) (by rfl) (Nat.le_of_ble_eq_true rfl) (by (conv=>lhs;whnf);try rfl) ?_ | refine Zn rfl rfl ?_ | refine Za rfl rfl rfl (by rfl) (by decide) (by (conv=>lhs;whnf);try rfl) ?_ | refine Zf rfl rfl rfl ?_ | refine ZP rfl rfl ?_ | refine ZC rfl rfl (by (conv=>lhs;whnf);try rfl) ?_ | refine g_field rfl rfl rfl ?_ | refine Zo ?_ | refine Zp (by kernel_rfl) ?_ | refine Zr ?_ | refine Zb ?_ | refine Zh ?_ | refine Zj ?_ | refine Zs ?_ | refine Zk ?_ | refine Zq ?_ | refine Zt ?_ | refine ZD ?_ | refine Zg ?_ | refine Zu ?_ | refine ZE ?_)
 ·unfold ZgV at ha0
  by_cases h1:e.kind=1
  ·rw [if_pos h1] at ha0
   rw [decide_eq_true h1]
   repeat (first | (refine ZW rfl rfl ?_) | (refine ZX [_] νb (ZbC e2 r _ hf.1 hf.2 a0 ha0) rfl rfl rfl rfl rfl rfl ?_) | refine ZB rfl (by (conv=>lhs;whnf);try rfl) ?_ | refine Zy rfl rfl rfl ?_ | refine Zc rfl rfl ?_ | refine Zi rfl (by (conv=>lhs;whnf);try rfl) ?_ | refine ZL rfl rfl (by omega) ?_ | refine ZK rfl rfl rfl (by omega) (by omega) ?_ | refine ZI rfl rfl rfl (by omega) ?_ | refine ZJ rfl rfl rfl (by omega) (by omega) ?_ | refine ZM rfl rfl rfl rfl (by (conv=>lhs;whnf);try rfl) ?_ | refine ZO rfl rfl rfl rfl (by (conv=>lhs;whnf);try rfl) ?_ | refine ZQ rfl rfl ?_ | refine Zd rfl rfl ?_ | refine ZA rfl rfl ?_ | refine Zz rfl rfl rfl rfl ?_ | refine ZR rfl rfl rfl (by decide) ?_ | refine ZV rfl rfl rfl (by first | decide | omega) ?_ | refine ZT rfl rfl ?_ | refine Zv Tryz.underlying9 rfl rfl ?_ | refine ZS rfl (by (conv=>lhs;whnf);try rfl) (by (conv=>lhs;whnf);try rfl) (by rfl) ?_ | refine Zl rfl rfl ?_ | refine Zm rfl rfl rfl (by (conv=>lhs;whnf);try rfl) (by (conv=>lhs;whnf);try rfl) (by rfl) (by rfl) (Nat.le_of_ble_eq_true rfl) (by (conv=>lhs;whnf);try rfl) ?_ | refine Zn rfl rfl ?_ | refine Za rfl rfl rfl (by rfl) (by decide) (by (conv=>lhs;whnf);try rfl) ?_ | refine Zf rfl rfl rfl ?_ | refine ZP rfl rfl ?_ | refine ZC rfl rfl (by (conv=>lhs;whnf);try rfl) ?_ | refine g_field rfl rfl rfl ?_ | refine Zo ?_ | refine Zp (by kernel_rfl) ?_ | refine Zr ?_ | refine Zb ?_ | refine Zh ?_ | refine Zj ?_ | refine Zs ?_ | refine Zk ?_ | refine Zq ?_ | refine Zt ?_ | refine ZD ?_ | refine Zg ?_ | refine Zu ?_ | refine ZE ?_)
   exact ZcJ a0 2 rfl (ZaZ (νc 4 1) [_] (ZpV (νc 4 1)) ZgX rfl ⟨rfl,rfl,trivial⟩ (x:=[(300,νb 300,.box e.cells)]) (x':=[(300,νb 300,.box e.cells)]) rfl rfl rfl (ZF rfl (Zaj _)) rfl)
  ·rw [if_neg h1] at ha0
   rw [decide_eq_false h1]
   repeat (first | (refine Zx rfl rfl ?_) | refine ZB rfl (by (conv=>lhs;whnf);try rfl) ?_ | refine Zy rfl rfl rfl ?_ | refine Zc rfl rfl ?_ | refine Zi rfl (by (conv=>lhs;whnf);try rfl) ?_ | refine ZL rfl rfl (by omega) ?_ | refine ZK rfl rfl rfl (by omega) (by omega) ?_ | refine ZI rfl rfl rfl (by omega) ?_ | refine ZJ rfl rfl rfl (by omega) (by omega) ?_ | refine ZM rfl rfl rfl rfl (by (conv=>lhs;whnf);try rfl) ?_ | refine ZO rfl rfl rfl rfl (by (conv=>lhs;whnf);try rfl) ?_ | refine ZQ rfl rfl ?_ | refine Zd rfl rfl ?_ | refine ZA rfl rfl ?_ | refine Zz rfl rfl rfl rfl ?_ | refine ZR rfl rfl rfl (by decide) ?_ | refine ZV rfl rfl rfl (by first | decide | omega) ?_ | refine ZT rfl rfl ?_ | refine Zv Tryz.underlying9 rfl rfl ?_ | refine ZS rfl (by (conv=>lhs;whnf);try rfl) (by (conv=>lhs;whnf);try rfl) (by rfl) ?_ | refine Zl rfl rfl ?_ | refine Zm rfl rfl rfl (by (conv=>lhs;whnf);try rfl) (by (conv=>lhs;whnf);try rfl) (by rfl) (by rfl) (Nat.le_of_ble_eq_true rfl) (by (conv=>lhs;whnf);try rfl) ?_ | refine Zn rfl rfl ?_ | refine Za rfl rfl rfl (by rfl) (by decide) (by (conv=>lhs;whnf);try rfl) ?_ | refine Zf rfl rfl rfl ?_ | refine ZP rfl rfl ?_ | refine ZC rfl rfl (by (conv=>lhs;whnf);try rfl) ?_ | refine g_field rfl rfl rfl ?_ | refine Zo ?_ | refine Zp (by kernel_rfl) ?_ | refine Zr ?_ | refine Zb ?_ | refine Zh ?_ | refine Zj ?_ | refine Zs ?_ | refine Zk ?_ | refine Zq ?_ | refine Zt ?_ | refine ZD ?_ | refine Zg ?_ | refine Zu ?_ | refine ZE ?_)
   by_cases h2:e.kind=2
   ·rw [if_pos h2] at ha0
    obtain ⟨s,hs,ha0⟩:=Option.bind_eq_some_iff.1 ha0
    rw [decide_eq_true h2]
    repeat (first | (refine ZW rfl rfl ?_) | (refine Zeq (Zhh _ _ hs) rfl rfl ?_) | (refine ZX [_] νb (ZbC e2 r s hf.1 hf.2 a0 ha0) rfl rfl rfl rfl rfl rfl ?_) | refine ZB rfl (by (conv=>lhs;whnf);try rfl) ?_ | refine Zy rfl rfl rfl ?_ | refine Zc rfl rfl ?_ | refine Zi rfl (by (conv=>lhs;whnf);try rfl) ?_ | refine ZL rfl rfl (by omega) ?_ | refine ZK rfl rfl rfl (by omega) (by omega) ?_ | refine ZI rfl rfl rfl (by omega) ?_ | refine ZJ rfl rfl rfl (by omega) (by omega) ?_ | refine ZM rfl rfl rfl rfl (by (conv=>lhs;whnf);try rfl) ?_ | refine ZO rfl rfl rfl rfl (by (conv=>lhs;whnf);try rfl) ?_ | refine ZQ rfl rfl ?_ | refine Zd rfl rfl ?_ | refine ZA rfl rfl ?_ | refine Zz rfl rfl rfl rfl ?_ | refine ZR rfl rfl rfl (by decide) ?_ | refine ZV rfl rfl rfl (by first | decide | omega) ?_ | refine ZT rfl rfl ?_ | refine Zv Tryz.underlying9 rfl rfl ?_ | refine ZS rfl (by (conv=>lhs;whnf);try rfl) (by (conv=>lhs;whnf);try rfl) (by rfl) ?_ | refine Zl rfl rfl ?_ | refine Zm rfl rfl rfl (by (conv=>lhs;whnf);try rfl) (by (conv=>lhs;whnf);try rfl) (by rfl) (by rfl) (Nat.le_of_ble_eq_true rfl) (by (conv=>lhs;whnf);try rfl) ?_ | refine Zn rfl rfl ?_ | refine Za rfl rfl rfl (by rfl) (by decide) (by (conv=>lhs;whnf);try rfl) ?_ | refine Zf rfl rfl rfl ?_ | refine ZP rfl rfl ?_ | refine ZC rfl rfl (by (conv=>lhs;whnf);try rfl) ?_ | refine g_field rfl rfl rfl ?_ | refine Zo ?_ | refine Zp (by kernel_rfl) ?_ | refine Zr ?_ | refine Zb ?_ | refine Zh ?_ | refine Zj ?_ | refine Zs ?_ | refine Zk ?_ | refine Zq ?_ | refine Zt ?_ | refine ZD ?_ | refine Zg ?_ | refine Zu ?_ | refine ZE ?_)
    exact ZcJ a0 2 rfl (ZaZ (νc 5 6) [_] (ZpV (νc 5 6)) ZgX rfl ⟨rfl,rfl,trivial⟩ (x:=[(300,νb 300,.box e.cells)]) (x':=[(300,νb 300,.box e.cells)]) rfl rfl rfl (ZF rfl (Zaj _)) rfl)
   ·rw [if_neg h2] at ha0
    rw [decide_eq_false h2]
    repeat (first | (refine Zx rfl rfl ?_) | refine ZB rfl (by (conv=>lhs;whnf);try rfl) ?_ | refine Zy rfl rfl rfl ?_ | refine Zc rfl rfl ?_ | refine Zi rfl (by (conv=>lhs;whnf);try rfl) ?_ | refine ZL rfl rfl (by omega) ?_ | refine ZK rfl rfl rfl (by omega) (by omega) ?_ | refine ZI rfl rfl rfl (by omega) ?_ | refine ZJ rfl rfl rfl (by omega) (by omega) ?_ | refine ZM rfl rfl rfl rfl (by (conv=>lhs;whnf);try rfl) ?_ | refine ZO rfl rfl rfl rfl (by (conv=>lhs;whnf);try rfl) ?_ | refine ZQ rfl rfl ?_ | refine Zd rfl rfl ?_ | refine ZA rfl rfl ?_ | refine Zz rfl rfl rfl rfl ?_ | refine ZR rfl rfl rfl (by decide) ?_ | refine ZV rfl rfl rfl (by first | decide | omega) ?_ | refine ZT rfl rfl ?_ | refine Zv Tryz.underlying9 rfl rfl ?_ | refine ZS rfl (by (conv=>lhs;whnf);try rfl) (by (conv=>lhs;whnf);try rfl) (by rfl) ?_ | refine Zl rfl rfl ?_ | refine Zm rfl rfl rfl (by (conv=>lhs;whnf);try rfl) (by (conv=>lhs;whnf);try rfl) (by rfl) (by rfl) (Nat.le_of_ble_eq_true rfl) (by (conv=>lhs;whnf);try rfl) ?_ | refine Zn rfl rfl ?_ | refine Za rfl rfl rfl (by rfl) (by decide) (by (conv=>lhs;whnf);try rfl) ?_ | refine Zf rfl rfl rfl ?_ | refine ZP rfl rfl ?_ | refine ZC rfl rfl (by (conv=>lhs;whnf);try rfl) ?_ | refine g_field rfl rfl rfl ?_ | refine Zo ?_ | refine Zp (by kernel_rfl) ?_ | refine Zr ?_ | refine Zb ?_ | refine Zh ?_ | refine Zj ?_ | refine Zs ?_ | refine Zk ?_ | refine Zq ?_ | refine Zt ?_ | refine ZD ?_ | refine Zg ?_ | refine Zu ?_ | refine ZE ?_)
    by_cases h3:e.kind=3
    ·rw [if_pos h3] at ha0
     obtain ⟨s,hs,ha0⟩:=Option.bind_eq_some_iff.1 ha0
     rw [decide_eq_true h3]
     repeat (first | (refine ZW rfl rfl ?_) | (refine Zeq (ZcN _ _ _ hs) rfl rfl ?_) | (refine ZX [_] νb (ZbC e2 r s hf.1 hf.2 a0 ha0) rfl rfl rfl rfl rfl rfl ?_) | refine ZB rfl (by (conv=>lhs;whnf);try rfl) ?_ | refine Zy rfl rfl rfl ?_ | refine Zc rfl rfl ?_ | refine Zi rfl (by (conv=>lhs;whnf);try rfl) ?_ | refine ZL rfl rfl (by omega) ?_ | refine ZK rfl rfl rfl (by omega) (by omega) ?_ | refine ZI rfl rfl rfl (by omega) ?_ | refine ZJ rfl rfl rfl (by omega) (by omega) ?_ | refine ZM rfl rfl rfl rfl (by (conv=>lhs;whnf);try rfl) ?_ | refine ZO rfl rfl rfl rfl (by (conv=>lhs;whnf);try rfl) ?_ | refine ZQ rfl rfl ?_ | refine Zd rfl rfl ?_ | refine ZA rfl rfl ?_ | refine Zz rfl rfl rfl rfl ?_ | refine ZR rfl rfl rfl (by decide) ?_ | refine ZV rfl rfl rfl (by first | decide | omega) ?_ | refine ZT rfl rfl ?_ | refine Zv Tryz.underlying9 rfl rfl ?_ | refine ZS rfl (by (conv=>lhs;whnf);try rfl) (by (conv=>lhs;whnf);try rfl) (by rfl) ?_ | refine Zl rfl rfl ?_ | refine Zm rfl rfl rfl (by (conv=>lhs;whnf);try rfl) (by (conv=>lhs;whnf);try rfl) (by rfl) (by rfl) (Nat.le_of_ble_eq_true rfl) (by (conv=>lhs;whnf);try rfl) ?_ | refine Zn rfl rfl ?_ | refine Za rfl rfl rfl (by rfl) (by decide) (by (conv=>lhs;whnf);try rfl) ?_ | refine Zf rfl rfl rfl ?_ | refine ZP rfl rfl ?_ | refine ZC rfl rfl (by (conv=>lhs;whnf);try rfl) ?_ | refine g_field rfl rfl rfl ?_ | refine Zo ?_ | refine Zp (by kernel_rfl) ?_ | refine Zr ?_ | refine Zb ?_ | refine Zh ?_ | refine Zj ?_ | refine Zs ?_ | refine Zk ?_ | refine Zq ?_ | refine Zt ?_ | refine ZD ?_ | refine Zg ?_ | refine Zu ?_ | refine ZE ?_)
     exact ZcJ a0 2 rfl (ZaZ (νc 6 6) [_] (ZpV (νc 6 6)) ZgX rfl ⟨rfl,rfl,trivial⟩ (x:=[(300,νb 300,.box e.cells)]) (x':=[(300,νb 300,.box e.cells)]) rfl rfl rfl (ZF rfl (Zaj _)) rfl)
    ·rw [if_neg h3] at ha0
     injection ha0 with ha0
     subst ha0
     rw [decide_eq_false h3]
     repeat (first | (refine Zx rfl rfl ?_) | refine ZB rfl (by (conv=>lhs;whnf);try rfl) ?_ | refine Zy rfl rfl rfl ?_ | refine Zc rfl rfl ?_ | refine Zi rfl (by (conv=>lhs;whnf);try rfl) ?_ | refine ZL rfl rfl (by omega) ?_ | refine ZK rfl rfl rfl (by omega) (by omega) ?_ | refine ZI rfl rfl rfl (by omega) ?_ | refine ZJ rfl rfl rfl (by omega) (by omega) ?_ | refine ZM rfl rfl rfl rfl (by (conv=>lhs;whnf);try rfl) ?_ | refine ZO rfl rfl rfl rfl (by (conv=>lhs;whnf);try rfl) ?_ | refine ZQ rfl rfl ?_ | refine Zd rfl rfl ?_ | refine ZA rfl rfl ?_ | refine Zz rfl rfl rfl rfl ?_ | refine ZR rfl rfl rfl (by decide) ?_ | refine ZV rfl rfl rfl (by first | decide | omega) ?_ | refine ZT rfl rfl ?_ | refine Zv Tryz.underlying9 rfl rfl ?_ | refine ZS rfl (by (conv=>lhs;whnf);try rfl) (by (conv=>lhs;whnf);try rfl) (by rfl) ?_ | refine Zl rfl rfl ?_ | refine Zm rfl rfl rfl (by (conv=>lhs;whnf);try rfl) (by (conv=>lhs;whnf);try rfl) (by rfl) (by rfl) (Nat.le_of_ble_eq_true rfl) (by (conv=>lhs;whnf);try rfl) ?_ | refine Zn rfl rfl ?_ | refine Za rfl rfl rfl (by rfl) (by decide) (by (conv=>lhs;whnf);try rfl) ?_ | refine Zf rfl rfl rfl ?_ | refine ZP rfl rfl ?_ | refine ZC rfl rfl (by (conv=>lhs;whnf);try rfl) ?_ | refine g_field rfl rfl rfl ?_ | refine Zo ?_ | refine Zp (by kernel_rfl) ?_ | refine Zr ?_ | refine Zb ?_ | refine Zh ?_ | refine Zj ?_ | refine Zs ?_ | refine Zk ?_ | refine Zq ?_ | refine Zt ?_ | refine ZD ?_ | refine Zg ?_ | refine Zu ?_ | refine ZE ?_)
     exact ZcJ e2 2 rfl (ZaZ (νb) [_] (ZpV (νb)) ZgX rfl ⟨rfl,rfl,trivial⟩ (x:=[(300,νb 300,.box e.cells)]) (x':=[(300,νb 300,.box e.cells)]) rfl rfl rfl (ZF rfl (Zaj _)) rfl)
 ·subst hJ
  repeat (first | (refine ZX [_] νb (ZfF e.list _ b0 r hfa hb0) rfl rfl rfl rfl rfl rfl ?_) | refine ZB rfl (by (conv=>lhs;whnf);try rfl) ?_ | refine Zy rfl rfl rfl ?_ | refine Zc rfl rfl ?_ | refine Zi rfl (by (conv=>lhs;whnf);try rfl) ?_ | refine ZL rfl rfl (by omega) ?_ | refine ZK rfl rfl rfl (by omega) (by omega) ?_ | refine ZI rfl rfl rfl (by omega) ?_ | refine ZJ rfl rfl rfl (by omega) (by omega) ?_ | refine ZM rfl rfl rfl rfl (by (conv=>lhs;whnf);try rfl) ?_ | refine ZO rfl rfl rfl rfl (by (conv=>lhs;whnf);try rfl) ?_ | refine ZQ rfl rfl ?_ | refine Zd rfl rfl ?_ | refine ZA rfl rfl ?_ | refine Zz rfl rfl rfl rfl ?_ | refine ZR rfl rfl rfl (by decide) ?_ | refine ZV rfl rfl rfl (by first | decide | omega) ?_ | refine ZT rfl rfl ?_ | refine Zv Tryz.underlying9 rfl rfl ?_ | refine ZS rfl (by (conv=>lhs;whnf);try rfl) (by (conv=>lhs;whnf);try rfl) (by rfl) ?_ | refine Zl rfl rfl ?_ | refine Zm rfl rfl rfl (by (conv=>lhs;whnf);try rfl) (by (conv=>lhs;whnf);try rfl) (by rfl) (by rfl) (Nat.le_of_ble_eq_true rfl) (by (conv=>lhs;whnf);try rfl) ?_ | refine Zn rfl rfl ?_ | refine Za rfl rfl rfl (by rfl) (by decide) (by (conv=>lhs;whnf);try rfl) ?_ | refine Zf rfl rfl rfl ?_ | refine ZP rfl rfl ?_ | refine ZC rfl rfl (by (conv=>lhs;whnf);try rfl) ?_ | refine g_field rfl rfl rfl ?_ | refine Zo ?_ | refine Zp (by kernel_rfl) ?_ | refine Zr ?_ | refine Zb ?_ | refine Zh ?_ | refine Zj ?_ | refine Zs ?_ | refine Zk ?_ | refine Zq ?_ | refine Zt ?_ | refine ZD ?_ | refine Zg ?_ | refine Zu ?_ | refine ZE ?_)
  refine Zac (fun (a:Nat×El) _=>mkS [(0,.ptr 0 (0,0) 0),(42,.sl (e.argL.map Arg.cs)),(43,.int .i64 ((e.argL.map Arg.cs).length:Int)),(44,.int .i64 ((a.1:Nat):Int))] (somes (stP νb a.2 r)) 2) (fun a=>a.1≤e.argL.length∧fit a.2 r∧ZgW a.2 (e.argL.drop a.1)=some e3) (fun a=>e.argL.length - a.1) (0,b0) 2 ⟨Nat.zero_le _,hfb,h4⟩
   (ZaZ (νc 2 5) [_] (fun k=>(k,νc 2 5 k)) (fun _ _=>rfl) rfl ⟨rfl,rfl,rfl,rfl,trivial⟩ (x:=[]) (x':=[]) rfl rfl rfl (Zaj _) rfl) (fun a ng hJ=>?_)
  obtain ⟨q,e1⟩:=a
  obtain ⟨hq,hf1,hn⟩:=hJ
  dsimp only at hq hf1 hn ⊢
  repeat (first | refine ZB rfl (by (conv=>lhs;whnf);try rfl) ?_ | refine Zy rfl rfl rfl ?_ | refine Zc rfl rfl ?_ | refine Zi rfl (by (conv=>lhs;whnf);try rfl) ?_ | refine ZL rfl rfl (by omega) ?_ | refine ZK rfl rfl rfl (by omega) (by omega) ?_ | refine ZI rfl rfl rfl (by omega) ?_ | refine ZJ rfl rfl rfl (by omega) (by omega) ?_ | refine ZM rfl rfl rfl rfl (by (conv=>lhs;whnf);try rfl) ?_ | refine ZO rfl rfl rfl rfl (by (conv=>lhs;whnf);try rfl) ?_ | refine ZQ rfl rfl ?_ | refine Zd rfl rfl ?_ | refine ZA rfl rfl ?_ | refine Zz rfl rfl rfl rfl ?_ | refine ZR rfl rfl rfl (by decide) ?_ | refine ZV rfl rfl rfl (by first | decide | omega) ?_ | refine ZT rfl rfl ?_ | refine Zv Tryz.underlying9 rfl rfl ?_ | refine ZS rfl (by (conv=>lhs;whnf);try rfl) (by (conv=>lhs;whnf);try rfl) (by rfl) ?_ | refine Zl rfl rfl ?_ | refine Zm rfl rfl rfl (by (conv=>lhs;whnf);try rfl) (by (conv=>lhs;whnf);try rfl) (by rfl) (by rfl) (Nat.le_of_ble_eq_true rfl) (by (conv=>lhs;whnf);try rfl) ?_ | refine Zn rfl rfl ?_ | refine Za rfl rfl rfl (by rfl) (by decide) (by (conv=>lhs;whnf);try rfl) ?_ | refine Zf rfl rfl rfl ?_ | refine ZP rfl rfl ?_ | refine ZC rfl rfl (by (conv=>lhs;whnf);try rfl) ?_ | refine g_field rfl rfl rfl ?_ | refine Zo ?_ | refine Zp (by kernel_rfl) ?_ | refine Zr ?_ | refine Zb ?_ | refine Zh ?_ | refine Zj ?_ | refine Zs ?_ | refine Zk ?_ | refine Zq ?_ | refine Zt ?_ | refine ZD ?_ | refine Zg ?_ | refine Zu ?_ | refine ZE ?_)
  by_cases hlt:q<e.argL.length
  ·refine ZW (by (conv=>lhs;whnf);try rfl) (by simp;omega) ?_
   rw [List.drop_eq_getElem_cons hlt] at hn
   obtain ⟨e5,h5,hn⟩:=Option.bind_eq_some_iff.1 hn
   have hf5:=Zhe hf1 h5
   have hcs:(e.argL.map Arg.cs)[q]? = some (Arg.cs e.argL[q]):=by rw [List.getElem?_map,List.getElem?_eq_getElem hlt];rfl
   generalize e.argL[q]=ar at hcs h5
   obtain ⟨named,name,value⟩:=ar
   obtain ⟨b,hb,h5⟩:=Option.bind_eq_some_iff.1 h5
   obtain ⟨d,hd,h5⟩:=Option.bind_eq_some_iff.1 h5
   have hfb2:=Zav hf1 hb
   cases named with
   | true=>
     rw [if_pos rfl] at hd
     obtain ⟨c,hc,hd⟩:=Option.bind_eq_some_iff.1 hd
     have hfc:=Zcu hfb2 hc
     have hfd:=Zav hfc hd
     repeat (first | (refine Zda rfl rfl rfl hcs rfl ?_) | (refine ZW rfl rfl ?_) | (refine ZX [_,_] νb (ZbC e1 r _ hf1.1 hf1.2 b hb) rfl rfl rfl rfl rfl rfl ?_) | (refine ZX [_,_] (νc _ _) (ZfF name b c r hfb2 hc) rfl rfl rfl rfl rfl rfl ?_) | (refine ZX [_,_] (νc _ _) (ZbC c r _ hfc.1 hfc.2 d hd) rfl rfl rfl rfl rfl rfl ?_) | (refine ZX [_,_] (νc _ _) (ZfF value d e5 r hfd h5) rfl rfl rfl rfl rfl rfl ?_) | refine ZB rfl (by (conv=>lhs;whnf);try rfl) ?_ | refine Zy rfl rfl rfl ?_ | refine Zc rfl rfl ?_ | refine Zi rfl (by (conv=>lhs;whnf);try rfl) ?_ | refine ZL rfl rfl (by omega) ?_ | refine ZK rfl rfl rfl (by omega) (by omega) ?_ | refine ZI rfl rfl rfl (by omega) ?_ | refine ZJ rfl rfl rfl (by omega) (by omega) ?_ | refine ZM rfl rfl rfl rfl (by (conv=>lhs;whnf);try rfl) ?_ | refine ZO rfl rfl rfl rfl (by (conv=>lhs;whnf);try rfl) ?_ | refine ZQ rfl rfl ?_ | refine Zd rfl rfl ?_ | refine ZA rfl rfl ?_ | refine Zz rfl rfl rfl rfl ?_ | refine ZR rfl rfl rfl (by decide) ?_ | refine ZV rfl rfl rfl (by first | decide | omega) ?_ | refine ZT rfl rfl ?_ | refine Zv Tryz.underlying9 rfl rfl ?_ | refine ZS rfl (by (conv=>lhs;whnf);try rfl) (by (conv=>lhs;whnf);try rfl) (by rfl) ?_ | refine Zl rfl rfl ?_ | refine Zm rfl rfl rfl (by (conv=>lhs;whnf);try rfl) (by (conv=>lhs;whnf);try rfl) (by rfl) (by rfl) (Nat.le_of_ble_eq_true rfl) (by (conv=>lhs;whnf);try rfl) ?_ | refine Zn rfl rfl ?_ | refine Za rfl rfl rfl (by rfl) (by decide) (by (conv=>lhs;whnf);try rfl) ?_ | refine Zf rfl rfl rfl ?_ | refine ZP rfl rfl ?_ | refine ZC rfl rfl (by (conv=>lhs;whnf);try rfl) ?_ | refine g_field rfl rfl rfl ?_ | refine Zo ?_ | refine Zp (by kernel_rfl) ?_ | refine Zr ?_ | refine Zb ?_ | refine Zh ?_ | refine Zj ?_ | refine Zs ?_ | refine Zk ?_ | refine Zq ?_ | refine Zt ?_ | refine ZD ?_ | refine Zg ?_ | refine Zu ?_ | refine ZE ?_)
     exact Zat (q+1,e5) 2 ⟨by omega,hf5,hn⟩ (by dsimp only;omega) (ZaZ (νc 8 3) [_,_] (fun k=>(k,νc 8 3 k)) (fun _ _=>rfl) rfl ⟨rfl,rfl,rfl,rfl,trivial⟩ (x:=[]) (x':=[]) rfl rfl rfl (Zaj _) rfl)
   | false=>
     rw [if_neg Bool.false_ne_true] at hd
     injection hd with hd
     subst hd
     repeat (first | (refine Zda rfl rfl rfl hcs rfl ?_) | (refine Zx rfl rfl ?_) | (refine ZX [_,_] νb (ZbC e1 r _ hf1.1 hf1.2 b hb) rfl rfl rfl rfl rfl rfl ?_) | (refine ZX [_,_] (νc _ _) (ZfF value b e5 r hfb2 h5) rfl rfl rfl rfl rfl rfl ?_) | refine ZB rfl (by (conv=>lhs;whnf);try rfl) ?_ | refine Zy rfl rfl rfl ?_ | refine Zc rfl rfl ?_ | refine Zi rfl (by (conv=>lhs;whnf);try rfl) ?_ | refine ZL rfl rfl (by omega) ?_ | refine ZK rfl rfl rfl (by omega) (by omega) ?_ | refine ZI rfl rfl rfl (by omega) ?_ | refine ZJ rfl rfl rfl (by omega) (by omega) ?_ | refine ZM rfl rfl rfl rfl (by (conv=>lhs;whnf);try rfl) ?_ | refine ZO rfl rfl rfl rfl (by (conv=>lhs;whnf);try rfl) ?_ | refine ZQ rfl rfl ?_ | refine Zd rfl rfl ?_ | refine ZA rfl rfl ?_ | refine Zz rfl rfl rfl rfl ?_ | refine ZR rfl rfl rfl (by decide) ?_ | refine ZV rfl rfl rfl (by first | decide | omega) ?_ | refine ZT rfl rfl ?_ | refine Zv Tryz.underlying9 rfl rfl ?_ | refine ZS rfl (by (conv=>lhs;whnf);try rfl) (by (conv=>lhs;whnf);try rfl) (by rfl) ?_ | refine Zl rfl rfl ?_ | refine Zm rfl rfl rfl (by (conv=>lhs;whnf);try rfl) (by (conv=>lhs;whnf);try rfl) (by rfl) (by rfl) (Nat.le_of_ble_eq_true rfl) (by (conv=>lhs;whnf);try rfl) ?_ | refine Zn rfl rfl ?_ | refine Za rfl rfl rfl (by rfl) (by decide) (by (conv=>lhs;whnf);try rfl) ?_ | refine Zf rfl rfl rfl ?_ | refine ZP rfl rfl ?_ | refine ZC rfl rfl (by (conv=>lhs;whnf);try rfl) ?_ | refine g_field rfl rfl rfl ?_ | refine Zo ?_ | refine Zp (by kernel_rfl) ?_ | refine Zr ?_ | refine Zb ?_ | refine Zh ?_ | refine Zj ?_ | refine Zs ?_ | refine Zk ?_ | refine Zq ?_ | refine Zt ?_ | refine ZD ?_ | refine Zg ?_ | refine Zu ?_ | refine ZE ?_)
     exact Zat (q+1,e5) 2 ⟨by omega,hf5,hn⟩ (by dsimp only;omega) (ZaZ (νc 6 3) [_,_] (fun k=>(k,νc 6 3 k)) (fun _ _=>rfl) rfl ⟨rfl,rfl,rfl,rfl,trivial⟩ (x:=[]) (x':=[]) rfl rfl rfl (Zaj _) rfl)
  ·refine Zx (by (conv=>lhs;whnf);try rfl) (by simp;omega) ?_
   repeat (first | refine ZB rfl (by (conv=>lhs;whnf);try rfl) ?_ | refine Zy rfl rfl rfl ?_ | refine Zc rfl rfl ?_ | refine Zi rfl (by (conv=>lhs;whnf);try rfl) ?_ | refine ZL rfl rfl (by omega) ?_ | refine ZK rfl rfl rfl (by omega) (by omega) ?_ | refine ZI rfl rfl rfl (by omega) ?_ | refine ZJ rfl rfl rfl (by omega) (by omega) ?_ | refine ZM rfl rfl rfl rfl (by (conv=>lhs;whnf);try rfl) ?_ | refine ZO rfl rfl rfl rfl (by (conv=>lhs;whnf);try rfl) ?_ | refine ZQ rfl rfl ?_ | refine Zd rfl rfl ?_ | refine ZA rfl rfl ?_ | refine Zz rfl rfl rfl rfl ?_ | refine ZR rfl rfl rfl (by decide) ?_ | refine ZV rfl rfl rfl (by first | decide | omega) ?_ | refine ZT rfl rfl ?_ | refine Zv Tryz.underlying9 rfl rfl ?_ | refine ZS rfl (by (conv=>lhs;whnf);try rfl) (by (conv=>lhs;whnf);try rfl) (by rfl) ?_ | refine Zl rfl rfl ?_ | refine Zm rfl rfl rfl (by (conv=>lhs;whnf);try rfl) (by (conv=>lhs;whnf);try rfl) (by rfl) (by rfl) (Nat.le_of_ble_eq_true rfl) (by (conv=>lhs;whnf);try rfl) ?_ | refine Zn rfl rfl ?_ | refine Za rfl rfl rfl (by rfl) (by decide) (by (conv=>lhs;whnf);try rfl) ?_ | refine Zf rfl rfl rfl ?_ | refine ZP rfl rfl ?_ | refine ZC rfl rfl (by (conv=>lhs;whnf);try rfl) ?_ | refine g_field rfl rfl rfl ?_ | refine Zo ?_ | refine Zp (by kernel_rfl) ?_ | refine Zr ?_ | refine Zb ?_ | refine Zh ?_ | refine Zj ?_ | refine Zs ?_ | refine Zk ?_ | refine Zq ?_ | refine Zt ?_ | refine ZD ?_ | refine Zg ?_ | refine Zu ?_ | refine ZE ?_)
   obtain rfl:q=e.argL.length:=by omega
   rw [List.drop_length] at hn
   injection hn with hn
   subst hn
   exact Zbj (.inr rfl) νb [] [] rfl rfl trivial rfl rfl
end Go.Proofs.YtmgfammllddkhaaGreatDoor
namespace Go.Proofs.YtmgfammllddkhaaGreatDoor
namespace VL
section
variable {P:Program} [WInv P] {ops:Array Oper} {draw:Bool} {i:Nat} {L:List Oper} {acc:List (List Nat×List Nat)} {K:FS→Prop} {tm:List (Nat×PV)} {ob:List (Nat×Option (Gen×VObj))} {ng:Nat}
 {d:Option Tmp} {ty:TypeId} {pos:String} {after:Array Edge} {gd:Option (Nat×Bool)}
theorem ZiP {x:Operand} {T:TypeId} {agg:Bool} {n:Nat} [h:Ld P T agg n] (hw:Zw ops (mkS tm ob ng) ⟨d,.load T x,ty,pos,after,gd⟩=some true) {cs:List PV} {t off:Nat} {g:Gen} {v:PV} (hx:evL tm x = .ptr t g off) (hb:ZG ob t=some (g,.box cs)) (hv:Zjz agg n (cs.drop off)=some v)
  (k:GoL P ops draw (i+1) L (acc ++ [(ZZ (mkS tm ob ng) ⟨d,.load T x,ty,pos,after,gd⟩,[])]) (mkS (Za6 d v tm) ob ng) K):GoL P ops draw i (⟨d,.load T x,ty,pos,after,gd⟩::L) acc (mkS tm ob ng) K:=by
 refine Zy (cs:=cs.drop off) hw ?_ hv k
 rw [hx]
 simp only [Zd5,Zan,hb,if_true]
end
theorem ZoB {ν:Nat→Gen} {NT AT:Nat} {e':El} {r':List El}:∀ {r:List El},(e'::r') <:+ r→(Zc5 ν r)[r'.length]? = some [.ptr (Zbc r') (ν (Zbc r')) 0]∧(Zbc r',ν (Zbc r'),VObj.box [.int .i64 e'.kind,.int .i64 e'.tag,.int .i64 e'.count,.row (Zbc r'+1) (ν (Zbc r'+1)),.row (Zbc r'+2) (ν (Zbc r'+2))]) ∈ Zeu NT AT ν r
 | [],h=>by cases List.suffix_nil.1 h
 | x::r,h=>by
   rcases List.suffix_cons_iff.1 h with h | h
   ·injection h with h1 h2
    subst h1 h2
    exact ⟨by unfold Zc5;have:=Zkh ν r' [.ptr (Zbc r') (ν (Zbc r')) 0];exact this,List.mem_append_left _ (List.mem_cons_self ..)⟩
   ·obtain ⟨h1,h2⟩:=ZoB (NT:=NT) (AT:=AT) h
    refine ⟨?_,List.mem_append_right _ h2⟩
    unfold Zc5
    rw [List.getElem?_append_left (List.getElem?_eq_some_iff.1 h1).1]
    exact h1
theorem ZoC {ν:Nat→Gen} {NT AT ET:Nat} {e e':El} {r r':List El} (h:(e'::r') <:+ (e::r)):∃ b c1 c2,(Zc5 ν r ++ [[.ptr 1001 (ν 1001) 0]])[r'.length]? = some [.ptr b (ν b) 0]∧(b,ν b,VObj.box [.int .i64 e'.kind,.int .i64 e'.tag,.int .i64 e'.count,c1,c2]) ∈ stO NT AT ET ν e r:=by
 rcases List.suffix_cons_iff.1 h with h | h
 ·injection h with h1 h2
  subst h1 h2
  exact ⟨1001,_,_,Zkh ν r' _,List.mem_cons_of_mem _ (List.mem_cons_of_mem _ (List.mem_append_left _ (List.mem_cons_self ..)))⟩
 ·obtain ⟨h1,h2⟩:=ZoB (NT:=NT) (AT:=AT) (ν:=ν) h
  refine ⟨_,_,_,?_,List.mem_cons_of_mem _ (List.mem_cons_of_mem _ (List.mem_append_right _ h2))⟩
  rw [List.getElem?_append_left (List.getElem?_eq_some_iff.1 h1).1]
  exact h1
end VL
open VL
def Za3:El→List El→Nat
 | _,[]=>0
 | e,e2::r=>if e.kind=2 then 0 else if e.kind=3 then r.length+1 else Za3 e2 r
def Zbk (k:Int):El→List El→Nat
 | _,[]=>0
 | e,e2::r=>if e.kind=2∧e.tag=k then r.length+1 else Zbk k e2 r
theorem Zfc {e:El} {r:List El} {tm tm':List (Nat×PV)} {ng:Nat} (h1:ZeE (σf fun k=>(k,νa k)) tm tm'):Shift (mkS tm (somes (stP νa e r)) ng) (mkS tm' (somes (stP νa e r)) 2):=
 Zek _ h1 (ZiC (ν:=νa) (ν':=νa) (fun _ _=>rfl) e r) (Za8 (lits:=[]) rfl) (ZaR _ _ _)
set_option maxRecDepth 100000 in
set_option maxHeartbeats 1000000 in
theorem Zkf (e:El) (r:List El) (hr:r.length≤1000):ContractG Tryz.prog 171 [.ptr 0 (0,0) 0] (objs (stP νa e r)) (.int .i64 (Za3 e r:Int)) (stP νa e r):=by
 refine Zaa mix Tryz.func171 (by kernel_rfl) rfl (by kernel_rfl) ?_
 rw [ZbL]
 repeat (first | (refine Za4 rfl rfl (ZbI _ _ _) ?_) | (refine ZI rfl rfl rfl (by omega) ?_) | refine ZB rfl (by (conv=>lhs;whnf);try rfl) ?_ | refine Zy rfl rfl rfl ?_ | refine Zc rfl rfl ?_ | refine Zi rfl (by (conv=>lhs;whnf);try rfl) ?_ | refine ZL rfl rfl (by omega) ?_ | refine ZK rfl rfl rfl (by omega) (by omega) ?_ | refine ZI rfl rfl rfl (by omega) ?_ | refine ZJ rfl rfl rfl (by omega) (by omega) ?_ | refine ZM rfl rfl rfl rfl (by (conv=>lhs;whnf);try rfl) ?_ | refine ZO rfl rfl rfl rfl (by (conv=>lhs;whnf);try rfl) ?_ | refine ZQ rfl rfl ?_ | refine Zd rfl rfl ?_ | refine ZA rfl rfl ?_ | refine Zz rfl rfl rfl rfl ?_ | refine ZR rfl rfl rfl (by decide) ?_ | refine ZV rfl rfl rfl (by first | decide | omega) ?_ | refine ZT rfl rfl ?_ | refine Zv Tryz.underlying9 rfl rfl ?_ | refine ZS rfl (by (conv=>lhs;whnf);try rfl) (by (conv=>lhs;whnf);try rfl) (by rfl) ?_ | refine Zl rfl rfl ?_ | refine Zm rfl rfl rfl (by (conv=>lhs;whnf);try rfl) (by (conv=>lhs;whnf);try rfl) (by rfl) (by rfl) (Nat.le_of_ble_eq_true rfl) (by (conv=>lhs;whnf);try rfl) ?_ | refine Zn rfl rfl ?_ | refine Za rfl rfl rfl (by rfl) (by decide) (by (conv=>lhs;whnf);try rfl) ?_ | refine Zf rfl rfl rfl ?_ | refine ZP rfl rfl ?_ | refine ZC rfl rfl (by (conv=>lhs;whnf);try rfl) ?_ | refine g_field rfl rfl rfl ?_ | refine Zo ?_ | refine Zp (by kernel_rfl) ?_ | refine Zr ?_ | refine Zb ?_ | refine Zh ?_ | refine Zj ?_ | refine Zs ?_ | refine Zk ?_ | refine Zq ?_ | refine Zt ?_ | refine ZD ?_ | refine Zg ?_ | refine Zu ?_ | refine ZE ?_)
 refine Zac (fun (a:El×List El) _=>mkS [(0,.ptr 0 (0,0) 0),(3,.int .i64 (a.2.length:Int))] (somes (stP νa e r)) 2) (fun a=>(a.1::a.2) <:+ (e::r)∧Za3 a.1 a.2=Za3 e r) (fun a=>a.2.length) (e,r) 2 ⟨List.suffix_refl _,rfl⟩ (Zfc ⟨rfl,rfl,trivial⟩) (fun a ng hJ=>?_)
 obtain ⟨e1,r1⟩:=a
 obtain ⟨hsuf,hlb⟩:=hJ
 dsimp only at hsuf hlb ⊢
 have hlt:r1.length<r.length+1:=by have:=hsuf.length_le;simp at this;omega
 obtain ⟨b,c1,c2,hp,hm⟩:=ZoC (ν:=νa) (NT:=78) (AT:=111) (ET:=98) hsuf
 have hb:=Za8 (lits:=[]) rfl _ _ _ hm
 rcases r1 with _ | ⟨e2,r2⟩
 ·repeat (first | (refine Zao rfl ?_) | (refine Zx rfl rfl ?_) | refine ZB rfl (by (conv=>lhs;whnf);try rfl) ?_ | refine Zy rfl rfl rfl ?_ | refine Zc rfl rfl ?_ | refine Zi rfl (by (conv=>lhs;whnf);try rfl) ?_ | refine ZL rfl rfl (by omega) ?_ | refine ZK rfl rfl rfl (by omega) (by omega) ?_ | refine ZI rfl rfl rfl (by omega) ?_ | refine ZJ rfl rfl rfl (by omega) (by omega) ?_ | refine ZM rfl rfl rfl rfl (by (conv=>lhs;whnf);try rfl) ?_ | refine ZO rfl rfl rfl rfl (by (conv=>lhs;whnf);try rfl) ?_ | refine ZQ rfl rfl ?_ | refine Zd rfl rfl ?_ | refine ZA rfl rfl ?_ | refine Zz rfl rfl rfl rfl ?_ | refine ZR rfl rfl rfl (by decide) ?_ | refine ZV rfl rfl rfl (by first | decide | omega) ?_ | refine ZT rfl rfl ?_ | refine Zv Tryz.underlying9 rfl rfl ?_ | refine ZS rfl (by (conv=>lhs;whnf);try rfl) (by (conv=>lhs;whnf);try rfl) (by rfl) ?_ | refine Zl rfl rfl ?_ | refine Zm rfl rfl rfl (by (conv=>lhs;whnf);try rfl) (by (conv=>lhs;whnf);try rfl) (by rfl) (by rfl) (Nat.le_of_ble_eq_true rfl) (by (conv=>lhs;whnf);try rfl) ?_ | refine Zn rfl rfl ?_ | refine Za rfl rfl rfl (by rfl) (by decide) (by (conv=>lhs;whnf);try rfl) ?_ | refine Zf rfl rfl rfl ?_ | refine ZP rfl rfl ?_ | refine ZC rfl rfl (by (conv=>lhs;whnf);try rfl) ?_ | refine g_field rfl rfl rfl ?_ | refine Zo ?_ | refine Zp (by kernel_rfl) ?_ | refine Zr ?_ | refine Zb ?_ | refine Zh ?_ | refine Zj ?_ | refine Zs ?_ | refine Zk ?_ | refine Zq ?_ | refine Zt ?_ | refine ZD ?_ | refine Zg ?_ | refine Zu ?_ | refine ZE ?_)
  rw [← hlb]
  exact ZfW (Shift.refl _) rfl rfl (Za8 (lits:=[]) rfl)
 ·have h0:decide ((0:Int)<(((e2::r2).length:Nat):Int))=true:=decide_eq_true (by simp)
  repeat (first | refine ZB rfl (by (conv=>lhs;whnf);try rfl) ?_ | refine Zy rfl rfl rfl ?_ | refine Zc rfl rfl ?_ | refine Zi rfl (by (conv=>lhs;whnf);try rfl) ?_ | refine ZL rfl rfl (by omega) ?_ | refine ZK rfl rfl rfl (by omega) (by omega) ?_ | refine ZI rfl rfl rfl (by omega) ?_ | refine ZJ rfl rfl rfl (by omega) (by omega) ?_ | refine ZM rfl rfl rfl rfl (by (conv=>lhs;whnf);try rfl) ?_ | refine ZO rfl rfl rfl rfl (by (conv=>lhs;whnf);try rfl) ?_ | refine ZQ rfl rfl ?_ | refine Zd rfl rfl ?_ | refine ZA rfl rfl ?_ | refine Zz rfl rfl rfl rfl ?_ | refine ZR rfl rfl rfl (by decide) ?_ | refine ZV rfl rfl rfl (by first | decide | omega) ?_ | refine ZT rfl rfl ?_ | refine Zv Tryz.underlying9 rfl rfl ?_ | refine ZS rfl (by (conv=>lhs;whnf);try rfl) (by (conv=>lhs;whnf);try rfl) (by rfl) ?_ | refine Zl rfl rfl ?_ | refine Zm rfl rfl rfl (by (conv=>lhs;whnf);try rfl) (by (conv=>lhs;whnf);try rfl) (by rfl) (by rfl) (Nat.le_of_ble_eq_true rfl) (by (conv=>lhs;whnf);try rfl) ?_ | refine Zn rfl rfl ?_ | refine Za rfl rfl rfl (by rfl) (by decide) (by (conv=>lhs;whnf);try rfl) ?_ | refine Zf rfl rfl rfl ?_ | refine ZP rfl rfl ?_ | refine ZC rfl rfl (by (conv=>lhs;whnf);try rfl) ?_ | refine g_field rfl rfl rfl ?_ | refine Zo ?_ | refine Zp (by kernel_rfl) ?_ | refine Zr ?_ | refine Zb ?_ | refine Zh ?_ | refine Zj ?_ | refine Zs ?_ | refine Zk ?_ | refine Zq ?_ | refine Zt ?_ | refine ZD ?_ | refine Zg ?_ | refine Zu ?_ | refine ZE ?_)
  rw [h0]
  repeat (first | (refine ZdE rfl rfl rfl rfl (by rw [ZbI];exact hlt) ?_) | (refine Zcl rfl rfl rfl hp rfl ?_) | (refine ZiP rfl rfl hb rfl ?_) | refine ZB rfl (by (conv=>lhs;whnf);try rfl) ?_ | refine Zy rfl rfl rfl ?_ | refine Zc rfl rfl ?_ | refine Zi rfl (by (conv=>lhs;whnf);try rfl) ?_ | refine ZL rfl rfl (by omega) ?_ | refine ZK rfl rfl rfl (by omega) (by omega) ?_ | refine ZI rfl rfl rfl (by omega) ?_ | refine ZJ rfl rfl rfl (by omega) (by omega) ?_ | refine ZM rfl rfl rfl rfl (by (conv=>lhs;whnf);try rfl) ?_ | refine ZO rfl rfl rfl rfl (by (conv=>lhs;whnf);try rfl) ?_ | refine ZQ rfl rfl ?_ | refine Zd rfl rfl ?_ | refine ZA rfl rfl ?_ | refine Zz rfl rfl rfl rfl ?_ | refine ZR rfl rfl rfl (by decide) ?_ | refine ZV rfl rfl rfl (by first | decide | omega) ?_ | refine ZT rfl rfl ?_ | refine Zv Tryz.underlying9 rfl rfl ?_ | refine ZS rfl (by (conv=>lhs;whnf);try rfl) (by (conv=>lhs;whnf);try rfl) (by rfl) ?_ | refine Zl rfl rfl ?_ | refine Zm rfl rfl rfl (by (conv=>lhs;whnf);try rfl) (by (conv=>lhs;whnf);try rfl) (by rfl) (by rfl) (Nat.le_of_ble_eq_true rfl) (by (conv=>lhs;whnf);try rfl) ?_ | refine Zn rfl rfl ?_ | refine Za rfl rfl rfl (by rfl) (by decide) (by (conv=>lhs;whnf);try rfl) ?_ | refine Zf rfl rfl rfl ?_ | refine ZP rfl rfl ?_ | refine ZC rfl rfl (by (conv=>lhs;whnf);try rfl) ?_ | refine g_field rfl rfl rfl ?_ | refine Zo ?_ | refine Zp (by kernel_rfl) ?_ | refine Zr ?_ | refine Zb ?_ | refine Zh ?_ | refine Zj ?_ | refine Zs ?_ | refine Zk ?_ | refine Zq ?_ | refine Zt ?_ | refine ZD ?_ | refine Zg ?_ | refine Zu ?_ | refine ZE ?_)
  by_cases h2:e1.kind=2
  ·rw [decide_eq_true h2]
   repeat (first | (refine Zx rfl rfl ?_) | refine ZB rfl (by (conv=>lhs;whnf);try rfl) ?_ | refine Zy rfl rfl rfl ?_ | refine Zc rfl rfl ?_ | refine Zi rfl (by (conv=>lhs;whnf);try rfl) ?_ | refine ZL rfl rfl (by omega) ?_ | refine ZK rfl rfl rfl (by omega) (by omega) ?_ | refine ZI rfl rfl rfl (by omega) ?_ | refine ZJ rfl rfl rfl (by omega) (by omega) ?_ | refine ZM rfl rfl rfl rfl (by (conv=>lhs;whnf);try rfl) ?_ | refine ZO rfl rfl rfl rfl (by (conv=>lhs;whnf);try rfl) ?_ | refine ZQ rfl rfl ?_ | refine Zd rfl rfl ?_ | refine ZA rfl rfl ?_ | refine Zz rfl rfl rfl rfl ?_ | refine ZR rfl rfl rfl (by decide) ?_ | refine ZV rfl rfl rfl (by first | decide | omega) ?_ | refine ZT rfl rfl ?_ | refine Zv Tryz.underlying9 rfl rfl ?_ | refine ZS rfl (by (conv=>lhs;whnf);try rfl) (by (conv=>lhs;whnf);try rfl) (by rfl) ?_ | refine Zl rfl rfl ?_ | refine Zm rfl rfl rfl (by (conv=>lhs;whnf);try rfl) (by (conv=>lhs;whnf);try rfl) (by rfl) (by rfl) (Nat.le_of_ble_eq_true rfl) (by (conv=>lhs;whnf);try rfl) ?_ | refine Zn rfl rfl ?_ | refine Za rfl rfl rfl (by rfl) (by decide) (by (conv=>lhs;whnf);try rfl) ?_ | refine Zf rfl rfl rfl ?_ | refine ZP rfl rfl ?_ | refine ZC rfl rfl (by (conv=>lhs;whnf);try rfl) ?_ | refine g_field rfl rfl rfl ?_ | refine Zo ?_ | refine Zp (by kernel_rfl) ?_ | refine Zr ?_ | refine Zb ?_ | refine Zh ?_ | refine Zj ?_ | refine Zs ?_ | refine Zk ?_ | refine Zq ?_ | refine Zt ?_ | refine ZD ?_ | refine Zg ?_ | refine Zu ?_ | refine ZE ?_)
   rw [show Za3 e r=0 by rw [← hlb];simp only [Za3,if_pos h2]]
   exact ZfW (Shift.refl _) rfl rfl (Za8 (lits:=[]) rfl)
  ·rw [decide_eq_false h2]
   repeat (first | (refine ZW rfl rfl ?_) | (refine ZdE rfl rfl rfl rfl (by rw [ZbI];exact hlt) ?_) | (refine Zcl rfl rfl rfl hp rfl ?_) | (refine ZiP rfl rfl hb rfl ?_) | refine ZB rfl (by (conv=>lhs;whnf);try rfl) ?_ | refine Zy rfl rfl rfl ?_ | refine Zc rfl rfl ?_ | refine Zi rfl (by (conv=>lhs;whnf);try rfl) ?_ | refine ZL rfl rfl (by omega) ?_ | refine ZK rfl rfl rfl (by omega) (by omega) ?_ | refine ZI rfl rfl rfl (by omega) ?_ | refine ZJ rfl rfl rfl (by omega) (by omega) ?_ | refine ZM rfl rfl rfl rfl (by (conv=>lhs;whnf);try rfl) ?_ | refine ZO rfl rfl rfl rfl (by (conv=>lhs;whnf);try rfl) ?_ | refine ZQ rfl rfl ?_ | refine Zd rfl rfl ?_ | refine ZA rfl rfl ?_ | refine Zz rfl rfl rfl rfl ?_ | refine ZR rfl rfl rfl (by decide) ?_ | refine ZV rfl rfl rfl (by first | decide | omega) ?_ | refine ZT rfl rfl ?_ | refine Zv Tryz.underlying9 rfl rfl ?_ | refine ZS rfl (by (conv=>lhs;whnf);try rfl) (by (conv=>lhs;whnf);try rfl) (by rfl) ?_ | refine Zl rfl rfl ?_ | refine Zm rfl rfl rfl (by (conv=>lhs;whnf);try rfl) (by (conv=>lhs;whnf);try rfl) (by rfl) (by rfl) (Nat.le_of_ble_eq_true rfl) (by (conv=>lhs;whnf);try rfl) ?_ | refine Zn rfl rfl ?_ | refine Za rfl rfl rfl (by rfl) (by decide) (by (conv=>lhs;whnf);try rfl) ?_ | refine Zf rfl rfl rfl ?_ | refine ZP rfl rfl ?_ | refine ZC rfl rfl (by (conv=>lhs;whnf);try rfl) ?_ | refine g_field rfl rfl rfl ?_ | refine Zo ?_ | refine Zp (by kernel_rfl) ?_ | refine Zr ?_ | refine Zb ?_ | refine Zh ?_ | refine Zj ?_ | refine Zs ?_ | refine Zk ?_ | refine Zq ?_ | refine Zt ?_ | refine ZD ?_ | refine Zg ?_ | refine Zu ?_ | refine ZE ?_)
   by_cases h3:e1.kind=3
   ·rw [decide_eq_true h3]
    repeat (first | (refine ZW rfl rfl ?_) | refine ZB rfl (by (conv=>lhs;whnf);try rfl) ?_ | refine Zy rfl rfl rfl ?_ | refine Zc rfl rfl ?_ | refine Zi rfl (by (conv=>lhs;whnf);try rfl) ?_ | refine ZL rfl rfl (by omega) ?_ | refine ZK rfl rfl rfl (by omega) (by omega) ?_ | refine ZI rfl rfl rfl (by omega) ?_ | refine ZJ rfl rfl rfl (by omega) (by omega) ?_ | refine ZM rfl rfl rfl rfl (by (conv=>lhs;whnf);try rfl) ?_ | refine ZO rfl rfl rfl rfl (by (conv=>lhs;whnf);try rfl) ?_ | refine ZQ rfl rfl ?_ | refine Zd rfl rfl ?_ | refine ZA rfl rfl ?_ | refine Zz rfl rfl rfl rfl ?_ | refine ZR rfl rfl rfl (by decide) ?_ | refine ZV rfl rfl rfl (by first | decide | omega) ?_ | refine ZT rfl rfl ?_ | refine Zv Tryz.underlying9 rfl rfl ?_ | refine ZS rfl (by (conv=>lhs;whnf);try rfl) (by (conv=>lhs;whnf);try rfl) (by rfl) ?_ | refine Zl rfl rfl ?_ | refine Zm rfl rfl rfl (by (conv=>lhs;whnf);try rfl) (by (conv=>lhs;whnf);try rfl) (by rfl) (by rfl) (Nat.le_of_ble_eq_true rfl) (by (conv=>lhs;whnf);try rfl) ?_ | refine Zn rfl rfl ?_ | refine Za rfl rfl rfl (by rfl) (by decide) (by (conv=>lhs;whnf);try rfl) ?_ | refine Zf rfl rfl rfl ?_ | refine ZP rfl rfl ?_ | refine ZC rfl rfl (by (conv=>lhs;whnf);try rfl) ?_ | refine g_field rfl rfl rfl ?_ | refine Zo ?_ | refine Zp (by kernel_rfl) ?_ | refine Zr ?_ | refine Zb ?_ | refine Zh ?_ | refine Zj ?_ | refine Zs ?_ | refine Zk ?_ | refine Zq ?_ | refine Zt ?_ | refine ZD ?_ | refine Zg ?_ | refine Zu ?_ | refine ZE ?_)
    rw [show Za3 e r=r2.length+1 by rw [← hlb];simp only [Za3,if_neg h2,if_pos h3]]
    exact ZfW (Shift.refl _) rfl rfl (Za8 (lits:=[]) rfl)
   ·rw [decide_eq_false h3]
    repeat (first | (refine Zx rfl rfl ?_) | (refine ZI (a:=r2.length) rfl rfl rfl (by simp at hlt;omega) ?_) | refine ZB rfl (by (conv=>lhs;whnf);try rfl) ?_ | refine Zy rfl rfl rfl ?_ | refine Zc rfl rfl ?_ | refine Zi rfl (by (conv=>lhs;whnf);try rfl) ?_ | refine ZL rfl rfl (by omega) ?_ | refine ZK rfl rfl rfl (by omega) (by omega) ?_ | refine ZI rfl rfl rfl (by omega) ?_ | refine ZJ rfl rfl rfl (by omega) (by omega) ?_ | refine ZM rfl rfl rfl rfl (by (conv=>lhs;whnf);try rfl) ?_ | refine ZO rfl rfl rfl rfl (by (conv=>lhs;whnf);try rfl) ?_ | refine ZQ rfl rfl ?_ | refine Zd rfl rfl ?_ | refine ZA rfl rfl ?_ | refine Zz rfl rfl rfl rfl ?_ | refine ZR rfl rfl rfl (by decide) ?_ | refine ZV rfl rfl rfl (by first | decide | omega) ?_ | refine ZT rfl rfl ?_ | refine Zv Tryz.underlying9 rfl rfl ?_ | refine ZS rfl (by (conv=>lhs;whnf);try rfl) (by (conv=>lhs;whnf);try rfl) (by rfl) ?_ | refine Zl rfl rfl ?_ | refine Zm rfl rfl rfl (by (conv=>lhs;whnf);try rfl) (by (conv=>lhs;whnf);try rfl) (by rfl) (by rfl) (Nat.le_of_ble_eq_true rfl) (by (conv=>lhs;whnf);try rfl) ?_ | refine Zn rfl rfl ?_ | refine Za rfl rfl rfl (by rfl) (by decide) (by (conv=>lhs;whnf);try rfl) ?_ | refine Zf rfl rfl rfl ?_ | refine ZP rfl rfl ?_ | refine ZC rfl rfl (by (conv=>lhs;whnf);try rfl) ?_ | refine g_field rfl rfl rfl ?_ | refine Zo ?_ | refine Zp (by kernel_rfl) ?_ | refine Zr ?_ | refine Zb ?_ | refine Zh ?_ | refine Zj ?_ | refine Zs ?_ | refine Zk ?_ | refine Zq ?_ | refine Zt ?_ | refine ZD ?_ | refine Zg ?_ | refine Zu ?_ | refine ZE ?_)
    refine Zat (e2,r2) 2 ⟨(List.suffix_cons _ _).trans hsuf,?_⟩ (by dsimp only;simp) (Zfc ⟨rfl,rfl,trivial⟩)
    rw [← hlb]
    simp only [Za3,if_neg h2,if_neg h3]
end Go.Proofs.YtmgfammllddkhaaGreatDoor
namespace Go.Proofs.YtmgfammllddkhaaGreatDoor
open VL
def ok1 (x:El):Prop:=(∀ q,x.args=some q→q.1.length≤1000000)∧x.cur.length≤9223372036854775807
def fits (e:El) (r:List El):Prop:=r.length≤999∧∀ x ∈ e::r,ok1 x
theorem Zau {e:El} {r:List El} (h:fits e r):fit e r:=⟨⟨by have:=h.1;omega,(h.2 e (List.mem_cons_self ..)).1⟩,(h.2 e (List.mem_cons_self ..)).2⟩
theorem ZaM {e e2:El} {r:List El} (h:fits e (e2::r)):fits e2 r:=⟨by have:=h.1;simp at this;omega,fun x hx=>h.2 x (List.mem_cons_of_mem _ hx)⟩
theorem Zbm {e e':El} {r:List El} (h:fits e r) (h':fit e' r):fits e' r:=⟨h.1,fun x hx=>by
 rcases List.mem_cons.1 hx with rfl | hx
 ·exact ⟨h'.1.2,h'.2⟩
 ·exact h.2 x (List.mem_cons_of_mem _ hx)⟩
theorem ZgI {r:List El}:∀ {l:List Arg} {e e':El},fit e r→ZgW e l=some e'→fit e' r
 | [],e,e',hf,h=>by injection h with h;rw [← h];exact hf
 | a::l,e,e',hf,h=>by
   obtain ⟨e1,h1,h⟩:=Option.bind_eq_some_iff.1 h
   exact ZgI (Zhe hf h1) h
theorem Zc0 {e e2 e3:El} {r:List El} (hf:fits e (e2::r)) (h:ZiU e e2=some e3):fits e3 r:=by
 refine Zbm (ZaM hf) ?_
 obtain ⟨a,ha,h⟩:=Option.bind_eq_some_iff.1 h
 obtain ⟨b,hb,h⟩:=Option.bind_eq_some_iff.1 h
 split at h
 ·exact ZgI (Zcu (ZgC (Zau (ZaM hf)) ha) hb) h
 ·cases h
def ZgJ:Nat→El→List El→Option (El×List El)
 | 0,e,r=>some (e,r)
 | _+1,_,[]=>none
 | n+1,e,e2::r=>(ZiU e e2).bind fun e3=>ZgJ n e3 r
theorem Zib {P:Program} [WInv P] {f:FuncId} {args args':List PV} {obs:List (Nat×VObj)} {res:PV} {obs':List (Nat×Gen×VObj)} (hl:args.length=args'.length) (h:∀ (x:Ctx) (i:Nat) (p p':PV) (v:Value),args[i]? = some p→args'[i]? = some p'→Rep x p v→Rep x p' v)
  (hc:ContractG P f args' obs res obs'):ContractG P f args obs res obs':=by
 refine ⟨hc.isGo,fun x vs hp hI=>hc.calls x vs ⟨hl.symm.trans hp.size,fun i p' v hp' hv=>?_,hp.ob,hp.gen,hp.flt⟩ hI⟩
 have hlt:i<args.length:=by rw [hl];exact (List.getElem?_eq_some_iff.1 hp').1
 exact h x i _ p' v (List.getElem?_eq_getElem hlt) hp' (hp.rep i _ v (List.getElem?_eq_getElem hlt) hv)
theorem Zqd {x:Ctx} {v:Value} (h:Rep x .nil v):Rep x (.sl []) v:=by
 cases h
 exact .sl [] none 0 0 0 0 0 (fun _ _=>undef) rfl (Nat.le_refl _) (by omega) (by simp) (by omega) (fun i j e p he=>by simp at he) (fun i j e p he=>by simp at he)
theorem Zpq {x:Ctx} {v:Value} {cs cs':List PV} (hl:cs.length=cs'.length) (h:∀ (j:Nat) (q q':PV),cs[j]? = some q→cs'[j]? = some q'→q=q'∨(q = .nil∧q' = .sl [])) (hr:Rep x (.agg cs) v):Rep x (.agg cs') v:=by
 cases hr with
 | agg _ vs hl2 hh=>
   refine .agg cs' vs (hl.symm.trans hl2) fun i p' w hp' hw=>?_
   have hlt:i<cs.length:=by rw [hl];exact (List.getElem?_eq_some_iff.1 hp').1
   have hp:=List.getElem?_eq_getElem hlt
   rcases h i _ p' hp hp' with e | ⟨e1,e2⟩
   ·rw [← e]
    exact hh i _ w hp hw
   ·rw [e2]
    have:=hh i _ w hp hw
    rw [e1] at this
    exact Zqd this
theorem ZjS {e e':El} {r:List El} {n:Node} {cs:List PV} (hl:cs.length=5) (h:∀ (j:Nat) (q q':PV),cs[j]? = some q→n.cs[j]? = some q'→q=q'∨(q = .nil∧q' = .sl [])) (hc:PC 103 [.agg n.cs] e r (.tup []) e' r):PC 103 [.agg cs] e r (.tup []) e' r:=
 Zib (args':=[.ptr 0 (0,0) 0,.agg n.cs]) rfl (fun x i p p' v hp hp' hr=>by
  match i with
  | 0=>
    injection hp with hp
    injection hp' with hp'
    rw [← hp',hp]
    exact hr
  | 1=>
    injection hp with hp
    injection hp' with hp'
    have hr':Rep x (.agg cs) v:=by rw [hp];exact hr
    rw [← hp']
    exact Zpq (hl.trans rfl) h hr'
  | i+2=>simp at hp) hc
theorem Zpr (e e':El) (r:List El) (k t:Int) (s:ByteArray) (l:List (List PV)) (hs:small e r) (h:Zjb e ⟨k,t,s,l,[]⟩=some e'):PC 103 [.agg [.int .i64 k,.int .i64 t,.str s,.sl l,.nil]] e r (.tup []) e' r:=
 ZjS (n:=⟨k,t,s,l,[]⟩) rfl (fun j q q' hq hq'=>by
  match j with
  | 0=>injection hq with hq;injection hq' with hq';exact .inl (hq.symm.trans hq')
  | 1=>injection hq with hq;injection hq' with hq';exact .inl (hq.symm.trans hq')
  | 2=>injection hq with hq;injection hq' with hq';exact .inl (hq.symm.trans hq')
  | 3=>injection hq with hq;injection hq' with hq';exact .inl (hq.symm.trans hq')
  | 4=>injection hq with hq;injection hq' with hq';exact .inr ⟨hq.symm,hq'.symm⟩
  | j+5=>simp at hq) (ZfK e r _ hs e' h)
theorem Zm0 (e e':El) (r:List El) (k t:Int) (s:ByteArray) (hs:small e r) (h:Zjb e ⟨k,t,s,[],[]⟩=some e'):PC 103 [.agg [.int .i64 k,.int .i64 t,.str s,.nil,.nil]] e r (.tup []) e' r:=
 ZjS (n:=⟨k,t,s,[],[]⟩) rfl (fun j q q' hq hq'=>by
  match j with
  | 0=>injection hq with hq;injection hq' with hq';exact .inl (hq.symm.trans hq')
  | 1=>injection hq with hq;injection hq' with hq';exact .inl (hq.symm.trans hq')
  | 2=>injection hq with hq;injection hq' with hq';exact .inl (hq.symm.trans hq')
  | 3=>injection hq with hq;injection hq' with hq';exact .inr ⟨hq.symm,hq'.symm⟩
  | 4=>injection hq with hq;injection hq' with hq';exact .inr ⟨hq.symm,hq'.symm⟩
  | j+5=>simp at hq) (ZfK e r _ hs e' h)
theorem Ziw (k:Int):∀ (e:El) (r:List El),Zbk k e r≤r.length
 | _,[]=>Nat.le_refl _
 | e,e2::r=>by
   unfold Zbk
   split
   ·simp
   ·have:=Ziw k e2 r
    simp
    omega
def ZeI (k:Int) (s:ByteArray) (e:El) (r:List El):Option (El×List El):=if Zbk k e r=0 then (Zcz e s).map fun e'=>(e',r) else (ZgJ (r.length - Zbk k e r) e r).bind fun q=>match q.2 with
 | []=>none
 | e2::r2=>(Zjb e2 ⟨6,k,⟨#[]⟩,q.1.list,[]⟩).map fun e3=>(e3,r2)
set_option maxRecDepth 100000 in
set_option maxHeartbeats 1000000 in
theorem ZlD (k:Int) (s:ByteArray) (e e3:El) (r r3:List El) (hf:fits e r) (h:ZeI k s e r=some (e3,r3)):PC 109 [.int .i64 k,.str s] e r (.tup []) e3 r3:=by
 have hr:=hf.1
 have hat:=Ziw k e r
 refine Zaa mix Tryz.func109 (by kernel_rfl) rfl (by kernel_rfl) ?_
 rw [ZbL]
 repeat (first | (refine Za4 rfl rfl (ZbI _ _ _) ?_) | (refine ZI rfl rfl rfl (by omega) ?_) | (refine Zbs (α:=Unit) (c:=.block 0 _) (fun _ _=>mkS [(0,.ptr 0 (0,0) 0),(1,.int .i64 k),(2,.str s),(6,.int .i64 (Zbk k e r:Int))] (somes (stP νa e r)) 2) (fun _=>True) ?_ (fun a _ _=>?_)) | refine ZB rfl (by (conv=>lhs;whnf);try rfl) ?_ | refine Zy rfl rfl rfl ?_ | refine Zc rfl rfl ?_ | refine Zi rfl (by (conv=>lhs;whnf);try rfl) ?_ | refine ZL rfl rfl (by omega) ?_ | refine ZK rfl rfl rfl (by omega) (by omega) ?_ | refine ZI rfl rfl rfl (by omega) ?_ | refine ZJ rfl rfl rfl (by omega) (by omega) ?_ | refine ZM rfl rfl rfl rfl (by (conv=>lhs;whnf);try rfl) ?_ | refine ZO rfl rfl rfl rfl (by (conv=>lhs;whnf);try rfl) ?_ | refine ZQ rfl rfl ?_ | refine Zd rfl rfl ?_ | refine ZA rfl rfl ?_ | refine Zz rfl rfl rfl rfl ?_ | refine ZR rfl rfl rfl (by decide) ?_ | refine ZV rfl rfl rfl (by first | decide | omega) ?_ | refine ZT rfl rfl ?_ | refine Zv Tryz.underlying9 rfl rfl ?_ | refine ZS rfl (by (conv=>lhs;whnf);try rfl) (by (conv=>lhs;whnf);try rfl) (by rfl) ?_ | refine Zl rfl rfl ?_ | refine Zm rfl rfl rfl (by (conv=>lhs;whnf);try rfl) (by (conv=>lhs;whnf);try rfl) (by rfl) (by rfl) (Nat.le_of_ble_eq_true rfl) (by (conv=>lhs;whnf);try rfl) ?_ | refine Zn rfl rfl ?_ | refine Za rfl rfl rfl (by rfl) (by decide) (by (conv=>lhs;whnf);try rfl) ?_ | refine Zf rfl rfl rfl ?_ | refine ZP rfl rfl ?_ | refine ZC rfl rfl (by (conv=>lhs;whnf);try rfl) ?_ | refine g_field rfl rfl rfl ?_ | refine Zo ?_ | refine Zp (by kernel_rfl) ?_ | refine Zr ?_ | refine Zb ?_ | refine Zh ?_ | refine Zj ?_ | refine Zs ?_ | refine Zk ?_ | refine Zq ?_ | refine Zt ?_ | refine ZD ?_ | refine Zg ?_ | refine Zu ?_ | refine ZE ?_)
 ·refine Zac (fun (a:El×List El) _=>mkS [(0,.ptr 0 (0,0) 0),(1,.int .i64 k),(2,.str s),(6,.int .i64 (a.2.length:Int))] (somes (stP νa e r)) 2) (fun a=>(a.1::a.2) <:+ (e::r)∧Zbk k a.1 a.2=Zbk k e r) (fun a=>a.2.length) (e,r) 2 ⟨List.suffix_refl _,rfl⟩ (Zfc ⟨rfl,rfl,rfl,rfl,trivial⟩) (fun a ng hJ=>?_)
  obtain ⟨e1,r1⟩:=a
  obtain ⟨hsuf,hlb⟩:=hJ
  dsimp only at hsuf hlb ⊢
  have hlt:r1.length<r.length+1:=by have:=hsuf.length_le;simp at this;omega
  obtain ⟨b,c1,c2,hp,hm⟩:=ZoC (ν:=νa) (NT:=78) (AT:=111) (ET:=98) hsuf
  have hb:=Za8 (lits:=[]) rfl _ _ _ hm
  rcases r1 with _ | ⟨e2,r2⟩
  ·repeat (first | (refine Zao rfl ?_) | (refine Zx rfl rfl ?_) | refine ZB rfl (by (conv=>lhs;whnf);try rfl) ?_ | refine Zy rfl rfl rfl ?_ | refine Zc rfl rfl ?_ | refine Zi rfl (by (conv=>lhs;whnf);try rfl) ?_ | refine ZL rfl rfl (by omega) ?_ | refine ZK rfl rfl rfl (by omega) (by omega) ?_ | refine ZI rfl rfl rfl (by omega) ?_ | refine ZJ rfl rfl rfl (by omega) (by omega) ?_ | refine ZM rfl rfl rfl rfl (by (conv=>lhs;whnf);try rfl) ?_ | refine ZO rfl rfl rfl rfl (by (conv=>lhs;whnf);try rfl) ?_ | refine ZQ rfl rfl ?_ | refine Zd rfl rfl ?_ | refine ZA rfl rfl ?_ | refine Zz rfl rfl rfl rfl ?_ | refine ZR rfl rfl rfl (by decide) ?_ | refine ZV rfl rfl rfl (by first | decide | omega) ?_ | refine ZT rfl rfl ?_ | refine Zv Tryz.underlying9 rfl rfl ?_ | refine ZS rfl (by (conv=>lhs;whnf);try rfl) (by (conv=>lhs;whnf);try rfl) (by rfl) ?_ | refine Zl rfl rfl ?_ | refine Zm rfl rfl rfl (by (conv=>lhs;whnf);try rfl) (by (conv=>lhs;whnf);try rfl) (by rfl) (by rfl) (Nat.le_of_ble_eq_true rfl) (by (conv=>lhs;whnf);try rfl) ?_ | refine Zn rfl rfl ?_ | refine Za rfl rfl rfl (by rfl) (by decide) (by (conv=>lhs;whnf);try rfl) ?_ | refine Zf rfl rfl rfl ?_ | refine ZP rfl rfl ?_ | refine ZC rfl rfl (by (conv=>lhs;whnf);try rfl) ?_ | refine g_field rfl rfl rfl ?_ | refine Zo ?_ | refine Zp (by kernel_rfl) ?_ | refine Zr ?_ | refine Zb ?_ | refine Zh ?_ | refine Zj ?_ | refine Zs ?_ | refine Zk ?_ | refine Zq ?_ | refine Zt ?_ | refine ZD ?_ | refine Zg ?_ | refine Zu ?_ | refine ZE ?_)
   rw [← hlb]
   exact ZcJ () 2 trivial (Zfc ⟨rfl,rfl,rfl,rfl,trivial⟩)
  ·have h0:decide ((0:Int)<(((e2::r2).length:Nat):Int))=true:=decide_eq_true (by simp)
   repeat (first | refine ZB rfl (by (conv=>lhs;whnf);try rfl) ?_ | refine Zy rfl rfl rfl ?_ | refine Zc rfl rfl ?_ | refine Zi rfl (by (conv=>lhs;whnf);try rfl) ?_ | refine ZL rfl rfl (by omega) ?_ | refine ZK rfl rfl rfl (by omega) (by omega) ?_ | refine ZI rfl rfl rfl (by omega) ?_ | refine ZJ rfl rfl rfl (by omega) (by omega) ?_ | refine ZM rfl rfl rfl rfl (by (conv=>lhs;whnf);try rfl) ?_ | refine ZO rfl rfl rfl rfl (by (conv=>lhs;whnf);try rfl) ?_ | refine ZQ rfl rfl ?_ | refine Zd rfl rfl ?_ | refine ZA rfl rfl ?_ | refine Zz rfl rfl rfl rfl ?_ | refine ZR rfl rfl rfl (by decide) ?_ | refine ZV rfl rfl rfl (by first | decide | omega) ?_ | refine ZT rfl rfl ?_ | refine Zv Tryz.underlying9 rfl rfl ?_ | refine ZS rfl (by (conv=>lhs;whnf);try rfl) (by (conv=>lhs;whnf);try rfl) (by rfl) ?_ | refine Zl rfl rfl ?_ | refine Zm rfl rfl rfl (by (conv=>lhs;whnf);try rfl) (by (conv=>lhs;whnf);try rfl) (by rfl) (by rfl) (Nat.le_of_ble_eq_true rfl) (by (conv=>lhs;whnf);try rfl) ?_ | refine Zn rfl rfl ?_ | refine Za rfl rfl rfl (by rfl) (by decide) (by (conv=>lhs;whnf);try rfl) ?_ | refine Zf rfl rfl rfl ?_ | refine ZP rfl rfl ?_ | refine ZC rfl rfl (by (conv=>lhs;whnf);try rfl) ?_ | refine g_field rfl rfl rfl ?_ | refine Zo ?_ | refine Zp (by kernel_rfl) ?_ | refine Zr ?_ | refine Zb ?_ | refine Zh ?_ | refine Zj ?_ | refine Zs ?_ | refine Zk ?_ | refine Zq ?_ | refine Zt ?_ | refine ZD ?_ | refine Zg ?_ | refine Zu ?_ | refine ZE ?_)
   rw [h0]
   repeat (first | (refine ZdE rfl rfl rfl rfl (by rw [ZbI];exact hlt) ?_) | (refine Zcl rfl rfl rfl hp rfl ?_) | (refine ZiP rfl rfl hb rfl ?_) | refine ZB rfl (by (conv=>lhs;whnf);try rfl) ?_ | refine Zy rfl rfl rfl ?_ | refine Zc rfl rfl ?_ | refine Zi rfl (by (conv=>lhs;whnf);try rfl) ?_ | refine ZL rfl rfl (by omega) ?_ | refine ZK rfl rfl rfl (by omega) (by omega) ?_ | refine ZI rfl rfl rfl (by omega) ?_ | refine ZJ rfl rfl rfl (by omega) (by omega) ?_ | refine ZM rfl rfl rfl rfl (by (conv=>lhs;whnf);try rfl) ?_ | refine ZO rfl rfl rfl rfl (by (conv=>lhs;whnf);try rfl) ?_ | refine ZQ rfl rfl ?_ | refine Zd rfl rfl ?_ | refine ZA rfl rfl ?_ | refine Zz rfl rfl rfl rfl ?_ | refine ZR rfl rfl rfl (by decide) ?_ | refine ZV rfl rfl rfl (by first | decide | omega) ?_ | refine ZT rfl rfl ?_ | refine Zv Tryz.underlying9 rfl rfl ?_ | refine ZS rfl (by (conv=>lhs;whnf);try rfl) (by (conv=>lhs;whnf);try rfl) (by rfl) ?_ | refine Zl rfl rfl ?_ | refine Zm rfl rfl rfl (by (conv=>lhs;whnf);try rfl) (by (conv=>lhs;whnf);try rfl) (by rfl) (by rfl) (Nat.le_of_ble_eq_true rfl) (by (conv=>lhs;whnf);try rfl) ?_ | refine Zn rfl rfl ?_ | refine Za rfl rfl rfl (by rfl) (by decide) (by (conv=>lhs;whnf);try rfl) ?_ | refine Zf rfl rfl rfl ?_ | refine ZP rfl rfl ?_ | refine ZC rfl rfl (by (conv=>lhs;whnf);try rfl) ?_ | refine g_field rfl rfl rfl ?_ | refine Zo ?_ | refine Zp (by kernel_rfl) ?_ | refine Zr ?_ | refine Zb ?_ | refine Zh ?_ | refine Zj ?_ | refine Zs ?_ | refine Zk ?_ | refine Zq ?_ | refine Zt ?_ | refine ZD ?_ | refine Zg ?_ | refine Zu ?_ | refine ZE ?_)
   by_cases h2:e1.kind=2
   ·rw [decide_eq_true h2]
    repeat (first | (refine ZdE rfl rfl rfl rfl (by rw [ZbI];exact hlt) ?_) | (refine Zcl rfl rfl rfl hp rfl ?_) | (refine ZiP rfl rfl hb rfl ?_) | refine ZB rfl (by (conv=>lhs;whnf);try rfl) ?_ | refine Zy rfl rfl rfl ?_ | refine Zc rfl rfl ?_ | refine Zi rfl (by (conv=>lhs;whnf);try rfl) ?_ | refine ZL rfl rfl (by omega) ?_ | refine ZK rfl rfl rfl (by omega) (by omega) ?_ | refine ZI rfl rfl rfl (by omega) ?_ | refine ZJ rfl rfl rfl (by omega) (by omega) ?_ | refine ZM rfl rfl rfl rfl (by (conv=>lhs;whnf);try rfl) ?_ | refine ZO rfl rfl rfl rfl (by (conv=>lhs;whnf);try rfl) ?_ | refine ZQ rfl rfl ?_ | refine Zd rfl rfl ?_ | refine ZA rfl rfl ?_ | refine Zz rfl rfl rfl rfl ?_ | refine ZR rfl rfl rfl (by decide) ?_ | refine ZV rfl rfl rfl (by first | decide | omega) ?_ | refine ZT rfl rfl ?_ | refine Zv Tryz.underlying9 rfl rfl ?_ | refine ZS rfl (by (conv=>lhs;whnf);try rfl) (by (conv=>lhs;whnf);try rfl) (by rfl) ?_ | refine Zl rfl rfl ?_ | refine Zm rfl rfl rfl (by (conv=>lhs;whnf);try rfl) (by (conv=>lhs;whnf);try rfl) (by rfl) (by rfl) (Nat.le_of_ble_eq_true rfl) (by (conv=>lhs;whnf);try rfl) ?_ | refine Zn rfl rfl ?_ | refine Za rfl rfl rfl (by rfl) (by decide) (by (conv=>lhs;whnf);try rfl) ?_ | refine Zf rfl rfl rfl ?_ | refine ZP rfl rfl ?_ | refine ZC rfl rfl (by (conv=>lhs;whnf);try rfl) ?_ | refine g_field rfl rfl rfl ?_ | refine Zo ?_ | refine Zp (by kernel_rfl) ?_ | refine Zr ?_ | refine Zb ?_ | refine Zh ?_ | refine Zj ?_ | refine Zs ?_ | refine Zk ?_ | refine Zq ?_ | refine Zt ?_ | refine ZD ?_ | refine Zg ?_ | refine Zu ?_ | refine ZE ?_)
    by_cases h3:e1.tag=k
    ·rw [decide_eq_true h3]
     repeat (first | (refine Zx rfl rfl ?_) | refine ZB rfl (by (conv=>lhs;whnf);try rfl) ?_ | refine Zy rfl rfl rfl ?_ | refine Zc rfl rfl ?_ | refine Zi rfl (by (conv=>lhs;whnf);try rfl) ?_ | refine ZL rfl rfl (by omega) ?_ | refine ZK rfl rfl rfl (by omega) (by omega) ?_ | refine ZI rfl rfl rfl (by omega) ?_ | refine ZJ rfl rfl rfl (by omega) (by omega) ?_ | refine ZM rfl rfl rfl rfl (by (conv=>lhs;whnf);try rfl) ?_ | refine ZO rfl rfl rfl rfl (by (conv=>lhs;whnf);try rfl) ?_ | refine ZQ rfl rfl ?_ | refine Zd rfl rfl ?_ | refine ZA rfl rfl ?_ | refine Zz rfl rfl rfl rfl ?_ | refine ZR rfl rfl rfl (by decide) ?_ | refine ZV rfl rfl rfl (by first | decide | omega) ?_ | refine ZT rfl rfl ?_ | refine Zv Tryz.underlying9 rfl rfl ?_ | refine ZS rfl (by (conv=>lhs;whnf);try rfl) (by (conv=>lhs;whnf);try rfl) (by rfl) ?_ | refine Zl rfl rfl ?_ | refine Zm rfl rfl rfl (by (conv=>lhs;whnf);try rfl) (by (conv=>lhs;whnf);try rfl) (by rfl) (by rfl) (Nat.le_of_ble_eq_true rfl) (by (conv=>lhs;whnf);try rfl) ?_ | refine Zn rfl rfl ?_ | refine Za rfl rfl rfl (by rfl) (by decide) (by (conv=>lhs;whnf);try rfl) ?_ | refine Zf rfl rfl rfl ?_ | refine ZP rfl rfl ?_ | refine ZC rfl rfl (by (conv=>lhs;whnf);try rfl) ?_ | refine g_field rfl rfl rfl ?_ | refine Zo ?_ | refine Zp (by kernel_rfl) ?_ | refine Zr ?_ | refine Zb ?_ | refine Zh ?_ | refine Zj ?_ | refine Zs ?_ | refine Zk ?_ | refine Zq ?_ | refine Zt ?_ | refine ZD ?_ | refine Zg ?_ | refine Zu ?_ | refine ZE ?_)
     rw [show Zbk k e r=r2.length+1 by rw [← hlb];simp only [Zbk,if_pos (And.intro h2 h3)]]
     exact ZcJ () 2 trivial (Zfc ⟨rfl,rfl,rfl,rfl,trivial⟩)
    ·rw [decide_eq_false h3]
     repeat (first | (refine ZW rfl rfl ?_) | (refine ZI (a:=r2.length) rfl rfl rfl (by simp at hlt;omega) ?_) | refine ZB rfl (by (conv=>lhs;whnf);try rfl) ?_ | refine Zy rfl rfl rfl ?_ | refine Zc rfl rfl ?_ | refine Zi rfl (by (conv=>lhs;whnf);try rfl) ?_ | refine ZL rfl rfl (by omega) ?_ | refine ZK rfl rfl rfl (by omega) (by omega) ?_ | refine ZI rfl rfl rfl (by omega) ?_ | refine ZJ rfl rfl rfl (by omega) (by omega) ?_ | refine ZM rfl rfl rfl rfl (by (conv=>lhs;whnf);try rfl) ?_ | refine ZO rfl rfl rfl rfl (by (conv=>lhs;whnf);try rfl) ?_ | refine ZQ rfl rfl ?_ | refine Zd rfl rfl ?_ | refine ZA rfl rfl ?_ | refine Zz rfl rfl rfl rfl ?_ | refine ZR rfl rfl rfl (by decide) ?_ | refine ZV rfl rfl rfl (by first | decide | omega) ?_ | refine ZT rfl rfl ?_ | refine Zv Tryz.underlying9 rfl rfl ?_ | refine ZS rfl (by (conv=>lhs;whnf);try rfl) (by (conv=>lhs;whnf);try rfl) (by rfl) ?_ | refine Zl rfl rfl ?_ | refine Zm rfl rfl rfl (by (conv=>lhs;whnf);try rfl) (by (conv=>lhs;whnf);try rfl) (by rfl) (by rfl) (Nat.le_of_ble_eq_true rfl) (by (conv=>lhs;whnf);try rfl) ?_ | refine Zn rfl rfl ?_ | refine Za rfl rfl rfl (by rfl) (by decide) (by (conv=>lhs;whnf);try rfl) ?_ | refine Zf rfl rfl rfl ?_ | refine ZP rfl rfl ?_ | refine ZC rfl rfl (by (conv=>lhs;whnf);try rfl) ?_ | refine g_field rfl rfl rfl ?_ | refine Zo ?_ | refine Zp (by kernel_rfl) ?_ | refine Zr ?_ | refine Zb ?_ | refine Zh ?_ | refine Zj ?_ | refine Zs ?_ | refine Zk ?_ | refine Zq ?_ | refine Zt ?_ | refine ZD ?_ | refine Zg ?_ | refine Zu ?_ | refine ZE ?_)
     refine Zat (e2,r2) 2 ⟨(List.suffix_cons _ _).trans hsuf,?_⟩ (by dsimp only;simp) (Zfc ⟨rfl,rfl,rfl,rfl,trivial⟩)
     rw [← hlb]
     simp only [Zbk,if_neg (fun h:e1.kind=2∧e1.tag=k=>h3 h.2)]
   ·rw [decide_eq_false h2]
    repeat (first | (refine Zao rfl ?_) | (refine ZW rfl rfl ?_) | (refine ZI (a:=r2.length) rfl rfl rfl (by simp at hlt;omega) ?_) | refine ZB rfl (by (conv=>lhs;whnf);try rfl) ?_ | refine Zy rfl rfl rfl ?_ | refine Zc rfl rfl ?_ | refine Zi rfl (by (conv=>lhs;whnf);try rfl) ?_ | refine ZL rfl rfl (by omega) ?_ | refine ZK rfl rfl rfl (by omega) (by omega) ?_ | refine ZI rfl rfl rfl (by omega) ?_ | refine ZJ rfl rfl rfl (by omega) (by omega) ?_ | refine ZM rfl rfl rfl rfl (by (conv=>lhs;whnf);try rfl) ?_ | refine ZO rfl rfl rfl rfl (by (conv=>lhs;whnf);try rfl) ?_ | refine ZQ rfl rfl ?_ | refine Zd rfl rfl ?_ | refine ZA rfl rfl ?_ | refine Zz rfl rfl rfl rfl ?_ | refine ZR rfl rfl rfl (by decide) ?_ | refine ZV rfl rfl rfl (by first | decide | omega) ?_ | refine ZT rfl rfl ?_ | refine Zv Tryz.underlying9 rfl rfl ?_ | refine ZS rfl (by (conv=>lhs;whnf);try rfl) (by (conv=>lhs;whnf);try rfl) (by rfl) ?_ | refine Zl rfl rfl ?_ | refine Zm rfl rfl rfl (by (conv=>lhs;whnf);try rfl) (by (conv=>lhs;whnf);try rfl) (by rfl) (by rfl) (Nat.le_of_ble_eq_true rfl) (by (conv=>lhs;whnf);try rfl) ?_ | refine Zn rfl rfl ?_ | refine Za rfl rfl rfl (by rfl) (by decide) (by (conv=>lhs;whnf);try rfl) ?_ | refine Zf rfl rfl rfl ?_ | refine ZP rfl rfl ?_ | refine ZC rfl rfl (by (conv=>lhs;whnf);try rfl) ?_ | refine g_field rfl rfl rfl ?_ | refine Zo ?_ | refine Zp (by kernel_rfl) ?_ | refine Zr ?_ | refine Zb ?_ | refine Zh ?_ | refine Zj ?_ | refine Zs ?_ | refine Zk ?_ | refine Zq ?_ | refine Zt ?_ | refine ZD ?_ | refine Zg ?_ | refine Zu ?_ | refine ZE ?_)
    refine Zat (e2,r2) 2 ⟨(List.suffix_cons _ _).trans hsuf,?_⟩ (by dsimp only;simp) (Zfc ⟨rfl,rfl,rfl,rfl,trivial⟩)
    rw [← hlb]
    simp only [Zbk,if_neg (fun h:e1.kind=2∧e1.tag=k=>h2 h.1)]
 ·unfold ZeI at h
  by_cases h0:Zbk k e r=0
  ·rw [if_pos h0] at h
   obtain ⟨e',he',h⟩:=Option.map_eq_some_iff.1 h
   injection h with q1 q2
   subst q1 q2
   repeat (first | refine ZB rfl (by (conv=>lhs;whnf);try rfl) ?_ | refine Zy rfl rfl rfl ?_ | refine Zc rfl rfl ?_ | refine Zi rfl (by (conv=>lhs;whnf);try rfl) ?_ | refine ZL rfl rfl (by omega) ?_ | refine ZK rfl rfl rfl (by omega) (by omega) ?_ | refine ZI rfl rfl rfl (by omega) ?_ | refine ZJ rfl rfl rfl (by omega) (by omega) ?_ | refine ZM rfl rfl rfl rfl (by (conv=>lhs;whnf);try rfl) ?_ | refine ZO rfl rfl rfl rfl (by (conv=>lhs;whnf);try rfl) ?_ | refine ZQ rfl rfl ?_ | refine Zd rfl rfl ?_ | refine ZA rfl rfl ?_ | refine Zz rfl rfl rfl rfl ?_ | refine ZR rfl rfl rfl (by decide) ?_ | refine ZV rfl rfl rfl (by first | decide | omega) ?_ | refine ZT rfl rfl ?_ | refine Zv Tryz.underlying9 rfl rfl ?_ | refine ZS rfl (by (conv=>lhs;whnf);try rfl) (by (conv=>lhs;whnf);try rfl) (by rfl) ?_ | refine Zl rfl rfl ?_ | refine Zm rfl rfl rfl (by (conv=>lhs;whnf);try rfl) (by (conv=>lhs;whnf);try rfl) (by rfl) (by rfl) (Nat.le_of_ble_eq_true rfl) (by (conv=>lhs;whnf);try rfl) ?_ | refine Zn rfl rfl ?_ | refine Za rfl rfl rfl (by rfl) (by decide) (by (conv=>lhs;whnf);try rfl) ?_ | refine Zf rfl rfl rfl ?_ | refine ZP rfl rfl ?_ | refine ZC rfl rfl (by (conv=>lhs;whnf);try rfl) ?_ | refine g_field rfl rfl rfl ?_ | refine Zo ?_ | refine Zp (by kernel_rfl) ?_ | refine Zr ?_ | refine Zb ?_ | refine Zh ?_ | refine Zj ?_ | refine Zs ?_ | refine Zk ?_ | refine Zq ?_ | refine Zt ?_ | refine ZD ?_ | refine Zg ?_ | refine Zu ?_ | refine ZE ?_)
   rw [show decide (((Zbk k e r:Nat):Int)=0)=true from decide_eq_true (by omega)]
   repeat (first | (refine ZW rfl rfl ?_) | (refine ZX [] νa (ZbC e r s (Zau hf).1 (Zau hf).2 e' he') rfl rfl rfl rfl rfl rfl ?_) | refine ZB rfl (by (conv=>lhs;whnf);try rfl) ?_ | refine Zy rfl rfl rfl ?_ | refine Zc rfl rfl ?_ | refine Zi rfl (by (conv=>lhs;whnf);try rfl) ?_ | refine ZL rfl rfl (by omega) ?_ | refine ZK rfl rfl rfl (by omega) (by omega) ?_ | refine ZI rfl rfl rfl (by omega) ?_ | refine ZJ rfl rfl rfl (by omega) (by omega) ?_ | refine ZM rfl rfl rfl rfl (by (conv=>lhs;whnf);try rfl) ?_ | refine ZO rfl rfl rfl rfl (by (conv=>lhs;whnf);try rfl) ?_ | refine ZQ rfl rfl ?_ | refine Zd rfl rfl ?_ | refine ZA rfl rfl ?_ | refine Zz rfl rfl rfl rfl ?_ | refine ZR rfl rfl rfl (by decide) ?_ | refine ZV rfl rfl rfl (by first | decide | omega) ?_ | refine ZT rfl rfl ?_ | refine Zv Tryz.underlying9 rfl rfl ?_ | refine ZS rfl (by (conv=>lhs;whnf);try rfl) (by (conv=>lhs;whnf);try rfl) (by rfl) ?_ | refine Zl rfl rfl ?_ | refine Zm rfl rfl rfl (by (conv=>lhs;whnf);try rfl) (by (conv=>lhs;whnf);try rfl) (by rfl) (by rfl) (Nat.le_of_ble_eq_true rfl) (by (conv=>lhs;whnf);try rfl) ?_ | refine Zn rfl rfl ?_ | refine Za rfl rfl rfl (by rfl) (by decide) (by (conv=>lhs;whnf);try rfl) ?_ | refine Zf rfl rfl rfl ?_ | refine ZP rfl rfl ?_ | refine ZC rfl rfl (by (conv=>lhs;whnf);try rfl) ?_ | refine g_field rfl rfl rfl ?_ | refine Zo ?_ | refine Zp (by kernel_rfl) ?_ | refine Zr ?_ | refine Zb ?_ | refine Zh ?_ | refine Zj ?_ | refine Zs ?_ | refine Zk ?_ | refine Zq ?_ | refine Zt ?_ | refine ZD ?_ | refine Zg ?_ | refine Zu ?_ | refine ZE ?_)
   exact Zbj (.inl rfl) (νc 3 2) [] [] rfl rfl trivial rfl rfl
  ·rw [if_neg h0] at h
   obtain ⟨⟨e4,r4⟩,hfl,h⟩:=Option.bind_eq_some_iff.1 h
   rcases r4 with _ | ⟨e5,r5⟩
   ·cases h
   obtain ⟨e6,he6,h⟩:=Option.map_eq_some_iff.1 h
   injection h with q1 q2
   subst q1 q2
   repeat (first | refine ZB rfl (by (conv=>lhs;whnf);try rfl) ?_ | refine Zy rfl rfl rfl ?_ | refine Zc rfl rfl ?_ | refine Zi rfl (by (conv=>lhs;whnf);try rfl) ?_ | refine ZL rfl rfl (by omega) ?_ | refine ZK rfl rfl rfl (by omega) (by omega) ?_ | refine ZI rfl rfl rfl (by omega) ?_ | refine ZJ rfl rfl rfl (by omega) (by omega) ?_ | refine ZM rfl rfl rfl rfl (by (conv=>lhs;whnf);try rfl) ?_ | refine ZO rfl rfl rfl rfl (by (conv=>lhs;whnf);try rfl) ?_ | refine ZQ rfl rfl ?_ | refine Zd rfl rfl ?_ | refine ZA rfl rfl ?_ | refine Zz rfl rfl rfl rfl ?_ | refine ZR rfl rfl rfl (by decide) ?_ | refine ZV rfl rfl rfl (by first | decide | omega) ?_ | refine ZT rfl rfl ?_ | refine Zv Tryz.underlying9 rfl rfl ?_ | refine ZS rfl (by (conv=>lhs;whnf);try rfl) (by (conv=>lhs;whnf);try rfl) (by rfl) ?_ | refine Zl rfl rfl ?_ | refine Zm rfl rfl rfl (by (conv=>lhs;whnf);try rfl) (by (conv=>lhs;whnf);try rfl) (by rfl) (by rfl) (Nat.le_of_ble_eq_true rfl) (by (conv=>lhs;whnf);try rfl) ?_ | refine Zn rfl rfl ?_ | refine Za rfl rfl rfl (by rfl) (by decide) (by (conv=>lhs;whnf);try rfl) ?_ | refine Zf rfl rfl rfl ?_ | refine ZP rfl rfl ?_ | refine ZC rfl rfl (by (conv=>lhs;whnf);try rfl) ?_ | refine g_field rfl rfl rfl ?_ | refine Zo ?_ | refine Zp (by kernel_rfl) ?_ | refine Zr ?_ | refine Zb ?_ | refine Zh ?_ | refine Zj ?_ | refine Zs ?_ | refine Zk ?_ | refine Zq ?_ | refine Zt ?_ | refine ZD ?_ | refine Zg ?_ | refine Zu ?_ | refine ZE ?_)
   rw [show decide (((Zbk k e r:Nat):Int)=0)=false from decide_eq_false (by omega)]
   repeat (first | (refine Zx rfl rfl ?_) | refine ZB rfl (by (conv=>lhs;whnf);try rfl) ?_ | refine Zy rfl rfl rfl ?_ | refine Zc rfl rfl ?_ | refine Zi rfl (by (conv=>lhs;whnf);try rfl) ?_ | refine ZL rfl rfl (by omega) ?_ | refine ZK rfl rfl rfl (by omega) (by omega) ?_ | refine ZI rfl rfl rfl (by omega) ?_ | refine ZJ rfl rfl rfl (by omega) (by omega) ?_ | refine ZM rfl rfl rfl rfl (by (conv=>lhs;whnf);try rfl) ?_ | refine ZO rfl rfl rfl rfl (by (conv=>lhs;whnf);try rfl) ?_ | refine ZQ rfl rfl ?_ | refine Zd rfl rfl ?_ | refine ZA rfl rfl ?_ | refine Zz rfl rfl rfl rfl ?_ | refine ZR rfl rfl rfl (by decide) ?_ | refine ZV rfl rfl rfl (by first | decide | omega) ?_ | refine ZT rfl rfl ?_ | refine Zv Tryz.underlying9 rfl rfl ?_ | refine ZS rfl (by (conv=>lhs;whnf);try rfl) (by (conv=>lhs;whnf);try rfl) (by rfl) ?_ | refine Zl rfl rfl ?_ | refine Zm rfl rfl rfl (by (conv=>lhs;whnf);try rfl) (by (conv=>lhs;whnf);try rfl) (by rfl) (by rfl) (Nat.le_of_ble_eq_true rfl) (by (conv=>lhs;whnf);try rfl) ?_ | refine Zn rfl rfl ?_ | refine Za rfl rfl rfl (by rfl) (by decide) (by (conv=>lhs;whnf);try rfl) ?_ | refine Zf rfl rfl rfl ?_ | refine ZP rfl rfl ?_ | refine ZC rfl rfl (by (conv=>lhs;whnf);try rfl) ?_ | refine g_field rfl rfl rfl ?_ | refine Zo ?_ | refine Zp (by kernel_rfl) ?_ | refine Zr ?_ | refine Zb ?_ | refine Zh ?_ | refine Zj ?_ | refine Zs ?_ | refine Zk ?_ | refine Zq ?_ | refine Zt ?_ | refine ZD ?_ | refine Zg ?_ | refine Zu ?_ | refine ZE ?_)
   generalize Zbk k e r=at_ at hat h0 hfl ⊢
   refine Zac (fun (a:El×List El) _=>mkS [(0,.ptr 0 (0,0) 0),(1,.int .i64 k),(6,.int .i64 (at_:Int))] (somes (stP νb a.1 a.2)) 2) (fun a=>fits a.1 a.2∧at_≤a.2.length∧ZgJ (a.2.length - at_) a.1 a.2=some (e4,e5::r5)) (fun a=>a.2.length) (e,r) 2 ⟨hf,hat,hfl⟩
    (ZaZ νa [] (fun k=>(k,νa k)) (fun _ _=>rfl) rfl ⟨rfl,rfl,rfl,trivial⟩ (x:=[]) (x':=[]) rfl rfl rfl (Zaj _) rfl) (fun a ng hJ=>?_)
   obtain ⟨e1,r1⟩:=a
   obtain ⟨hf1,hle,hft⟩:=hJ
   dsimp only at hf1 hle hft ⊢
   have hr1:=hf1.1
   repeat (first | (refine Za4 rfl rfl (ZbI _ _ _) ?_) | refine ZB rfl (by (conv=>lhs;whnf);try rfl) ?_ | refine Zy rfl rfl rfl ?_ | refine Zc rfl rfl ?_ | refine Zi rfl (by (conv=>lhs;whnf);try rfl) ?_ | refine ZL rfl rfl (by omega) ?_ | refine ZK rfl rfl rfl (by omega) (by omega) ?_ | refine ZI rfl rfl rfl (by omega) ?_ | refine ZJ rfl rfl rfl (by omega) (by omega) ?_ | refine ZM rfl rfl rfl rfl (by (conv=>lhs;whnf);try rfl) ?_ | refine ZO rfl rfl rfl rfl (by (conv=>lhs;whnf);try rfl) ?_ | refine ZQ rfl rfl ?_ | refine Zd rfl rfl ?_ | refine ZA rfl rfl ?_ | refine Zz rfl rfl rfl rfl ?_ | refine ZR rfl rfl rfl (by decide) ?_ | refine ZV rfl rfl rfl (by first | decide | omega) ?_ | refine ZT rfl rfl ?_ | refine Zv Tryz.underlying9 rfl rfl ?_ | refine ZS rfl (by (conv=>lhs;whnf);try rfl) (by (conv=>lhs;whnf);try rfl) (by rfl) ?_ | refine Zl rfl rfl ?_ | refine Zm rfl rfl rfl (by (conv=>lhs;whnf);try rfl) (by (conv=>lhs;whnf);try rfl) (by rfl) (by rfl) (Nat.le_of_ble_eq_true rfl) (by (conv=>lhs;whnf);try rfl) ?_ | refine Zn rfl rfl ?_ | refine Za rfl rfl rfl (by rfl) (by decide) (by (conv=>lhs;whnf);try rfl) ?_ | refine Zf rfl rfl rfl ?_ | refine ZP rfl rfl ?_ | refine ZC rfl rfl (by (conv=>lhs;whnf);try rfl) ?_ | refine g_field rfl rfl rfl ?_ | refine Zo ?_ | refine Zp (by kernel_rfl) ?_ | refine Zr ?_ | refine Zb ?_ | refine Zh ?_ | refine Zj ?_ | refine Zs ?_ | refine Zk ?_ | refine Zq ?_ | refine Zt ?_ | refine ZD ?_ | refine Zg ?_ | refine Zu ?_ | refine ZE ?_)
   by_cases hgt:at_<r1.length
   ·rw [show decide (((at_+1:Nat):Int)<((r1.length+1:Nat):Int))=true from decide_eq_true (by omega)]
    rcases r1 with _ | ⟨e2,r2⟩
    ·simp at hgt
    simp only [List.length_cons] at hgt hle hft hr1
    rw [show r2.length+1 - at_=(r2.length - at_)+1 by omega] at hft
    obtain ⟨e7,he7,hft⟩:=Option.bind_eq_some_iff.1 hft
    repeat (first | (refine ZW rfl rfl ?_) | (refine ZX [] νb (Zhf e1 e2 e7 r2 (by omega) (Zau (ZaM hf1)) he7) rfl rfl rfl rfl rfl rfl ?_) | refine ZB rfl (by (conv=>lhs;whnf);try rfl) ?_ | refine Zy rfl rfl rfl ?_ | refine Zc rfl rfl ?_ | refine Zi rfl (by (conv=>lhs;whnf);try rfl) ?_ | refine ZL rfl rfl (by omega) ?_ | refine ZK rfl rfl rfl (by omega) (by omega) ?_ | refine ZI rfl rfl rfl (by omega) ?_ | refine ZJ rfl rfl rfl (by omega) (by omega) ?_ | refine ZM rfl rfl rfl rfl (by (conv=>lhs;whnf);try rfl) ?_ | refine ZO rfl rfl rfl rfl (by (conv=>lhs;whnf);try rfl) ?_ | refine ZQ rfl rfl ?_ | refine Zd rfl rfl ?_ | refine ZA rfl rfl ?_ | refine Zz rfl rfl rfl rfl ?_ | refine ZR rfl rfl rfl (by decide) ?_ | refine ZV rfl rfl rfl (by first | decide | omega) ?_ | refine ZT rfl rfl ?_ | refine Zv Tryz.underlying9 rfl rfl ?_ | refine ZS rfl (by (conv=>lhs;whnf);try rfl) (by (conv=>lhs;whnf);try rfl) (by rfl) ?_ | refine Zl rfl rfl ?_ | refine Zm rfl rfl rfl (by (conv=>lhs;whnf);try rfl) (by (conv=>lhs;whnf);try rfl) (by rfl) (by rfl) (Nat.le_of_ble_eq_true rfl) (by (conv=>lhs;whnf);try rfl) ?_ | refine Zn rfl rfl ?_ | refine Za rfl rfl rfl (by rfl) (by decide) (by (conv=>lhs;whnf);try rfl) ?_ | refine Zf rfl rfl rfl ?_ | refine ZP rfl rfl ?_ | refine ZC rfl rfl (by (conv=>lhs;whnf);try rfl) ?_ | refine g_field rfl rfl rfl ?_ | refine Zo ?_ | refine Zp (by kernel_rfl) ?_ | refine Zr ?_ | refine Zb ?_ | refine Zh ?_ | refine Zj ?_ | refine Zs ?_ | refine Zk ?_ | refine Zq ?_ | refine Zt ?_ | refine ZD ?_ | refine Zg ?_ | refine Zu ?_ | refine ZE ?_)
    exact Zat (e7,r2) 2 ⟨Zc0 hf1 he7,by dsimp only;omega,hft⟩ (by dsimp only;simp) (ZaZ (νc 3 1) [] (fun k=>(k,νc 3 1 k)) (fun _ _=>rfl) rfl ⟨rfl,rfl,rfl,trivial⟩ (x:=[]) (x':=[]) rfl rfl rfl (Zaj _) rfl)
   ·rw [show decide (((at_+1:Nat):Int)<((r1.length+1:Nat):Int))=false from decide_eq_false (by omega)]
    rw [show r1.length - at_=0 by omega] at hft
    injection hft with hft
    injection hft with q1 q2
    subst q1 q2
    repeat (first | (refine Zx rfl rfl ?_) | refine ZB rfl (by (conv=>lhs;whnf);try rfl) ?_ | refine Zy rfl rfl rfl ?_ | refine Zc rfl rfl ?_ | refine Zi rfl (by (conv=>lhs;whnf);try rfl) ?_ | refine ZL rfl rfl (by omega) ?_ | refine ZK rfl rfl rfl (by omega) (by omega) ?_ | refine ZI rfl rfl rfl (by omega) ?_ | refine ZJ rfl rfl rfl (by omega) (by omega) ?_ | refine ZM rfl rfl rfl rfl (by (conv=>lhs;whnf);try rfl) ?_ | refine ZO rfl rfl rfl rfl (by (conv=>lhs;whnf);try rfl) ?_ | refine ZQ rfl rfl ?_ | refine Zd rfl rfl ?_ | refine ZA rfl rfl ?_ | refine Zz rfl rfl rfl rfl ?_ | refine ZR rfl rfl rfl (by decide) ?_ | refine ZV rfl rfl rfl (by first | decide | omega) ?_ | refine ZT rfl rfl ?_ | refine Zv Tryz.underlying9 rfl rfl ?_ | refine ZS rfl (by (conv=>lhs;whnf);try rfl) (by (conv=>lhs;whnf);try rfl) (by rfl) ?_ | refine Zl rfl rfl ?_ | refine Zm rfl rfl rfl (by (conv=>lhs;whnf);try rfl) (by (conv=>lhs;whnf);try rfl) (by rfl) (by rfl) (Nat.le_of_ble_eq_true rfl) (by (conv=>lhs;whnf);try rfl) ?_ | refine Zn rfl rfl ?_ | refine Za rfl rfl rfl (by rfl) (by decide) (by (conv=>lhs;whnf);try rfl) ?_ | refine Zf rfl rfl rfl ?_ | refine ZP rfl rfl ?_ | refine ZC rfl rfl (by (conv=>lhs;whnf);try rfl) ?_ | refine g_field rfl rfl rfl ?_ | refine Zo ?_ | refine Zp (by kernel_rfl) ?_ | refine Zr ?_ | refine Zb ?_ | refine Zh ?_ | refine Zj ?_ | refine Zs ?_ | refine Zk ?_ | refine Zq ?_ | refine Zt ?_ | refine ZD ?_ | refine Zg ?_ | refine Zu ?_ | refine ZE ?_)
    refine ZdU [] νb (Zlp e1 e5 r5 (by simp at hr1;omega)) rfl rfl rfl rfl ?_
    iterate 2 (refine Zgs ?_)
    refine ZaB (Zgh (3,1+1000000 * (1000+1)) νb (tm':=[(0,.ptr 0 (0,0) 0),(1,.int .i64 k),(7,.ptr 300 (1,300) 0)]) ⟨rfl,rfl,rfl,trivial⟩) ?_ (List.cons_ne_nil _ _)
    repeat (first | (refine ZX [_] νb (Zpr e5 e6 r5 6 k ⟨#[]⟩ e1.list (Zau (ZaM hf1)).1 he6) rfl rfl rfl rfl rfl rfl ?_) | refine ZB rfl (by (conv=>lhs;whnf);try rfl) ?_ | refine Zy rfl rfl rfl ?_ | refine Zc rfl rfl ?_ | refine Zi rfl (by (conv=>lhs;whnf);try rfl) ?_ | refine ZL rfl rfl (by omega) ?_ | refine ZK rfl rfl rfl (by omega) (by omega) ?_ | refine ZI rfl rfl rfl (by omega) ?_ | refine ZJ rfl rfl rfl (by omega) (by omega) ?_ | refine ZM rfl rfl rfl rfl (by (conv=>lhs;whnf);try rfl) ?_ | refine ZO rfl rfl rfl rfl (by (conv=>lhs;whnf);try rfl) ?_ | refine ZQ rfl rfl ?_ | refine Zd rfl rfl ?_ | refine ZA rfl rfl ?_ | refine Zz rfl rfl rfl rfl ?_ | refine ZR rfl rfl rfl (by decide) ?_ | refine ZV rfl rfl rfl (by first | decide | omega) ?_ | refine ZT rfl rfl ?_ | refine Zv Tryz.underlying9 rfl rfl ?_ | refine ZS rfl (by (conv=>lhs;whnf);try rfl) (by (conv=>lhs;whnf);try rfl) (by rfl) ?_ | refine Zl rfl rfl ?_ | refine Zm rfl rfl rfl (by (conv=>lhs;whnf);try rfl) (by (conv=>lhs;whnf);try rfl) (by rfl) (by rfl) (Nat.le_of_ble_eq_true rfl) (by (conv=>lhs;whnf);try rfl) ?_ | refine Zn rfl rfl ?_ | refine Za rfl rfl rfl (by rfl) (by decide) (by (conv=>lhs;whnf);try rfl) ?_ | refine Zf rfl rfl rfl ?_ | refine ZP rfl rfl ?_ | refine ZC rfl rfl (by (conv=>lhs;whnf);try rfl) ?_ | refine g_field rfl rfl rfl ?_ | refine Zo ?_ | refine Zp (by kernel_rfl) ?_ | refine Zr ?_ | refine Zb ?_ | refine Zh ?_ | refine Zj ?_ | refine Zs ?_ | refine Zk ?_ | refine Zq ?_ | refine Zt ?_ | refine ZD ?_ | refine Zg ?_ | refine Zu ?_ | refine ZE ?_)
    exact Zbj (.inr rfl) (νc 2 7) [_] [] rfl rfl trivial rfl rfl
end Go.Proofs.YtmgfammllddkhaaGreatDoor
