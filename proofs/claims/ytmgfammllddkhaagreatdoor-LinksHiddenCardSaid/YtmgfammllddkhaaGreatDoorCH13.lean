/- The parser's closeBraces. | The parser's take: what a token does. -/
import Derived.Test.YtmgfammllddkhaaGreatDoorCH12
namespace Go.Proofs.YtmgfammllddkhaaGreatDoor
open VL
def ZbI (c count:Int):Int:=if 3≤c∧3≤count then 3 else 2
def Zc2 (c:Int) (e:El):Node:=⟨if 3≤c∧3≤e.count then 5 else 4,0,⟨#[]⟩,e.list,e.argL.map Arg.cs⟩
def ZqN (c:Int) (e:El) (r:List El):Option (El×List El):=(strings_Repeat ⟨#[125]⟩ c).bind fun s=>(ZaR e s).map fun e'=>(e',r)
def ZrF (e2:El) (m:Int) (n:Node):Option El:=((if m=1 then ZaR e2 ⟨#[123]⟩ else some e2):Option El).bind fun e3=>ZdG e3 n
def Zaw:Nat→Int→El→List El→Option (El×List El)
 | 0,_,_,_=>none
 | f+1,c,e,r=>if 2≤c then (if Zai e r=0 then ZqN c e r else
   (Zc7 (r.length - Zai e r) e r).bind fun q=>if c≤9223372036854775807∧0≤q.1.count∧q.1.count≤9223372036854775807 then
    (if 2≤q.1.count - ZbI c q.1.count then Zaw f (c - ZbI c q.1.count) ⟨q.1.kind,q.1.tag,q.1.count - ZbI c q.1.count,[(Zc2 c q.1).cs],none⟩ q.2
     else match q.2 with
      | []=>none
      | e2::r2=>(ZrF e2 (q.1.count - ZbI c q.1.count) (Zc2 c q.1)).bind fun e4=>Zaw f (c - ZbI c q.1.count) e4 r2) else none)
   else ZqN c e r
theorem ZhW {e2 e4:El} {m:Int} {n:Node} {r:List El} (hf:fit e2 r) (h:ZrF e2 m n=some e4):fit e4 r:=by
 obtain ⟨e3,h3,h⟩:=Option.bind_eq_some_iff.1 h
 refine ZeB ?_ h
 split at h3
 ·exact ZaA hf h3
 ·injection h3 with h3
  rw [← h3]
  exact hf
theorem ZeS:∀ {n:Nat} {e e':El} {r r':List El},fits e r→Zc7 n e r=some (e',r')→fits e' r'
 | 0,e,e',r,r',hf,h=>by injection h with h;injection h with h1 h2;rw [← h1,← h2];exact hf
 | n+1,e,e',[],r',hf,h=>by cases h
 | n+1,e,e',e2::r,r',hf,h=>by
   obtain ⟨e3,h3,h⟩:=Option.bind_eq_some_iff.1 h
   exact ZeS (Zdg hf h3) h
theorem Zfm:∀ (e:El) (r:List El),Zai e r≤r.length
 | _,[]=>Nat.le_refl _
 | e,e2::r=>by
   unfold Zai
   split
   ·simp
   ·split
    ·simp
    ·have:=Zfm e2 r
     simp
     omega
theorem ZiN (b:Nat) (ν:Nat→Gen) (pre:List Arg) (a:Arg):(ZfI b ν (some (pre,a))).set pre.length (ZaE [.bool a.named,.sl a.name,.row (b+3) (ν (b+3))] 2 [.sl a.value])=(pre ++ [a]).map Arg.cs:=by
 have:=ZfB b ν pre a a.cs
 rw [List.map_append]
 exact this
set_option maxRecDepth 100000 in
set_option maxHeartbeats 2000000 in
theorem Zko (f:Nat) (c:Int) (e e9:El) (r r9:List El) (hf:fits e r) (h:Zaw f c e r=some (e9,r9)):PC 110 [.int .i64 c] e r (.tup []) e9 r9:=by
 refine ZZ mix Tryz.func110 (by kernel_rfl) rfl (by kernel_rfl) ?_
 rw [ZbY]
 repeat (first | refine ZA rfl (by (conv=>lhs;whnf);try rfl) ?_ | refine Zx rfl rfl rfl ?_ | refine Zc rfl rfl ?_ | refine Zi rfl (by (conv=>lhs;whnf);try rfl) ?_ | refine ZM rfl rfl (by omega) ?_ | refine ZL rfl rfl rfl (by omega) (by omega) ?_ | refine ZI rfl rfl rfl (by omega) ?_ | refine ZK rfl rfl rfl (by omega) (by omega) ?_ | refine ZN rfl rfl rfl rfl (by (conv=>lhs;whnf);try rfl) ?_ | refine ZP rfl rfl rfl rfl (by (conv=>lhs;whnf);try rfl) ?_ | refine ZR rfl rfl ?_ | refine Zd rfl rfl ?_ | refine Zz rfl rfl ?_ | refine g_bits rfl rfl rfl rfl ?_ | refine ZS rfl rfl rfl (by decide) ?_ | refine g_rem rfl rfl rfl (by first | decide | omega) ?_ | refine ZU rfl rfl ?_ | refine Zv Tryz.underlying9 rfl rfl ?_ | refine ZT rfl (by (conv=>lhs;whnf);try rfl) (by (conv=>lhs;whnf);try rfl) (by rfl) ?_ | refine Zl rfl rfl ?_ | refine Zm rfl rfl rfl (by (conv=>lhs;whnf);try rfl) (by (conv=>lhs;whnf);try rfl) (by rfl) (by rfl) (Nat.le_of_ble_eq_true rfl) (by (conv=>lhs;whnf);try rfl) ?_ | refine Zn rfl rfl ?_ | refine Za rfl rfl rfl (by rfl) (by decide) (by (conv=>lhs;whnf);try rfl) ?_ | refine Zf rfl rfl rfl ?_ | refine ZQ rfl rfl ?_ | refine ZB rfl rfl (by (conv=>lhs;whnf);try rfl) ?_ | refine g_field rfl rfl rfl ?_ | refine Zo ?_ | refine Zp (by kernel_rfl) ?_ | refine Zr ?_ | refine Zb ?_ | refine Zh ?_ | refine Zj ?_ | refine Zs ?_ | refine Zk ?_ | refine Zq ?_ | refine Zt ?_ | refine ZC ?_ | refine Zg ?_ | refine Zu ?_ | refine ZD ?_)
 refine Zac (fun (a:Nat×Int×El×List El) _=>mkS [(0,.ptr 0 (0,0) 0),(1,.int .i64 a.2.1)] (somes (stP νb a.2.2.1 a.2.2.2)) 2) (fun a=>fits a.2.2.1 a.2.2.2∧Zaw a.1 a.2.1 a.2.2.1 a.2.2.2=some (e9,r9)) (fun a=>a.1) (f,c,e,r) 2 ⟨hf,h⟩
  (Za7 νa [] (fun k=>(k,νa k)) (fun _ _=>rfl) rfl ⟨rfl,rfl,trivial⟩ (x:=[]) (x':=[]) rfl rfl rfl (Zal _) rfl) (fun a ng hJ=>?_)
 clear h hf
 obtain ⟨f,c,e,r⟩:=a
 obtain ⟨hf,h⟩:=hJ
 dsimp only at hf h ⊢
 rcases f with _ | f
 ·cases h
 have hr:=hf.1
 unfold Zaw at h
 repeat (first | refine ZA rfl (by (conv=>lhs;whnf);try rfl) ?_ | refine Zx rfl rfl rfl ?_ | refine Zc rfl rfl ?_ | refine Zi rfl (by (conv=>lhs;whnf);try rfl) ?_ | refine ZM rfl rfl (by omega) ?_ | refine ZL rfl rfl rfl (by omega) (by omega) ?_ | refine ZI rfl rfl rfl (by omega) ?_ | refine ZK rfl rfl rfl (by omega) (by omega) ?_ | refine ZN rfl rfl rfl rfl (by (conv=>lhs;whnf);try rfl) ?_ | refine ZP rfl rfl rfl rfl (by (conv=>lhs;whnf);try rfl) ?_ | refine ZR rfl rfl ?_ | refine Zd rfl rfl ?_ | refine Zz rfl rfl ?_ | refine g_bits rfl rfl rfl rfl ?_ | refine ZS rfl rfl rfl (by decide) ?_ | refine g_rem rfl rfl rfl (by first | decide | omega) ?_ | refine ZU rfl rfl ?_ | refine Zv Tryz.underlying9 rfl rfl ?_ | refine ZT rfl (by (conv=>lhs;whnf);try rfl) (by (conv=>lhs;whnf);try rfl) (by rfl) ?_ | refine Zl rfl rfl ?_ | refine Zm rfl rfl rfl (by (conv=>lhs;whnf);try rfl) (by (conv=>lhs;whnf);try rfl) (by rfl) (by rfl) (Nat.le_of_ble_eq_true rfl) (by (conv=>lhs;whnf);try rfl) ?_ | refine Zn rfl rfl ?_ | refine Za rfl rfl rfl (by rfl) (by decide) (by (conv=>lhs;whnf);try rfl) ?_ | refine Zf rfl rfl rfl ?_ | refine ZQ rfl rfl ?_ | refine ZB rfl rfl (by (conv=>lhs;whnf);try rfl) ?_ | refine g_field rfl rfl rfl ?_ | refine Zo ?_ | refine Zp (by kernel_rfl) ?_ | refine Zr ?_ | refine Zb ?_ | refine Zh ?_ | refine Zj ?_ | refine Zs ?_ | refine Zk ?_ | refine Zq ?_ | refine Zt ?_ | refine ZC ?_ | refine Zg ?_ | refine Zu ?_ | refine ZD ?_)
 by_cases hc2:2≤c
 rotate_left
 ·rw [if_neg hc2] at h
  obtain ⟨s,hs,h⟩:=Option.bind_eq_some_iff.1 h
  obtain ⟨e',he',h⟩:=Option.map_eq_some_iff.1 h
  injection h with q1 q2
  subst q1 q2
  rw [decide_eq_false hc2]
  repeat (first | (refine Zw rfl rfl ?_) | (refine ZeV (Zc3 _ _ _ hs) rfl rfl ?_) | (refine ZY [] νb (ZbP e r s (Zay hf).1 (Zay hf).2 e' he') rfl rfl rfl rfl rfl rfl ?_) | refine ZA rfl (by (conv=>lhs;whnf);try rfl) ?_ | refine Zx rfl rfl rfl ?_ | refine Zc rfl rfl ?_ | refine Zi rfl (by (conv=>lhs;whnf);try rfl) ?_ | refine ZM rfl rfl (by omega) ?_ | refine ZL rfl rfl rfl (by omega) (by omega) ?_ | refine ZI rfl rfl rfl (by omega) ?_ | refine ZK rfl rfl rfl (by omega) (by omega) ?_ | refine ZN rfl rfl rfl rfl (by (conv=>lhs;whnf);try rfl) ?_ | refine ZP rfl rfl rfl rfl (by (conv=>lhs;whnf);try rfl) ?_ | refine ZR rfl rfl ?_ | refine Zd rfl rfl ?_ | refine Zz rfl rfl ?_ | refine g_bits rfl rfl rfl rfl ?_ | refine ZS rfl rfl rfl (by decide) ?_ | refine g_rem rfl rfl rfl (by first | decide | omega) ?_ | refine ZU rfl rfl ?_ | refine Zv Tryz.underlying9 rfl rfl ?_ | refine ZT rfl (by (conv=>lhs;whnf);try rfl) (by (conv=>lhs;whnf);try rfl) (by rfl) ?_ | refine Zl rfl rfl ?_ | refine Zm rfl rfl rfl (by (conv=>lhs;whnf);try rfl) (by (conv=>lhs;whnf);try rfl) (by rfl) (by rfl) (Nat.le_of_ble_eq_true rfl) (by (conv=>lhs;whnf);try rfl) ?_ | refine Zn rfl rfl ?_ | refine Za rfl rfl rfl (by rfl) (by decide) (by (conv=>lhs;whnf);try rfl) ?_ | refine Zf rfl rfl rfl ?_ | refine ZQ rfl rfl ?_ | refine ZB rfl rfl (by (conv=>lhs;whnf);try rfl) ?_ | refine g_field rfl rfl rfl ?_ | refine Zo ?_ | refine Zp (by kernel_rfl) ?_ | refine Zr ?_ | refine Zb ?_ | refine Zh ?_ | refine Zj ?_ | refine Zs ?_ | refine Zk ?_ | refine Zq ?_ | refine Zt ?_ | refine ZC ?_ | refine Zg ?_ | refine Zu ?_ | refine ZD ?_)
  exact Zbr (.inr rfl) (νc 3 3) [] [] rfl rfl trivial rfl rfl
 rw [if_pos hc2] at h
 rw [decide_eq_true hc2]
 have hat:=Zfm e r
 have hlb:=Zlv e r (by omega)
 generalize Zai e r=at_ at hat h hlb
 repeat (first | (refine ZV rfl rfl ?_) | (refine Zad [] νb hlb rfl rfl rfl rfl rfl rfl ?_) | refine ZA rfl (by (conv=>lhs;whnf);try rfl) ?_ | refine Zx rfl rfl rfl ?_ | refine Zc rfl rfl ?_ | refine Zi rfl (by (conv=>lhs;whnf);try rfl) ?_ | refine ZM rfl rfl (by omega) ?_ | refine ZL rfl rfl rfl (by omega) (by omega) ?_ | refine ZI rfl rfl rfl (by omega) ?_ | refine ZK rfl rfl rfl (by omega) (by omega) ?_ | refine ZN rfl rfl rfl rfl (by (conv=>lhs;whnf);try rfl) ?_ | refine ZP rfl rfl rfl rfl (by (conv=>lhs;whnf);try rfl) ?_ | refine ZR rfl rfl ?_ | refine Zd rfl rfl ?_ | refine Zz rfl rfl ?_ | refine g_bits rfl rfl rfl rfl ?_ | refine ZS rfl rfl rfl (by decide) ?_ | refine g_rem rfl rfl rfl (by first | decide | omega) ?_ | refine ZU rfl rfl ?_ | refine Zv Tryz.underlying9 rfl rfl ?_ | refine ZT rfl (by (conv=>lhs;whnf);try rfl) (by (conv=>lhs;whnf);try rfl) (by rfl) ?_ | refine Zl rfl rfl ?_ | refine Zm rfl rfl rfl (by (conv=>lhs;whnf);try rfl) (by (conv=>lhs;whnf);try rfl) (by rfl) (by rfl) (Nat.le_of_ble_eq_true rfl) (by (conv=>lhs;whnf);try rfl) ?_ | refine Zn rfl rfl ?_ | refine Za rfl rfl rfl (by rfl) (by decide) (by (conv=>lhs;whnf);try rfl) ?_ | refine Zf rfl rfl rfl ?_ | refine ZQ rfl rfl ?_ | refine ZB rfl rfl (by (conv=>lhs;whnf);try rfl) ?_ | refine g_field rfl rfl rfl ?_ | refine Zo ?_ | refine Zp (by kernel_rfl) ?_ | refine Zr ?_ | refine Zb ?_ | refine Zh ?_ | refine Zj ?_ | refine Zs ?_ | refine Zk ?_ | refine Zq ?_ | refine Zt ?_ | refine ZC ?_ | refine Zg ?_ | refine Zu ?_ | refine ZD ?_)
 by_cases h0:at_=0
 ·rw [if_pos h0] at h
  obtain ⟨s,hs,h⟩:=Option.bind_eq_some_iff.1 h
  obtain ⟨e',he',h⟩:=Option.map_eq_some_iff.1 h
  injection h with q1 q2
  subst q1 q2
  rw [show decide ((at_:Int)=0)=true from decide_eq_true (by omega)]
  repeat (first | (refine ZV rfl rfl ?_) | (refine ZeV (Zc3 _ _ _ hs) rfl rfl ?_) | (refine ZY [] νb (ZbP e r s (Zay hf).1 (Zay hf).2 e' he') rfl rfl rfl rfl rfl rfl ?_) | refine ZA rfl (by (conv=>lhs;whnf);try rfl) ?_ | refine Zx rfl rfl rfl ?_ | refine Zc rfl rfl ?_ | refine Zi rfl (by (conv=>lhs;whnf);try rfl) ?_ | refine ZM rfl rfl (by omega) ?_ | refine ZL rfl rfl rfl (by omega) (by omega) ?_ | refine ZI rfl rfl rfl (by omega) ?_ | refine ZK rfl rfl rfl (by omega) (by omega) ?_ | refine ZN rfl rfl rfl rfl (by (conv=>lhs;whnf);try rfl) ?_ | refine ZP rfl rfl rfl rfl (by (conv=>lhs;whnf);try rfl) ?_ | refine ZR rfl rfl ?_ | refine Zd rfl rfl ?_ | refine Zz rfl rfl ?_ | refine g_bits rfl rfl rfl rfl ?_ | refine ZS rfl rfl rfl (by decide) ?_ | refine g_rem rfl rfl rfl (by first | decide | omega) ?_ | refine ZU rfl rfl ?_ | refine Zv Tryz.underlying9 rfl rfl ?_ | refine ZT rfl (by (conv=>lhs;whnf);try rfl) (by (conv=>lhs;whnf);try rfl) (by rfl) ?_ | refine Zl rfl rfl ?_ | refine Zm rfl rfl rfl (by (conv=>lhs;whnf);try rfl) (by (conv=>lhs;whnf);try rfl) (by rfl) (by rfl) (Nat.le_of_ble_eq_true rfl) (by (conv=>lhs;whnf);try rfl) ?_ | refine Zn rfl rfl ?_ | refine Za rfl rfl rfl (by rfl) (by decide) (by (conv=>lhs;whnf);try rfl) ?_ | refine Zf rfl rfl rfl ?_ | refine ZQ rfl rfl ?_ | refine ZB rfl rfl (by (conv=>lhs;whnf);try rfl) ?_ | refine g_field rfl rfl rfl ?_ | refine Zo ?_ | refine Zp (by kernel_rfl) ?_ | refine Zr ?_ | refine Zb ?_ | refine Zh ?_ | refine Zj ?_ | refine Zs ?_ | refine Zk ?_ | refine Zq ?_ | refine Zt ?_ | refine ZC ?_ | refine Zg ?_ | refine Zu ?_ | refine ZD ?_)
  exact Zbr (.inr rfl) (νc 5 3) [] [] rfl rfl trivial rfl rfl
 rw [if_neg h0] at h
 obtain ⟨⟨e1,r1⟩,hfl,h⟩:=Option.bind_eq_some_iff.1 h
 have hf1:=ZeS hf hfl
 rw [show decide ((at_:Int)=0)=false from decide_eq_false (by omega)]
 repeat (first | (refine Zw rfl rfl ?_) | (refine ZbC (α:=Unit) (c:=.block 2 _) (fun _ _=>mkS [(0,.ptr 0 (0,0) 0),(1,.int .i64 c)] (somes (stP νb e1 r1)) 2) (fun _=>True) ?_ (fun a _ _=>?_)) | refine ZA rfl (by (conv=>lhs;whnf);try rfl) ?_ | refine Zx rfl rfl rfl ?_ | refine Zc rfl rfl ?_ | refine Zi rfl (by (conv=>lhs;whnf);try rfl) ?_ | refine ZM rfl rfl (by omega) ?_ | refine ZL rfl rfl rfl (by omega) (by omega) ?_ | refine ZI rfl rfl rfl (by omega) ?_ | refine ZK rfl rfl rfl (by omega) (by omega) ?_ | refine ZN rfl rfl rfl rfl (by (conv=>lhs;whnf);try rfl) ?_ | refine ZP rfl rfl rfl rfl (by (conv=>lhs;whnf);try rfl) ?_ | refine ZR rfl rfl ?_ | refine Zd rfl rfl ?_ | refine Zz rfl rfl ?_ | refine g_bits rfl rfl rfl rfl ?_ | refine ZS rfl rfl rfl (by decide) ?_ | refine g_rem rfl rfl rfl (by first | decide | omega) ?_ | refine ZU rfl rfl ?_ | refine Zv Tryz.underlying9 rfl rfl ?_ | refine ZT rfl (by (conv=>lhs;whnf);try rfl) (by (conv=>lhs;whnf);try rfl) (by rfl) ?_ | refine Zl rfl rfl ?_ | refine Zm rfl rfl rfl (by (conv=>lhs;whnf);try rfl) (by (conv=>lhs;whnf);try rfl) (by rfl) (by rfl) (Nat.le_of_ble_eq_true rfl) (by (conv=>lhs;whnf);try rfl) ?_ | refine Zn rfl rfl ?_ | refine Za rfl rfl rfl (by rfl) (by decide) (by (conv=>lhs;whnf);try rfl) ?_ | refine Zf rfl rfl rfl ?_ | refine ZQ rfl rfl ?_ | refine ZB rfl rfl (by (conv=>lhs;whnf);try rfl) ?_ | refine g_field rfl rfl rfl ?_ | refine Zo ?_ | refine Zp (by kernel_rfl) ?_ | refine Zr ?_ | refine Zb ?_ | refine Zh ?_ | refine Zj ?_ | refine Zs ?_ | refine Zk ?_ | refine Zq ?_ | refine Zt ?_ | refine ZC ?_ | refine Zg ?_ | refine Zu ?_ | refine ZD ?_)
 ·refine Zac (fun (a:El×List El) _=>mkS [(0,.ptr 0 (0,0) 0),(1,.int .i64 c),(4,.int .i64 (at_:Int))] (somes (stP νb a.1 a.2)) 2) (fun a=>fits a.1 a.2∧at_≤a.2.length∧Zc7 (a.2.length - at_) a.1 a.2=some (e1,r1)) (fun a=>a.2.length) (e,r) 2 ⟨hf,hat,hfl⟩
   (Za7 νb [] (fun k=>(k,νb k)) (fun _ _=>rfl) rfl ⟨rfl,rfl,rfl,trivial⟩ (x:=[]) (x':=[]) rfl rfl rfl (Zal _) rfl) (fun a ng hJ=>?_)
  obtain ⟨e5,r5⟩:=a
  obtain ⟨hf5,hle,hft⟩:=hJ
  dsimp only at hf5 hle hft ⊢
  have hr5:=hf5.1
  repeat (first | (refine Zbc rfl rfl (ZbU _ _ _) ?_) | refine ZA rfl (by (conv=>lhs;whnf);try rfl) ?_ | refine Zx rfl rfl rfl ?_ | refine Zc rfl rfl ?_ | refine Zi rfl (by (conv=>lhs;whnf);try rfl) ?_ | refine ZM rfl rfl (by omega) ?_ | refine ZL rfl rfl rfl (by omega) (by omega) ?_ | refine ZI rfl rfl rfl (by omega) ?_ | refine ZK rfl rfl rfl (by omega) (by omega) ?_ | refine ZN rfl rfl rfl rfl (by (conv=>lhs;whnf);try rfl) ?_ | refine ZP rfl rfl rfl rfl (by (conv=>lhs;whnf);try rfl) ?_ | refine ZR rfl rfl ?_ | refine Zd rfl rfl ?_ | refine Zz rfl rfl ?_ | refine g_bits rfl rfl rfl rfl ?_ | refine ZS rfl rfl rfl (by decide) ?_ | refine g_rem rfl rfl rfl (by first | decide | omega) ?_ | refine ZU rfl rfl ?_ | refine Zv Tryz.underlying9 rfl rfl ?_ | refine ZT rfl (by (conv=>lhs;whnf);try rfl) (by (conv=>lhs;whnf);try rfl) (by rfl) ?_ | refine Zl rfl rfl ?_ | refine Zm rfl rfl rfl (by (conv=>lhs;whnf);try rfl) (by (conv=>lhs;whnf);try rfl) (by rfl) (by rfl) (Nat.le_of_ble_eq_true rfl) (by (conv=>lhs;whnf);try rfl) ?_ | refine Zn rfl rfl ?_ | refine Za rfl rfl rfl (by rfl) (by decide) (by (conv=>lhs;whnf);try rfl) ?_ | refine Zf rfl rfl rfl ?_ | refine ZQ rfl rfl ?_ | refine ZB rfl rfl (by (conv=>lhs;whnf);try rfl) ?_ | refine g_field rfl rfl rfl ?_ | refine Zo ?_ | refine Zp (by kernel_rfl) ?_ | refine Zr ?_ | refine Zb ?_ | refine Zh ?_ | refine Zj ?_ | refine Zs ?_ | refine Zk ?_ | refine Zq ?_ | refine Zt ?_ | refine ZC ?_ | refine Zg ?_ | refine Zu ?_ | refine ZD ?_)
  by_cases hgt:at_<r5.length
  ·rw [show decide (((at_+1:Nat):Int)<((r5.length+1:Nat):Int))=true from decide_eq_true (by omega)]
   rcases r5 with _ | ⟨e2,r2⟩
   ·simp at hgt
   simp only [List.length_cons] at hgt hle hft hr5
   rw [show r2.length+1 - at_=(r2.length - at_)+1 by omega] at hft
   obtain ⟨e7,he7,hft⟩:=Option.bind_eq_some_iff.1 hft
   repeat (first | (refine ZV rfl rfl ?_) | (refine ZY [] νb (Zh4 e5 e2 e7 r2 (by omega) (Zay (ZaQ hf5)) he7) rfl rfl rfl rfl rfl rfl ?_) | refine ZA rfl (by (conv=>lhs;whnf);try rfl) ?_ | refine Zx rfl rfl rfl ?_ | refine Zc rfl rfl ?_ | refine Zi rfl (by (conv=>lhs;whnf);try rfl) ?_ | refine ZM rfl rfl (by omega) ?_ | refine ZL rfl rfl rfl (by omega) (by omega) ?_ | refine ZI rfl rfl rfl (by omega) ?_ | refine ZK rfl rfl rfl (by omega) (by omega) ?_ | refine ZN rfl rfl rfl rfl (by (conv=>lhs;whnf);try rfl) ?_ | refine ZP rfl rfl rfl rfl (by (conv=>lhs;whnf);try rfl) ?_ | refine ZR rfl rfl ?_ | refine Zd rfl rfl ?_ | refine Zz rfl rfl ?_ | refine g_bits rfl rfl rfl rfl ?_ | refine ZS rfl rfl rfl (by decide) ?_ | refine g_rem rfl rfl rfl (by first | decide | omega) ?_ | refine ZU rfl rfl ?_ | refine Zv Tryz.underlying9 rfl rfl ?_ | refine ZT rfl (by (conv=>lhs;whnf);try rfl) (by (conv=>lhs;whnf);try rfl) (by rfl) ?_ | refine Zl rfl rfl ?_ | refine Zm rfl rfl rfl (by (conv=>lhs;whnf);try rfl) (by (conv=>lhs;whnf);try rfl) (by rfl) (by rfl) (Nat.le_of_ble_eq_true rfl) (by (conv=>lhs;whnf);try rfl) ?_ | refine Zn rfl rfl ?_ | refine Za rfl rfl rfl (by rfl) (by decide) (by (conv=>lhs;whnf);try rfl) ?_ | refine Zf rfl rfl rfl ?_ | refine ZQ rfl rfl ?_ | refine ZB rfl rfl (by (conv=>lhs;whnf);try rfl) ?_ | refine g_field rfl rfl rfl ?_ | refine Zo ?_ | refine Zp (by kernel_rfl) ?_ | refine Zr ?_ | refine Zb ?_ | refine Zh ?_ | refine Zj ?_ | refine Zs ?_ | refine Zk ?_ | refine Zq ?_ | refine Zt ?_ | refine ZC ?_ | refine Zg ?_ | refine Zu ?_ | refine ZD ?_)
   exact Zax (e7,r2) 2 ⟨Zdg hf5 he7,by dsimp only;omega,hft⟩ (by dsimp only;simp) (Za7 (νc 3 1) [] (fun k=>(k,νc 3 1 k)) (fun _ _=>rfl) rfl ⟨rfl,rfl,rfl,trivial⟩ (x:=[]) (x':=[]) rfl rfl rfl (Zal _) rfl)
  ·rw [show decide (((at_+1:Nat):Int)<((r5.length+1:Nat):Int))=false from decide_eq_false (by omega)]
   rw [show r5.length - at_=0 by omega] at hft
   injection hft with hft
   injection hft with q1 q2
   subst q1 q2
   repeat (first | (refine Zw rfl rfl ?_) | refine ZA rfl (by (conv=>lhs;whnf);try rfl) ?_ | refine Zx rfl rfl rfl ?_ | refine Zc rfl rfl ?_ | refine Zi rfl (by (conv=>lhs;whnf);try rfl) ?_ | refine ZM rfl rfl (by omega) ?_ | refine ZL rfl rfl rfl (by omega) (by omega) ?_ | refine ZI rfl rfl rfl (by omega) ?_ | refine ZK rfl rfl rfl (by omega) (by omega) ?_ | refine ZN rfl rfl rfl rfl (by (conv=>lhs;whnf);try rfl) ?_ | refine ZP rfl rfl rfl rfl (by (conv=>lhs;whnf);try rfl) ?_ | refine ZR rfl rfl ?_ | refine Zd rfl rfl ?_ | refine Zz rfl rfl ?_ | refine g_bits rfl rfl rfl rfl ?_ | refine ZS rfl rfl rfl (by decide) ?_ | refine g_rem rfl rfl rfl (by first | decide | omega) ?_ | refine ZU rfl rfl ?_ | refine Zv Tryz.underlying9 rfl rfl ?_ | refine ZT rfl (by (conv=>lhs;whnf);try rfl) (by (conv=>lhs;whnf);try rfl) (by rfl) ?_ | refine Zl rfl rfl ?_ | refine Zm rfl rfl rfl (by (conv=>lhs;whnf);try rfl) (by (conv=>lhs;whnf);try rfl) (by rfl) (by rfl) (Nat.le_of_ble_eq_true rfl) (by (conv=>lhs;whnf);try rfl) ?_ | refine Zn rfl rfl ?_ | refine Za rfl rfl rfl (by rfl) (by decide) (by (conv=>lhs;whnf);try rfl) ?_ | refine Zf rfl rfl rfl ?_ | refine ZQ rfl rfl ?_ | refine ZB rfl rfl (by (conv=>lhs;whnf);try rfl) ?_ | refine g_field rfl rfl rfl ?_ | refine Zo ?_ | refine Zp (by kernel_rfl) ?_ | refine Zr ?_ | refine Zb ?_ | refine Zh ?_ | refine Zj ?_ | refine Zs ?_ | refine Zk ?_ | refine Zq ?_ | refine Zt ?_ | refine ZC ?_ | refine Zg ?_ | refine Zu ?_ | refine ZD ?_)
   exact ZcW () 2 trivial (Za7 νb [] (fun k=>(k,νb k)) (fun _ _=>rfl) rfl ⟨rfl,rfl,trivial⟩ (x:=[]) (x':=[]) rfl rfl rfl (Zal _) rfl)
 ·split at h
  rotate_left
  ·cases h
  rename_i hb
  obtain ⟨hb1,hb2,hb3⟩:=hb
  clear hfl hat hlb h0 hf hr
  obtain ⟨kind,tag,count,list,args⟩:=e1
  dsimp only at hb2 hb3 h
  have hr1:=hf1.1
  repeat (first | (refine Zad [] νb (Zb8 _ r1 (by omega)) rfl rfl rfl rfl rfl rfl ?_) | refine ZA rfl (by (conv=>lhs;whnf);try rfl) ?_ | refine Zx rfl rfl rfl ?_ | refine Zc rfl rfl ?_ | refine Zi rfl (by (conv=>lhs;whnf);try rfl) ?_ | refine ZM rfl rfl (by omega) ?_ | refine ZL rfl rfl rfl (by omega) (by omega) ?_ | refine ZI rfl rfl rfl (by omega) ?_ | refine ZK rfl rfl rfl (by omega) (by omega) ?_ | refine ZN rfl rfl rfl rfl (by (conv=>lhs;whnf);try rfl) ?_ | refine ZP rfl rfl rfl rfl (by (conv=>lhs;whnf);try rfl) ?_ | refine ZR rfl rfl ?_ | refine Zd rfl rfl ?_ | refine Zz rfl rfl ?_ | refine g_bits rfl rfl rfl rfl ?_ | refine ZS rfl rfl rfl (by decide) ?_ | refine g_rem rfl rfl rfl (by first | decide | omega) ?_ | refine ZU rfl rfl ?_ | refine Zv Tryz.underlying9 rfl rfl ?_ | refine ZT rfl (by (conv=>lhs;whnf);try rfl) (by (conv=>lhs;whnf);try rfl) (by rfl) ?_ | refine Zl rfl rfl ?_ | refine Zm rfl rfl rfl (by (conv=>lhs;whnf);try rfl) (by (conv=>lhs;whnf);try rfl) (by rfl) (by rfl) (Nat.le_of_ble_eq_true rfl) (by (conv=>lhs;whnf);try rfl) ?_ | refine Zn rfl rfl ?_ | refine Za rfl rfl rfl (by rfl) (by decide) (by (conv=>lhs;whnf);try rfl) ?_ | refine Zf rfl rfl rfl ?_ | refine ZQ rfl rfl ?_ | refine ZB rfl rfl (by (conv=>lhs;whnf);try rfl) ?_ | refine g_field rfl rfl rfl ?_ | refine Zo ?_ | refine Zp (by kernel_rfl) ?_ | refine Zr ?_ | refine Zb ?_ | refine Zh ?_ | refine Zj ?_ | refine Zs ?_ | refine Zk ?_ | refine Zq ?_ | refine Zt ?_ | refine ZC ?_ | refine Zg ?_ | refine Zu ?_ | refine ZD ?_)
  by_cases hk1:3≤c
  ·by_cases hk2:3≤count
   ·have hK:ZbI c count=3:=if_pos ⟨hk1,hk2⟩
    have hN:Zc2 c ⟨kind,tag,count,list,args⟩=⟨5,0,⟨#[]⟩,list,(El.argL ⟨kind,tag,count,list,args⟩).map Arg.cs⟩:=by unfold Zc2;rw [if_pos ⟨hk1,hk2⟩]
    rw [hK,hN] at h
    rw [decide_eq_true hk1]
    repeat (first | refine ZA rfl (by (conv=>lhs;whnf);try rfl) ?_ | refine Zx rfl rfl rfl ?_ | refine Zc rfl rfl ?_ | refine Zi rfl (by (conv=>lhs;whnf);try rfl) ?_ | refine ZM rfl rfl (by omega) ?_ | refine ZL rfl rfl rfl (by omega) (by omega) ?_ | refine ZI rfl rfl rfl (by omega) ?_ | refine ZK rfl rfl rfl (by omega) (by omega) ?_ | refine ZN rfl rfl rfl rfl (by (conv=>lhs;whnf);try rfl) ?_ | refine ZP rfl rfl rfl rfl (by (conv=>lhs;whnf);try rfl) ?_ | refine ZR rfl rfl ?_ | refine Zd rfl rfl ?_ | refine Zz rfl rfl ?_ | refine g_bits rfl rfl rfl rfl ?_ | refine ZS rfl rfl rfl (by decide) ?_ | refine g_rem rfl rfl rfl (by first | decide | omega) ?_ | refine ZU rfl rfl ?_ | refine Zv Tryz.underlying9 rfl rfl ?_ | refine ZT rfl (by (conv=>lhs;whnf);try rfl) (by (conv=>lhs;whnf);try rfl) (by rfl) ?_ | refine Zl rfl rfl ?_ | refine Zm rfl rfl rfl (by (conv=>lhs;whnf);try rfl) (by (conv=>lhs;whnf);try rfl) (by rfl) (by rfl) (Nat.le_of_ble_eq_true rfl) (by (conv=>lhs;whnf);try rfl) ?_ | refine Zn rfl rfl ?_ | refine Za rfl rfl rfl (by rfl) (by decide) (by (conv=>lhs;whnf);try rfl) ?_ | refine Zf rfl rfl rfl ?_ | refine ZQ rfl rfl ?_ | refine ZB rfl rfl (by (conv=>lhs;whnf);try rfl) ?_ | refine g_field rfl rfl rfl ?_ | refine Zo ?_ | refine Zp (by kernel_rfl) ?_ | refine Zr ?_ | refine Zb ?_ | refine Zh ?_ | refine Zj ?_ | refine Zs ?_ | refine Zk ?_ | refine Zq ?_ | refine Zt ?_ | refine ZC ?_ | refine Zg ?_ | refine Zu ?_ | refine ZD ?_)
    rw [decide_eq_true hk2]
    repeat (first | (refine ZV rfl rfl ?_) | (refine ZK (a:=c) (b:=3) rfl rfl rfl (by omega) (by omega) ?_) | (refine ZK (a:=count) (b:=3) rfl rfl rfl (by omega) (by omega) ?_) | refine ZA rfl (by (conv=>lhs;whnf);try rfl) ?_ | refine Zx rfl rfl rfl ?_ | refine Zc rfl rfl ?_ | refine Zi rfl (by (conv=>lhs;whnf);try rfl) ?_ | refine ZM rfl rfl (by omega) ?_ | refine ZL rfl rfl rfl (by omega) (by omega) ?_ | refine ZI rfl rfl rfl (by omega) ?_ | refine ZK rfl rfl rfl (by omega) (by omega) ?_ | refine ZN rfl rfl rfl rfl (by (conv=>lhs;whnf);try rfl) ?_ | refine ZP rfl rfl rfl rfl (by (conv=>lhs;whnf);try rfl) ?_ | refine ZR rfl rfl ?_ | refine Zd rfl rfl ?_ | refine Zz rfl rfl ?_ | refine g_bits rfl rfl rfl rfl ?_ | refine ZS rfl rfl rfl (by decide) ?_ | refine g_rem rfl rfl rfl (by first | decide | omega) ?_ | refine ZU rfl rfl ?_ | refine Zv Tryz.underlying9 rfl rfl ?_ | refine ZT rfl (by (conv=>lhs;whnf);try rfl) (by (conv=>lhs;whnf);try rfl) (by rfl) ?_ | refine Zl rfl rfl ?_ | refine Zm rfl rfl rfl (by (conv=>lhs;whnf);try rfl) (by (conv=>lhs;whnf);try rfl) (by rfl) (by rfl) (Nat.le_of_ble_eq_true rfl) (by (conv=>lhs;whnf);try rfl) ?_ | refine Zn rfl rfl ?_ | refine Za rfl rfl rfl (by rfl) (by decide) (by (conv=>lhs;whnf);try rfl) ?_ | refine Zf rfl rfl rfl ?_ | refine ZQ rfl rfl ?_ | refine ZB rfl rfl (by (conv=>lhs;whnf);try rfl) ?_ | refine g_field rfl rfl rfl ?_ | refine Zo ?_ | refine Zp (by kernel_rfl) ?_ | refine Zr ?_ | refine Zb ?_ | refine Zh ?_ | refine Zj ?_ | refine Zs ?_ | refine Zk ?_ | refine Zq ?_ | refine Zt ?_ | refine ZC ?_ | refine Zg ?_ | refine Zu ?_ | refine ZD ?_)
    by_cases hm:2≤count - 3
    ·rw [if_pos hm] at h
     rw [decide_eq_true hm]
     refine ZV rfl rfl ?_
     have hfn:fits ⟨kind,tag,count - 3,[Node.cs ⟨5,0,⟨#[]⟩,list,(El.argL ⟨kind,tag,count,list,args⟩).map Arg.cs⟩],none⟩ r1:=Zbu hf1 ⟨⟨by omega,fun q hq=>by cases hq⟩,by show 1≤9223372036854775807;omega⟩
     rcases args with _ | ⟨pre,a⟩
     ·refine ZaF (ZdW (b:=1001) (u:=8) (by omega) rfl rfl rfl (fun e he=>absurd he List.not_mem_nil)) ?_ (List.cons_ne_nil _ _)
      repeat (first | refine ZA rfl (by (conv=>lhs;whnf);try rfl) ?_ | refine Zx rfl rfl rfl ?_ | refine Zc rfl rfl ?_ | refine Zi rfl (by (conv=>lhs;whnf);try rfl) ?_ | refine ZM rfl rfl (by omega) ?_ | refine ZL rfl rfl rfl (by omega) (by omega) ?_ | refine ZI rfl rfl rfl (by omega) ?_ | refine ZK rfl rfl rfl (by omega) (by omega) ?_ | refine ZN rfl rfl rfl rfl (by (conv=>lhs;whnf);try rfl) ?_ | refine ZP rfl rfl rfl rfl (by (conv=>lhs;whnf);try rfl) ?_ | refine ZR rfl rfl ?_ | refine Zd rfl rfl ?_ | refine Zz rfl rfl ?_ | refine g_bits rfl rfl rfl rfl ?_ | refine ZS rfl rfl rfl (by decide) ?_ | refine g_rem rfl rfl rfl (by first | decide | omega) ?_ | refine ZU rfl rfl ?_ | refine Zv Tryz.underlying9 rfl rfl ?_ | refine ZT rfl (by (conv=>lhs;whnf);try rfl) (by (conv=>lhs;whnf);try rfl) (by rfl) ?_ | refine Zl rfl rfl ?_ | refine Zm rfl rfl rfl (by (conv=>lhs;whnf);try rfl) (by (conv=>lhs;whnf);try rfl) (by rfl) (by rfl) (Nat.le_of_ble_eq_true rfl) (by (conv=>lhs;whnf);try rfl) ?_ | refine Zn rfl rfl ?_ | refine Za rfl rfl rfl (by rfl) (by decide) (by (conv=>lhs;whnf);try rfl) ?_ | refine Zf rfl rfl rfl ?_ | refine ZQ rfl rfl ?_ | refine ZB rfl rfl (by (conv=>lhs;whnf);try rfl) ?_ | refine g_field rfl rfl rfl ?_ | refine Zo ?_ | refine Zp (by kernel_rfl) ?_ | refine Zr ?_ | refine Zb ?_ | refine Zh ?_ | refine Zj ?_ | refine Zs ?_ | refine Zk ?_ | refine Zq ?_ | refine Zt ?_ | refine ZC ?_ | refine Zg ?_ | refine Zu ?_ | refine ZD ?_)
      exact Zax (f,c - 3,⟨kind,tag,count - 3,[Node.cs ⟨5,0,⟨#[]⟩,list,[]⟩],none⟩,r1) 2 ⟨hfn,h⟩ (Nat.lt_succ_self _) (Shift.trans (Zce 1001 66 4 111 3 rfl rfl rfl) (Shift.trans (Zcl (t:=66) rfl) (Zci (10,3) (11,0) 65 66 νb rfl ⟨rfl,rfl,trivial⟩ rfl rfl rfl rfl rfl rfl (ZcP (A:=[_,_,_,_,_,_,_,_,_,_,_,_,_]) rfl))))
     ·refine ZaF (Zda 1003 pre.length 2 rfl (Za9 _ _ _ _) rfl (Zdd rfl) (ZiN _ _ _ _)) ?_ (List.cons_ne_nil _ _)
      refine ZaF (ZdW (b:=1001) (u:=8) (by omega) rfl rfl rfl Ze7) ?_ (List.cons_ne_nil _ _)
      repeat (first | refine ZA rfl (by (conv=>lhs;whnf);try rfl) ?_ | refine Zx rfl rfl rfl ?_ | refine Zc rfl rfl ?_ | refine Zi rfl (by (conv=>lhs;whnf);try rfl) ?_ | refine ZM rfl rfl (by omega) ?_ | refine ZL rfl rfl rfl (by omega) (by omega) ?_ | refine ZI rfl rfl rfl (by omega) ?_ | refine ZK rfl rfl rfl (by omega) (by omega) ?_ | refine ZN rfl rfl rfl rfl (by (conv=>lhs;whnf);try rfl) ?_ | refine ZP rfl rfl rfl rfl (by (conv=>lhs;whnf);try rfl) ?_ | refine ZR rfl rfl ?_ | refine Zd rfl rfl ?_ | refine Zz rfl rfl ?_ | refine g_bits rfl rfl rfl rfl ?_ | refine ZS rfl rfl rfl (by decide) ?_ | refine g_rem rfl rfl rfl (by first | decide | omega) ?_ | refine ZU rfl rfl ?_ | refine Zv Tryz.underlying9 rfl rfl ?_ | refine ZT rfl (by (conv=>lhs;whnf);try rfl) (by (conv=>lhs;whnf);try rfl) (by rfl) ?_ | refine Zl rfl rfl ?_ | refine Zm rfl rfl rfl (by (conv=>lhs;whnf);try rfl) (by (conv=>lhs;whnf);try rfl) (by rfl) (by rfl) (Nat.le_of_ble_eq_true rfl) (by (conv=>lhs;whnf);try rfl) ?_ | refine Zn rfl rfl ?_ | refine Za rfl rfl rfl (by rfl) (by decide) (by (conv=>lhs;whnf);try rfl) ?_ | refine Zf rfl rfl rfl ?_ | refine ZQ rfl rfl ?_ | refine ZB rfl rfl (by (conv=>lhs;whnf);try rfl) ?_ | refine g_field rfl rfl rfl ?_ | refine Zo ?_ | refine Zp (by kernel_rfl) ?_ | refine Zr ?_ | refine Zb ?_ | refine Zh ?_ | refine Zj ?_ | refine Zs ?_ | refine Zk ?_ | refine Zq ?_ | refine Zt ?_ | refine ZC ?_ | refine Zg ?_ | refine Zu ?_ | refine ZD ?_)
      exact Zax (f,c - 3,⟨kind,tag,count - 3,[Node.cs ⟨5,0,⟨#[]⟩,list,(pre ++ [a]).map Arg.cs⟩],none⟩,r1) 2 ⟨hfn,h⟩ (Nat.lt_succ_self _) (Shift.trans (Zce 1001 66 4 111 3 rfl rfl rfl) (Shift.trans (Zcl (t:=66) rfl) (Zci (10,3) (11,0) 65 66 νb rfl ⟨rfl,rfl,trivial⟩ rfl rfl rfl rfl rfl rfl (ZcP (A:=[_,_,_,_,_,_,_,_,_,_,_,_,_,_,_]) rfl))))
    ·rw [if_neg hm] at h
     rcases r1 with _ | ⟨e2,r2⟩
     ·cases h
     obtain ⟨e4,he4,h⟩:=Option.bind_eq_some_iff.1 h
     have hf2:=Zay (ZaQ hf1)
     have hf4:=Zbu (ZaQ hf1) (ZhW hf2 he4)
     rw [decide_eq_false hm]
     refine Zw rfl rfl ?_
     refine ZaF (Shift.trans (ZfT (lits:=[_,_]) (m:=count - 3) rfl) (Za7 νb [_,_] (fun k=>if k=8 then (8,(6,10)) else (k,νb k)) (fun k hk=>if_neg (by omega)) rfl (tm':=[(0,.ptr 0 (0,0) 0),(1,.int .i64 (c - 3)),(5,.ptr 1001 (1,1001) 0),(8,.ptr 8 (1,8) 0)]) ⟨rfl,rfl,rfl,rfl,trivial⟩ (x:=[(8,(6,10),.box [.int .i64 5,.int .i64 0,.str ⟨#[]⟩,.row 1002 (νb 1002),.row 1003 (νb 1003)])]) (x':=[(8,νb 8,.box [.int .i64 5,.int .i64 0,.str ⟨#[]⟩,.row 1002 (νb 1002),.row 1003 (νb 1003)])]) rfl rfl rfl (ZG rfl (Zal _)) rfl)) ?_ (List.cons_ne_nil _ _)
     repeat (first | refine ZA rfl (by (conv=>lhs;whnf);try rfl) ?_ | refine Zx rfl rfl rfl ?_ | refine Zc rfl rfl ?_ | refine Zi rfl (by (conv=>lhs;whnf);try rfl) ?_ | refine ZM rfl rfl (by omega) ?_ | refine ZL rfl rfl rfl (by omega) (by omega) ?_ | refine ZI rfl rfl rfl (by omega) ?_ | refine ZK rfl rfl rfl (by omega) (by omega) ?_ | refine ZN rfl rfl rfl rfl (by (conv=>lhs;whnf);try rfl) ?_ | refine ZP rfl rfl rfl rfl (by (conv=>lhs;whnf);try rfl) ?_ | refine ZR rfl rfl ?_ | refine Zd rfl rfl ?_ | refine Zz rfl rfl ?_ | refine g_bits rfl rfl rfl rfl ?_ | refine ZS rfl rfl rfl (by decide) ?_ | refine g_rem rfl rfl rfl (by first | decide | omega) ?_ | refine ZU rfl rfl ?_ | refine Zv Tryz.underlying9 rfl rfl ?_ | refine ZT rfl (by (conv=>lhs;whnf);try rfl) (by (conv=>lhs;whnf);try rfl) (by rfl) ?_ | refine Zl rfl rfl ?_ | refine Zm rfl rfl rfl (by (conv=>lhs;whnf);try rfl) (by (conv=>lhs;whnf);try rfl) (by rfl) (by rfl) (Nat.le_of_ble_eq_true rfl) (by (conv=>lhs;whnf);try rfl) ?_ | refine Zn rfl rfl ?_ | refine Za rfl rfl rfl (by rfl) (by decide) (by (conv=>lhs;whnf);try rfl) ?_ | refine Zf rfl rfl rfl ?_ | refine ZQ rfl rfl ?_ | refine ZB rfl rfl (by (conv=>lhs;whnf);try rfl) ?_ | refine g_field rfl rfl rfl ?_ | refine Zo ?_ | refine Zp (by kernel_rfl) ?_ | refine Zr ?_ | refine Zb ?_ | refine Zh ?_ | refine Zj ?_ | refine Zs ?_ | refine Zk ?_ | refine Zq ?_ | refine Zt ?_ | refine ZC ?_ | refine Zg ?_ | refine Zu ?_ | refine ZD ?_)
     refine Zei [_] νb (ZmP ⟨kind,tag,count - 3,list,args⟩ e2 r2 (by simp at hr1;omega)) rfl rfl rfl rfl ?_
     refine Zg9 ?_
     refine ZaF (ZgS (2,1+1000000 * (1000+1)) (1,8) νb (tm':=[(0,.ptr 0 (0,0) 0),(1,.int .i64 (c - 3)),(5,.ptr 300 (1,300) 0),(8,.ptr 8 (1,8) 0)]) ⟨rfl,rfl,rfl,rfl,trivial⟩) ?_ (List.cons_ne_nil _ _)
     repeat (first | refine ZA rfl (by (conv=>lhs;whnf);try rfl) ?_ | refine Zx rfl rfl rfl ?_ | refine Zc rfl rfl ?_ | refine Zi rfl (by (conv=>lhs;whnf);try rfl) ?_ | refine ZM rfl rfl (by omega) ?_ | refine ZL rfl rfl rfl (by omega) (by omega) ?_ | refine ZI rfl rfl rfl (by omega) ?_ | refine ZK rfl rfl rfl (by omega) (by omega) ?_ | refine ZN rfl rfl rfl rfl (by (conv=>lhs;whnf);try rfl) ?_ | refine ZP rfl rfl rfl rfl (by (conv=>lhs;whnf);try rfl) ?_ | refine ZR rfl rfl ?_ | refine Zd rfl rfl ?_ | refine Zz rfl rfl ?_ | refine g_bits rfl rfl rfl rfl ?_ | refine ZS rfl rfl rfl (by decide) ?_ | refine g_rem rfl rfl rfl (by first | decide | omega) ?_ | refine ZU rfl rfl ?_ | refine Zv Tryz.underlying9 rfl rfl ?_ | refine ZT rfl (by (conv=>lhs;whnf);try rfl) (by (conv=>lhs;whnf);try rfl) (by rfl) ?_ | refine Zl rfl rfl ?_ | refine Zm rfl rfl rfl (by (conv=>lhs;whnf);try rfl) (by (conv=>lhs;whnf);try rfl) (by rfl) (by rfl) (Nat.le_of_ble_eq_true rfl) (by (conv=>lhs;whnf);try rfl) ?_ | refine Zn rfl rfl ?_ | refine Za rfl rfl rfl (by rfl) (by decide) (by (conv=>lhs;whnf);try rfl) ?_ | refine Zf rfl rfl rfl ?_ | refine ZQ rfl rfl ?_ | refine ZB rfl rfl (by (conv=>lhs;whnf);try rfl) ?_ | refine g_field rfl rfl rfl ?_ | refine Zo ?_ | refine Zp (by kernel_rfl) ?_ | refine Zr ?_ | refine Zb ?_ | refine Zh ?_ | refine Zj ?_ | refine Zs ?_ | refine Zk ?_ | refine Zq ?_ | refine Zt ?_ | refine ZC ?_ | refine Zg ?_ | refine Zu ?_ | refine ZD ?_)
     obtain ⟨e3,h3,he4⟩:=Option.bind_eq_some_iff.1 he4
     by_cases h1:count - 3=1
     ·rw [if_pos h1] at h3
      rw [decide_eq_true h1]
      have hf3:=ZaA hf2 h3
      repeat (first | (refine ZV rfl rfl ?_) | (refine ZY [_,_] νb (ZbP e2 r2 _ hf2.1 hf2.2 e3 h3) rfl rfl rfl rfl rfl rfl ?_) | (refine ZY [_,_] (νc _ _) (Zgd e3 r2 _ hf3.1 e4 he4) rfl rfl rfl rfl rfl rfl ?_) | refine ZA rfl (by (conv=>lhs;whnf);try rfl) ?_ | refine Zx rfl rfl rfl ?_ | refine Zc rfl rfl ?_ | refine Zi rfl (by (conv=>lhs;whnf);try rfl) ?_ | refine ZM rfl rfl (by omega) ?_ | refine ZL rfl rfl rfl (by omega) (by omega) ?_ | refine ZI rfl rfl rfl (by omega) ?_ | refine ZK rfl rfl rfl (by omega) (by omega) ?_ | refine ZN rfl rfl rfl rfl (by (conv=>lhs;whnf);try rfl) ?_ | refine ZP rfl rfl rfl rfl (by (conv=>lhs;whnf);try rfl) ?_ | refine ZR rfl rfl ?_ | refine Zd rfl rfl ?_ | refine Zz rfl rfl ?_ | refine g_bits rfl rfl rfl rfl ?_ | refine ZS rfl rfl rfl (by decide) ?_ | refine g_rem rfl rfl rfl (by first | decide | omega) ?_ | refine ZU rfl rfl ?_ | refine Zv Tryz.underlying9 rfl rfl ?_ | refine ZT rfl (by (conv=>lhs;whnf);try rfl) (by (conv=>lhs;whnf);try rfl) (by rfl) ?_ | refine Zl rfl rfl ?_ | refine Zm rfl rfl rfl (by (conv=>lhs;whnf);try rfl) (by (conv=>lhs;whnf);try rfl) (by rfl) (by rfl) (Nat.le_of_ble_eq_true rfl) (by (conv=>lhs;whnf);try rfl) ?_ | refine Zn rfl rfl ?_ | refine Za rfl rfl rfl (by rfl) (by decide) (by (conv=>lhs;whnf);try rfl) ?_ | refine Zf rfl rfl rfl ?_ | refine ZQ rfl rfl ?_ | refine ZB rfl rfl (by (conv=>lhs;whnf);try rfl) ?_ | refine g_field rfl rfl rfl ?_ | refine Zo ?_ | refine Zp (by kernel_rfl) ?_ | refine Zr ?_ | refine Zb ?_ | refine Zh ?_ | refine Zj ?_ | refine Zs ?_ | refine Zk ?_ | refine Zq ?_ | refine Zt ?_ | refine ZC ?_ | refine Zg ?_ | refine Zu ?_ | refine ZD ?_)
      exact Zax (f,c - 3,e4,r2) 2 ⟨hf4,h⟩ (Nat.lt_succ_self _) (Za7 (νc 4 2) [_,_] (fun k=>(k,νc 4 2 k)) (fun _ _=>rfl) rfl ⟨rfl,rfl,trivial⟩ (x:=[]) (x':=[]) rfl rfl rfl (Zal _) rfl)
     ·rw [if_neg h1] at h3
      injection h3 with h3
      subst h3
      rw [decide_eq_false h1]
      repeat (first | (refine Zw rfl rfl ?_) | (refine ZY [_,_] νb (Zgd e2 r2 _ hf2.1 e4 he4) rfl rfl rfl rfl rfl rfl ?_) | refine ZA rfl (by (conv=>lhs;whnf);try rfl) ?_ | refine Zx rfl rfl rfl ?_ | refine Zc rfl rfl ?_ | refine Zi rfl (by (conv=>lhs;whnf);try rfl) ?_ | refine ZM rfl rfl (by omega) ?_ | refine ZL rfl rfl rfl (by omega) (by omega) ?_ | refine ZI rfl rfl rfl (by omega) ?_ | refine ZK rfl rfl rfl (by omega) (by omega) ?_ | refine ZN rfl rfl rfl rfl (by (conv=>lhs;whnf);try rfl) ?_ | refine ZP rfl rfl rfl rfl (by (conv=>lhs;whnf);try rfl) ?_ | refine ZR rfl rfl ?_ | refine Zd rfl rfl ?_ | refine Zz rfl rfl ?_ | refine g_bits rfl rfl rfl rfl ?_ | refine ZS rfl rfl rfl (by decide) ?_ | refine g_rem rfl rfl rfl (by first | decide | omega) ?_ | refine ZU rfl rfl ?_ | refine Zv Tryz.underlying9 rfl rfl ?_ | refine ZT rfl (by (conv=>lhs;whnf);try rfl) (by (conv=>lhs;whnf);try rfl) (by rfl) ?_ | refine Zl rfl rfl ?_ | refine Zm rfl rfl rfl (by (conv=>lhs;whnf);try rfl) (by (conv=>lhs;whnf);try rfl) (by rfl) (by rfl) (Nat.le_of_ble_eq_true rfl) (by (conv=>lhs;whnf);try rfl) ?_ | refine Zn rfl rfl ?_ | refine Za rfl rfl rfl (by rfl) (by decide) (by (conv=>lhs;whnf);try rfl) ?_ | refine Zf rfl rfl rfl ?_ | refine ZQ rfl rfl ?_ | refine ZB rfl rfl (by (conv=>lhs;whnf);try rfl) ?_ | refine g_field rfl rfl rfl ?_ | refine Zo ?_ | refine Zp (by kernel_rfl) ?_ | refine Zr ?_ | refine Zb ?_ | refine Zh ?_ | refine Zj ?_ | refine Zs ?_ | refine Zk ?_ | refine Zq ?_ | refine Zt ?_ | refine ZC ?_ | refine Zg ?_ | refine Zu ?_ | refine ZD ?_)
      exact Zax (f,c - 3,e4,r2) 2 ⟨hf4,h⟩ (Nat.lt_succ_self _) (Za7 (νc 3 2) [_,_] (fun k=>(k,νc 3 2 k)) (fun _ _=>rfl) rfl ⟨rfl,rfl,trivial⟩ (x:=[]) (x':=[]) rfl rfl rfl (Zal _) rfl)
   ·have hK:ZbI c count=2:=if_neg (fun h=>hk2 h.2)
    have hN:Zc2 c ⟨kind,tag,count,list,args⟩=⟨4,0,⟨#[]⟩,list,(El.argL ⟨kind,tag,count,list,args⟩).map Arg.cs⟩:=by unfold Zc2;rw [if_neg (fun h=>hk2 h.2)]
    rw [hK,hN] at h
    rw [decide_eq_true hk1]
    repeat (first | refine ZA rfl (by (conv=>lhs;whnf);try rfl) ?_ | refine Zx rfl rfl rfl ?_ | refine Zc rfl rfl ?_ | refine Zi rfl (by (conv=>lhs;whnf);try rfl) ?_ | refine ZM rfl rfl (by omega) ?_ | refine ZL rfl rfl rfl (by omega) (by omega) ?_ | refine ZI rfl rfl rfl (by omega) ?_ | refine ZK rfl rfl rfl (by omega) (by omega) ?_ | refine ZN rfl rfl rfl rfl (by (conv=>lhs;whnf);try rfl) ?_ | refine ZP rfl rfl rfl rfl (by (conv=>lhs;whnf);try rfl) ?_ | refine ZR rfl rfl ?_ | refine Zd rfl rfl ?_ | refine Zz rfl rfl ?_ | refine g_bits rfl rfl rfl rfl ?_ | refine ZS rfl rfl rfl (by decide) ?_ | refine g_rem rfl rfl rfl (by first | decide | omega) ?_ | refine ZU rfl rfl ?_ | refine Zv Tryz.underlying9 rfl rfl ?_ | refine ZT rfl (by (conv=>lhs;whnf);try rfl) (by (conv=>lhs;whnf);try rfl) (by rfl) ?_ | refine Zl rfl rfl ?_ | refine Zm rfl rfl rfl (by (conv=>lhs;whnf);try rfl) (by (conv=>lhs;whnf);try rfl) (by rfl) (by rfl) (Nat.le_of_ble_eq_true rfl) (by (conv=>lhs;whnf);try rfl) ?_ | refine Zn rfl rfl ?_ | refine Za rfl rfl rfl (by rfl) (by decide) (by (conv=>lhs;whnf);try rfl) ?_ | refine Zf rfl rfl rfl ?_ | refine ZQ rfl rfl ?_ | refine ZB rfl rfl (by (conv=>lhs;whnf);try rfl) ?_ | refine g_field rfl rfl rfl ?_ | refine Zo ?_ | refine Zp (by kernel_rfl) ?_ | refine Zr ?_ | refine Zb ?_ | refine Zh ?_ | refine Zj ?_ | refine Zs ?_ | refine Zk ?_ | refine Zq ?_ | refine Zt ?_ | refine ZC ?_ | refine Zg ?_ | refine Zu ?_ | refine ZD ?_)
    rw [decide_eq_false hk2]
    repeat (first | (refine Zw rfl rfl ?_) | (refine ZK (a:=c) (b:=2) rfl rfl rfl (by omega) (by omega) ?_) | (refine ZK (a:=count) (b:=2) rfl rfl rfl (by omega) (by omega) ?_) | refine ZA rfl (by (conv=>lhs;whnf);try rfl) ?_ | refine Zx rfl rfl rfl ?_ | refine Zc rfl rfl ?_ | refine Zi rfl (by (conv=>lhs;whnf);try rfl) ?_ | refine ZM rfl rfl (by omega) ?_ | refine ZL rfl rfl rfl (by omega) (by omega) ?_ | refine ZI rfl rfl rfl (by omega) ?_ | refine ZK rfl rfl rfl (by omega) (by omega) ?_ | refine ZN rfl rfl rfl rfl (by (conv=>lhs;whnf);try rfl) ?_ | refine ZP rfl rfl rfl rfl (by (conv=>lhs;whnf);try rfl) ?_ | refine ZR rfl rfl ?_ | refine Zd rfl rfl ?_ | refine Zz rfl rfl ?_ | refine g_bits rfl rfl rfl rfl ?_ | refine ZS rfl rfl rfl (by decide) ?_ | refine g_rem rfl rfl rfl (by first | decide | omega) ?_ | refine ZU rfl rfl ?_ | refine Zv Tryz.underlying9 rfl rfl ?_ | refine ZT rfl (by (conv=>lhs;whnf);try rfl) (by (conv=>lhs;whnf);try rfl) (by rfl) ?_ | refine Zl rfl rfl ?_ | refine Zm rfl rfl rfl (by (conv=>lhs;whnf);try rfl) (by (conv=>lhs;whnf);try rfl) (by rfl) (by rfl) (Nat.le_of_ble_eq_true rfl) (by (conv=>lhs;whnf);try rfl) ?_ | refine Zn rfl rfl ?_ | refine Za rfl rfl rfl (by rfl) (by decide) (by (conv=>lhs;whnf);try rfl) ?_ | refine Zf rfl rfl rfl ?_ | refine ZQ rfl rfl ?_ | refine ZB rfl rfl (by (conv=>lhs;whnf);try rfl) ?_ | refine g_field rfl rfl rfl ?_ | refine Zo ?_ | refine Zp (by kernel_rfl) ?_ | refine Zr ?_ | refine Zb ?_ | refine Zh ?_ | refine Zj ?_ | refine Zs ?_ | refine Zk ?_ | refine Zq ?_ | refine Zt ?_ | refine ZC ?_ | refine Zg ?_ | refine Zu ?_ | refine ZD ?_)
    by_cases hm:2≤count - 2
    ·rw [if_pos hm] at h
     rw [decide_eq_true hm]
     refine ZV rfl rfl ?_
     have hfn:fits ⟨kind,tag,count - 2,[Node.cs ⟨4,0,⟨#[]⟩,list,(El.argL ⟨kind,tag,count,list,args⟩).map Arg.cs⟩],none⟩ r1:=Zbu hf1 ⟨⟨by omega,fun q hq=>by cases hq⟩,by show 1≤9223372036854775807;omega⟩
     rcases args with _ | ⟨pre,a⟩
     ·refine ZaF (ZdW (b:=1001) (u:=8) (by omega) rfl rfl rfl (fun e he=>absurd he List.not_mem_nil)) ?_ (List.cons_ne_nil _ _)
      repeat (first | refine ZA rfl (by (conv=>lhs;whnf);try rfl) ?_ | refine Zx rfl rfl rfl ?_ | refine Zc rfl rfl ?_ | refine Zi rfl (by (conv=>lhs;whnf);try rfl) ?_ | refine ZM rfl rfl (by omega) ?_ | refine ZL rfl rfl rfl (by omega) (by omega) ?_ | refine ZI rfl rfl rfl (by omega) ?_ | refine ZK rfl rfl rfl (by omega) (by omega) ?_ | refine ZN rfl rfl rfl rfl (by (conv=>lhs;whnf);try rfl) ?_ | refine ZP rfl rfl rfl rfl (by (conv=>lhs;whnf);try rfl) ?_ | refine ZR rfl rfl ?_ | refine Zd rfl rfl ?_ | refine Zz rfl rfl ?_ | refine g_bits rfl rfl rfl rfl ?_ | refine ZS rfl rfl rfl (by decide) ?_ | refine g_rem rfl rfl rfl (by first | decide | omega) ?_ | refine ZU rfl rfl ?_ | refine Zv Tryz.underlying9 rfl rfl ?_ | refine ZT rfl (by (conv=>lhs;whnf);try rfl) (by (conv=>lhs;whnf);try rfl) (by rfl) ?_ | refine Zl rfl rfl ?_ | refine Zm rfl rfl rfl (by (conv=>lhs;whnf);try rfl) (by (conv=>lhs;whnf);try rfl) (by rfl) (by rfl) (Nat.le_of_ble_eq_true rfl) (by (conv=>lhs;whnf);try rfl) ?_ | refine Zn rfl rfl ?_ | refine Za rfl rfl rfl (by rfl) (by decide) (by (conv=>lhs;whnf);try rfl) ?_ | refine Zf rfl rfl rfl ?_ | refine ZQ rfl rfl ?_ | refine ZB rfl rfl (by (conv=>lhs;whnf);try rfl) ?_ | refine g_field rfl rfl rfl ?_ | refine Zo ?_ | refine Zp (by kernel_rfl) ?_ | refine Zr ?_ | refine Zb ?_ | refine Zh ?_ | refine Zj ?_ | refine Zs ?_ | refine Zk ?_ | refine Zq ?_ | refine Zt ?_ | refine ZC ?_ | refine Zg ?_ | refine Zu ?_ | refine ZD ?_)
      exact Zax (f,c - 2,⟨kind,tag,count - 2,[Node.cs ⟨4,0,⟨#[]⟩,list,[]⟩],none⟩,r1) 2 ⟨hfn,h⟩ (Nat.lt_succ_self _) (Shift.trans (Zce 1001 66 4 111 3 rfl rfl rfl) (Shift.trans (Zcl (t:=66) rfl) (Zci (9,3) (10,0) 65 66 νb rfl ⟨rfl,rfl,trivial⟩ rfl rfl rfl rfl rfl rfl (ZcP (A:=[_,_,_,_,_,_,_,_,_,_,_,_,_]) rfl))))
     ·refine ZaF (Zda 1003 pre.length 2 rfl (Za9 _ _ _ _) rfl (Zdd rfl) (ZiN _ _ _ _)) ?_ (List.cons_ne_nil _ _)
      refine ZaF (ZdW (b:=1001) (u:=8) (by omega) rfl rfl rfl Ze7) ?_ (List.cons_ne_nil _ _)
      repeat (first | refine ZA rfl (by (conv=>lhs;whnf);try rfl) ?_ | refine Zx rfl rfl rfl ?_ | refine Zc rfl rfl ?_ | refine Zi rfl (by (conv=>lhs;whnf);try rfl) ?_ | refine ZM rfl rfl (by omega) ?_ | refine ZL rfl rfl rfl (by omega) (by omega) ?_ | refine ZI rfl rfl rfl (by omega) ?_ | refine ZK rfl rfl rfl (by omega) (by omega) ?_ | refine ZN rfl rfl rfl rfl (by (conv=>lhs;whnf);try rfl) ?_ | refine ZP rfl rfl rfl rfl (by (conv=>lhs;whnf);try rfl) ?_ | refine ZR rfl rfl ?_ | refine Zd rfl rfl ?_ | refine Zz rfl rfl ?_ | refine g_bits rfl rfl rfl rfl ?_ | refine ZS rfl rfl rfl (by decide) ?_ | refine g_rem rfl rfl rfl (by first | decide | omega) ?_ | refine ZU rfl rfl ?_ | refine Zv Tryz.underlying9 rfl rfl ?_ | refine ZT rfl (by (conv=>lhs;whnf);try rfl) (by (conv=>lhs;whnf);try rfl) (by rfl) ?_ | refine Zl rfl rfl ?_ | refine Zm rfl rfl rfl (by (conv=>lhs;whnf);try rfl) (by (conv=>lhs;whnf);try rfl) (by rfl) (by rfl) (Nat.le_of_ble_eq_true rfl) (by (conv=>lhs;whnf);try rfl) ?_ | refine Zn rfl rfl ?_ | refine Za rfl rfl rfl (by rfl) (by decide) (by (conv=>lhs;whnf);try rfl) ?_ | refine Zf rfl rfl rfl ?_ | refine ZQ rfl rfl ?_ | refine ZB rfl rfl (by (conv=>lhs;whnf);try rfl) ?_ | refine g_field rfl rfl rfl ?_ | refine Zo ?_ | refine Zp (by kernel_rfl) ?_ | refine Zr ?_ | refine Zb ?_ | refine Zh ?_ | refine Zj ?_ | refine Zs ?_ | refine Zk ?_ | refine Zq ?_ | refine Zt ?_ | refine ZC ?_ | refine Zg ?_ | refine Zu ?_ | refine ZD ?_)
      exact Zax (f,c - 2,⟨kind,tag,count - 2,[Node.cs ⟨4,0,⟨#[]⟩,list,(pre ++ [a]).map Arg.cs⟩],none⟩,r1) 2 ⟨hfn,h⟩ (Nat.lt_succ_self _) (Shift.trans (Zce 1001 66 4 111 3 rfl rfl rfl) (Shift.trans (Zcl (t:=66) rfl) (Zci (9,3) (10,0) 65 66 νb rfl ⟨rfl,rfl,trivial⟩ rfl rfl rfl rfl rfl rfl (ZcP (A:=[_,_,_,_,_,_,_,_,_,_,_,_,_,_,_]) rfl))))
    ·rw [if_neg hm] at h
     rcases r1 with _ | ⟨e2,r2⟩
     ·cases h
     obtain ⟨e4,he4,h⟩:=Option.bind_eq_some_iff.1 h
     have hf2:=Zay (ZaQ hf1)
     have hf4:=Zbu (ZaQ hf1) (ZhW hf2 he4)
     rw [decide_eq_false hm]
     refine Zw rfl rfl ?_
     refine ZaF (Shift.trans (ZfT (lits:=[_,_]) (m:=count - 2) rfl) (Za7 νb [_,_] (fun k=>if k=8 then (8,(5,10)) else (k,νb k)) (fun k hk=>if_neg (by omega)) rfl (tm':=[(0,.ptr 0 (0,0) 0),(1,.int .i64 (c - 2)),(5,.ptr 1001 (1,1001) 0),(8,.ptr 8 (1,8) 0)]) ⟨rfl,rfl,rfl,rfl,trivial⟩ (x:=[(8,(5,10),.box [.int .i64 4,.int .i64 0,.str ⟨#[]⟩,.row 1002 (νb 1002),.row 1003 (νb 1003)])]) (x':=[(8,νb 8,.box [.int .i64 4,.int .i64 0,.str ⟨#[]⟩,.row 1002 (νb 1002),.row 1003 (νb 1003)])]) rfl rfl rfl (ZG rfl (Zal _)) rfl)) ?_ (List.cons_ne_nil _ _)
     repeat (first | refine ZA rfl (by (conv=>lhs;whnf);try rfl) ?_ | refine Zx rfl rfl rfl ?_ | refine Zc rfl rfl ?_ | refine Zi rfl (by (conv=>lhs;whnf);try rfl) ?_ | refine ZM rfl rfl (by omega) ?_ | refine ZL rfl rfl rfl (by omega) (by omega) ?_ | refine ZI rfl rfl rfl (by omega) ?_ | refine ZK rfl rfl rfl (by omega) (by omega) ?_ | refine ZN rfl rfl rfl rfl (by (conv=>lhs;whnf);try rfl) ?_ | refine ZP rfl rfl rfl rfl (by (conv=>lhs;whnf);try rfl) ?_ | refine ZR rfl rfl ?_ | refine Zd rfl rfl ?_ | refine Zz rfl rfl ?_ | refine g_bits rfl rfl rfl rfl ?_ | refine ZS rfl rfl rfl (by decide) ?_ | refine g_rem rfl rfl rfl (by first | decide | omega) ?_ | refine ZU rfl rfl ?_ | refine Zv Tryz.underlying9 rfl rfl ?_ | refine ZT rfl (by (conv=>lhs;whnf);try rfl) (by (conv=>lhs;whnf);try rfl) (by rfl) ?_ | refine Zl rfl rfl ?_ | refine Zm rfl rfl rfl (by (conv=>lhs;whnf);try rfl) (by (conv=>lhs;whnf);try rfl) (by rfl) (by rfl) (Nat.le_of_ble_eq_true rfl) (by (conv=>lhs;whnf);try rfl) ?_ | refine Zn rfl rfl ?_ | refine Za rfl rfl rfl (by rfl) (by decide) (by (conv=>lhs;whnf);try rfl) ?_ | refine Zf rfl rfl rfl ?_ | refine ZQ rfl rfl ?_ | refine ZB rfl rfl (by (conv=>lhs;whnf);try rfl) ?_ | refine g_field rfl rfl rfl ?_ | refine Zo ?_ | refine Zp (by kernel_rfl) ?_ | refine Zr ?_ | refine Zb ?_ | refine Zh ?_ | refine Zj ?_ | refine Zs ?_ | refine Zk ?_ | refine Zq ?_ | refine Zt ?_ | refine ZC ?_ | refine Zg ?_ | refine Zu ?_ | refine ZD ?_)
     refine Zei [_] νb (ZmP ⟨kind,tag,count - 2,list,args⟩ e2 r2 (by simp at hr1;omega)) rfl rfl rfl rfl ?_
     refine Zg9 ?_
     refine ZaF (ZgS (2,1+1000000 * (1000+1)) (1,8) νb (tm':=[(0,.ptr 0 (0,0) 0),(1,.int .i64 (c - 2)),(5,.ptr 300 (1,300) 0),(8,.ptr 8 (1,8) 0)]) ⟨rfl,rfl,rfl,rfl,trivial⟩) ?_ (List.cons_ne_nil _ _)
     repeat (first | refine ZA rfl (by (conv=>lhs;whnf);try rfl) ?_ | refine Zx rfl rfl rfl ?_ | refine Zc rfl rfl ?_ | refine Zi rfl (by (conv=>lhs;whnf);try rfl) ?_ | refine ZM rfl rfl (by omega) ?_ | refine ZL rfl rfl rfl (by omega) (by omega) ?_ | refine ZI rfl rfl rfl (by omega) ?_ | refine ZK rfl rfl rfl (by omega) (by omega) ?_ | refine ZN rfl rfl rfl rfl (by (conv=>lhs;whnf);try rfl) ?_ | refine ZP rfl rfl rfl rfl (by (conv=>lhs;whnf);try rfl) ?_ | refine ZR rfl rfl ?_ | refine Zd rfl rfl ?_ | refine Zz rfl rfl ?_ | refine g_bits rfl rfl rfl rfl ?_ | refine ZS rfl rfl rfl (by decide) ?_ | refine g_rem rfl rfl rfl (by first | decide | omega) ?_ | refine ZU rfl rfl ?_ | refine Zv Tryz.underlying9 rfl rfl ?_ | refine ZT rfl (by (conv=>lhs;whnf);try rfl) (by (conv=>lhs;whnf);try rfl) (by rfl) ?_ | refine Zl rfl rfl ?_ | refine Zm rfl rfl rfl (by (conv=>lhs;whnf);try rfl) (by (conv=>lhs;whnf);try rfl) (by rfl) (by rfl) (Nat.le_of_ble_eq_true rfl) (by (conv=>lhs;whnf);try rfl) ?_ | refine Zn rfl rfl ?_ | refine Za rfl rfl rfl (by rfl) (by decide) (by (conv=>lhs;whnf);try rfl) ?_ | refine Zf rfl rfl rfl ?_ | refine ZQ rfl rfl ?_ | refine ZB rfl rfl (by (conv=>lhs;whnf);try rfl) ?_ | refine g_field rfl rfl rfl ?_ | refine Zo ?_ | refine Zp (by kernel_rfl) ?_ | refine Zr ?_ | refine Zb ?_ | refine Zh ?_ | refine Zj ?_ | refine Zs ?_ | refine Zk ?_ | refine Zq ?_ | refine Zt ?_ | refine ZC ?_ | refine Zg ?_ | refine Zu ?_ | refine ZD ?_)
     obtain ⟨e3,h3,he4⟩:=Option.bind_eq_some_iff.1 he4
     by_cases h1:count - 2=1
     ·rw [if_pos h1] at h3
      rw [decide_eq_true h1]
      have hf3:=ZaA hf2 h3
      repeat (first | (refine ZV rfl rfl ?_) | (refine ZY [_,_] νb (ZbP e2 r2 _ hf2.1 hf2.2 e3 h3) rfl rfl rfl rfl rfl rfl ?_) | (refine ZY [_,_] (νc _ _) (Zgd e3 r2 _ hf3.1 e4 he4) rfl rfl rfl rfl rfl rfl ?_) | refine ZA rfl (by (conv=>lhs;whnf);try rfl) ?_ | refine Zx rfl rfl rfl ?_ | refine Zc rfl rfl ?_ | refine Zi rfl (by (conv=>lhs;whnf);try rfl) ?_ | refine ZM rfl rfl (by omega) ?_ | refine ZL rfl rfl rfl (by omega) (by omega) ?_ | refine ZI rfl rfl rfl (by omega) ?_ | refine ZK rfl rfl rfl (by omega) (by omega) ?_ | refine ZN rfl rfl rfl rfl (by (conv=>lhs;whnf);try rfl) ?_ | refine ZP rfl rfl rfl rfl (by (conv=>lhs;whnf);try rfl) ?_ | refine ZR rfl rfl ?_ | refine Zd rfl rfl ?_ | refine Zz rfl rfl ?_ | refine g_bits rfl rfl rfl rfl ?_ | refine ZS rfl rfl rfl (by decide) ?_ | refine g_rem rfl rfl rfl (by first | decide | omega) ?_ | refine ZU rfl rfl ?_ | refine Zv Tryz.underlying9 rfl rfl ?_ | refine ZT rfl (by (conv=>lhs;whnf);try rfl) (by (conv=>lhs;whnf);try rfl) (by rfl) ?_ | refine Zl rfl rfl ?_ | refine Zm rfl rfl rfl (by (conv=>lhs;whnf);try rfl) (by (conv=>lhs;whnf);try rfl) (by rfl) (by rfl) (Nat.le_of_ble_eq_true rfl) (by (conv=>lhs;whnf);try rfl) ?_ | refine Zn rfl rfl ?_ | refine Za rfl rfl rfl (by rfl) (by decide) (by (conv=>lhs;whnf);try rfl) ?_ | refine Zf rfl rfl rfl ?_ | refine ZQ rfl rfl ?_ | refine ZB rfl rfl (by (conv=>lhs;whnf);try rfl) ?_ | refine g_field rfl rfl rfl ?_ | refine Zo ?_ | refine Zp (by kernel_rfl) ?_ | refine Zr ?_ | refine Zb ?_ | refine Zh ?_ | refine Zj ?_ | refine Zs ?_ | refine Zk ?_ | refine Zq ?_ | refine Zt ?_ | refine ZC ?_ | refine Zg ?_ | refine Zu ?_ | refine ZD ?_)
      exact Zax (f,c - 2,e4,r2) 2 ⟨hf4,h⟩ (Nat.lt_succ_self _) (Za7 (νc 4 2) [_,_] (fun k=>(k,νc 4 2 k)) (fun _ _=>rfl) rfl ⟨rfl,rfl,trivial⟩ (x:=[]) (x':=[]) rfl rfl rfl (Zal _) rfl)
     ·rw [if_neg h1] at h3
      injection h3 with h3
      subst h3
      rw [decide_eq_false h1]
      repeat (first | (refine Zw rfl rfl ?_) | (refine ZY [_,_] νb (Zgd e2 r2 _ hf2.1 e4 he4) rfl rfl rfl rfl rfl rfl ?_) | refine ZA rfl (by (conv=>lhs;whnf);try rfl) ?_ | refine Zx rfl rfl rfl ?_ | refine Zc rfl rfl ?_ | refine Zi rfl (by (conv=>lhs;whnf);try rfl) ?_ | refine ZM rfl rfl (by omega) ?_ | refine ZL rfl rfl rfl (by omega) (by omega) ?_ | refine ZI rfl rfl rfl (by omega) ?_ | refine ZK rfl rfl rfl (by omega) (by omega) ?_ | refine ZN rfl rfl rfl rfl (by (conv=>lhs;whnf);try rfl) ?_ | refine ZP rfl rfl rfl rfl (by (conv=>lhs;whnf);try rfl) ?_ | refine ZR rfl rfl ?_ | refine Zd rfl rfl ?_ | refine Zz rfl rfl ?_ | refine g_bits rfl rfl rfl rfl ?_ | refine ZS rfl rfl rfl (by decide) ?_ | refine g_rem rfl rfl rfl (by first | decide | omega) ?_ | refine ZU rfl rfl ?_ | refine Zv Tryz.underlying9 rfl rfl ?_ | refine ZT rfl (by (conv=>lhs;whnf);try rfl) (by (conv=>lhs;whnf);try rfl) (by rfl) ?_ | refine Zl rfl rfl ?_ | refine Zm rfl rfl rfl (by (conv=>lhs;whnf);try rfl) (by (conv=>lhs;whnf);try rfl) (by rfl) (by rfl) (Nat.le_of_ble_eq_true rfl) (by (conv=>lhs;whnf);try rfl) ?_ | refine Zn rfl rfl ?_ | refine Za rfl rfl rfl (by rfl) (by decide) (by (conv=>lhs;whnf);try rfl) ?_ | refine Zf rfl rfl rfl ?_ | refine ZQ rfl rfl ?_ | refine ZB rfl rfl (by (conv=>lhs;whnf);try rfl) ?_ | refine g_field rfl rfl rfl ?_ | refine Zo ?_ | refine Zp (by kernel_rfl) ?_ | refine Zr ?_ | refine Zb ?_ | refine Zh ?_ | refine Zj ?_ | refine Zs ?_ | refine Zk ?_ | refine Zq ?_ | refine Zt ?_ | refine ZC ?_ | refine Zg ?_ | refine Zu ?_ | refine ZD ?_)
      exact Zax (f,c - 2,e4,r2) 2 ⟨hf4,h⟩ (Nat.lt_succ_self _) (Za7 (νc 3 2) [_,_] (fun k=>(k,νc 3 2 k)) (fun _ _=>rfl) rfl ⟨rfl,rfl,trivial⟩ (x:=[]) (x':=[]) rfl rfl rfl (Zal _) rfl)
  ·have hK:ZbI c count=2:=if_neg (fun h=>hk1 h.1)
   have hN:Zc2 c ⟨kind,tag,count,list,args⟩=⟨4,0,⟨#[]⟩,list,(El.argL ⟨kind,tag,count,list,args⟩).map Arg.cs⟩:=by unfold Zc2;rw [if_neg (fun h=>hk1 h.1)]
   rw [hK,hN] at h
   rw [decide_eq_false hk1]
   repeat (first | (refine Zaj rfl ?_) | (refine Zw rfl rfl ?_) | (refine ZK (a:=c) (b:=2) rfl rfl rfl (by omega) (by omega) ?_) | (refine ZK (a:=count) (b:=2) rfl rfl rfl (by omega) (by omega) ?_) | refine ZA rfl (by (conv=>lhs;whnf);try rfl) ?_ | refine Zx rfl rfl rfl ?_ | refine Zc rfl rfl ?_ | refine Zi rfl (by (conv=>lhs;whnf);try rfl) ?_ | refine ZM rfl rfl (by omega) ?_ | refine ZL rfl rfl rfl (by omega) (by omega) ?_ | refine ZI rfl rfl rfl (by omega) ?_ | refine ZK rfl rfl rfl (by omega) (by omega) ?_ | refine ZN rfl rfl rfl rfl (by (conv=>lhs;whnf);try rfl) ?_ | refine ZP rfl rfl rfl rfl (by (conv=>lhs;whnf);try rfl) ?_ | refine ZR rfl rfl ?_ | refine Zd rfl rfl ?_ | refine Zz rfl rfl ?_ | refine g_bits rfl rfl rfl rfl ?_ | refine ZS rfl rfl rfl (by decide) ?_ | refine g_rem rfl rfl rfl (by first | decide | omega) ?_ | refine ZU rfl rfl ?_ | refine Zv Tryz.underlying9 rfl rfl ?_ | refine ZT rfl (by (conv=>lhs;whnf);try rfl) (by (conv=>lhs;whnf);try rfl) (by rfl) ?_ | refine Zl rfl rfl ?_ | refine Zm rfl rfl rfl (by (conv=>lhs;whnf);try rfl) (by (conv=>lhs;whnf);try rfl) (by rfl) (by rfl) (Nat.le_of_ble_eq_true rfl) (by (conv=>lhs;whnf);try rfl) ?_ | refine Zn rfl rfl ?_ | refine Za rfl rfl rfl (by rfl) (by decide) (by (conv=>lhs;whnf);try rfl) ?_ | refine Zf rfl rfl rfl ?_ | refine ZQ rfl rfl ?_ | refine ZB rfl rfl (by (conv=>lhs;whnf);try rfl) ?_ | refine g_field rfl rfl rfl ?_ | refine Zo ?_ | refine Zp (by kernel_rfl) ?_ | refine Zr ?_ | refine Zb ?_ | refine Zh ?_ | refine Zj ?_ | refine Zs ?_ | refine Zk ?_ | refine Zq ?_ | refine Zt ?_ | refine ZC ?_ | refine Zg ?_ | refine Zu ?_ | refine ZD ?_)
   by_cases hm:2≤count - 2
   ·rw [if_pos hm] at h
    rw [decide_eq_true hm]
    refine ZV rfl rfl ?_
    have hfn:fits ⟨kind,tag,count - 2,[Node.cs ⟨4,0,⟨#[]⟩,list,(El.argL ⟨kind,tag,count,list,args⟩).map Arg.cs⟩],none⟩ r1:=Zbu hf1 ⟨⟨by omega,fun q hq=>by cases hq⟩,by show 1≤9223372036854775807;omega⟩
    rcases args with _ | ⟨pre,a⟩
    ·refine ZaF (ZdW (b:=1001) (u:=8) (by omega) rfl rfl rfl (fun e he=>absurd he List.not_mem_nil)) ?_ (List.cons_ne_nil _ _)
     repeat (first | refine ZA rfl (by (conv=>lhs;whnf);try rfl) ?_ | refine Zx rfl rfl rfl ?_ | refine Zc rfl rfl ?_ | refine Zi rfl (by (conv=>lhs;whnf);try rfl) ?_ | refine ZM rfl rfl (by omega) ?_ | refine ZL rfl rfl rfl (by omega) (by omega) ?_ | refine ZI rfl rfl rfl (by omega) ?_ | refine ZK rfl rfl rfl (by omega) (by omega) ?_ | refine ZN rfl rfl rfl rfl (by (conv=>lhs;whnf);try rfl) ?_ | refine ZP rfl rfl rfl rfl (by (conv=>lhs;whnf);try rfl) ?_ | refine ZR rfl rfl ?_ | refine Zd rfl rfl ?_ | refine Zz rfl rfl ?_ | refine g_bits rfl rfl rfl rfl ?_ | refine ZS rfl rfl rfl (by decide) ?_ | refine g_rem rfl rfl rfl (by first | decide | omega) ?_ | refine ZU rfl rfl ?_ | refine Zv Tryz.underlying9 rfl rfl ?_ | refine ZT rfl (by (conv=>lhs;whnf);try rfl) (by (conv=>lhs;whnf);try rfl) (by rfl) ?_ | refine Zl rfl rfl ?_ | refine Zm rfl rfl rfl (by (conv=>lhs;whnf);try rfl) (by (conv=>lhs;whnf);try rfl) (by rfl) (by rfl) (Nat.le_of_ble_eq_true rfl) (by (conv=>lhs;whnf);try rfl) ?_ | refine Zn rfl rfl ?_ | refine Za rfl rfl rfl (by rfl) (by decide) (by (conv=>lhs;whnf);try rfl) ?_ | refine Zf rfl rfl rfl ?_ | refine ZQ rfl rfl ?_ | refine ZB rfl rfl (by (conv=>lhs;whnf);try rfl) ?_ | refine g_field rfl rfl rfl ?_ | refine Zo ?_ | refine Zp (by kernel_rfl) ?_ | refine Zr ?_ | refine Zb ?_ | refine Zh ?_ | refine Zj ?_ | refine Zs ?_ | refine Zk ?_ | refine Zq ?_ | refine Zt ?_ | refine ZC ?_ | refine Zg ?_ | refine Zu ?_ | refine ZD ?_)
     exact Zax (f,c - 2,⟨kind,tag,count - 2,[Node.cs ⟨4,0,⟨#[]⟩,list,[]⟩],none⟩,r1) 2 ⟨hfn,h⟩ (Nat.lt_succ_self _) (Shift.trans (Zce 1001 66 4 111 3 rfl rfl rfl) (Shift.trans (Zcl (t:=66) rfl) (Zci (9,3) (10,0) 65 66 νb rfl ⟨rfl,rfl,trivial⟩ rfl rfl rfl rfl rfl rfl (ZcP (A:=[_,_,_,_,_,_,_,_,_,_,_,_,_]) rfl))))
    ·refine ZaF (Zda 1003 pre.length 2 rfl (Za9 _ _ _ _) rfl (Zdd rfl) (ZiN _ _ _ _)) ?_ (List.cons_ne_nil _ _)
     refine ZaF (ZdW (b:=1001) (u:=8) (by omega) rfl rfl rfl Ze7) ?_ (List.cons_ne_nil _ _)
     repeat (first | refine ZA rfl (by (conv=>lhs;whnf);try rfl) ?_ | refine Zx rfl rfl rfl ?_ | refine Zc rfl rfl ?_ | refine Zi rfl (by (conv=>lhs;whnf);try rfl) ?_ | refine ZM rfl rfl (by omega) ?_ | refine ZL rfl rfl rfl (by omega) (by omega) ?_ | refine ZI rfl rfl rfl (by omega) ?_ | refine ZK rfl rfl rfl (by omega) (by omega) ?_ | refine ZN rfl rfl rfl rfl (by (conv=>lhs;whnf);try rfl) ?_ | refine ZP rfl rfl rfl rfl (by (conv=>lhs;whnf);try rfl) ?_ | refine ZR rfl rfl ?_ | refine Zd rfl rfl ?_ | refine Zz rfl rfl ?_ | refine g_bits rfl rfl rfl rfl ?_ | refine ZS rfl rfl rfl (by decide) ?_ | refine g_rem rfl rfl rfl (by first | decide | omega) ?_ | refine ZU rfl rfl ?_ | refine Zv Tryz.underlying9 rfl rfl ?_ | refine ZT rfl (by (conv=>lhs;whnf);try rfl) (by (conv=>lhs;whnf);try rfl) (by rfl) ?_ | refine Zl rfl rfl ?_ | refine Zm rfl rfl rfl (by (conv=>lhs;whnf);try rfl) (by (conv=>lhs;whnf);try rfl) (by rfl) (by rfl) (Nat.le_of_ble_eq_true rfl) (by (conv=>lhs;whnf);try rfl) ?_ | refine Zn rfl rfl ?_ | refine Za rfl rfl rfl (by rfl) (by decide) (by (conv=>lhs;whnf);try rfl) ?_ | refine Zf rfl rfl rfl ?_ | refine ZQ rfl rfl ?_ | refine ZB rfl rfl (by (conv=>lhs;whnf);try rfl) ?_ | refine g_field rfl rfl rfl ?_ | refine Zo ?_ | refine Zp (by kernel_rfl) ?_ | refine Zr ?_ | refine Zb ?_ | refine Zh ?_ | refine Zj ?_ | refine Zs ?_ | refine Zk ?_ | refine Zq ?_ | refine Zt ?_ | refine ZC ?_ | refine Zg ?_ | refine Zu ?_ | refine ZD ?_)
     exact Zax (f,c - 2,⟨kind,tag,count - 2,[Node.cs ⟨4,0,⟨#[]⟩,list,(pre ++ [a]).map Arg.cs⟩],none⟩,r1) 2 ⟨hfn,h⟩ (Nat.lt_succ_self _) (Shift.trans (Zce 1001 66 4 111 3 rfl rfl rfl) (Shift.trans (Zcl (t:=66) rfl) (Zci (9,3) (10,0) 65 66 νb rfl ⟨rfl,rfl,trivial⟩ rfl rfl rfl rfl rfl rfl (ZcP (A:=[_,_,_,_,_,_,_,_,_,_,_,_,_,_,_]) rfl))))
   ·rw [if_neg hm] at h
    rcases r1 with _ | ⟨e2,r2⟩
    ·cases h
    obtain ⟨e4,he4,h⟩:=Option.bind_eq_some_iff.1 h
    have hf2:=Zay (ZaQ hf1)
    have hf4:=Zbu (ZaQ hf1) (ZhW hf2 he4)
    rw [decide_eq_false hm]
    refine Zw rfl rfl ?_
    refine ZaF (Shift.trans (ZfT (lits:=[_,_]) (m:=count - 2) rfl) (Za7 νb [_,_] (fun k=>if k=8 then (8,(5,10)) else (k,νb k)) (fun k hk=>if_neg (by omega)) rfl (tm':=[(0,.ptr 0 (0,0) 0),(1,.int .i64 (c - 2)),(5,.ptr 1001 (1,1001) 0),(8,.ptr 8 (1,8) 0)]) ⟨rfl,rfl,rfl,rfl,trivial⟩ (x:=[(8,(5,10),.box [.int .i64 4,.int .i64 0,.str ⟨#[]⟩,.row 1002 (νb 1002),.row 1003 (νb 1003)])]) (x':=[(8,νb 8,.box [.int .i64 4,.int .i64 0,.str ⟨#[]⟩,.row 1002 (νb 1002),.row 1003 (νb 1003)])]) rfl rfl rfl (ZG rfl (Zal _)) rfl)) ?_ (List.cons_ne_nil _ _)
    repeat (first | refine ZA rfl (by (conv=>lhs;whnf);try rfl) ?_ | refine Zx rfl rfl rfl ?_ | refine Zc rfl rfl ?_ | refine Zi rfl (by (conv=>lhs;whnf);try rfl) ?_ | refine ZM rfl rfl (by omega) ?_ | refine ZL rfl rfl rfl (by omega) (by omega) ?_ | refine ZI rfl rfl rfl (by omega) ?_ | refine ZK rfl rfl rfl (by omega) (by omega) ?_ | refine ZN rfl rfl rfl rfl (by (conv=>lhs;whnf);try rfl) ?_ | refine ZP rfl rfl rfl rfl (by (conv=>lhs;whnf);try rfl) ?_ | refine ZR rfl rfl ?_ | refine Zd rfl rfl ?_ | refine Zz rfl rfl ?_ | refine g_bits rfl rfl rfl rfl ?_ | refine ZS rfl rfl rfl (by decide) ?_ | refine g_rem rfl rfl rfl (by first | decide | omega) ?_ | refine ZU rfl rfl ?_ | refine Zv Tryz.underlying9 rfl rfl ?_ | refine ZT rfl (by (conv=>lhs;whnf);try rfl) (by (conv=>lhs;whnf);try rfl) (by rfl) ?_ | refine Zl rfl rfl ?_ | refine Zm rfl rfl rfl (by (conv=>lhs;whnf);try rfl) (by (conv=>lhs;whnf);try rfl) (by rfl) (by rfl) (Nat.le_of_ble_eq_true rfl) (by (conv=>lhs;whnf);try rfl) ?_ | refine Zn rfl rfl ?_ | refine Za rfl rfl rfl (by rfl) (by decide) (by (conv=>lhs;whnf);try rfl) ?_ | refine Zf rfl rfl rfl ?_ | refine ZQ rfl rfl ?_ | refine ZB rfl rfl (by (conv=>lhs;whnf);try rfl) ?_ | refine g_field rfl rfl rfl ?_ | refine Zo ?_ | refine Zp (by kernel_rfl) ?_ | refine Zr ?_ | refine Zb ?_ | refine Zh ?_ | refine Zj ?_ | refine Zs ?_ | refine Zk ?_ | refine Zq ?_ | refine Zt ?_ | refine ZC ?_ | refine Zg ?_ | refine Zu ?_ | refine ZD ?_)
    refine Zei [_] νb (ZmP ⟨kind,tag,count - 2,list,args⟩ e2 r2 (by simp at hr1;omega)) rfl rfl rfl rfl ?_
    refine Zg9 ?_
    refine ZaF (ZgS (2,1+1000000 * (1000+1)) (1,8) νb (tm':=[(0,.ptr 0 (0,0) 0),(1,.int .i64 (c - 2)),(5,.ptr 300 (1,300) 0),(8,.ptr 8 (1,8) 0)]) ⟨rfl,rfl,rfl,rfl,trivial⟩) ?_ (List.cons_ne_nil _ _)
    repeat (first | refine ZA rfl (by (conv=>lhs;whnf);try rfl) ?_ | refine Zx rfl rfl rfl ?_ | refine Zc rfl rfl ?_ | refine Zi rfl (by (conv=>lhs;whnf);try rfl) ?_ | refine ZM rfl rfl (by omega) ?_ | refine ZL rfl rfl rfl (by omega) (by omega) ?_ | refine ZI rfl rfl rfl (by omega) ?_ | refine ZK rfl rfl rfl (by omega) (by omega) ?_ | refine ZN rfl rfl rfl rfl (by (conv=>lhs;whnf);try rfl) ?_ | refine ZP rfl rfl rfl rfl (by (conv=>lhs;whnf);try rfl) ?_ | refine ZR rfl rfl ?_ | refine Zd rfl rfl ?_ | refine Zz rfl rfl ?_ | refine g_bits rfl rfl rfl rfl ?_ | refine ZS rfl rfl rfl (by decide) ?_ | refine g_rem rfl rfl rfl (by first | decide | omega) ?_ | refine ZU rfl rfl ?_ | refine Zv Tryz.underlying9 rfl rfl ?_ | refine ZT rfl (by (conv=>lhs;whnf);try rfl) (by (conv=>lhs;whnf);try rfl) (by rfl) ?_ | refine Zl rfl rfl ?_ | refine Zm rfl rfl rfl (by (conv=>lhs;whnf);try rfl) (by (conv=>lhs;whnf);try rfl) (by rfl) (by rfl) (Nat.le_of_ble_eq_true rfl) (by (conv=>lhs;whnf);try rfl) ?_ | refine Zn rfl rfl ?_ | refine Za rfl rfl rfl (by rfl) (by decide) (by (conv=>lhs;whnf);try rfl) ?_ | refine Zf rfl rfl rfl ?_ | refine ZQ rfl rfl ?_ | refine ZB rfl rfl (by (conv=>lhs;whnf);try rfl) ?_ | refine g_field rfl rfl rfl ?_ | refine Zo ?_ | refine Zp (by kernel_rfl) ?_ | refine Zr ?_ | refine Zb ?_ | refine Zh ?_ | refine Zj ?_ | refine Zs ?_ | refine Zk ?_ | refine Zq ?_ | refine Zt ?_ | refine ZC ?_ | refine Zg ?_ | refine Zu ?_ | refine ZD ?_)
    obtain ⟨e3,h3,he4⟩:=Option.bind_eq_some_iff.1 he4
    by_cases h1:count - 2=1
    ·rw [if_pos h1] at h3
     rw [decide_eq_true h1]
     have hf3:=ZaA hf2 h3
     repeat (first | (refine ZV rfl rfl ?_) | (refine ZY [_,_] νb (ZbP e2 r2 _ hf2.1 hf2.2 e3 h3) rfl rfl rfl rfl rfl rfl ?_) | (refine ZY [_,_] (νc _ _) (Zgd e3 r2 _ hf3.1 e4 he4) rfl rfl rfl rfl rfl rfl ?_) | refine ZA rfl (by (conv=>lhs;whnf);try rfl) ?_ | refine Zx rfl rfl rfl ?_ | refine Zc rfl rfl ?_ | refine Zi rfl (by (conv=>lhs;whnf);try rfl) ?_ | refine ZM rfl rfl (by omega) ?_ | refine ZL rfl rfl rfl (by omega) (by omega) ?_ | refine ZI rfl rfl rfl (by omega) ?_ | refine ZK rfl rfl rfl (by omega) (by omega) ?_ | refine ZN rfl rfl rfl rfl (by (conv=>lhs;whnf);try rfl) ?_ | refine ZP rfl rfl rfl rfl (by (conv=>lhs;whnf);try rfl) ?_ | refine ZR rfl rfl ?_ | refine Zd rfl rfl ?_ | refine Zz rfl rfl ?_ | refine g_bits rfl rfl rfl rfl ?_ | refine ZS rfl rfl rfl (by decide) ?_ | refine g_rem rfl rfl rfl (by first | decide | omega) ?_ | refine ZU rfl rfl ?_ | refine Zv Tryz.underlying9 rfl rfl ?_ | refine ZT rfl (by (conv=>lhs;whnf);try rfl) (by (conv=>lhs;whnf);try rfl) (by rfl) ?_ | refine Zl rfl rfl ?_ | refine Zm rfl rfl rfl (by (conv=>lhs;whnf);try rfl) (by (conv=>lhs;whnf);try rfl) (by rfl) (by rfl) (Nat.le_of_ble_eq_true rfl) (by (conv=>lhs;whnf);try rfl) ?_ | refine Zn rfl rfl ?_ | refine Za rfl rfl rfl (by rfl) (by decide) (by (conv=>lhs;whnf);try rfl) ?_ | refine Zf rfl rfl rfl ?_ | refine ZQ rfl rfl ?_ | refine ZB rfl rfl (by (conv=>lhs;whnf);try rfl) ?_ | refine g_field rfl rfl rfl ?_ | refine Zo ?_ | refine Zp (by kernel_rfl) ?_ | refine Zr ?_ | refine Zb ?_ | refine Zh ?_ | refine Zj ?_ | refine Zs ?_ | refine Zk ?_ | refine Zq ?_ | refine Zt ?_ | refine ZC ?_ | refine Zg ?_ | refine Zu ?_ | refine ZD ?_)
     exact Zax (f,c - 2,e4,r2) 2 ⟨hf4,h⟩ (Nat.lt_succ_self _) (Za7 (νc 4 2) [_,_] (fun k=>(k,νc 4 2 k)) (fun _ _=>rfl) rfl ⟨rfl,rfl,trivial⟩ (x:=[]) (x':=[]) rfl rfl rfl (Zal _) rfl)
    ·rw [if_neg h1] at h3
     injection h3 with h3
     subst h3
     rw [decide_eq_false h1]
     repeat (first | (refine Zw rfl rfl ?_) | (refine ZY [_,_] νb (Zgd e2 r2 _ hf2.1 e4 he4) rfl rfl rfl rfl rfl rfl ?_) | refine ZA rfl (by (conv=>lhs;whnf);try rfl) ?_ | refine Zx rfl rfl rfl ?_ | refine Zc rfl rfl ?_ | refine Zi rfl (by (conv=>lhs;whnf);try rfl) ?_ | refine ZM rfl rfl (by omega) ?_ | refine ZL rfl rfl rfl (by omega) (by omega) ?_ | refine ZI rfl rfl rfl (by omega) ?_ | refine ZK rfl rfl rfl (by omega) (by omega) ?_ | refine ZN rfl rfl rfl rfl (by (conv=>lhs;whnf);try rfl) ?_ | refine ZP rfl rfl rfl rfl (by (conv=>lhs;whnf);try rfl) ?_ | refine ZR rfl rfl ?_ | refine Zd rfl rfl ?_ | refine Zz rfl rfl ?_ | refine g_bits rfl rfl rfl rfl ?_ | refine ZS rfl rfl rfl (by decide) ?_ | refine g_rem rfl rfl rfl (by first | decide | omega) ?_ | refine ZU rfl rfl ?_ | refine Zv Tryz.underlying9 rfl rfl ?_ | refine ZT rfl (by (conv=>lhs;whnf);try rfl) (by (conv=>lhs;whnf);try rfl) (by rfl) ?_ | refine Zl rfl rfl ?_ | refine Zm rfl rfl rfl (by (conv=>lhs;whnf);try rfl) (by (conv=>lhs;whnf);try rfl) (by rfl) (by rfl) (Nat.le_of_ble_eq_true rfl) (by (conv=>lhs;whnf);try rfl) ?_ | refine Zn rfl rfl ?_ | refine Za rfl rfl rfl (by rfl) (by decide) (by (conv=>lhs;whnf);try rfl) ?_ | refine Zf rfl rfl rfl ?_ | refine ZQ rfl rfl ?_ | refine ZB rfl rfl (by (conv=>lhs;whnf);try rfl) ?_ | refine g_field rfl rfl rfl ?_ | refine Zo ?_ | refine Zp (by kernel_rfl) ?_ | refine Zr ?_ | refine Zb ?_ | refine Zh ?_ | refine Zj ?_ | refine Zs ?_ | refine Zk ?_ | refine Zq ?_ | refine Zt ?_ | refine ZC ?_ | refine Zg ?_ | refine Zu ?_ | refine ZD ?_)
     exact Zax (f,c - 2,e4,r2) 2 ⟨hf4,h⟩ (Nat.lt_succ_self _) (Za7 (νc 3 2) [_,_] (fun k=>(k,νc 3 2 k)) (fun _ _=>rfl) rfl ⟨rfl,rfl,trivial⟩ (x:=[]) (x':=[]) rfl rfl rfl (Zal _) rfl)
def ZeZ (k t c:Int) (x:ByteArray) (e:El) (r:List El):Option (El×List El):=if 20≤r.length then (ZaR e x).map fun e'=>(e',r) else some (⟨k,t,c,[],none⟩,e::r)
def Zl7 (e:El):Option El:=if e.kind=3 then match e.args with
  | none=>some ⟨e.kind,e.tag,e.count,e.list,some ([],⟨false,[],[]⟩)⟩
  | some (pre,a)=>if pre.length+1≤1000000 then some ⟨e.kind,e.tag,e.count,e.list,some (pre ++ [a],⟨false,[],[]⟩)⟩ else none
 else ZaR e ⟨#[124]⟩
def ZcG (s:ByteArray) (t:Tok) (e:El) (r:List El):Option (El×List El):=(ZbJ s t).bind fun x=>
 if t.kind=1∨t.kind=2 then (ZaR e x).map fun e'=>(e',r)
 else if t.kind=9 then (ZdG e ⟨2,0,x,[],[]⟩).map fun e'=>(e',r)
 else if t.kind=10 then (Ze3 x 8 (w64 ((x.size:Int) - 9))).bind fun y=>(ZdG e ⟨3,0,y,[],[]⟩).map fun e'=>(e',r)
 else if t.kind=3 then ZeZ 3 0 x.size x e r
 else if t.kind=5 then ZeZ 1 0 0 x e r
 else if t.kind=11 then (ZcY s t).bind fun k=>ZeZ 2 k 0 x e r
 else if t.kind=7 then (Zl7 e).map fun e'=>(e',r)
 else if t.kind=8 then (ZdV e).map fun e'=>(e',r)
 else if t.kind=6 then Zbo e r
 else if t.kind=12 then (ZcY s t).bind fun k=>ZbZ k x e r
 else if t.kind=4 then Zaw (x.size+1) x.size e r
 else some (e,r)
theorem Zsw (e e':El) (r:List El) (hf:fit e r) (h:Zl7 e=some e'):PC 106 [] e r (.tup []) e' r:=by
 unfold Zl7 at h
 split at h
 ·rename_i hk
  obtain ⟨kind,tag,count,list,args⟩:=e
  dsimp only at hk
  subst hk
  rcases args with _ | ⟨pre,a⟩
  ·injection h with h
   rw [← h]
   exact Zpp tag count list r hf.1.1
  ·dsimp only at h
   split at h
   ·injection h with h
    rw [← h]
    exact Zpr tag count list pre a r hf.1
   ·cases h
 ·rename_i hk
  exact Zpo e e' r hf.1 hf.2 hk h
theorem ZpA {e e':El} {r:List El} (hf:fit e r) (h:Zl7 e=some e'):fit e' r:=by
 unfold Zl7 at h
 split at h
 ·rename_i hk
  obtain ⟨kind,tag,count,list,args⟩:=e
  dsimp only at hk
  subst hk
  rcases args with _ | ⟨pre,a⟩
  ·injection h with h
   rw [← h]
   exact ⟨⟨hf.1.1,fun q hq=>by injection hq with hq;rw [← hq];exact Nat.zero_le _⟩,by show 0≤_;omega⟩
  ·dsimp only at h
   split at h
   ·rename_i hp
    injection h with h
    rw [← h]
    exact ⟨⟨hf.1.1,fun q hq=>by injection hq with hq;rw [← hq];simpa using hp⟩,by show 0≤_;omega⟩
   ·cases h
 ·exact ZaA hf h
theorem ZqX (e e':El) (r:List El) (hf:fit e r) (h:ZdV e=some e'):PC 107 [] e r (.tup []) e' r:=by
 obtain ⟨kind,tag,count,list,args⟩:=e
 unfold ZdV at h
 rcases args with _ | ⟨pre,⟨named,name,value⟩⟩
 ·exact Zjf _ e' r hf.1 hf.2 (.inr (.inl rfl)) h
 ·dsimp only at h
  split at h
  ·rename_i hc
   obtain ⟨h1,h2⟩:=hc
   subst h1 h2
   injection h with h
   rw [← h]
   exact ZnF tag count list pre name value r hf.1
  ·rename_i hc
   refine Zjf _ e' r hf.1 hf.2 ?_ h
   by_cases hk:kind=3
   ·refine .inr (.inr ⟨pre,_,rfl,?_⟩)
    cases named
    ·exact absurd ⟨hk,rfl⟩ hc
    ·rfl
   ·exact .inl hk
theorem ZmN {e e':El} {r:List El} (hf:fit e r) (h:ZdV e=some e'):fit e' r:=by
 obtain ⟨kind,tag,count,list,args⟩:=e
 unfold ZdV at h
 rcases args with _ | ⟨pre,⟨named,name,value⟩⟩
 ·exact ZaA hf h
 ·dsimp only at h
  split at h
  ·rename_i hc
   obtain ⟨h1,h2⟩:=hc
   subst h1 h2
   injection h with h
   rw [← h]
   exact ⟨⟨hf.1.1,fun q hq=>by injection hq with hq;rw [← hq];exact hf.1.2 (pre,⟨false,name,value⟩) rfl⟩,by show 0≤_;omega⟩
  ·exact ZaA hf h
theorem ZlE (e e':El) (r r':List El) (hf:fits e r) (h:Zbo e r=some (e',r')):PC 108 [] e r (.tup []) e' r':=by
 unfold Zbo at h
 split at h
 ·rename_i hk
  rcases r with _ | ⟨e2,r⟩
  ·cases h
  obtain ⟨a,h1,h⟩:=Option.bind_eq_some_iff.1 h
  obtain ⟨b,h2,h⟩:=Option.bind_eq_some_iff.1 h
  obtain ⟨c,h3,h⟩:=Option.map_eq_some_iff.1 h
  injection h with q1 q2
  subst q1 q2
  obtain ⟨kind,tag,count,list,args⟩:=e
  dsimp only at hk
  subst hk
  exact ZjS tag count list args e2 a b c r (ZaQ hf).1 (Zay (ZaQ hf)) h1 h2 h3
 ·rename_i hk
  obtain ⟨c,h3,h⟩:=Option.map_eq_some_iff.1 h
  injection h with q1 q2
  subst q1 q2
  exact ZiY e c r (Zay hf) hk h3
theorem Zib {e e':El} {r r':List El} (hf:fits e r) (h:Zbo e r=some (e',r')):fits e' r':=by
 unfold Zbo at h
 split at h
 ·rcases r with _ | ⟨e2,r⟩
  ·cases h
  obtain ⟨a,h1,h⟩:=Option.bind_eq_some_iff.1 h
  obtain ⟨b,h2,h⟩:=Option.bind_eq_some_iff.1 h
  obtain ⟨c,h3,h⟩:=Option.map_eq_some_iff.1 h
  injection h with q1 q2
  subst q1 q2
  exact Zbu (ZaQ hf) (ZaA (ZcL (ZaA (Zay (ZaQ hf)) h1) h2) h3)
 ·obtain ⟨c,h3,h⟩:=Option.map_eq_some_iff.1 h
  injection h with q1 q2
  subst q1 q2
  exact Zbu hf (ZaA (Zay hf) h3)
theorem ZiZ {k:Int} {s:ByteArray} {e e':El} {r r':List El} (hf:fits e r) (h:ZbZ k s e r=some (e',r')):fits e' r':=by
 unfold ZbZ at h
 split at h
 ·obtain ⟨c,h3,h⟩:=Option.map_eq_some_iff.1 h
  injection h with q1 q2
  subst q1 q2
  exact Zbu hf (ZaA (Zay hf) h3)
 ·obtain ⟨⟨e1,r1⟩,h1,h⟩:=Option.bind_eq_some_iff.1 h
  have hf1:=ZeS hf h1
  rcases r1 with _ | ⟨e2,r2⟩
  ·cases h
  obtain ⟨c,h3,h⟩:=Option.map_eq_some_iff.1 h
  injection h with q1 q2
  subst q1 q2
  exact Zbu (ZaQ hf1) (ZeB (Zay (ZaQ hf1)) h3)
theorem ZkA {c:Int} {e e':El} {r r':List El} (hf:fits e r) (h:ZqN c e r=some (e',r')):fits e' r':=by
 obtain ⟨s,hs,h⟩:=Option.bind_eq_some_iff.1 h
 obtain ⟨a,h3,h⟩:=Option.map_eq_some_iff.1 h
 injection h with q1 q2
 subst q1 q2
 exact Zbu hf (ZaA (Zay hf) h3)
theorem ZcN:∀ {f:Nat} {c:Int} {e e':El} {r r':List El},fits e r→Zaw f c e r=some (e',r')→fits e' r'
 | 0,c,e,e',r,r',hf,h=>by cases h
 | f+1,c,e,e',r,r',hf,h=>by
   unfold Zaw at h
   split at h
   ·split at h
    ·exact ZkA hf h
    ·obtain ⟨⟨e1,r1⟩,h1,h⟩:=Option.bind_eq_some_iff.1 h
     have hf1:=ZeS hf h1
     split at h
     ·split at h
      ·exact ZcN (Zbu hf1 ⟨⟨by have:=hf1.1;omega,fun q hq=>by cases hq⟩,by show 1≤9223372036854775807;omega⟩) h
      ·rcases r1 with _ | ⟨e2,r2⟩
       ·cases h
       obtain ⟨e4,h4,h⟩:=Option.bind_eq_some_iff.1 h
       exact ZcN (Zbu (ZaQ hf1) (ZhW (Zay (ZaQ hf1)) h4)) h
     ·cases h
   ·exact ZkA hf h
theorem ZgR {k t c:Int} {x:ByteArray} {e e':El} {r r':List El} (hf:fits e r) (h:ZeZ k t c x e r=some (e',r')):fits e' r':=by
 unfold ZeZ at h
 split at h
 ·obtain ⟨a,h3,h⟩:=Option.map_eq_some_iff.1 h
  injection h with q1 q2
  subst q1 q2
  exact Zbu hf (ZaA (Zay hf) h3)
 ·injection h with h
  injection h with q1 q2
  subst q1 q2
  refine ⟨by simp;omega,fun x hx=>?_⟩
  rcases List.mem_cons.1 hx with rfl | hx
  ·exact ⟨fun q hq=>(by cases hq),(by show 0≤_;omega)⟩
  ·exact hf.2 x hx
theorem ZnV (k t c:Int) (x:ByteArray) (e e':El) (r r':List El) (hf:fits e r) (h:ZeZ k t c x e r=some (e',r')) :
  ContractG Tryz.prog 104 [.ptr 0 (0,0) 0,.ptr 1 (0,1) 0,.str x] (objs (stP νa e r)++ZmQ k t c) (.tup []) (stP νb e' r' ++ []):=by
 rw [List.append_nil]
 unfold ZeZ at h
 split at h
 ·rename_i hr
  obtain ⟨a,h3,h⟩:=Option.map_eq_some_iff.1 h
  injection h with q1 q2
  subst q1 q2
  exact ZnX e a r k t c x hr (Zay hf).1 (Zay hf).2 h3
 ·rename_i hr
  injection h with h
  injection h with q1 q2
  subst q1 q2
  exact ZnY e r k t c x (by omega)
theorem Zjk {s:ByteArray} {t:Tok} {e e':El} {r r':List El} (hf:fits e r) (h:ZcG s t e r=some (e',r')):fits e' r':=by
 obtain ⟨x,hx,h⟩:=Option.bind_eq_some_iff.1 h
 have one:∀ {o:Option El},(∀ a,o=some a→fit a r)→o.map (fun e'=>(e',r))=some (e',r')→fits e' r':=fun h1 h=>by
  obtain ⟨a,h3,h⟩:=Option.map_eq_some_iff.1 h
  injection h with q1 q2
  subst q1 q2
  exact Zbu hf (h1 a h3)
 split at h
 ·exact one (fun a ha=>ZaA (Zay hf) ha) h
 split at h
 ·exact one (fun a ha=>ZeB (Zay hf) ha) h
 split at h
 ·obtain ⟨y,hy,h⟩:=Option.bind_eq_some_iff.1 h
  exact one (fun a ha=>ZeB (Zay hf) ha) h
 split at h
 ·exact ZgR hf h
 split at h
 ·exact ZgR hf h
 split at h
 ·obtain ⟨y,hy,h⟩:=Option.bind_eq_some_iff.1 h
  exact ZgR hf h
 split at h
 ·exact one (fun a ha=>ZpA (Zay hf) ha) h
 split at h
 ·exact one (fun a ha=>ZmN (Zay hf) ha) h
 split at h
 ·exact Zib hf h
 split at h
 ·obtain ⟨y,hy,h⟩:=Option.bind_eq_some_iff.1 h
  exact ZiZ hf h
 split at h
 ·exact ZcN hf h
 ·injection h with h
  injection h with q1 q2
  subst q1 q2
  exact hf
end Go.Proofs.YtmgfammllddkhaaGreatDoor
