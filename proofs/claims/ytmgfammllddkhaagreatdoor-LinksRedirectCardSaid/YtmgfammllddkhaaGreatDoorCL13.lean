/- The parser's closeBraces. | The parser's take: what a token does. -/
import Derived.Test.YtmgfammllddkhaaGreatDoorCL12
namespace Go.Proofs.YtmgfammllddkhaaGreatDoor
open VL
def ZgN (c count:Int):Int:=if 3≤c∧3≤count then 3 else 2
def ZgO (c:Int) (e:El):Node:=⟨if 3≤c∧3≤e.count then 5 else 4,0,⟨#[]⟩,e.list,e.argL.map Arg.cs⟩
def ZqJ (c:Int) (e:El) (r:List El):Option (El×List El):=(strings_Repeat ⟨#[125]⟩ c).bind fun s=>(Zcz e s).map fun e'=>(e',r)
def ZqO (e2:El) (m:Int) (n:Node):Option El:=((if m=1 then Zcz e2 ⟨#[123]⟩ else some e2):Option El).bind fun e3=>Zjb e3 n
def Zbp:Nat→Int→El→List El→Option (El×List El)
 | 0,_,_,_=>none
 | f+1,c,e,r=>if 2≤c then (if Za3 e r=0 then ZqJ c e r else
   (ZgJ (r.length - Za3 e r) e r).bind fun q=>if c≤9223372036854775807∧0≤q.1.count∧q.1.count≤9223372036854775807 then
    (if 2≤q.1.count - ZgN c q.1.count then Zbp f (c - ZgN c q.1.count) ⟨q.1.kind,q.1.tag,q.1.count - ZgN c q.1.count,[(ZgO c q.1).cs],none⟩ q.2
     else match q.2 with
      | []=>none
      | e2::r2=>(ZqO e2 (q.1.count - ZgN c q.1.count) (ZgO c q.1)).bind fun e4=>Zbp f (c - ZgN c q.1.count) e4 r2) else none)
   else ZqJ c e r
theorem Zg8 {e2 e4:El} {m:Int} {n:Node} {r:List El} (hf:fit e2 r) (h:ZqO e2 m n=some e4):fit e4 r:=by
 obtain ⟨e3,h3,h⟩:=Option.bind_eq_some_iff.1 h
 refine Zd8 ?_ h
 split at h3
 ·exact Zav hf h3
 ·injection h3 with h3
  rw [← h3]
  exact hf
theorem Zem:∀ {n:Nat} {e e':El} {r r':List El},fits e r→ZgJ n e r=some (e',r')→fits e' r'
 | 0,e,e',r,r',hf,h=>by injection h with h;injection h with h1 h2;rw [← h1,← h2];exact hf
 | n+1,e,e',[],r',hf,h=>by cases h
 | n+1,e,e',e2::r,r',hf,h=>by
   obtain ⟨e3,h3,h⟩:=Option.bind_eq_some_iff.1 h
   exact Zem (Zc0 hf h3) h
theorem ZgP:∀ (e:El) (r:List El),Za3 e r≤r.length
 | _,[]=>Nat.le_refl _
 | e,e2::r=>by
   unfold Za3
   split
   ·simp
   ·split
    ·simp
    ·have:=ZgP e2 r
     simp
     omega
theorem ZhV (b:Nat) (ν:Nat→Gen) (pre:List Arg) (a:Arg):(Ze7 b ν (some (pre,a))).set pre.length (Zay [.bool a.named,.sl a.name,.row (b+3) (ν (b+3))] 2 [.sl a.value])=(pre ++ [a]).map Arg.cs:=by
 have:=Ze2 b ν pre a a.cs
 rw [List.map_append]
 exact this
set_option maxRecDepth 100000 in
set_option maxHeartbeats 2000000 in
theorem Zji (f:Nat) (c:Int) (e e9:El) (r r9:List El) (hf:fits e r) (h:Zbp f c e r=some (e9,r9)):PC 110 [.int .i64 c] e r (.tup []) e9 r9:=by
 refine Zaa mix Tryz.func110 (by kernel_rfl) rfl (by kernel_rfl) ?_
 rw [ZbL]
 repeat (first | refine ZB rfl (by (conv=>lhs;whnf);try rfl) ?_ | refine Zy rfl rfl rfl ?_ | refine Zc rfl rfl ?_ | refine Zi rfl (by (conv=>lhs;whnf);try rfl) ?_ | refine ZL rfl rfl (by omega) ?_ | refine ZK rfl rfl rfl (by omega) (by omega) ?_ | refine ZI rfl rfl rfl (by omega) ?_ | refine ZJ rfl rfl rfl (by omega) (by omega) ?_ | refine ZM rfl rfl rfl rfl (by (conv=>lhs;whnf);try rfl) ?_ | refine ZO rfl rfl rfl rfl (by (conv=>lhs;whnf);try rfl) ?_ | refine ZQ rfl rfl ?_ | refine Zd rfl rfl ?_ | refine ZA rfl rfl ?_ | refine Zz rfl rfl rfl rfl ?_ | refine ZR rfl rfl rfl (by decide) ?_ | refine ZV rfl rfl rfl (by first | decide | omega) ?_ | refine ZT rfl rfl ?_ | refine Zv Tryz.underlying9 rfl rfl ?_ | refine ZS rfl (by (conv=>lhs;whnf);try rfl) (by (conv=>lhs;whnf);try rfl) (by rfl) ?_ | refine Zl rfl rfl ?_ | refine Zm rfl rfl rfl (by (conv=>lhs;whnf);try rfl) (by (conv=>lhs;whnf);try rfl) (by rfl) (by rfl) (Nat.le_of_ble_eq_true rfl) (by (conv=>lhs;whnf);try rfl) ?_ | refine Zn rfl rfl ?_ | refine Za rfl rfl rfl (by rfl) (by decide) (by (conv=>lhs;whnf);try rfl) ?_ | refine Zf rfl rfl rfl ?_ | refine ZP rfl rfl ?_ | refine ZC rfl rfl (by (conv=>lhs;whnf);try rfl) ?_ | refine g_field rfl rfl rfl ?_ | refine Zo ?_ | refine Zp (by kernel_rfl) ?_ | refine Zr ?_ | refine Zb ?_ | refine Zh ?_ | refine Zj ?_ | refine Zs ?_ | refine Zk ?_ | refine Zq ?_ | refine Zt ?_ | refine ZD ?_ | refine Zg ?_ | refine Zu ?_ | refine ZE ?_)
 refine Zac (fun (a:Nat×Int×El×List El) _=>mkS [(0,.ptr 0 (0,0) 0),(1,.int .i64 a.2.1)] (somes (stP νb a.2.2.1 a.2.2.2)) 2) (fun a=>fits a.2.2.1 a.2.2.2∧Zbp a.1 a.2.1 a.2.2.1 a.2.2.2=some (e9,r9)) (fun a=>a.1) (f,c,e,r) 2 ⟨hf,h⟩
  (ZaZ νa [] (fun k=>(k,νa k)) (fun _ _=>rfl) rfl ⟨rfl,rfl,trivial⟩ (x:=[]) (x':=[]) rfl rfl rfl (Zaj _) rfl) (fun a ng hJ=>?_)
 clear h hf
 obtain ⟨f,c,e,r⟩:=a
 obtain ⟨hf,h⟩:=hJ
 dsimp only at hf h ⊢
 rcases f with _ | f
 ·cases h
 have hr:=hf.1
 unfold Zbp at h
 repeat (first | refine ZB rfl (by (conv=>lhs;whnf);try rfl) ?_ | refine Zy rfl rfl rfl ?_ | refine Zc rfl rfl ?_ | refine Zi rfl (by (conv=>lhs;whnf);try rfl) ?_ | refine ZL rfl rfl (by omega) ?_ | refine ZK rfl rfl rfl (by omega) (by omega) ?_ | refine ZI rfl rfl rfl (by omega) ?_ | refine ZJ rfl rfl rfl (by omega) (by omega) ?_ | refine ZM rfl rfl rfl rfl (by (conv=>lhs;whnf);try rfl) ?_ | refine ZO rfl rfl rfl rfl (by (conv=>lhs;whnf);try rfl) ?_ | refine ZQ rfl rfl ?_ | refine Zd rfl rfl ?_ | refine ZA rfl rfl ?_ | refine Zz rfl rfl rfl rfl ?_ | refine ZR rfl rfl rfl (by decide) ?_ | refine ZV rfl rfl rfl (by first | decide | omega) ?_ | refine ZT rfl rfl ?_ | refine Zv Tryz.underlying9 rfl rfl ?_ | refine ZS rfl (by (conv=>lhs;whnf);try rfl) (by (conv=>lhs;whnf);try rfl) (by rfl) ?_ | refine Zl rfl rfl ?_ | refine Zm rfl rfl rfl (by (conv=>lhs;whnf);try rfl) (by (conv=>lhs;whnf);try rfl) (by rfl) (by rfl) (Nat.le_of_ble_eq_true rfl) (by (conv=>lhs;whnf);try rfl) ?_ | refine Zn rfl rfl ?_ | refine Za rfl rfl rfl (by rfl) (by decide) (by (conv=>lhs;whnf);try rfl) ?_ | refine Zf rfl rfl rfl ?_ | refine ZP rfl rfl ?_ | refine ZC rfl rfl (by (conv=>lhs;whnf);try rfl) ?_ | refine g_field rfl rfl rfl ?_ | refine Zo ?_ | refine Zp (by kernel_rfl) ?_ | refine Zr ?_ | refine Zb ?_ | refine Zh ?_ | refine Zj ?_ | refine Zs ?_ | refine Zk ?_ | refine Zq ?_ | refine Zt ?_ | refine ZD ?_ | refine Zg ?_ | refine Zu ?_ | refine ZE ?_)
 by_cases hc2:2≤c
 rotate_left
 ·rw [if_neg hc2] at h
  obtain ⟨s,hs,h⟩:=Option.bind_eq_some_iff.1 h
  obtain ⟨e',he',h⟩:=Option.map_eq_some_iff.1 h
  injection h with q1 q2
  subst q1 q2
  rw [decide_eq_false hc2]
  repeat (first | (refine Zx rfl rfl ?_) | (refine Zeq (ZcN _ _ _ hs) rfl rfl ?_) | (refine ZX [] νb (ZbC e r s (Zau hf).1 (Zau hf).2 e' he') rfl rfl rfl rfl rfl rfl ?_) | refine ZB rfl (by (conv=>lhs;whnf);try rfl) ?_ | refine Zy rfl rfl rfl ?_ | refine Zc rfl rfl ?_ | refine Zi rfl (by (conv=>lhs;whnf);try rfl) ?_ | refine ZL rfl rfl (by omega) ?_ | refine ZK rfl rfl rfl (by omega) (by omega) ?_ | refine ZI rfl rfl rfl (by omega) ?_ | refine ZJ rfl rfl rfl (by omega) (by omega) ?_ | refine ZM rfl rfl rfl rfl (by (conv=>lhs;whnf);try rfl) ?_ | refine ZO rfl rfl rfl rfl (by (conv=>lhs;whnf);try rfl) ?_ | refine ZQ rfl rfl ?_ | refine Zd rfl rfl ?_ | refine ZA rfl rfl ?_ | refine Zz rfl rfl rfl rfl ?_ | refine ZR rfl rfl rfl (by decide) ?_ | refine ZV rfl rfl rfl (by first | decide | omega) ?_ | refine ZT rfl rfl ?_ | refine Zv Tryz.underlying9 rfl rfl ?_ | refine ZS rfl (by (conv=>lhs;whnf);try rfl) (by (conv=>lhs;whnf);try rfl) (by rfl) ?_ | refine Zl rfl rfl ?_ | refine Zm rfl rfl rfl (by (conv=>lhs;whnf);try rfl) (by (conv=>lhs;whnf);try rfl) (by rfl) (by rfl) (Nat.le_of_ble_eq_true rfl) (by (conv=>lhs;whnf);try rfl) ?_ | refine Zn rfl rfl ?_ | refine Za rfl rfl rfl (by rfl) (by decide) (by (conv=>lhs;whnf);try rfl) ?_ | refine Zf rfl rfl rfl ?_ | refine ZP rfl rfl ?_ | refine ZC rfl rfl (by (conv=>lhs;whnf);try rfl) ?_ | refine g_field rfl rfl rfl ?_ | refine Zo ?_ | refine Zp (by kernel_rfl) ?_ | refine Zr ?_ | refine Zb ?_ | refine Zh ?_ | refine Zj ?_ | refine Zs ?_ | refine Zk ?_ | refine Zq ?_ | refine Zt ?_ | refine ZD ?_ | refine Zg ?_ | refine Zu ?_ | refine ZE ?_)
  exact Zbj (.inr rfl) (νc 3 3) [] [] rfl rfl trivial rfl rfl
 rw [if_pos hc2] at h
 rw [decide_eq_true hc2]
 have hat:=ZgP e r
 have hlb:=Zkf e r (by omega)
 generalize Za3 e r=at_ at hat h hlb
 repeat (first | (refine ZW rfl rfl ?_) | (refine Zad [] νb hlb rfl rfl rfl rfl rfl rfl ?_) | refine ZB rfl (by (conv=>lhs;whnf);try rfl) ?_ | refine Zy rfl rfl rfl ?_ | refine Zc rfl rfl ?_ | refine Zi rfl (by (conv=>lhs;whnf);try rfl) ?_ | refine ZL rfl rfl (by omega) ?_ | refine ZK rfl rfl rfl (by omega) (by omega) ?_ | refine ZI rfl rfl rfl (by omega) ?_ | refine ZJ rfl rfl rfl (by omega) (by omega) ?_ | refine ZM rfl rfl rfl rfl (by (conv=>lhs;whnf);try rfl) ?_ | refine ZO rfl rfl rfl rfl (by (conv=>lhs;whnf);try rfl) ?_ | refine ZQ rfl rfl ?_ | refine Zd rfl rfl ?_ | refine ZA rfl rfl ?_ | refine Zz rfl rfl rfl rfl ?_ | refine ZR rfl rfl rfl (by decide) ?_ | refine ZV rfl rfl rfl (by first | decide | omega) ?_ | refine ZT rfl rfl ?_ | refine Zv Tryz.underlying9 rfl rfl ?_ | refine ZS rfl (by (conv=>lhs;whnf);try rfl) (by (conv=>lhs;whnf);try rfl) (by rfl) ?_ | refine Zl rfl rfl ?_ | refine Zm rfl rfl rfl (by (conv=>lhs;whnf);try rfl) (by (conv=>lhs;whnf);try rfl) (by rfl) (by rfl) (Nat.le_of_ble_eq_true rfl) (by (conv=>lhs;whnf);try rfl) ?_ | refine Zn rfl rfl ?_ | refine Za rfl rfl rfl (by rfl) (by decide) (by (conv=>lhs;whnf);try rfl) ?_ | refine Zf rfl rfl rfl ?_ | refine ZP rfl rfl ?_ | refine ZC rfl rfl (by (conv=>lhs;whnf);try rfl) ?_ | refine g_field rfl rfl rfl ?_ | refine Zo ?_ | refine Zp (by kernel_rfl) ?_ | refine Zr ?_ | refine Zb ?_ | refine Zh ?_ | refine Zj ?_ | refine Zs ?_ | refine Zk ?_ | refine Zq ?_ | refine Zt ?_ | refine ZD ?_ | refine Zg ?_ | refine Zu ?_ | refine ZE ?_)
 by_cases h0:at_=0
 ·rw [if_pos h0] at h
  obtain ⟨s,hs,h⟩:=Option.bind_eq_some_iff.1 h
  obtain ⟨e',he',h⟩:=Option.map_eq_some_iff.1 h
  injection h with q1 q2
  subst q1 q2
  rw [show decide ((at_:Int)=0)=true from decide_eq_true (by omega)]
  repeat (first | (refine ZW rfl rfl ?_) | (refine Zeq (ZcN _ _ _ hs) rfl rfl ?_) | (refine ZX [] νb (ZbC e r s (Zau hf).1 (Zau hf).2 e' he') rfl rfl rfl rfl rfl rfl ?_) | refine ZB rfl (by (conv=>lhs;whnf);try rfl) ?_ | refine Zy rfl rfl rfl ?_ | refine Zc rfl rfl ?_ | refine Zi rfl (by (conv=>lhs;whnf);try rfl) ?_ | refine ZL rfl rfl (by omega) ?_ | refine ZK rfl rfl rfl (by omega) (by omega) ?_ | refine ZI rfl rfl rfl (by omega) ?_ | refine ZJ rfl rfl rfl (by omega) (by omega) ?_ | refine ZM rfl rfl rfl rfl (by (conv=>lhs;whnf);try rfl) ?_ | refine ZO rfl rfl rfl rfl (by (conv=>lhs;whnf);try rfl) ?_ | refine ZQ rfl rfl ?_ | refine Zd rfl rfl ?_ | refine ZA rfl rfl ?_ | refine Zz rfl rfl rfl rfl ?_ | refine ZR rfl rfl rfl (by decide) ?_ | refine ZV rfl rfl rfl (by first | decide | omega) ?_ | refine ZT rfl rfl ?_ | refine Zv Tryz.underlying9 rfl rfl ?_ | refine ZS rfl (by (conv=>lhs;whnf);try rfl) (by (conv=>lhs;whnf);try rfl) (by rfl) ?_ | refine Zl rfl rfl ?_ | refine Zm rfl rfl rfl (by (conv=>lhs;whnf);try rfl) (by (conv=>lhs;whnf);try rfl) (by rfl) (by rfl) (Nat.le_of_ble_eq_true rfl) (by (conv=>lhs;whnf);try rfl) ?_ | refine Zn rfl rfl ?_ | refine Za rfl rfl rfl (by rfl) (by decide) (by (conv=>lhs;whnf);try rfl) ?_ | refine Zf rfl rfl rfl ?_ | refine ZP rfl rfl ?_ | refine ZC rfl rfl (by (conv=>lhs;whnf);try rfl) ?_ | refine g_field rfl rfl rfl ?_ | refine Zo ?_ | refine Zp (by kernel_rfl) ?_ | refine Zr ?_ | refine Zb ?_ | refine Zh ?_ | refine Zj ?_ | refine Zs ?_ | refine Zk ?_ | refine Zq ?_ | refine Zt ?_ | refine ZD ?_ | refine Zg ?_ | refine Zu ?_ | refine ZE ?_)
  exact Zbj (.inr rfl) (νc 5 3) [] [] rfl rfl trivial rfl rfl
 rw [if_neg h0] at h
 obtain ⟨⟨e1,r1⟩,hfl,h⟩:=Option.bind_eq_some_iff.1 h
 have hf1:=Zem hf hfl
 rw [show decide ((at_:Int)=0)=false from decide_eq_false (by omega)]
 repeat (first | (refine Zx rfl rfl ?_) | (refine Zbs (α:=Unit) (c:=.block 2 _) (fun _ _=>mkS [(0,.ptr 0 (0,0) 0),(1,.int .i64 c)] (somes (stP νb e1 r1)) 2) (fun _=>True) ?_ (fun a _ _=>?_)) | refine ZB rfl (by (conv=>lhs;whnf);try rfl) ?_ | refine Zy rfl rfl rfl ?_ | refine Zc rfl rfl ?_ | refine Zi rfl (by (conv=>lhs;whnf);try rfl) ?_ | refine ZL rfl rfl (by omega) ?_ | refine ZK rfl rfl rfl (by omega) (by omega) ?_ | refine ZI rfl rfl rfl (by omega) ?_ | refine ZJ rfl rfl rfl (by omega) (by omega) ?_ | refine ZM rfl rfl rfl rfl (by (conv=>lhs;whnf);try rfl) ?_ | refine ZO rfl rfl rfl rfl (by (conv=>lhs;whnf);try rfl) ?_ | refine ZQ rfl rfl ?_ | refine Zd rfl rfl ?_ | refine ZA rfl rfl ?_ | refine Zz rfl rfl rfl rfl ?_ | refine ZR rfl rfl rfl (by decide) ?_ | refine ZV rfl rfl rfl (by first | decide | omega) ?_ | refine ZT rfl rfl ?_ | refine Zv Tryz.underlying9 rfl rfl ?_ | refine ZS rfl (by (conv=>lhs;whnf);try rfl) (by (conv=>lhs;whnf);try rfl) (by rfl) ?_ | refine Zl rfl rfl ?_ | refine Zm rfl rfl rfl (by (conv=>lhs;whnf);try rfl) (by (conv=>lhs;whnf);try rfl) (by rfl) (by rfl) (Nat.le_of_ble_eq_true rfl) (by (conv=>lhs;whnf);try rfl) ?_ | refine Zn rfl rfl ?_ | refine Za rfl rfl rfl (by rfl) (by decide) (by (conv=>lhs;whnf);try rfl) ?_ | refine Zf rfl rfl rfl ?_ | refine ZP rfl rfl ?_ | refine ZC rfl rfl (by (conv=>lhs;whnf);try rfl) ?_ | refine g_field rfl rfl rfl ?_ | refine Zo ?_ | refine Zp (by kernel_rfl) ?_ | refine Zr ?_ | refine Zb ?_ | refine Zh ?_ | refine Zj ?_ | refine Zs ?_ | refine Zk ?_ | refine Zq ?_ | refine Zt ?_ | refine ZD ?_ | refine Zg ?_ | refine Zu ?_ | refine ZE ?_)
 ·refine Zac (fun (a:El×List El) _=>mkS [(0,.ptr 0 (0,0) 0),(1,.int .i64 c),(4,.int .i64 (at_:Int))] (somes (stP νb a.1 a.2)) 2) (fun a=>fits a.1 a.2∧at_≤a.2.length∧ZgJ (a.2.length - at_) a.1 a.2=some (e1,r1)) (fun a=>a.2.length) (e,r) 2 ⟨hf,hat,hfl⟩
   (ZaZ νb [] (fun k=>(k,νb k)) (fun _ _=>rfl) rfl ⟨rfl,rfl,rfl,trivial⟩ (x:=[]) (x':=[]) rfl rfl rfl (Zaj _) rfl) (fun a ng hJ=>?_)
  obtain ⟨e5,r5⟩:=a
  obtain ⟨hf5,hle,hft⟩:=hJ
  dsimp only at hf5 hle hft ⊢
  have hr5:=hf5.1
  repeat (first | (refine Za4 rfl rfl (ZbI _ _ _) ?_) | refine ZB rfl (by (conv=>lhs;whnf);try rfl) ?_ | refine Zy rfl rfl rfl ?_ | refine Zc rfl rfl ?_ | refine Zi rfl (by (conv=>lhs;whnf);try rfl) ?_ | refine ZL rfl rfl (by omega) ?_ | refine ZK rfl rfl rfl (by omega) (by omega) ?_ | refine ZI rfl rfl rfl (by omega) ?_ | refine ZJ rfl rfl rfl (by omega) (by omega) ?_ | refine ZM rfl rfl rfl rfl (by (conv=>lhs;whnf);try rfl) ?_ | refine ZO rfl rfl rfl rfl (by (conv=>lhs;whnf);try rfl) ?_ | refine ZQ rfl rfl ?_ | refine Zd rfl rfl ?_ | refine ZA rfl rfl ?_ | refine Zz rfl rfl rfl rfl ?_ | refine ZR rfl rfl rfl (by decide) ?_ | refine ZV rfl rfl rfl (by first | decide | omega) ?_ | refine ZT rfl rfl ?_ | refine Zv Tryz.underlying9 rfl rfl ?_ | refine ZS rfl (by (conv=>lhs;whnf);try rfl) (by (conv=>lhs;whnf);try rfl) (by rfl) ?_ | refine Zl rfl rfl ?_ | refine Zm rfl rfl rfl (by (conv=>lhs;whnf);try rfl) (by (conv=>lhs;whnf);try rfl) (by rfl) (by rfl) (Nat.le_of_ble_eq_true rfl) (by (conv=>lhs;whnf);try rfl) ?_ | refine Zn rfl rfl ?_ | refine Za rfl rfl rfl (by rfl) (by decide) (by (conv=>lhs;whnf);try rfl) ?_ | refine Zf rfl rfl rfl ?_ | refine ZP rfl rfl ?_ | refine ZC rfl rfl (by (conv=>lhs;whnf);try rfl) ?_ | refine g_field rfl rfl rfl ?_ | refine Zo ?_ | refine Zp (by kernel_rfl) ?_ | refine Zr ?_ | refine Zb ?_ | refine Zh ?_ | refine Zj ?_ | refine Zs ?_ | refine Zk ?_ | refine Zq ?_ | refine Zt ?_ | refine ZD ?_ | refine Zg ?_ | refine Zu ?_ | refine ZE ?_)
  by_cases hgt:at_<r5.length
  ·rw [show decide (((at_+1:Nat):Int)<((r5.length+1:Nat):Int))=true from decide_eq_true (by omega)]
   rcases r5 with _ | ⟨e2,r2⟩
   ·simp at hgt
   simp only [List.length_cons] at hgt hle hft hr5
   rw [show r2.length+1 - at_=(r2.length - at_)+1 by omega] at hft
   obtain ⟨e7,he7,hft⟩:=Option.bind_eq_some_iff.1 hft
   repeat (first | (refine ZW rfl rfl ?_) | (refine ZX [] νb (Zhf e5 e2 e7 r2 (by omega) (Zau (ZaM hf5)) he7) rfl rfl rfl rfl rfl rfl ?_) | refine ZB rfl (by (conv=>lhs;whnf);try rfl) ?_ | refine Zy rfl rfl rfl ?_ | refine Zc rfl rfl ?_ | refine Zi rfl (by (conv=>lhs;whnf);try rfl) ?_ | refine ZL rfl rfl (by omega) ?_ | refine ZK rfl rfl rfl (by omega) (by omega) ?_ | refine ZI rfl rfl rfl (by omega) ?_ | refine ZJ rfl rfl rfl (by omega) (by omega) ?_ | refine ZM rfl rfl rfl rfl (by (conv=>lhs;whnf);try rfl) ?_ | refine ZO rfl rfl rfl rfl (by (conv=>lhs;whnf);try rfl) ?_ | refine ZQ rfl rfl ?_ | refine Zd rfl rfl ?_ | refine ZA rfl rfl ?_ | refine Zz rfl rfl rfl rfl ?_ | refine ZR rfl rfl rfl (by decide) ?_ | refine ZV rfl rfl rfl (by first | decide | omega) ?_ | refine ZT rfl rfl ?_ | refine Zv Tryz.underlying9 rfl rfl ?_ | refine ZS rfl (by (conv=>lhs;whnf);try rfl) (by (conv=>lhs;whnf);try rfl) (by rfl) ?_ | refine Zl rfl rfl ?_ | refine Zm rfl rfl rfl (by (conv=>lhs;whnf);try rfl) (by (conv=>lhs;whnf);try rfl) (by rfl) (by rfl) (Nat.le_of_ble_eq_true rfl) (by (conv=>lhs;whnf);try rfl) ?_ | refine Zn rfl rfl ?_ | refine Za rfl rfl rfl (by rfl) (by decide) (by (conv=>lhs;whnf);try rfl) ?_ | refine Zf rfl rfl rfl ?_ | refine ZP rfl rfl ?_ | refine ZC rfl rfl (by (conv=>lhs;whnf);try rfl) ?_ | refine g_field rfl rfl rfl ?_ | refine Zo ?_ | refine Zp (by kernel_rfl) ?_ | refine Zr ?_ | refine Zb ?_ | refine Zh ?_ | refine Zj ?_ | refine Zs ?_ | refine Zk ?_ | refine Zq ?_ | refine Zt ?_ | refine ZD ?_ | refine Zg ?_ | refine Zu ?_ | refine ZE ?_)
   exact Zat (e7,r2) 2 ⟨Zc0 hf5 he7,by dsimp only;omega,hft⟩ (by dsimp only;simp) (ZaZ (νc 3 1) [] (fun k=>(k,νc 3 1 k)) (fun _ _=>rfl) rfl ⟨rfl,rfl,rfl,trivial⟩ (x:=[]) (x':=[]) rfl rfl rfl (Zaj _) rfl)
  ·rw [show decide (((at_+1:Nat):Int)<((r5.length+1:Nat):Int))=false from decide_eq_false (by omega)]
   rw [show r5.length - at_=0 by omega] at hft
   injection hft with hft
   injection hft with q1 q2
   subst q1 q2
   repeat (first | (refine Zx rfl rfl ?_) | refine ZB rfl (by (conv=>lhs;whnf);try rfl) ?_ | refine Zy rfl rfl rfl ?_ | refine Zc rfl rfl ?_ | refine Zi rfl (by (conv=>lhs;whnf);try rfl) ?_ | refine ZL rfl rfl (by omega) ?_ | refine ZK rfl rfl rfl (by omega) (by omega) ?_ | refine ZI rfl rfl rfl (by omega) ?_ | refine ZJ rfl rfl rfl (by omega) (by omega) ?_ | refine ZM rfl rfl rfl rfl (by (conv=>lhs;whnf);try rfl) ?_ | refine ZO rfl rfl rfl rfl (by (conv=>lhs;whnf);try rfl) ?_ | refine ZQ rfl rfl ?_ | refine Zd rfl rfl ?_ | refine ZA rfl rfl ?_ | refine Zz rfl rfl rfl rfl ?_ | refine ZR rfl rfl rfl (by decide) ?_ | refine ZV rfl rfl rfl (by first | decide | omega) ?_ | refine ZT rfl rfl ?_ | refine Zv Tryz.underlying9 rfl rfl ?_ | refine ZS rfl (by (conv=>lhs;whnf);try rfl) (by (conv=>lhs;whnf);try rfl) (by rfl) ?_ | refine Zl rfl rfl ?_ | refine Zm rfl rfl rfl (by (conv=>lhs;whnf);try rfl) (by (conv=>lhs;whnf);try rfl) (by rfl) (by rfl) (Nat.le_of_ble_eq_true rfl) (by (conv=>lhs;whnf);try rfl) ?_ | refine Zn rfl rfl ?_ | refine Za rfl rfl rfl (by rfl) (by decide) (by (conv=>lhs;whnf);try rfl) ?_ | refine Zf rfl rfl rfl ?_ | refine ZP rfl rfl ?_ | refine ZC rfl rfl (by (conv=>lhs;whnf);try rfl) ?_ | refine g_field rfl rfl rfl ?_ | refine Zo ?_ | refine Zp (by kernel_rfl) ?_ | refine Zr ?_ | refine Zb ?_ | refine Zh ?_ | refine Zj ?_ | refine Zs ?_ | refine Zk ?_ | refine Zq ?_ | refine Zt ?_ | refine ZD ?_ | refine Zg ?_ | refine Zu ?_ | refine ZE ?_)
   exact ZcJ () 2 trivial (ZaZ νb [] (fun k=>(k,νb k)) (fun _ _=>rfl) rfl ⟨rfl,rfl,trivial⟩ (x:=[]) (x':=[]) rfl rfl rfl (Zaj _) rfl)
 ·split at h
  rotate_left
  ·cases h
  rename_i hb
  obtain ⟨hb1,hb2,hb3⟩:=hb
  clear hfl hat hlb h0 hf hr
  obtain ⟨kind,tag,count,list,args⟩:=e1
  dsimp only at hb2 hb3 h
  have hr1:=hf1.1
  repeat (first | (refine Zad [] νb (ZbU _ r1 (by omega)) rfl rfl rfl rfl rfl rfl ?_) | refine ZB rfl (by (conv=>lhs;whnf);try rfl) ?_ | refine Zy rfl rfl rfl ?_ | refine Zc rfl rfl ?_ | refine Zi rfl (by (conv=>lhs;whnf);try rfl) ?_ | refine ZL rfl rfl (by omega) ?_ | refine ZK rfl rfl rfl (by omega) (by omega) ?_ | refine ZI rfl rfl rfl (by omega) ?_ | refine ZJ rfl rfl rfl (by omega) (by omega) ?_ | refine ZM rfl rfl rfl rfl (by (conv=>lhs;whnf);try rfl) ?_ | refine ZO rfl rfl rfl rfl (by (conv=>lhs;whnf);try rfl) ?_ | refine ZQ rfl rfl ?_ | refine Zd rfl rfl ?_ | refine ZA rfl rfl ?_ | refine Zz rfl rfl rfl rfl ?_ | refine ZR rfl rfl rfl (by decide) ?_ | refine ZV rfl rfl rfl (by first | decide | omega) ?_ | refine ZT rfl rfl ?_ | refine Zv Tryz.underlying9 rfl rfl ?_ | refine ZS rfl (by (conv=>lhs;whnf);try rfl) (by (conv=>lhs;whnf);try rfl) (by rfl) ?_ | refine Zl rfl rfl ?_ | refine Zm rfl rfl rfl (by (conv=>lhs;whnf);try rfl) (by (conv=>lhs;whnf);try rfl) (by rfl) (by rfl) (Nat.le_of_ble_eq_true rfl) (by (conv=>lhs;whnf);try rfl) ?_ | refine Zn rfl rfl ?_ | refine Za rfl rfl rfl (by rfl) (by decide) (by (conv=>lhs;whnf);try rfl) ?_ | refine Zf rfl rfl rfl ?_ | refine ZP rfl rfl ?_ | refine ZC rfl rfl (by (conv=>lhs;whnf);try rfl) ?_ | refine g_field rfl rfl rfl ?_ | refine Zo ?_ | refine Zp (by kernel_rfl) ?_ | refine Zr ?_ | refine Zb ?_ | refine Zh ?_ | refine Zj ?_ | refine Zs ?_ | refine Zk ?_ | refine Zq ?_ | refine Zt ?_ | refine ZD ?_ | refine Zg ?_ | refine Zu ?_ | refine ZE ?_)
  by_cases hk1:3≤c
  ·by_cases hk2:3≤count
   ·have hK:ZgN c count=3:=if_pos ⟨hk1,hk2⟩
    have hN:ZgO c ⟨kind,tag,count,list,args⟩=⟨5,0,⟨#[]⟩,list,(El.argL ⟨kind,tag,count,list,args⟩).map Arg.cs⟩:=by unfold ZgO;rw [if_pos ⟨hk1,hk2⟩]
    rw [hK,hN] at h
    rw [decide_eq_true hk1]
    repeat (first | refine ZB rfl (by (conv=>lhs;whnf);try rfl) ?_ | refine Zy rfl rfl rfl ?_ | refine Zc rfl rfl ?_ | refine Zi rfl (by (conv=>lhs;whnf);try rfl) ?_ | refine ZL rfl rfl (by omega) ?_ | refine ZK rfl rfl rfl (by omega) (by omega) ?_ | refine ZI rfl rfl rfl (by omega) ?_ | refine ZJ rfl rfl rfl (by omega) (by omega) ?_ | refine ZM rfl rfl rfl rfl (by (conv=>lhs;whnf);try rfl) ?_ | refine ZO rfl rfl rfl rfl (by (conv=>lhs;whnf);try rfl) ?_ | refine ZQ rfl rfl ?_ | refine Zd rfl rfl ?_ | refine ZA rfl rfl ?_ | refine Zz rfl rfl rfl rfl ?_ | refine ZR rfl rfl rfl (by decide) ?_ | refine ZV rfl rfl rfl (by first | decide | omega) ?_ | refine ZT rfl rfl ?_ | refine Zv Tryz.underlying9 rfl rfl ?_ | refine ZS rfl (by (conv=>lhs;whnf);try rfl) (by (conv=>lhs;whnf);try rfl) (by rfl) ?_ | refine Zl rfl rfl ?_ | refine Zm rfl rfl rfl (by (conv=>lhs;whnf);try rfl) (by (conv=>lhs;whnf);try rfl) (by rfl) (by rfl) (Nat.le_of_ble_eq_true rfl) (by (conv=>lhs;whnf);try rfl) ?_ | refine Zn rfl rfl ?_ | refine Za rfl rfl rfl (by rfl) (by decide) (by (conv=>lhs;whnf);try rfl) ?_ | refine Zf rfl rfl rfl ?_ | refine ZP rfl rfl ?_ | refine ZC rfl rfl (by (conv=>lhs;whnf);try rfl) ?_ | refine g_field rfl rfl rfl ?_ | refine Zo ?_ | refine Zp (by kernel_rfl) ?_ | refine Zr ?_ | refine Zb ?_ | refine Zh ?_ | refine Zj ?_ | refine Zs ?_ | refine Zk ?_ | refine Zq ?_ | refine Zt ?_ | refine ZD ?_ | refine Zg ?_ | refine Zu ?_ | refine ZE ?_)
    rw [decide_eq_true hk2]
    repeat (first | (refine ZW rfl rfl ?_) | (refine ZJ (a:=c) (b:=3) rfl rfl rfl (by omega) (by omega) ?_) | (refine ZJ (a:=count) (b:=3) rfl rfl rfl (by omega) (by omega) ?_) | refine ZB rfl (by (conv=>lhs;whnf);try rfl) ?_ | refine Zy rfl rfl rfl ?_ | refine Zc rfl rfl ?_ | refine Zi rfl (by (conv=>lhs;whnf);try rfl) ?_ | refine ZL rfl rfl (by omega) ?_ | refine ZK rfl rfl rfl (by omega) (by omega) ?_ | refine ZI rfl rfl rfl (by omega) ?_ | refine ZJ rfl rfl rfl (by omega) (by omega) ?_ | refine ZM rfl rfl rfl rfl (by (conv=>lhs;whnf);try rfl) ?_ | refine ZO rfl rfl rfl rfl (by (conv=>lhs;whnf);try rfl) ?_ | refine ZQ rfl rfl ?_ | refine Zd rfl rfl ?_ | refine ZA rfl rfl ?_ | refine Zz rfl rfl rfl rfl ?_ | refine ZR rfl rfl rfl (by decide) ?_ | refine ZV rfl rfl rfl (by first | decide | omega) ?_ | refine ZT rfl rfl ?_ | refine Zv Tryz.underlying9 rfl rfl ?_ | refine ZS rfl (by (conv=>lhs;whnf);try rfl) (by (conv=>lhs;whnf);try rfl) (by rfl) ?_ | refine Zl rfl rfl ?_ | refine Zm rfl rfl rfl (by (conv=>lhs;whnf);try rfl) (by (conv=>lhs;whnf);try rfl) (by rfl) (by rfl) (Nat.le_of_ble_eq_true rfl) (by (conv=>lhs;whnf);try rfl) ?_ | refine Zn rfl rfl ?_ | refine Za rfl rfl rfl (by rfl) (by decide) (by (conv=>lhs;whnf);try rfl) ?_ | refine Zf rfl rfl rfl ?_ | refine ZP rfl rfl ?_ | refine ZC rfl rfl (by (conv=>lhs;whnf);try rfl) ?_ | refine g_field rfl rfl rfl ?_ | refine Zo ?_ | refine Zp (by kernel_rfl) ?_ | refine Zr ?_ | refine Zb ?_ | refine Zh ?_ | refine Zj ?_ | refine Zs ?_ | refine Zk ?_ | refine Zq ?_ | refine Zt ?_ | refine ZD ?_ | refine Zg ?_ | refine Zu ?_ | refine ZE ?_)
    by_cases hm:2≤count - 3
    ·rw [if_pos hm] at h
     rw [decide_eq_true hm]
     refine ZW rfl rfl ?_
     have hfn:fits ⟨kind,tag,count - 3,[Node.cs ⟨5,0,⟨#[]⟩,list,(El.argL ⟨kind,tag,count,list,args⟩).map Arg.cs⟩],none⟩ r1:=Zbm hf1 ⟨⟨by omega,fun q hq=>by cases hq⟩,by show 1≤9223372036854775807;omega⟩
     rcases args with _ | ⟨pre,a⟩
     ·refine ZaB (ZdB (b:=1001) (u:=8) (by omega) rfl rfl rfl (fun e he=>absurd he List.not_mem_nil)) ?_ (List.cons_ne_nil _ _)
      repeat (first | refine ZB rfl (by (conv=>lhs;whnf);try rfl) ?_ | refine Zy rfl rfl rfl ?_ | refine Zc rfl rfl ?_ | refine Zi rfl (by (conv=>lhs;whnf);try rfl) ?_ | refine ZL rfl rfl (by omega) ?_ | refine ZK rfl rfl rfl (by omega) (by omega) ?_ | refine ZI rfl rfl rfl (by omega) ?_ | refine ZJ rfl rfl rfl (by omega) (by omega) ?_ | refine ZM rfl rfl rfl rfl (by (conv=>lhs;whnf);try rfl) ?_ | refine ZO rfl rfl rfl rfl (by (conv=>lhs;whnf);try rfl) ?_ | refine ZQ rfl rfl ?_ | refine Zd rfl rfl ?_ | refine ZA rfl rfl ?_ | refine Zz rfl rfl rfl rfl ?_ | refine ZR rfl rfl rfl (by decide) ?_ | refine ZV rfl rfl rfl (by first | decide | omega) ?_ | refine ZT rfl rfl ?_ | refine Zv Tryz.underlying9 rfl rfl ?_ | refine ZS rfl (by (conv=>lhs;whnf);try rfl) (by (conv=>lhs;whnf);try rfl) (by rfl) ?_ | refine Zl rfl rfl ?_ | refine Zm rfl rfl rfl (by (conv=>lhs;whnf);try rfl) (by (conv=>lhs;whnf);try rfl) (by rfl) (by rfl) (Nat.le_of_ble_eq_true rfl) (by (conv=>lhs;whnf);try rfl) ?_ | refine Zn rfl rfl ?_ | refine Za rfl rfl rfl (by rfl) (by decide) (by (conv=>lhs;whnf);try rfl) ?_ | refine Zf rfl rfl rfl ?_ | refine ZP rfl rfl ?_ | refine ZC rfl rfl (by (conv=>lhs;whnf);try rfl) ?_ | refine g_field rfl rfl rfl ?_ | refine Zo ?_ | refine Zp (by kernel_rfl) ?_ | refine Zr ?_ | refine Zb ?_ | refine Zh ?_ | refine Zj ?_ | refine Zs ?_ | refine Zk ?_ | refine Zq ?_ | refine Zt ?_ | refine ZD ?_ | refine Zg ?_ | refine Zu ?_ | refine ZE ?_)
      exact Zat (f,c - 3,⟨kind,tag,count - 3,[Node.cs ⟨5,0,⟨#[]⟩,list,[]⟩],none⟩,r1) 2 ⟨hfn,h⟩ (Nat.lt_succ_self _) (Shift.trans (Zb1 1001 66 4 111 3 rfl rfl rfl) (Shift.trans (Zca (t:=66) rfl) (Zb6 (10,3) (11,0) 65 66 νb rfl ⟨rfl,rfl,trivial⟩ rfl rfl rfl rfl rfl rfl (Zcy (A:=[_,_,_,_,_,_,_,_,_,_,_,_,_]) rfl))))
     ·refine ZaB (ZcU 1003 pre.length 2 rfl (Za1 _ _ _ _) rfl (ZcW rfl) (ZhV _ _ _ _)) ?_ (List.cons_ne_nil _ _)
      refine ZaB (ZdB (b:=1001) (u:=8) (by omega) rfl rfl rfl ZeB) ?_ (List.cons_ne_nil _ _)
      repeat (first | refine ZB rfl (by (conv=>lhs;whnf);try rfl) ?_ | refine Zy rfl rfl rfl ?_ | refine Zc rfl rfl ?_ | refine Zi rfl (by (conv=>lhs;whnf);try rfl) ?_ | refine ZL rfl rfl (by omega) ?_ | refine ZK rfl rfl rfl (by omega) (by omega) ?_ | refine ZI rfl rfl rfl (by omega) ?_ | refine ZJ rfl rfl rfl (by omega) (by omega) ?_ | refine ZM rfl rfl rfl rfl (by (conv=>lhs;whnf);try rfl) ?_ | refine ZO rfl rfl rfl rfl (by (conv=>lhs;whnf);try rfl) ?_ | refine ZQ rfl rfl ?_ | refine Zd rfl rfl ?_ | refine ZA rfl rfl ?_ | refine Zz rfl rfl rfl rfl ?_ | refine ZR rfl rfl rfl (by decide) ?_ | refine ZV rfl rfl rfl (by first | decide | omega) ?_ | refine ZT rfl rfl ?_ | refine Zv Tryz.underlying9 rfl rfl ?_ | refine ZS rfl (by (conv=>lhs;whnf);try rfl) (by (conv=>lhs;whnf);try rfl) (by rfl) ?_ | refine Zl rfl rfl ?_ | refine Zm rfl rfl rfl (by (conv=>lhs;whnf);try rfl) (by (conv=>lhs;whnf);try rfl) (by rfl) (by rfl) (Nat.le_of_ble_eq_true rfl) (by (conv=>lhs;whnf);try rfl) ?_ | refine Zn rfl rfl ?_ | refine Za rfl rfl rfl (by rfl) (by decide) (by (conv=>lhs;whnf);try rfl) ?_ | refine Zf rfl rfl rfl ?_ | refine ZP rfl rfl ?_ | refine ZC rfl rfl (by (conv=>lhs;whnf);try rfl) ?_ | refine g_field rfl rfl rfl ?_ | refine Zo ?_ | refine Zp (by kernel_rfl) ?_ | refine Zr ?_ | refine Zb ?_ | refine Zh ?_ | refine Zj ?_ | refine Zs ?_ | refine Zk ?_ | refine Zq ?_ | refine Zt ?_ | refine ZD ?_ | refine Zg ?_ | refine Zu ?_ | refine ZE ?_)
      exact Zat (f,c - 3,⟨kind,tag,count - 3,[Node.cs ⟨5,0,⟨#[]⟩,list,(pre ++ [a]).map Arg.cs⟩],none⟩,r1) 2 ⟨hfn,h⟩ (Nat.lt_succ_self _) (Shift.trans (Zb1 1001 66 4 111 3 rfl rfl rfl) (Shift.trans (Zca (t:=66) rfl) (Zb6 (10,3) (11,0) 65 66 νb rfl ⟨rfl,rfl,trivial⟩ rfl rfl rfl rfl rfl rfl (Zcy (A:=[_,_,_,_,_,_,_,_,_,_,_,_,_,_,_]) rfl))))
    ·rw [if_neg hm] at h
     rcases r1 with _ | ⟨e2,r2⟩
     ·cases h
     obtain ⟨e4,he4,h⟩:=Option.bind_eq_some_iff.1 h
     have hf2:=Zau (ZaM hf1)
     have hf4:=Zbm (ZaM hf1) (Zg8 hf2 he4)
     rw [decide_eq_false hm]
     refine Zx rfl rfl ?_
     refine ZaB (Shift.trans (Zfk (lits:=[_,_]) (m:=count - 3) rfl) (ZaZ νb [_,_] (fun k=>if k=8 then (8,(6,10)) else (k,νb k)) (fun k hk=>if_neg (by omega)) rfl (tm':=[(0,.ptr 0 (0,0) 0),(1,.int .i64 (c - 3)),(5,.ptr 1001 (1,1001) 0),(8,.ptr 8 (1,8) 0)]) ⟨rfl,rfl,rfl,rfl,trivial⟩ (x:=[(8,(6,10),.box [.int .i64 5,.int .i64 0,.str ⟨#[]⟩,.row 1002 (νb 1002),.row 1003 (νb 1003)])]) (x':=[(8,νb 8,.box [.int .i64 5,.int .i64 0,.str ⟨#[]⟩,.row 1002 (νb 1002),.row 1003 (νb 1003)])]) rfl rfl rfl (ZF rfl (Zaj _)) rfl)) ?_ (List.cons_ne_nil _ _)
     repeat (first | refine ZB rfl (by (conv=>lhs;whnf);try rfl) ?_ | refine Zy rfl rfl rfl ?_ | refine Zc rfl rfl ?_ | refine Zi rfl (by (conv=>lhs;whnf);try rfl) ?_ | refine ZL rfl rfl (by omega) ?_ | refine ZK rfl rfl rfl (by omega) (by omega) ?_ | refine ZI rfl rfl rfl (by omega) ?_ | refine ZJ rfl rfl rfl (by omega) (by omega) ?_ | refine ZM rfl rfl rfl rfl (by (conv=>lhs;whnf);try rfl) ?_ | refine ZO rfl rfl rfl rfl (by (conv=>lhs;whnf);try rfl) ?_ | refine ZQ rfl rfl ?_ | refine Zd rfl rfl ?_ | refine ZA rfl rfl ?_ | refine Zz rfl rfl rfl rfl ?_ | refine ZR rfl rfl rfl (by decide) ?_ | refine ZV rfl rfl rfl (by first | decide | omega) ?_ | refine ZT rfl rfl ?_ | refine Zv Tryz.underlying9 rfl rfl ?_ | refine ZS rfl (by (conv=>lhs;whnf);try rfl) (by (conv=>lhs;whnf);try rfl) (by rfl) ?_ | refine Zl rfl rfl ?_ | refine Zm rfl rfl rfl (by (conv=>lhs;whnf);try rfl) (by (conv=>lhs;whnf);try rfl) (by rfl) (by rfl) (Nat.le_of_ble_eq_true rfl) (by (conv=>lhs;whnf);try rfl) ?_ | refine Zn rfl rfl ?_ | refine Za rfl rfl rfl (by rfl) (by decide) (by (conv=>lhs;whnf);try rfl) ?_ | refine Zf rfl rfl rfl ?_ | refine ZP rfl rfl ?_ | refine ZC rfl rfl (by (conv=>lhs;whnf);try rfl) ?_ | refine g_field rfl rfl rfl ?_ | refine Zo ?_ | refine Zp (by kernel_rfl) ?_ | refine Zr ?_ | refine Zb ?_ | refine Zh ?_ | refine Zj ?_ | refine Zs ?_ | refine Zk ?_ | refine Zq ?_ | refine Zt ?_ | refine ZD ?_ | refine Zg ?_ | refine Zu ?_ | refine ZE ?_)
     refine ZdU [_] νb (Zlp ⟨kind,tag,count - 3,list,args⟩ e2 r2 (by simp at hr1;omega)) rfl rfl rfl rfl ?_
     refine Zgs ?_
     refine ZaB (Zgg (2,1+1000000 * (1000+1)) (1,8) νb (tm':=[(0,.ptr 0 (0,0) 0),(1,.int .i64 (c - 3)),(5,.ptr 300 (1,300) 0),(8,.ptr 8 (1,8) 0)]) ⟨rfl,rfl,rfl,rfl,trivial⟩) ?_ (List.cons_ne_nil _ _)
     repeat (first | refine ZB rfl (by (conv=>lhs;whnf);try rfl) ?_ | refine Zy rfl rfl rfl ?_ | refine Zc rfl rfl ?_ | refine Zi rfl (by (conv=>lhs;whnf);try rfl) ?_ | refine ZL rfl rfl (by omega) ?_ | refine ZK rfl rfl rfl (by omega) (by omega) ?_ | refine ZI rfl rfl rfl (by omega) ?_ | refine ZJ rfl rfl rfl (by omega) (by omega) ?_ | refine ZM rfl rfl rfl rfl (by (conv=>lhs;whnf);try rfl) ?_ | refine ZO rfl rfl rfl rfl (by (conv=>lhs;whnf);try rfl) ?_ | refine ZQ rfl rfl ?_ | refine Zd rfl rfl ?_ | refine ZA rfl rfl ?_ | refine Zz rfl rfl rfl rfl ?_ | refine ZR rfl rfl rfl (by decide) ?_ | refine ZV rfl rfl rfl (by first | decide | omega) ?_ | refine ZT rfl rfl ?_ | refine Zv Tryz.underlying9 rfl rfl ?_ | refine ZS rfl (by (conv=>lhs;whnf);try rfl) (by (conv=>lhs;whnf);try rfl) (by rfl) ?_ | refine Zl rfl rfl ?_ | refine Zm rfl rfl rfl (by (conv=>lhs;whnf);try rfl) (by (conv=>lhs;whnf);try rfl) (by rfl) (by rfl) (Nat.le_of_ble_eq_true rfl) (by (conv=>lhs;whnf);try rfl) ?_ | refine Zn rfl rfl ?_ | refine Za rfl rfl rfl (by rfl) (by decide) (by (conv=>lhs;whnf);try rfl) ?_ | refine Zf rfl rfl rfl ?_ | refine ZP rfl rfl ?_ | refine ZC rfl rfl (by (conv=>lhs;whnf);try rfl) ?_ | refine g_field rfl rfl rfl ?_ | refine Zo ?_ | refine Zp (by kernel_rfl) ?_ | refine Zr ?_ | refine Zb ?_ | refine Zh ?_ | refine Zj ?_ | refine Zs ?_ | refine Zk ?_ | refine Zq ?_ | refine Zt ?_ | refine ZD ?_ | refine Zg ?_ | refine Zu ?_ | refine ZE ?_)
     obtain ⟨e3,h3,he4⟩:=Option.bind_eq_some_iff.1 he4
     by_cases h1:count - 3=1
     ·rw [if_pos h1] at h3
      rw [decide_eq_true h1]
      have hf3:=Zav hf2 h3
      repeat (first | (refine ZW rfl rfl ?_) | (refine ZX [_,_] νb (ZbC e2 r2 _ hf2.1 hf2.2 e3 h3) rfl rfl rfl rfl rfl rfl ?_) | (refine ZX [_,_] (νc _ _) (ZfK e3 r2 _ hf3.1 e4 he4) rfl rfl rfl rfl rfl rfl ?_) | refine ZB rfl (by (conv=>lhs;whnf);try rfl) ?_ | refine Zy rfl rfl rfl ?_ | refine Zc rfl rfl ?_ | refine Zi rfl (by (conv=>lhs;whnf);try rfl) ?_ | refine ZL rfl rfl (by omega) ?_ | refine ZK rfl rfl rfl (by omega) (by omega) ?_ | refine ZI rfl rfl rfl (by omega) ?_ | refine ZJ rfl rfl rfl (by omega) (by omega) ?_ | refine ZM rfl rfl rfl rfl (by (conv=>lhs;whnf);try rfl) ?_ | refine ZO rfl rfl rfl rfl (by (conv=>lhs;whnf);try rfl) ?_ | refine ZQ rfl rfl ?_ | refine Zd rfl rfl ?_ | refine ZA rfl rfl ?_ | refine Zz rfl rfl rfl rfl ?_ | refine ZR rfl rfl rfl (by decide) ?_ | refine ZV rfl rfl rfl (by first | decide | omega) ?_ | refine ZT rfl rfl ?_ | refine Zv Tryz.underlying9 rfl rfl ?_ | refine ZS rfl (by (conv=>lhs;whnf);try rfl) (by (conv=>lhs;whnf);try rfl) (by rfl) ?_ | refine Zl rfl rfl ?_ | refine Zm rfl rfl rfl (by (conv=>lhs;whnf);try rfl) (by (conv=>lhs;whnf);try rfl) (by rfl) (by rfl) (Nat.le_of_ble_eq_true rfl) (by (conv=>lhs;whnf);try rfl) ?_ | refine Zn rfl rfl ?_ | refine Za rfl rfl rfl (by rfl) (by decide) (by (conv=>lhs;whnf);try rfl) ?_ | refine Zf rfl rfl rfl ?_ | refine ZP rfl rfl ?_ | refine ZC rfl rfl (by (conv=>lhs;whnf);try rfl) ?_ | refine g_field rfl rfl rfl ?_ | refine Zo ?_ | refine Zp (by kernel_rfl) ?_ | refine Zr ?_ | refine Zb ?_ | refine Zh ?_ | refine Zj ?_ | refine Zs ?_ | refine Zk ?_ | refine Zq ?_ | refine Zt ?_ | refine ZD ?_ | refine Zg ?_ | refine Zu ?_ | refine ZE ?_)
      exact Zat (f,c - 3,e4,r2) 2 ⟨hf4,h⟩ (Nat.lt_succ_self _) (ZaZ (νc 4 2) [_,_] (fun k=>(k,νc 4 2 k)) (fun _ _=>rfl) rfl ⟨rfl,rfl,trivial⟩ (x:=[]) (x':=[]) rfl rfl rfl (Zaj _) rfl)
     ·rw [if_neg h1] at h3
      injection h3 with h3
      subst h3
      rw [decide_eq_false h1]
      repeat (first | (refine Zx rfl rfl ?_) | (refine ZX [_,_] νb (ZfK e2 r2 _ hf2.1 e4 he4) rfl rfl rfl rfl rfl rfl ?_) | refine ZB rfl (by (conv=>lhs;whnf);try rfl) ?_ | refine Zy rfl rfl rfl ?_ | refine Zc rfl rfl ?_ | refine Zi rfl (by (conv=>lhs;whnf);try rfl) ?_ | refine ZL rfl rfl (by omega) ?_ | refine ZK rfl rfl rfl (by omega) (by omega) ?_ | refine ZI rfl rfl rfl (by omega) ?_ | refine ZJ rfl rfl rfl (by omega) (by omega) ?_ | refine ZM rfl rfl rfl rfl (by (conv=>lhs;whnf);try rfl) ?_ | refine ZO rfl rfl rfl rfl (by (conv=>lhs;whnf);try rfl) ?_ | refine ZQ rfl rfl ?_ | refine Zd rfl rfl ?_ | refine ZA rfl rfl ?_ | refine Zz rfl rfl rfl rfl ?_ | refine ZR rfl rfl rfl (by decide) ?_ | refine ZV rfl rfl rfl (by first | decide | omega) ?_ | refine ZT rfl rfl ?_ | refine Zv Tryz.underlying9 rfl rfl ?_ | refine ZS rfl (by (conv=>lhs;whnf);try rfl) (by (conv=>lhs;whnf);try rfl) (by rfl) ?_ | refine Zl rfl rfl ?_ | refine Zm rfl rfl rfl (by (conv=>lhs;whnf);try rfl) (by (conv=>lhs;whnf);try rfl) (by rfl) (by rfl) (Nat.le_of_ble_eq_true rfl) (by (conv=>lhs;whnf);try rfl) ?_ | refine Zn rfl rfl ?_ | refine Za rfl rfl rfl (by rfl) (by decide) (by (conv=>lhs;whnf);try rfl) ?_ | refine Zf rfl rfl rfl ?_ | refine ZP rfl rfl ?_ | refine ZC rfl rfl (by (conv=>lhs;whnf);try rfl) ?_ | refine g_field rfl rfl rfl ?_ | refine Zo ?_ | refine Zp (by kernel_rfl) ?_ | refine Zr ?_ | refine Zb ?_ | refine Zh ?_ | refine Zj ?_ | refine Zs ?_ | refine Zk ?_ | refine Zq ?_ | refine Zt ?_ | refine ZD ?_ | refine Zg ?_ | refine Zu ?_ | refine ZE ?_)
      exact Zat (f,c - 3,e4,r2) 2 ⟨hf4,h⟩ (Nat.lt_succ_self _) (ZaZ (νc 3 2) [_,_] (fun k=>(k,νc 3 2 k)) (fun _ _=>rfl) rfl ⟨rfl,rfl,trivial⟩ (x:=[]) (x':=[]) rfl rfl rfl (Zaj _) rfl)
   ·have hK:ZgN c count=2:=if_neg (fun h=>hk2 h.2)
    have hN:ZgO c ⟨kind,tag,count,list,args⟩=⟨4,0,⟨#[]⟩,list,(El.argL ⟨kind,tag,count,list,args⟩).map Arg.cs⟩:=by unfold ZgO;rw [if_neg (fun h=>hk2 h.2)]
    rw [hK,hN] at h
    rw [decide_eq_true hk1]
    repeat (first | refine ZB rfl (by (conv=>lhs;whnf);try rfl) ?_ | refine Zy rfl rfl rfl ?_ | refine Zc rfl rfl ?_ | refine Zi rfl (by (conv=>lhs;whnf);try rfl) ?_ | refine ZL rfl rfl (by omega) ?_ | refine ZK rfl rfl rfl (by omega) (by omega) ?_ | refine ZI rfl rfl rfl (by omega) ?_ | refine ZJ rfl rfl rfl (by omega) (by omega) ?_ | refine ZM rfl rfl rfl rfl (by (conv=>lhs;whnf);try rfl) ?_ | refine ZO rfl rfl rfl rfl (by (conv=>lhs;whnf);try rfl) ?_ | refine ZQ rfl rfl ?_ | refine Zd rfl rfl ?_ | refine ZA rfl rfl ?_ | refine Zz rfl rfl rfl rfl ?_ | refine ZR rfl rfl rfl (by decide) ?_ | refine ZV rfl rfl rfl (by first | decide | omega) ?_ | refine ZT rfl rfl ?_ | refine Zv Tryz.underlying9 rfl rfl ?_ | refine ZS rfl (by (conv=>lhs;whnf);try rfl) (by (conv=>lhs;whnf);try rfl) (by rfl) ?_ | refine Zl rfl rfl ?_ | refine Zm rfl rfl rfl (by (conv=>lhs;whnf);try rfl) (by (conv=>lhs;whnf);try rfl) (by rfl) (by rfl) (Nat.le_of_ble_eq_true rfl) (by (conv=>lhs;whnf);try rfl) ?_ | refine Zn rfl rfl ?_ | refine Za rfl rfl rfl (by rfl) (by decide) (by (conv=>lhs;whnf);try rfl) ?_ | refine Zf rfl rfl rfl ?_ | refine ZP rfl rfl ?_ | refine ZC rfl rfl (by (conv=>lhs;whnf);try rfl) ?_ | refine g_field rfl rfl rfl ?_ | refine Zo ?_ | refine Zp (by kernel_rfl) ?_ | refine Zr ?_ | refine Zb ?_ | refine Zh ?_ | refine Zj ?_ | refine Zs ?_ | refine Zk ?_ | refine Zq ?_ | refine Zt ?_ | refine ZD ?_ | refine Zg ?_ | refine Zu ?_ | refine ZE ?_)
    rw [decide_eq_false hk2]
    repeat (first | (refine Zx rfl rfl ?_) | (refine ZJ (a:=c) (b:=2) rfl rfl rfl (by omega) (by omega) ?_) | (refine ZJ (a:=count) (b:=2) rfl rfl rfl (by omega) (by omega) ?_) | refine ZB rfl (by (conv=>lhs;whnf);try rfl) ?_ | refine Zy rfl rfl rfl ?_ | refine Zc rfl rfl ?_ | refine Zi rfl (by (conv=>lhs;whnf);try rfl) ?_ | refine ZL rfl rfl (by omega) ?_ | refine ZK rfl rfl rfl (by omega) (by omega) ?_ | refine ZI rfl rfl rfl (by omega) ?_ | refine ZJ rfl rfl rfl (by omega) (by omega) ?_ | refine ZM rfl rfl rfl rfl (by (conv=>lhs;whnf);try rfl) ?_ | refine ZO rfl rfl rfl rfl (by (conv=>lhs;whnf);try rfl) ?_ | refine ZQ rfl rfl ?_ | refine Zd rfl rfl ?_ | refine ZA rfl rfl ?_ | refine Zz rfl rfl rfl rfl ?_ | refine ZR rfl rfl rfl (by decide) ?_ | refine ZV rfl rfl rfl (by first | decide | omega) ?_ | refine ZT rfl rfl ?_ | refine Zv Tryz.underlying9 rfl rfl ?_ | refine ZS rfl (by (conv=>lhs;whnf);try rfl) (by (conv=>lhs;whnf);try rfl) (by rfl) ?_ | refine Zl rfl rfl ?_ | refine Zm rfl rfl rfl (by (conv=>lhs;whnf);try rfl) (by (conv=>lhs;whnf);try rfl) (by rfl) (by rfl) (Nat.le_of_ble_eq_true rfl) (by (conv=>lhs;whnf);try rfl) ?_ | refine Zn rfl rfl ?_ | refine Za rfl rfl rfl (by rfl) (by decide) (by (conv=>lhs;whnf);try rfl) ?_ | refine Zf rfl rfl rfl ?_ | refine ZP rfl rfl ?_ | refine ZC rfl rfl (by (conv=>lhs;whnf);try rfl) ?_ | refine g_field rfl rfl rfl ?_ | refine Zo ?_ | refine Zp (by kernel_rfl) ?_ | refine Zr ?_ | refine Zb ?_ | refine Zh ?_ | refine Zj ?_ | refine Zs ?_ | refine Zk ?_ | refine Zq ?_ | refine Zt ?_ | refine ZD ?_ | refine Zg ?_ | refine Zu ?_ | refine ZE ?_)
    by_cases hm:2≤count - 2
    ·rw [if_pos hm] at h
     rw [decide_eq_true hm]
     refine ZW rfl rfl ?_
     have hfn:fits ⟨kind,tag,count - 2,[Node.cs ⟨4,0,⟨#[]⟩,list,(El.argL ⟨kind,tag,count,list,args⟩).map Arg.cs⟩],none⟩ r1:=Zbm hf1 ⟨⟨by omega,fun q hq=>by cases hq⟩,by show 1≤9223372036854775807;omega⟩
     rcases args with _ | ⟨pre,a⟩
     ·refine ZaB (ZdB (b:=1001) (u:=8) (by omega) rfl rfl rfl (fun e he=>absurd he List.not_mem_nil)) ?_ (List.cons_ne_nil _ _)
      repeat (first | refine ZB rfl (by (conv=>lhs;whnf);try rfl) ?_ | refine Zy rfl rfl rfl ?_ | refine Zc rfl rfl ?_ | refine Zi rfl (by (conv=>lhs;whnf);try rfl) ?_ | refine ZL rfl rfl (by omega) ?_ | refine ZK rfl rfl rfl (by omega) (by omega) ?_ | refine ZI rfl rfl rfl (by omega) ?_ | refine ZJ rfl rfl rfl (by omega) (by omega) ?_ | refine ZM rfl rfl rfl rfl (by (conv=>lhs;whnf);try rfl) ?_ | refine ZO rfl rfl rfl rfl (by (conv=>lhs;whnf);try rfl) ?_ | refine ZQ rfl rfl ?_ | refine Zd rfl rfl ?_ | refine ZA rfl rfl ?_ | refine Zz rfl rfl rfl rfl ?_ | refine ZR rfl rfl rfl (by decide) ?_ | refine ZV rfl rfl rfl (by first | decide | omega) ?_ | refine ZT rfl rfl ?_ | refine Zv Tryz.underlying9 rfl rfl ?_ | refine ZS rfl (by (conv=>lhs;whnf);try rfl) (by (conv=>lhs;whnf);try rfl) (by rfl) ?_ | refine Zl rfl rfl ?_ | refine Zm rfl rfl rfl (by (conv=>lhs;whnf);try rfl) (by (conv=>lhs;whnf);try rfl) (by rfl) (by rfl) (Nat.le_of_ble_eq_true rfl) (by (conv=>lhs;whnf);try rfl) ?_ | refine Zn rfl rfl ?_ | refine Za rfl rfl rfl (by rfl) (by decide) (by (conv=>lhs;whnf);try rfl) ?_ | refine Zf rfl rfl rfl ?_ | refine ZP rfl rfl ?_ | refine ZC rfl rfl (by (conv=>lhs;whnf);try rfl) ?_ | refine g_field rfl rfl rfl ?_ | refine Zo ?_ | refine Zp (by kernel_rfl) ?_ | refine Zr ?_ | refine Zb ?_ | refine Zh ?_ | refine Zj ?_ | refine Zs ?_ | refine Zk ?_ | refine Zq ?_ | refine Zt ?_ | refine ZD ?_ | refine Zg ?_ | refine Zu ?_ | refine ZE ?_)
      exact Zat (f,c - 2,⟨kind,tag,count - 2,[Node.cs ⟨4,0,⟨#[]⟩,list,[]⟩],none⟩,r1) 2 ⟨hfn,h⟩ (Nat.lt_succ_self _) (Shift.trans (Zb1 1001 66 4 111 3 rfl rfl rfl) (Shift.trans (Zca (t:=66) rfl) (Zb6 (9,3) (10,0) 65 66 νb rfl ⟨rfl,rfl,trivial⟩ rfl rfl rfl rfl rfl rfl (Zcy (A:=[_,_,_,_,_,_,_,_,_,_,_,_,_]) rfl))))
     ·refine ZaB (ZcU 1003 pre.length 2 rfl (Za1 _ _ _ _) rfl (ZcW rfl) (ZhV _ _ _ _)) ?_ (List.cons_ne_nil _ _)
      refine ZaB (ZdB (b:=1001) (u:=8) (by omega) rfl rfl rfl ZeB) ?_ (List.cons_ne_nil _ _)
      repeat (first | refine ZB rfl (by (conv=>lhs;whnf);try rfl) ?_ | refine Zy rfl rfl rfl ?_ | refine Zc rfl rfl ?_ | refine Zi rfl (by (conv=>lhs;whnf);try rfl) ?_ | refine ZL rfl rfl (by omega) ?_ | refine ZK rfl rfl rfl (by omega) (by omega) ?_ | refine ZI rfl rfl rfl (by omega) ?_ | refine ZJ rfl rfl rfl (by omega) (by omega) ?_ | refine ZM rfl rfl rfl rfl (by (conv=>lhs;whnf);try rfl) ?_ | refine ZO rfl rfl rfl rfl (by (conv=>lhs;whnf);try rfl) ?_ | refine ZQ rfl rfl ?_ | refine Zd rfl rfl ?_ | refine ZA rfl rfl ?_ | refine Zz rfl rfl rfl rfl ?_ | refine ZR rfl rfl rfl (by decide) ?_ | refine ZV rfl rfl rfl (by first | decide | omega) ?_ | refine ZT rfl rfl ?_ | refine Zv Tryz.underlying9 rfl rfl ?_ | refine ZS rfl (by (conv=>lhs;whnf);try rfl) (by (conv=>lhs;whnf);try rfl) (by rfl) ?_ | refine Zl rfl rfl ?_ | refine Zm rfl rfl rfl (by (conv=>lhs;whnf);try rfl) (by (conv=>lhs;whnf);try rfl) (by rfl) (by rfl) (Nat.le_of_ble_eq_true rfl) (by (conv=>lhs;whnf);try rfl) ?_ | refine Zn rfl rfl ?_ | refine Za rfl rfl rfl (by rfl) (by decide) (by (conv=>lhs;whnf);try rfl) ?_ | refine Zf rfl rfl rfl ?_ | refine ZP rfl rfl ?_ | refine ZC rfl rfl (by (conv=>lhs;whnf);try rfl) ?_ | refine g_field rfl rfl rfl ?_ | refine Zo ?_ | refine Zp (by kernel_rfl) ?_ | refine Zr ?_ | refine Zb ?_ | refine Zh ?_ | refine Zj ?_ | refine Zs ?_ | refine Zk ?_ | refine Zq ?_ | refine Zt ?_ | refine ZD ?_ | refine Zg ?_ | refine Zu ?_ | refine ZE ?_)
      exact Zat (f,c - 2,⟨kind,tag,count - 2,[Node.cs ⟨4,0,⟨#[]⟩,list,(pre ++ [a]).map Arg.cs⟩],none⟩,r1) 2 ⟨hfn,h⟩ (Nat.lt_succ_self _) (Shift.trans (Zb1 1001 66 4 111 3 rfl rfl rfl) (Shift.trans (Zca (t:=66) rfl) (Zb6 (9,3) (10,0) 65 66 νb rfl ⟨rfl,rfl,trivial⟩ rfl rfl rfl rfl rfl rfl (Zcy (A:=[_,_,_,_,_,_,_,_,_,_,_,_,_,_,_]) rfl))))
    ·rw [if_neg hm] at h
     rcases r1 with _ | ⟨e2,r2⟩
     ·cases h
     obtain ⟨e4,he4,h⟩:=Option.bind_eq_some_iff.1 h
     have hf2:=Zau (ZaM hf1)
     have hf4:=Zbm (ZaM hf1) (Zg8 hf2 he4)
     rw [decide_eq_false hm]
     refine Zx rfl rfl ?_
     refine ZaB (Shift.trans (Zfk (lits:=[_,_]) (m:=count - 2) rfl) (ZaZ νb [_,_] (fun k=>if k=8 then (8,(5,10)) else (k,νb k)) (fun k hk=>if_neg (by omega)) rfl (tm':=[(0,.ptr 0 (0,0) 0),(1,.int .i64 (c - 2)),(5,.ptr 1001 (1,1001) 0),(8,.ptr 8 (1,8) 0)]) ⟨rfl,rfl,rfl,rfl,trivial⟩ (x:=[(8,(5,10),.box [.int .i64 4,.int .i64 0,.str ⟨#[]⟩,.row 1002 (νb 1002),.row 1003 (νb 1003)])]) (x':=[(8,νb 8,.box [.int .i64 4,.int .i64 0,.str ⟨#[]⟩,.row 1002 (νb 1002),.row 1003 (νb 1003)])]) rfl rfl rfl (ZF rfl (Zaj _)) rfl)) ?_ (List.cons_ne_nil _ _)
     repeat (first | refine ZB rfl (by (conv=>lhs;whnf);try rfl) ?_ | refine Zy rfl rfl rfl ?_ | refine Zc rfl rfl ?_ | refine Zi rfl (by (conv=>lhs;whnf);try rfl) ?_ | refine ZL rfl rfl (by omega) ?_ | refine ZK rfl rfl rfl (by omega) (by omega) ?_ | refine ZI rfl rfl rfl (by omega) ?_ | refine ZJ rfl rfl rfl (by omega) (by omega) ?_ | refine ZM rfl rfl rfl rfl (by (conv=>lhs;whnf);try rfl) ?_ | refine ZO rfl rfl rfl rfl (by (conv=>lhs;whnf);try rfl) ?_ | refine ZQ rfl rfl ?_ | refine Zd rfl rfl ?_ | refine ZA rfl rfl ?_ | refine Zz rfl rfl rfl rfl ?_ | refine ZR rfl rfl rfl (by decide) ?_ | refine ZV rfl rfl rfl (by first | decide | omega) ?_ | refine ZT rfl rfl ?_ | refine Zv Tryz.underlying9 rfl rfl ?_ | refine ZS rfl (by (conv=>lhs;whnf);try rfl) (by (conv=>lhs;whnf);try rfl) (by rfl) ?_ | refine Zl rfl rfl ?_ | refine Zm rfl rfl rfl (by (conv=>lhs;whnf);try rfl) (by (conv=>lhs;whnf);try rfl) (by rfl) (by rfl) (Nat.le_of_ble_eq_true rfl) (by (conv=>lhs;whnf);try rfl) ?_ | refine Zn rfl rfl ?_ | refine Za rfl rfl rfl (by rfl) (by decide) (by (conv=>lhs;whnf);try rfl) ?_ | refine Zf rfl rfl rfl ?_ | refine ZP rfl rfl ?_ | refine ZC rfl rfl (by (conv=>lhs;whnf);try rfl) ?_ | refine g_field rfl rfl rfl ?_ | refine Zo ?_ | refine Zp (by kernel_rfl) ?_ | refine Zr ?_ | refine Zb ?_ | refine Zh ?_ | refine Zj ?_ | refine Zs ?_ | refine Zk ?_ | refine Zq ?_ | refine Zt ?_ | refine ZD ?_ | refine Zg ?_ | refine Zu ?_ | refine ZE ?_)
     refine ZdU [_] νb (Zlp ⟨kind,tag,count - 2,list,args⟩ e2 r2 (by simp at hr1;omega)) rfl rfl rfl rfl ?_
     refine Zgs ?_
     refine ZaB (Zgg (2,1+1000000 * (1000+1)) (1,8) νb (tm':=[(0,.ptr 0 (0,0) 0),(1,.int .i64 (c - 2)),(5,.ptr 300 (1,300) 0),(8,.ptr 8 (1,8) 0)]) ⟨rfl,rfl,rfl,rfl,trivial⟩) ?_ (List.cons_ne_nil _ _)
     repeat (first | refine ZB rfl (by (conv=>lhs;whnf);try rfl) ?_ | refine Zy rfl rfl rfl ?_ | refine Zc rfl rfl ?_ | refine Zi rfl (by (conv=>lhs;whnf);try rfl) ?_ | refine ZL rfl rfl (by omega) ?_ | refine ZK rfl rfl rfl (by omega) (by omega) ?_ | refine ZI rfl rfl rfl (by omega) ?_ | refine ZJ rfl rfl rfl (by omega) (by omega) ?_ | refine ZM rfl rfl rfl rfl (by (conv=>lhs;whnf);try rfl) ?_ | refine ZO rfl rfl rfl rfl (by (conv=>lhs;whnf);try rfl) ?_ | refine ZQ rfl rfl ?_ | refine Zd rfl rfl ?_ | refine ZA rfl rfl ?_ | refine Zz rfl rfl rfl rfl ?_ | refine ZR rfl rfl rfl (by decide) ?_ | refine ZV rfl rfl rfl (by first | decide | omega) ?_ | refine ZT rfl rfl ?_ | refine Zv Tryz.underlying9 rfl rfl ?_ | refine ZS rfl (by (conv=>lhs;whnf);try rfl) (by (conv=>lhs;whnf);try rfl) (by rfl) ?_ | refine Zl rfl rfl ?_ | refine Zm rfl rfl rfl (by (conv=>lhs;whnf);try rfl) (by (conv=>lhs;whnf);try rfl) (by rfl) (by rfl) (Nat.le_of_ble_eq_true rfl) (by (conv=>lhs;whnf);try rfl) ?_ | refine Zn rfl rfl ?_ | refine Za rfl rfl rfl (by rfl) (by decide) (by (conv=>lhs;whnf);try rfl) ?_ | refine Zf rfl rfl rfl ?_ | refine ZP rfl rfl ?_ | refine ZC rfl rfl (by (conv=>lhs;whnf);try rfl) ?_ | refine g_field rfl rfl rfl ?_ | refine Zo ?_ | refine Zp (by kernel_rfl) ?_ | refine Zr ?_ | refine Zb ?_ | refine Zh ?_ | refine Zj ?_ | refine Zs ?_ | refine Zk ?_ | refine Zq ?_ | refine Zt ?_ | refine ZD ?_ | refine Zg ?_ | refine Zu ?_ | refine ZE ?_)
     obtain ⟨e3,h3,he4⟩:=Option.bind_eq_some_iff.1 he4
     by_cases h1:count - 2=1
     ·rw [if_pos h1] at h3
      rw [decide_eq_true h1]
      have hf3:=Zav hf2 h3
      repeat (first | (refine ZW rfl rfl ?_) | (refine ZX [_,_] νb (ZbC e2 r2 _ hf2.1 hf2.2 e3 h3) rfl rfl rfl rfl rfl rfl ?_) | (refine ZX [_,_] (νc _ _) (ZfK e3 r2 _ hf3.1 e4 he4) rfl rfl rfl rfl rfl rfl ?_) | refine ZB rfl (by (conv=>lhs;whnf);try rfl) ?_ | refine Zy rfl rfl rfl ?_ | refine Zc rfl rfl ?_ | refine Zi rfl (by (conv=>lhs;whnf);try rfl) ?_ | refine ZL rfl rfl (by omega) ?_ | refine ZK rfl rfl rfl (by omega) (by omega) ?_ | refine ZI rfl rfl rfl (by omega) ?_ | refine ZJ rfl rfl rfl (by omega) (by omega) ?_ | refine ZM rfl rfl rfl rfl (by (conv=>lhs;whnf);try rfl) ?_ | refine ZO rfl rfl rfl rfl (by (conv=>lhs;whnf);try rfl) ?_ | refine ZQ rfl rfl ?_ | refine Zd rfl rfl ?_ | refine ZA rfl rfl ?_ | refine Zz rfl rfl rfl rfl ?_ | refine ZR rfl rfl rfl (by decide) ?_ | refine ZV rfl rfl rfl (by first | decide | omega) ?_ | refine ZT rfl rfl ?_ | refine Zv Tryz.underlying9 rfl rfl ?_ | refine ZS rfl (by (conv=>lhs;whnf);try rfl) (by (conv=>lhs;whnf);try rfl) (by rfl) ?_ | refine Zl rfl rfl ?_ | refine Zm rfl rfl rfl (by (conv=>lhs;whnf);try rfl) (by (conv=>lhs;whnf);try rfl) (by rfl) (by rfl) (Nat.le_of_ble_eq_true rfl) (by (conv=>lhs;whnf);try rfl) ?_ | refine Zn rfl rfl ?_ | refine Za rfl rfl rfl (by rfl) (by decide) (by (conv=>lhs;whnf);try rfl) ?_ | refine Zf rfl rfl rfl ?_ | refine ZP rfl rfl ?_ | refine ZC rfl rfl (by (conv=>lhs;whnf);try rfl) ?_ | refine g_field rfl rfl rfl ?_ | refine Zo ?_ | refine Zp (by kernel_rfl) ?_ | refine Zr ?_ | refine Zb ?_ | refine Zh ?_ | refine Zj ?_ | refine Zs ?_ | refine Zk ?_ | refine Zq ?_ | refine Zt ?_ | refine ZD ?_ | refine Zg ?_ | refine Zu ?_ | refine ZE ?_)
      exact Zat (f,c - 2,e4,r2) 2 ⟨hf4,h⟩ (Nat.lt_succ_self _) (ZaZ (νc 4 2) [_,_] (fun k=>(k,νc 4 2 k)) (fun _ _=>rfl) rfl ⟨rfl,rfl,trivial⟩ (x:=[]) (x':=[]) rfl rfl rfl (Zaj _) rfl)
     ·rw [if_neg h1] at h3
      injection h3 with h3
      subst h3
      rw [decide_eq_false h1]
      repeat (first | (refine Zx rfl rfl ?_) | (refine ZX [_,_] νb (ZfK e2 r2 _ hf2.1 e4 he4) rfl rfl rfl rfl rfl rfl ?_) | refine ZB rfl (by (conv=>lhs;whnf);try rfl) ?_ | refine Zy rfl rfl rfl ?_ | refine Zc rfl rfl ?_ | refine Zi rfl (by (conv=>lhs;whnf);try rfl) ?_ | refine ZL rfl rfl (by omega) ?_ | refine ZK rfl rfl rfl (by omega) (by omega) ?_ | refine ZI rfl rfl rfl (by omega) ?_ | refine ZJ rfl rfl rfl (by omega) (by omega) ?_ | refine ZM rfl rfl rfl rfl (by (conv=>lhs;whnf);try rfl) ?_ | refine ZO rfl rfl rfl rfl (by (conv=>lhs;whnf);try rfl) ?_ | refine ZQ rfl rfl ?_ | refine Zd rfl rfl ?_ | refine ZA rfl rfl ?_ | refine Zz rfl rfl rfl rfl ?_ | refine ZR rfl rfl rfl (by decide) ?_ | refine ZV rfl rfl rfl (by first | decide | omega) ?_ | refine ZT rfl rfl ?_ | refine Zv Tryz.underlying9 rfl rfl ?_ | refine ZS rfl (by (conv=>lhs;whnf);try rfl) (by (conv=>lhs;whnf);try rfl) (by rfl) ?_ | refine Zl rfl rfl ?_ | refine Zm rfl rfl rfl (by (conv=>lhs;whnf);try rfl) (by (conv=>lhs;whnf);try rfl) (by rfl) (by rfl) (Nat.le_of_ble_eq_true rfl) (by (conv=>lhs;whnf);try rfl) ?_ | refine Zn rfl rfl ?_ | refine Za rfl rfl rfl (by rfl) (by decide) (by (conv=>lhs;whnf);try rfl) ?_ | refine Zf rfl rfl rfl ?_ | refine ZP rfl rfl ?_ | refine ZC rfl rfl (by (conv=>lhs;whnf);try rfl) ?_ | refine g_field rfl rfl rfl ?_ | refine Zo ?_ | refine Zp (by kernel_rfl) ?_ | refine Zr ?_ | refine Zb ?_ | refine Zh ?_ | refine Zj ?_ | refine Zs ?_ | refine Zk ?_ | refine Zq ?_ | refine Zt ?_ | refine ZD ?_ | refine Zg ?_ | refine Zu ?_ | refine ZE ?_)
      exact Zat (f,c - 2,e4,r2) 2 ⟨hf4,h⟩ (Nat.lt_succ_self _) (ZaZ (νc 3 2) [_,_] (fun k=>(k,νc 3 2 k)) (fun _ _=>rfl) rfl ⟨rfl,rfl,trivial⟩ (x:=[]) (x':=[]) rfl rfl rfl (Zaj _) rfl)
  ·have hK:ZgN c count=2:=if_neg (fun h=>hk1 h.1)
   have hN:ZgO c ⟨kind,tag,count,list,args⟩=⟨4,0,⟨#[]⟩,list,(El.argL ⟨kind,tag,count,list,args⟩).map Arg.cs⟩:=by unfold ZgO;rw [if_neg (fun h=>hk1 h.1)]
   rw [hK,hN] at h
   rw [decide_eq_false hk1]
   repeat (first | (refine Zao rfl ?_) | (refine Zx rfl rfl ?_) | (refine ZJ (a:=c) (b:=2) rfl rfl rfl (by omega) (by omega) ?_) | (refine ZJ (a:=count) (b:=2) rfl rfl rfl (by omega) (by omega) ?_) | refine ZB rfl (by (conv=>lhs;whnf);try rfl) ?_ | refine Zy rfl rfl rfl ?_ | refine Zc rfl rfl ?_ | refine Zi rfl (by (conv=>lhs;whnf);try rfl) ?_ | refine ZL rfl rfl (by omega) ?_ | refine ZK rfl rfl rfl (by omega) (by omega) ?_ | refine ZI rfl rfl rfl (by omega) ?_ | refine ZJ rfl rfl rfl (by omega) (by omega) ?_ | refine ZM rfl rfl rfl rfl (by (conv=>lhs;whnf);try rfl) ?_ | refine ZO rfl rfl rfl rfl (by (conv=>lhs;whnf);try rfl) ?_ | refine ZQ rfl rfl ?_ | refine Zd rfl rfl ?_ | refine ZA rfl rfl ?_ | refine Zz rfl rfl rfl rfl ?_ | refine ZR rfl rfl rfl (by decide) ?_ | refine ZV rfl rfl rfl (by first | decide | omega) ?_ | refine ZT rfl rfl ?_ | refine Zv Tryz.underlying9 rfl rfl ?_ | refine ZS rfl (by (conv=>lhs;whnf);try rfl) (by (conv=>lhs;whnf);try rfl) (by rfl) ?_ | refine Zl rfl rfl ?_ | refine Zm rfl rfl rfl (by (conv=>lhs;whnf);try rfl) (by (conv=>lhs;whnf);try rfl) (by rfl) (by rfl) (Nat.le_of_ble_eq_true rfl) (by (conv=>lhs;whnf);try rfl) ?_ | refine Zn rfl rfl ?_ | refine Za rfl rfl rfl (by rfl) (by decide) (by (conv=>lhs;whnf);try rfl) ?_ | refine Zf rfl rfl rfl ?_ | refine ZP rfl rfl ?_ | refine ZC rfl rfl (by (conv=>lhs;whnf);try rfl) ?_ | refine g_field rfl rfl rfl ?_ | refine Zo ?_ | refine Zp (by kernel_rfl) ?_ | refine Zr ?_ | refine Zb ?_ | refine Zh ?_ | refine Zj ?_ | refine Zs ?_ | refine Zk ?_ | refine Zq ?_ | refine Zt ?_ | refine ZD ?_ | refine Zg ?_ | refine Zu ?_ | refine ZE ?_)
   by_cases hm:2≤count - 2
   ·rw [if_pos hm] at h
    rw [decide_eq_true hm]
    refine ZW rfl rfl ?_
    have hfn:fits ⟨kind,tag,count - 2,[Node.cs ⟨4,0,⟨#[]⟩,list,(El.argL ⟨kind,tag,count,list,args⟩).map Arg.cs⟩],none⟩ r1:=Zbm hf1 ⟨⟨by omega,fun q hq=>by cases hq⟩,by show 1≤9223372036854775807;omega⟩
    rcases args with _ | ⟨pre,a⟩
    ·refine ZaB (ZdB (b:=1001) (u:=8) (by omega) rfl rfl rfl (fun e he=>absurd he List.not_mem_nil)) ?_ (List.cons_ne_nil _ _)
     repeat (first | refine ZB rfl (by (conv=>lhs;whnf);try rfl) ?_ | refine Zy rfl rfl rfl ?_ | refine Zc rfl rfl ?_ | refine Zi rfl (by (conv=>lhs;whnf);try rfl) ?_ | refine ZL rfl rfl (by omega) ?_ | refine ZK rfl rfl rfl (by omega) (by omega) ?_ | refine ZI rfl rfl rfl (by omega) ?_ | refine ZJ rfl rfl rfl (by omega) (by omega) ?_ | refine ZM rfl rfl rfl rfl (by (conv=>lhs;whnf);try rfl) ?_ | refine ZO rfl rfl rfl rfl (by (conv=>lhs;whnf);try rfl) ?_ | refine ZQ rfl rfl ?_ | refine Zd rfl rfl ?_ | refine ZA rfl rfl ?_ | refine Zz rfl rfl rfl rfl ?_ | refine ZR rfl rfl rfl (by decide) ?_ | refine ZV rfl rfl rfl (by first | decide | omega) ?_ | refine ZT rfl rfl ?_ | refine Zv Tryz.underlying9 rfl rfl ?_ | refine ZS rfl (by (conv=>lhs;whnf);try rfl) (by (conv=>lhs;whnf);try rfl) (by rfl) ?_ | refine Zl rfl rfl ?_ | refine Zm rfl rfl rfl (by (conv=>lhs;whnf);try rfl) (by (conv=>lhs;whnf);try rfl) (by rfl) (by rfl) (Nat.le_of_ble_eq_true rfl) (by (conv=>lhs;whnf);try rfl) ?_ | refine Zn rfl rfl ?_ | refine Za rfl rfl rfl (by rfl) (by decide) (by (conv=>lhs;whnf);try rfl) ?_ | refine Zf rfl rfl rfl ?_ | refine ZP rfl rfl ?_ | refine ZC rfl rfl (by (conv=>lhs;whnf);try rfl) ?_ | refine g_field rfl rfl rfl ?_ | refine Zo ?_ | refine Zp (by kernel_rfl) ?_ | refine Zr ?_ | refine Zb ?_ | refine Zh ?_ | refine Zj ?_ | refine Zs ?_ | refine Zk ?_ | refine Zq ?_ | refine Zt ?_ | refine ZD ?_ | refine Zg ?_ | refine Zu ?_ | refine ZE ?_)
     exact Zat (f,c - 2,⟨kind,tag,count - 2,[Node.cs ⟨4,0,⟨#[]⟩,list,[]⟩],none⟩,r1) 2 ⟨hfn,h⟩ (Nat.lt_succ_self _) (Shift.trans (Zb1 1001 66 4 111 3 rfl rfl rfl) (Shift.trans (Zca (t:=66) rfl) (Zb6 (9,3) (10,0) 65 66 νb rfl ⟨rfl,rfl,trivial⟩ rfl rfl rfl rfl rfl rfl (Zcy (A:=[_,_,_,_,_,_,_,_,_,_,_,_,_]) rfl))))
    ·refine ZaB (ZcU 1003 pre.length 2 rfl (Za1 _ _ _ _) rfl (ZcW rfl) (ZhV _ _ _ _)) ?_ (List.cons_ne_nil _ _)
     refine ZaB (ZdB (b:=1001) (u:=8) (by omega) rfl rfl rfl ZeB) ?_ (List.cons_ne_nil _ _)
     repeat (first | refine ZB rfl (by (conv=>lhs;whnf);try rfl) ?_ | refine Zy rfl rfl rfl ?_ | refine Zc rfl rfl ?_ | refine Zi rfl (by (conv=>lhs;whnf);try rfl) ?_ | refine ZL rfl rfl (by omega) ?_ | refine ZK rfl rfl rfl (by omega) (by omega) ?_ | refine ZI rfl rfl rfl (by omega) ?_ | refine ZJ rfl rfl rfl (by omega) (by omega) ?_ | refine ZM rfl rfl rfl rfl (by (conv=>lhs;whnf);try rfl) ?_ | refine ZO rfl rfl rfl rfl (by (conv=>lhs;whnf);try rfl) ?_ | refine ZQ rfl rfl ?_ | refine Zd rfl rfl ?_ | refine ZA rfl rfl ?_ | refine Zz rfl rfl rfl rfl ?_ | refine ZR rfl rfl rfl (by decide) ?_ | refine ZV rfl rfl rfl (by first | decide | omega) ?_ | refine ZT rfl rfl ?_ | refine Zv Tryz.underlying9 rfl rfl ?_ | refine ZS rfl (by (conv=>lhs;whnf);try rfl) (by (conv=>lhs;whnf);try rfl) (by rfl) ?_ | refine Zl rfl rfl ?_ | refine Zm rfl rfl rfl (by (conv=>lhs;whnf);try rfl) (by (conv=>lhs;whnf);try rfl) (by rfl) (by rfl) (Nat.le_of_ble_eq_true rfl) (by (conv=>lhs;whnf);try rfl) ?_ | refine Zn rfl rfl ?_ | refine Za rfl rfl rfl (by rfl) (by decide) (by (conv=>lhs;whnf);try rfl) ?_ | refine Zf rfl rfl rfl ?_ | refine ZP rfl rfl ?_ | refine ZC rfl rfl (by (conv=>lhs;whnf);try rfl) ?_ | refine g_field rfl rfl rfl ?_ | refine Zo ?_ | refine Zp (by kernel_rfl) ?_ | refine Zr ?_ | refine Zb ?_ | refine Zh ?_ | refine Zj ?_ | refine Zs ?_ | refine Zk ?_ | refine Zq ?_ | refine Zt ?_ | refine ZD ?_ | refine Zg ?_ | refine Zu ?_ | refine ZE ?_)
     exact Zat (f,c - 2,⟨kind,tag,count - 2,[Node.cs ⟨4,0,⟨#[]⟩,list,(pre ++ [a]).map Arg.cs⟩],none⟩,r1) 2 ⟨hfn,h⟩ (Nat.lt_succ_self _) (Shift.trans (Zb1 1001 66 4 111 3 rfl rfl rfl) (Shift.trans (Zca (t:=66) rfl) (Zb6 (9,3) (10,0) 65 66 νb rfl ⟨rfl,rfl,trivial⟩ rfl rfl rfl rfl rfl rfl (Zcy (A:=[_,_,_,_,_,_,_,_,_,_,_,_,_,_,_]) rfl))))
   ·rw [if_neg hm] at h
    rcases r1 with _ | ⟨e2,r2⟩
    ·cases h
    obtain ⟨e4,he4,h⟩:=Option.bind_eq_some_iff.1 h
    have hf2:=Zau (ZaM hf1)
    have hf4:=Zbm (ZaM hf1) (Zg8 hf2 he4)
    rw [decide_eq_false hm]
    refine Zx rfl rfl ?_
    refine ZaB (Shift.trans (Zfk (lits:=[_,_]) (m:=count - 2) rfl) (ZaZ νb [_,_] (fun k=>if k=8 then (8,(5,10)) else (k,νb k)) (fun k hk=>if_neg (by omega)) rfl (tm':=[(0,.ptr 0 (0,0) 0),(1,.int .i64 (c - 2)),(5,.ptr 1001 (1,1001) 0),(8,.ptr 8 (1,8) 0)]) ⟨rfl,rfl,rfl,rfl,trivial⟩ (x:=[(8,(5,10),.box [.int .i64 4,.int .i64 0,.str ⟨#[]⟩,.row 1002 (νb 1002),.row 1003 (νb 1003)])]) (x':=[(8,νb 8,.box [.int .i64 4,.int .i64 0,.str ⟨#[]⟩,.row 1002 (νb 1002),.row 1003 (νb 1003)])]) rfl rfl rfl (ZF rfl (Zaj _)) rfl)) ?_ (List.cons_ne_nil _ _)
    repeat (first | refine ZB rfl (by (conv=>lhs;whnf);try rfl) ?_ | refine Zy rfl rfl rfl ?_ | refine Zc rfl rfl ?_ | refine Zi rfl (by (conv=>lhs;whnf);try rfl) ?_ | refine ZL rfl rfl (by omega) ?_ | refine ZK rfl rfl rfl (by omega) (by omega) ?_ | refine ZI rfl rfl rfl (by omega) ?_ | refine ZJ rfl rfl rfl (by omega) (by omega) ?_ | refine ZM rfl rfl rfl rfl (by (conv=>lhs;whnf);try rfl) ?_ | refine ZO rfl rfl rfl rfl (by (conv=>lhs;whnf);try rfl) ?_ | refine ZQ rfl rfl ?_ | refine Zd rfl rfl ?_ | refine ZA rfl rfl ?_ | refine Zz rfl rfl rfl rfl ?_ | refine ZR rfl rfl rfl (by decide) ?_ | refine ZV rfl rfl rfl (by first | decide | omega) ?_ | refine ZT rfl rfl ?_ | refine Zv Tryz.underlying9 rfl rfl ?_ | refine ZS rfl (by (conv=>lhs;whnf);try rfl) (by (conv=>lhs;whnf);try rfl) (by rfl) ?_ | refine Zl rfl rfl ?_ | refine Zm rfl rfl rfl (by (conv=>lhs;whnf);try rfl) (by (conv=>lhs;whnf);try rfl) (by rfl) (by rfl) (Nat.le_of_ble_eq_true rfl) (by (conv=>lhs;whnf);try rfl) ?_ | refine Zn rfl rfl ?_ | refine Za rfl rfl rfl (by rfl) (by decide) (by (conv=>lhs;whnf);try rfl) ?_ | refine Zf rfl rfl rfl ?_ | refine ZP rfl rfl ?_ | refine ZC rfl rfl (by (conv=>lhs;whnf);try rfl) ?_ | refine g_field rfl rfl rfl ?_ | refine Zo ?_ | refine Zp (by kernel_rfl) ?_ | refine Zr ?_ | refine Zb ?_ | refine Zh ?_ | refine Zj ?_ | refine Zs ?_ | refine Zk ?_ | refine Zq ?_ | refine Zt ?_ | refine ZD ?_ | refine Zg ?_ | refine Zu ?_ | refine ZE ?_)
    refine ZdU [_] νb (Zlp ⟨kind,tag,count - 2,list,args⟩ e2 r2 (by simp at hr1;omega)) rfl rfl rfl rfl ?_
    refine Zgs ?_
    refine ZaB (Zgg (2,1+1000000 * (1000+1)) (1,8) νb (tm':=[(0,.ptr 0 (0,0) 0),(1,.int .i64 (c - 2)),(5,.ptr 300 (1,300) 0),(8,.ptr 8 (1,8) 0)]) ⟨rfl,rfl,rfl,rfl,trivial⟩) ?_ (List.cons_ne_nil _ _)
    repeat (first | refine ZB rfl (by (conv=>lhs;whnf);try rfl) ?_ | refine Zy rfl rfl rfl ?_ | refine Zc rfl rfl ?_ | refine Zi rfl (by (conv=>lhs;whnf);try rfl) ?_ | refine ZL rfl rfl (by omega) ?_ | refine ZK rfl rfl rfl (by omega) (by omega) ?_ | refine ZI rfl rfl rfl (by omega) ?_ | refine ZJ rfl rfl rfl (by omega) (by omega) ?_ | refine ZM rfl rfl rfl rfl (by (conv=>lhs;whnf);try rfl) ?_ | refine ZO rfl rfl rfl rfl (by (conv=>lhs;whnf);try rfl) ?_ | refine ZQ rfl rfl ?_ | refine Zd rfl rfl ?_ | refine ZA rfl rfl ?_ | refine Zz rfl rfl rfl rfl ?_ | refine ZR rfl rfl rfl (by decide) ?_ | refine ZV rfl rfl rfl (by first | decide | omega) ?_ | refine ZT rfl rfl ?_ | refine Zv Tryz.underlying9 rfl rfl ?_ | refine ZS rfl (by (conv=>lhs;whnf);try rfl) (by (conv=>lhs;whnf);try rfl) (by rfl) ?_ | refine Zl rfl rfl ?_ | refine Zm rfl rfl rfl (by (conv=>lhs;whnf);try rfl) (by (conv=>lhs;whnf);try rfl) (by rfl) (by rfl) (Nat.le_of_ble_eq_true rfl) (by (conv=>lhs;whnf);try rfl) ?_ | refine Zn rfl rfl ?_ | refine Za rfl rfl rfl (by rfl) (by decide) (by (conv=>lhs;whnf);try rfl) ?_ | refine Zf rfl rfl rfl ?_ | refine ZP rfl rfl ?_ | refine ZC rfl rfl (by (conv=>lhs;whnf);try rfl) ?_ | refine g_field rfl rfl rfl ?_ | refine Zo ?_ | refine Zp (by kernel_rfl) ?_ | refine Zr ?_ | refine Zb ?_ | refine Zh ?_ | refine Zj ?_ | refine Zs ?_ | refine Zk ?_ | refine Zq ?_ | refine Zt ?_ | refine ZD ?_ | refine Zg ?_ | refine Zu ?_ | refine ZE ?_)
    obtain ⟨e3,h3,he4⟩:=Option.bind_eq_some_iff.1 he4
    by_cases h1:count - 2=1
    ·rw [if_pos h1] at h3
     rw [decide_eq_true h1]
     have hf3:=Zav hf2 h3
     repeat (first | (refine ZW rfl rfl ?_) | (refine ZX [_,_] νb (ZbC e2 r2 _ hf2.1 hf2.2 e3 h3) rfl rfl rfl rfl rfl rfl ?_) | (refine ZX [_,_] (νc _ _) (ZfK e3 r2 _ hf3.1 e4 he4) rfl rfl rfl rfl rfl rfl ?_) | refine ZB rfl (by (conv=>lhs;whnf);try rfl) ?_ | refine Zy rfl rfl rfl ?_ | refine Zc rfl rfl ?_ | refine Zi rfl (by (conv=>lhs;whnf);try rfl) ?_ | refine ZL rfl rfl (by omega) ?_ | refine ZK rfl rfl rfl (by omega) (by omega) ?_ | refine ZI rfl rfl rfl (by omega) ?_ | refine ZJ rfl rfl rfl (by omega) (by omega) ?_ | refine ZM rfl rfl rfl rfl (by (conv=>lhs;whnf);try rfl) ?_ | refine ZO rfl rfl rfl rfl (by (conv=>lhs;whnf);try rfl) ?_ | refine ZQ rfl rfl ?_ | refine Zd rfl rfl ?_ | refine ZA rfl rfl ?_ | refine Zz rfl rfl rfl rfl ?_ | refine ZR rfl rfl rfl (by decide) ?_ | refine ZV rfl rfl rfl (by first | decide | omega) ?_ | refine ZT rfl rfl ?_ | refine Zv Tryz.underlying9 rfl rfl ?_ | refine ZS rfl (by (conv=>lhs;whnf);try rfl) (by (conv=>lhs;whnf);try rfl) (by rfl) ?_ | refine Zl rfl rfl ?_ | refine Zm rfl rfl rfl (by (conv=>lhs;whnf);try rfl) (by (conv=>lhs;whnf);try rfl) (by rfl) (by rfl) (Nat.le_of_ble_eq_true rfl) (by (conv=>lhs;whnf);try rfl) ?_ | refine Zn rfl rfl ?_ | refine Za rfl rfl rfl (by rfl) (by decide) (by (conv=>lhs;whnf);try rfl) ?_ | refine Zf rfl rfl rfl ?_ | refine ZP rfl rfl ?_ | refine ZC rfl rfl (by (conv=>lhs;whnf);try rfl) ?_ | refine g_field rfl rfl rfl ?_ | refine Zo ?_ | refine Zp (by kernel_rfl) ?_ | refine Zr ?_ | refine Zb ?_ | refine Zh ?_ | refine Zj ?_ | refine Zs ?_ | refine Zk ?_ | refine Zq ?_ | refine Zt ?_ | refine ZD ?_ | refine Zg ?_ | refine Zu ?_ | refine ZE ?_)
     exact Zat (f,c - 2,e4,r2) 2 ⟨hf4,h⟩ (Nat.lt_succ_self _) (ZaZ (νc 4 2) [_,_] (fun k=>(k,νc 4 2 k)) (fun _ _=>rfl) rfl ⟨rfl,rfl,trivial⟩ (x:=[]) (x':=[]) rfl rfl rfl (Zaj _) rfl)
    ·rw [if_neg h1] at h3
     injection h3 with h3
     subst h3
     rw [decide_eq_false h1]
     repeat (first | (refine Zx rfl rfl ?_) | (refine ZX [_,_] νb (ZfK e2 r2 _ hf2.1 e4 he4) rfl rfl rfl rfl rfl rfl ?_) | refine ZB rfl (by (conv=>lhs;whnf);try rfl) ?_ | refine Zy rfl rfl rfl ?_ | refine Zc rfl rfl ?_ | refine Zi rfl (by (conv=>lhs;whnf);try rfl) ?_ | refine ZL rfl rfl (by omega) ?_ | refine ZK rfl rfl rfl (by omega) (by omega) ?_ | refine ZI rfl rfl rfl (by omega) ?_ | refine ZJ rfl rfl rfl (by omega) (by omega) ?_ | refine ZM rfl rfl rfl rfl (by (conv=>lhs;whnf);try rfl) ?_ | refine ZO rfl rfl rfl rfl (by (conv=>lhs;whnf);try rfl) ?_ | refine ZQ rfl rfl ?_ | refine Zd rfl rfl ?_ | refine ZA rfl rfl ?_ | refine Zz rfl rfl rfl rfl ?_ | refine ZR rfl rfl rfl (by decide) ?_ | refine ZV rfl rfl rfl (by first | decide | omega) ?_ | refine ZT rfl rfl ?_ | refine Zv Tryz.underlying9 rfl rfl ?_ | refine ZS rfl (by (conv=>lhs;whnf);try rfl) (by (conv=>lhs;whnf);try rfl) (by rfl) ?_ | refine Zl rfl rfl ?_ | refine Zm rfl rfl rfl (by (conv=>lhs;whnf);try rfl) (by (conv=>lhs;whnf);try rfl) (by rfl) (by rfl) (Nat.le_of_ble_eq_true rfl) (by (conv=>lhs;whnf);try rfl) ?_ | refine Zn rfl rfl ?_ | refine Za rfl rfl rfl (by rfl) (by decide) (by (conv=>lhs;whnf);try rfl) ?_ | refine Zf rfl rfl rfl ?_ | refine ZP rfl rfl ?_ | refine ZC rfl rfl (by (conv=>lhs;whnf);try rfl) ?_ | refine g_field rfl rfl rfl ?_ | refine Zo ?_ | refine Zp (by kernel_rfl) ?_ | refine Zr ?_ | refine Zb ?_ | refine Zh ?_ | refine Zj ?_ | refine Zs ?_ | refine Zk ?_ | refine Zq ?_ | refine Zt ?_ | refine ZD ?_ | refine Zg ?_ | refine Zu ?_ | refine ZE ?_)
     exact Zat (f,c - 2,e4,r2) 2 ⟨hf4,h⟩ (Nat.lt_succ_self _) (ZaZ (νc 3 2) [_,_] (fun k=>(k,νc 3 2 k)) (fun _ _=>rfl) rfl ⟨rfl,rfl,trivial⟩ (x:=[]) (x':=[]) rfl rfl rfl (Zaj _) rfl)
def Zkn (k t c:Int) (x:ByteArray) (e:El) (r:List El):Option (El×List El):=if 20≤r.length then (Zcz e x).map fun e'=>(e',r) else some (⟨k,t,c,[],none⟩,e::r)
def ZpX (e:El):Option El:=if e.kind=3 then match e.args with
  | none=>some ⟨e.kind,e.tag,e.count,e.list,some ([],⟨false,[],[]⟩)⟩
  | some (pre,a)=>if pre.length+1≤1000000 then some ⟨e.kind,e.tag,e.count,e.list,some (pre ++ [a],⟨false,[],[]⟩)⟩ else none
 else Zcz e ⟨#[124]⟩
def Zo2 (s:ByteArray) (t:Tok) (e:El) (r:List El):Option (El×List El):=(ZeQ s t).bind fun x=>
 if t.kind=1∨t.kind=2 then (Zcz e x).map fun e'=>(e',r)
 else if t.kind=9 then (Zjb e ⟨2,0,x,[],[]⟩).map fun e'=>(e',r)
 else if t.kind=10 then (ZfB x 8 (w64 ((x.size:Int) - 9))).bind fun y=>(Zjb e ⟨3,0,y,[],[]⟩).map fun e'=>(e',r)
 else if t.kind=3 then Zkn 3 0 x.size x e r
 else if t.kind=5 then Zkn 1 0 0 x e r
 else if t.kind=11 then (ZfG s t).bind fun k=>Zkn 2 k 0 x e r
 else if t.kind=7 then (ZpX e).map fun e'=>(e',r)
 else if t.kind=8 then (Zjl e).map fun e'=>(e',r)
 else if t.kind=6 then ZdQ e r
 else if t.kind=12 then (ZfG s t).bind fun k=>ZeI k x e r
 else if t.kind=4 then Zbp (x.size+1) x.size e r
 else some (e,r)
theorem Zqz (e e':El) (r:List El) (hf:fit e r) (h:ZpX e=some e'):PC 106 [] e r (.tup []) e' r:=by
 unfold ZpX at h
 split at h
 ·rename_i hk
  obtain ⟨kind,tag,count,list,args⟩:=e
  dsimp only at hk
  subst hk
  rcases args with _ | ⟨pre,a⟩
  ·injection h with h
   rw [← h]
   exact ZnH tag count list r hf.1.1
  ·dsimp only at h
   split at h
   ·injection h with h
    rw [← h]
    exact ZnJ tag count list pre a r hf.1
   ·cases h
 ·rename_i hk
  exact ZnG e e' r hf.1 hf.2 hk h
theorem ZnR {e e':El} {r:List El} (hf:fit e r) (h:ZpX e=some e'):fit e' r:=by
 unfold ZpX at h
 split at h
 ·rename_i hk
  obtain ⟨kind,tag,count,list,args⟩:=e
  dsimp only at hk
  subst hk
  rcases args with _ | ⟨pre,a⟩
  ·injection h with h
   rw [← h]
   exact ⟨⟨hf.1.1,fun q hq=>by injection hq with hq;rw [← hq];exact Nat.zero_le _⟩,by show 0≤_;omega⟩
  ·dsimp only at h
   split at h
   ·rename_i hp
    injection h with h
    rw [← h]
    exact ⟨⟨hf.1.1,fun q hq=>by injection hq with hq;rw [← hq];simpa using hp⟩,by show 0≤_;omega⟩
   ·cases h
 ·exact Zav hf h
theorem Zo3 (e e':El) (r:List El) (hf:fit e r) (h:Zjl e=some e'):PC 107 [] e r (.tup []) e' r:=by
 obtain ⟨kind,tag,count,list,args⟩:=e
 unfold Zjl at h
 rcases args with _ | ⟨pre,⟨named,name,value⟩⟩
 ·exact Zig _ e' r hf.1 hf.2 (.inr (.inl rfl)) h
 ·dsimp only at h
  split at h
  ·rename_i hc
   obtain ⟨h1,h2⟩:=hc
   subst h1 h2
   injection h with h
   rw [← h]
   exact Zl8 tag count list pre name value r hf.1
  ·rename_i hc
   refine Zig _ e' r hf.1 hf.2 ?_ h
   by_cases hk:kind=3
   ·refine .inr (.inr ⟨pre,_,rfl,?_⟩)
    cases named
    ·exact absurd ⟨hk,rfl⟩ hc
    ·rfl
   ·exact .inl hk
theorem Zlo {e e':El} {r:List El} (hf:fit e r) (h:Zjl e=some e'):fit e' r:=by
 obtain ⟨kind,tag,count,list,args⟩:=e
 unfold Zjl at h
 rcases args with _ | ⟨pre,⟨named,name,value⟩⟩
 ·exact Zav hf h
 ·dsimp only at h
  split at h
  ·rename_i hc
   obtain ⟨h1,h2⟩:=hc
   subst h1 h2
   injection h with h
   rw [← h]
   exact ⟨⟨hf.1.1,fun q hq=>by injection hq with hq;rw [← hq];exact hf.1.2 (pre,⟨false,name,value⟩) rfl⟩,by show 0≤_;omega⟩
  ·exact Zav hf h
theorem Zko (e e':El) (r r':List El) (hf:fits e r) (h:ZdQ e r=some (e',r')):PC 108 [] e r (.tup []) e' r':=by
 unfold ZdQ at h
 split at h
 ·rename_i hk
  rcases r with _ | ⟨e2,r⟩
  ·cases h
  obtain ⟨a,h1,h⟩:=Option.bind_eq_some_iff.1 h
  obtain ⟨b,h2,h⟩:=Option.bind_eq_some_iff.1 h
  obtain ⟨c,h3,h⟩:=Option.map_eq_some_iff.1 h
  injection h with q1 q2
  subst q1 q2
  obtain ⟨kind,tag,count,list,args⟩:=e
  dsimp only at hk
  subst hk
  exact ZiT tag count list args e2 a b c r (ZaM hf).1 (Zau (ZaM hf)) h1 h2 h3
 ·rename_i hk
  obtain ⟨c,h3,h⟩:=Option.map_eq_some_iff.1 h
  injection h with q1 q2
  subst q1 q2
  exact Zh5 e c r (Zau hf) hk h3
theorem Zhn {e e':El} {r r':List El} (hf:fits e r) (h:ZdQ e r=some (e',r')):fits e' r':=by
 unfold ZdQ at h
 split at h
 ·rcases r with _ | ⟨e2,r⟩
  ·cases h
  obtain ⟨a,h1,h⟩:=Option.bind_eq_some_iff.1 h
  obtain ⟨b,h2,h⟩:=Option.bind_eq_some_iff.1 h
  obtain ⟨c,h3,h⟩:=Option.map_eq_some_iff.1 h
  injection h with q1 q2
  subst q1 q2
  exact Zbm (ZaM hf) (Zav (Zcu (Zav (Zau (ZaM hf)) h1) h2) h3)
 ·obtain ⟨c,h3,h⟩:=Option.map_eq_some_iff.1 h
  injection h with q1 q2
  subst q1 q2
  exact Zbm hf (Zav (Zau hf) h3)
theorem Zh6 {k:Int} {s:ByteArray} {e e':El} {r r':List El} (hf:fits e r) (h:ZeI k s e r=some (e',r')):fits e' r':=by
 unfold ZeI at h
 split at h
 ·obtain ⟨c,h3,h⟩:=Option.map_eq_some_iff.1 h
  injection h with q1 q2
  subst q1 q2
  exact Zbm hf (Zav (Zau hf) h3)
 ·obtain ⟨⟨e1,r1⟩,h1,h⟩:=Option.bind_eq_some_iff.1 h
  have hf1:=Zem hf h1
  rcases r1 with _ | ⟨e2,r2⟩
  ·cases h
  obtain ⟨c,h3,h⟩:=Option.map_eq_some_iff.1 h
  injection h with q1 q2
  subst q1 q2
  exact Zbm (ZaM hf1) (Zd8 (Zau (ZaM hf1)) h3)
theorem Zjr {c:Int} {e e':El} {r r':List El} (hf:fits e r) (h:ZqJ c e r=some (e',r')):fits e' r':=by
 obtain ⟨s,hs,h⟩:=Option.bind_eq_some_iff.1 h
 obtain ⟨a,h3,h⟩:=Option.map_eq_some_iff.1 h
 injection h with q1 q2
 subst q1 q2
 exact Zbm hf (Zav (Zau hf) h3)
theorem Zcv:∀ {f:Nat} {c:Int} {e e':El} {r r':List El},fits e r→Zbp f c e r=some (e',r')→fits e' r'
 | 0,c,e,e',r,r',hf,h=>by cases h
 | f+1,c,e,e',r,r',hf,h=>by
   unfold Zbp at h
   split at h
   ·split at h
    ·exact Zjr hf h
    ·obtain ⟨⟨e1,r1⟩,h1,h⟩:=Option.bind_eq_some_iff.1 h
     have hf1:=Zem hf h1
     split at h
     ·split at h
      ·exact Zcv (Zbm hf1 ⟨⟨by have:=hf1.1;omega,fun q hq=>by cases hq⟩,by show 1≤9223372036854775807;omega⟩) h
      ·rcases r1 with _ | ⟨e2,r2⟩
       ·cases h
       obtain ⟨e4,h4,h⟩:=Option.bind_eq_some_iff.1 h
       exact Zcv (Zbm (ZaM hf1) (Zg8 (Zau (ZaM hf1)) h4)) h
     ·cases h
   ·exact Zjr hf h
theorem Zgf {k t c:Int} {x:ByteArray} {e e':El} {r r':List El} (hf:fits e r) (h:Zkn k t c x e r=some (e',r')):fits e' r':=by
 unfold Zkn at h
 split at h
 ·obtain ⟨a,h3,h⟩:=Option.map_eq_some_iff.1 h
  injection h with q1 q2
  subst q1 q2
  exact Zbm hf (Zav (Zau hf) h3)
 ·injection h with h
  injection h with q1 q2
  subst q1 q2
  refine ⟨by simp;omega,fun x hx=>?_⟩
  rcases List.mem_cons.1 hx with rfl | hx
  ·exact ⟨fun q hq=>(by cases hq),(by show 0≤_;omega)⟩
  ·exact hf.2 x hx
theorem Zmo (k t c:Int) (x:ByteArray) (e e':El) (r r':List El) (hf:fits e r) (h:Zkn k t c x e r=some (e',r')) :
  ContractG Tryz.prog 104 [.ptr 0 (0,0) 0,.ptr 1 (0,1) 0,.str x] (objs (stP νa e r)++Zlq k t c) (.tup []) (stP νb e' r' ++ []):=by
 rw [List.append_nil]
 unfold Zkn at h
 split at h
 ·rename_i hr
  obtain ⟨a,h3,h⟩:=Option.map_eq_some_iff.1 h
  injection h with q1 q2
  subst q1 q2
  exact Zmp e a r k t c x hr (Zau hf).1 (Zau hf).2 h3
 ·rename_i hr
  injection h with h
  injection h with q1 q2
  subst q1 q2
  exact Zmq e r k t c x (by omega)
theorem Zik {s:ByteArray} {t:Tok} {e e':El} {r r':List El} (hf:fits e r) (h:Zo2 s t e r=some (e',r')):fits e' r':=by
 obtain ⟨x,hx,h⟩:=Option.bind_eq_some_iff.1 h
 have one:∀ {o:Option El},(∀ a,o=some a→fit a r)→o.map (fun e'=>(e',r))=some (e',r')→fits e' r':=fun h1 h=>by
  obtain ⟨a,h3,h⟩:=Option.map_eq_some_iff.1 h
  injection h with q1 q2
  subst q1 q2
  exact Zbm hf (h1 a h3)
 split at h
 ·exact one (fun a ha=>Zav (Zau hf) ha) h
 split at h
 ·exact one (fun a ha=>Zd8 (Zau hf) ha) h
 split at h
 ·obtain ⟨y,hy,h⟩:=Option.bind_eq_some_iff.1 h
  exact one (fun a ha=>Zd8 (Zau hf) ha) h
 split at h
 ·exact Zgf hf h
 split at h
 ·exact Zgf hf h
 split at h
 ·obtain ⟨y,hy,h⟩:=Option.bind_eq_some_iff.1 h
  exact Zgf hf h
 split at h
 ·exact one (fun a ha=>ZnR (Zau hf) ha) h
 split at h
 ·exact one (fun a ha=>Zlo (Zau hf) ha) h
 split at h
 ·exact Zhn hf h
 split at h
 ·obtain ⟨y,hy,h⟩:=Option.bind_eq_some_iff.1 h
  exact Zh6 hf h
 split at h
 ·exact Zcv hf h
 ·injection h with h
  injection h with q1 q2
  subst q1 q2
  exact hf
end Go.Proofs.YtmgfammllddkhaaGreatDoor
