/- IsName of policy and of trcref12, of any string. -/
import Derived.Test.YtpffimahajgiaaaGreatDoorVV11
import Derived.Test.YtpffimahajgiaaaGreatDoorVV02
import Derived.Test.YtpffimahajgiaaaGreatDoorVV09
namespace Go.Proofs.YtpffimahajgiaaaGreatDoor
open VL
set_option maxHeartbeats 4000000 in
set_option maxRecDepth 100000 in
theorem Zc2 (s:ByteArray):ZH Tryz.prog 38 [.str s] (.bool (Zao s)):=by
 refine Zae mix Tryz.func38 (by kernel_rfl) rfl (by kernel_rfl) ?_
 repeat (first | refine ZD rfl rfl (by omega) ?_ | refine Zx rfl rfl rfl (by omega) (by omega) ?_ | refine g_dec rfl rfl rfl (by omega) ?_ | refine Zw rfl rfl rfl (by omega) (by omega) ?_ | refine ZaC ?_ | refine Zk Tryz.underlying9 rfl rfl ?_)
 by_cases a1:(s.size:Int)<1
 ·rw [decide_eq_true a1]
  repeat (first | (refine ZY rfl ?_) | refine ZD rfl rfl (by omega) ?_ | refine Zx rfl rfl rfl (by omega) (by omega) ?_ | refine g_dec rfl rfl rfl (by omega) ?_ | refine Zw rfl rfl rfl (by omega) (by omega) ?_ | refine ZaC ?_ | refine Zk Tryz.underlying9 rfl rfl ?_)
  refine ZE (by (conv=>lhs;whnf);try rfl) rfl ?_
  repeat (first | refine ZD rfl rfl (by omega) ?_ | refine Zx rfl rfl rfl (by omega) (by omega) ?_ | refine g_dec rfl rfl rfl (by omega) ?_ | refine Zw rfl rfl rfl (by omega) (by omega) ?_ | refine ZaC ?_ | refine Zk Tryz.underlying9 rfl rfl ?_)
  exact ZZ rfl rfl (by rw [Zcr (by omega)];rfl)
 rw [decide_eq_false a1]
 repeat (first | refine ZD rfl rfl (by omega) ?_ | refine Zx rfl rfl rfl (by omega) (by omega) ?_ | refine g_dec rfl rfl rfl (by omega) ?_ | refine Zw rfl rfl rfl (by omega) (by omega) ?_ | refine ZaC ?_ | refine Zk Tryz.underlying9 rfl rfl ?_)
 by_cases a2:(30:Int)<(s.size:Int)
 ·rw [decide_eq_true a2]
  repeat (first | (refine ZY rfl ?_) | refine ZD rfl rfl (by omega) ?_ | refine Zx rfl rfl rfl (by omega) (by omega) ?_ | refine g_dec rfl rfl rfl (by omega) ?_ | refine Zw rfl rfl rfl (by omega) (by omega) ?_ | refine ZaC ?_ | refine Zk Tryz.underlying9 rfl rfl ?_)
  refine ZE (by (conv=>lhs;whnf);try rfl) rfl ?_
  repeat (first | refine ZD rfl rfl (by omega) ?_ | refine Zx rfl rfl rfl (by omega) (by omega) ?_ | refine g_dec rfl rfl rfl (by omega) ?_ | refine Zw rfl rfl rfl (by omega) (by omega) ?_ | refine ZaC ?_ | refine Zk Tryz.underlying9 rfl rfl ?_)
  exact ZZ rfl rfl (by rw [ZdK (by omega)];rfl)
 rw [decide_eq_false a2]
 have hz:0<s.size:=by omega
 have h0:s[0]? = some (s[0]'hz):=getElem?_pos s 0 hz
 repeat (first | (refine Za5 Tryz.underlying9 rfl rfl rfl h0 ?_) | refine ZD rfl rfl (by omega) ?_ | refine Zx rfl rfl rfl (by omega) (by omega) ?_ | refine g_dec rfl rfl rfl (by omega) ?_ | refine Zw rfl rfl rfl (by omega) (by omega) ?_ | refine ZaC ?_ | refine Zk Tryz.underlying9 rfl rfl ?_)
 by_cases a3:(((s[0]'hz).toNat:Nat):Int)<97
 ·rw [decide_eq_true a3]
  repeat (first | (refine ZY rfl ?_) | refine ZD rfl rfl (by omega) ?_ | refine Zx rfl rfl rfl (by omega) (by omega) ?_ | refine g_dec rfl rfl rfl (by omega) ?_ | refine Zw rfl rfl rfl (by omega) (by omega) ?_ | refine ZaC ?_ | refine Zk Tryz.underlying9 rfl rfl ?_)
  refine ZE (by (conv=>lhs;whnf);try rfl) rfl ?_
  repeat (first | refine ZD rfl rfl (by omega) ?_ | refine Zx rfl rfl rfl (by omega) (by omega) ?_ | refine g_dec rfl rfl rfl (by omega) ?_ | refine Zw rfl rfl rfl (by omega) (by omega) ?_ | refine ZaC ?_ | refine Zk Tryz.underlying9 rfl rfl ?_)
  exact ZZ rfl rfl (by rw [ZbK hz (.inl a3)];rfl)
 rw [decide_eq_false a3]
 repeat (first | (refine Za5 Tryz.underlying9 rfl rfl rfl h0 ?_) | refine ZD rfl rfl (by omega) ?_ | refine Zx rfl rfl rfl (by omega) (by omega) ?_ | refine g_dec rfl rfl rfl (by omega) ?_ | refine Zw rfl rfl rfl (by omega) (by omega) ?_ | refine ZaC ?_ | refine Zk Tryz.underlying9 rfl rfl ?_)
 by_cases a4:(122:Int)<(((s[0]'hz).toNat:Nat):Int)
 ·refine ZE (by (conv=>lhs;whnf);try rfl) (decide_eq_true a4) ?_
  repeat (first | refine ZD rfl rfl (by omega) ?_ | refine Zx rfl rfl rfl (by omega) (by omega) ?_ | refine g_dec rfl rfl rfl (by omega) ?_ | refine Zw rfl rfl rfl (by omega) (by omega) ?_ | refine ZaC ?_ | refine Zk Tryz.underlying9 rfl rfl ?_)
  exact ZZ rfl rfl (by rw [ZbK hz (.inr a4)];rfl)
 refine ZF (by (conv=>lhs;whnf);try rfl) (decide_eq_false a4) ?_
 repeat (first | refine ZD rfl rfl (by omega) ?_ | refine Zx rfl rfl rfl (by omega) (by omega) ?_ | refine g_dec rfl rfl rfl (by omega) ?_ | refine Zw rfl rfl rfl (by omega) (by omega) ?_ | refine ZaC ?_ | refine Zk Tryz.underlying9 rfl rfl ?_)
 refine Zah (α:=Nat) (fun i _=>mkS [(0,.str s),(3,.int .i64 ((i:Nat):Int))] [] 2)
  (fun i=>i≤s.size∧∀ j (hj:j<s.size),j<i→ZaI s[j]=true) (fun i=>s.size - i) 0 2 ⟨Nat.zero_le _,fun j _ h=>absurd h (Nat.not_lt_zero _)⟩ (ZV [] ⟨rfl,rfl,trivial⟩ trivial rfl) (fun i _ hJ=>?_)
 obtain ⟨(hi:i≤s.size),(hno:∀ j (hj:j<s.size),j<i→ZaI s[j]=true)⟩:=hJ
 repeat (first | refine ZD rfl rfl (by omega) ?_ | refine Zx rfl rfl rfl (by omega) (by omega) ?_ | refine g_dec rfl rfl rfl (by omega) ?_ | refine Zw rfl rfl rfl (by omega) (by omega) ?_ | refine ZaC ?_ | refine Zk Tryz.underlying9 rfl rfl ?_)
 by_cases hlt:(i:Int)<(s.size:Int)
 ·refine ZE (by (conv=>lhs;whnf);try rfl) (decide_eq_true hlt) ?_
  have hlt':i<s.size:=by omega
  have hx:s[i]? = some s[i]:=getElem?_pos s i hlt'
  have ok:ZaI s[i]=true→∀ j (hj:j<s.size),j<i+1→ZaI s[j]=true:=fun h j hj hj2=>by
   rcases Nat.lt_succ_iff_lt_or_eq.1 hj2 with h2 | h2
   ·exact hno j hj h2
   ·subst h2;exact h
  repeat (first | (refine Za5 Tryz.underlying9 rfl rfl rfl hx ?_) | refine ZD rfl rfl (by omega) ?_ | refine Zx rfl rfl rfl (by omega) (by omega) ?_ | refine g_dec rfl rfl rfl (by omega) ?_ | refine Zw rfl rfl rfl (by omega) (by omega) ?_ | refine ZaC ?_ | refine Zk Tryz.underlying9 rfl rfl ?_)
  by_cases b1:((s[i].toNat:Nat):Int)<97
  ·rw [decide_eq_true b1]
   repeat (first | (refine ZY rfl ?_) | refine ZD rfl rfl (by omega) ?_ | refine Zx rfl rfl rfl (by omega) (by omega) ?_ | refine g_dec rfl rfl rfl (by omega) ?_ | refine Zw rfl rfl rfl (by omega) (by omega) ?_ | refine ZaC ?_ | refine Zk Tryz.underlying9 rfl rfl ?_)
   by_cases d1:((s[i].toNat:Nat):Int)<48
   ·rw [decide_eq_true d1]
    repeat (first | (refine ZY rfl ?_) | refine ZD rfl rfl (by omega) ?_ | refine Zx rfl rfl rfl (by omega) (by omega) ?_ | refine g_dec rfl rfl rfl (by omega) ?_ | refine Zw rfl rfl rfl (by omega) (by omega) ?_ | refine ZaC ?_ | refine Zk Tryz.underlying9 rfl rfl ?_)
    by_cases d3:((s[i].toNat:Nat):Int)=45
    ·rw [decide_eq_true d3]
     repeat (first | (refine ZY rfl ?_) | refine ZD rfl rfl (by omega) ?_ | refine Zx rfl rfl rfl (by omega) (by omega) ?_ | refine g_dec rfl rfl rfl (by omega) ?_ | refine Zw rfl rfl rfl (by omega) (by omega) ?_ | refine ZaC ?_ | refine Zk Tryz.underlying9 rfl rfl ?_)
     refine ZF (by (conv=>lhs;whnf);try rfl) rfl ?_
     repeat (first | refine ZD rfl rfl (by omega) ?_ | refine Zx rfl rfl rfl (by omega) (by omega) ?_ | refine g_dec rfl rfl rfl (by omega) ?_ | refine Zw rfl rfl rfl (by omega) (by omega) ?_ | refine ZaC ?_ | refine Zk Tryz.underlying9 rfl rfl ?_)
     exact Zab (i+1) 2 ⟨hlt',ok (by unfold ZaI;simp;omega)⟩ (by show s.size - (i+1)<s.size - i;omega) (ZV [] ⟨rfl,rfl,trivial⟩ trivial rfl)
    ·rw [decide_eq_false d3]
     repeat (first | refine ZD rfl rfl (by omega) ?_ | refine Zx rfl rfl rfl (by omega) (by omega) ?_ | refine g_dec rfl rfl rfl (by omega) ?_ | refine Zw rfl rfl rfl (by omega) (by omega) ?_ | refine ZaC ?_ | refine Zk Tryz.underlying9 rfl rfl ?_)
     by_cases d4:((s[i].toNat:Nat):Int)=95
     ·refine ZF (by (conv=>lhs;whnf);try rfl) (by simp [d4]) ?_
      repeat (first | refine ZD rfl rfl (by omega) ?_ | refine Zx rfl rfl rfl (by omega) (by omega) ?_ | refine g_dec rfl rfl rfl (by omega) ?_ | refine Zw rfl rfl rfl (by omega) (by omega) ?_ | refine ZaC ?_ | refine Zk Tryz.underlying9 rfl rfl ?_)
      exact Zab (i+1) 2 ⟨hlt',ok (by unfold ZaI;simp;omega)⟩ (by show s.size - (i+1)<s.size - i;omega) (ZV [] ⟨rfl,rfl,trivial⟩ trivial rfl)
     ·refine ZE (by (conv=>lhs;whnf);try rfl) (by simp [d4]) ?_
      repeat (first | refine ZD rfl rfl (by omega) ?_ | refine Zx rfl rfl rfl (by omega) (by omega) ?_ | refine g_dec rfl rfl rfl (by omega) ?_ | refine Zw rfl rfl rfl (by omega) (by omega) ?_ | refine ZaC ?_ | refine Zk Tryz.underlying9 rfl rfl ?_)
      exact ZZ rfl rfl (by rw [Zbb i hlt' (by unfold ZaI;simp;omega)];rfl)
   ·rw [decide_eq_false d1]
    repeat (first | refine ZD rfl rfl (by omega) ?_ | refine Zx rfl rfl rfl (by omega) (by omega) ?_ | refine g_dec rfl rfl rfl (by omega) ?_ | refine Zw rfl rfl rfl (by omega) (by omega) ?_ | refine ZaC ?_ | refine Zk Tryz.underlying9 rfl rfl ?_)
    by_cases d2:(57:Int)<((s[i].toNat:Nat):Int)
    ·rw [decide_eq_true d2]
     repeat (first | refine ZD rfl rfl (by omega) ?_ | refine Zx rfl rfl rfl (by omega) (by omega) ?_ | refine g_dec rfl rfl rfl (by omega) ?_ | refine Zw rfl rfl rfl (by omega) (by omega) ?_ | refine ZaC ?_ | refine Zk Tryz.underlying9 rfl rfl ?_)
     by_cases d3:((s[i].toNat:Nat):Int)=45
     ·rw [decide_eq_true d3]
      repeat (first | (refine ZY rfl ?_) | refine ZD rfl rfl (by omega) ?_ | refine Zx rfl rfl rfl (by omega) (by omega) ?_ | refine g_dec rfl rfl rfl (by omega) ?_ | refine Zw rfl rfl rfl (by omega) (by omega) ?_ | refine ZaC ?_ | refine Zk Tryz.underlying9 rfl rfl ?_)
      refine ZF (by (conv=>lhs;whnf);try rfl) rfl ?_
      repeat (first | refine ZD rfl rfl (by omega) ?_ | refine Zx rfl rfl rfl (by omega) (by omega) ?_ | refine g_dec rfl rfl rfl (by omega) ?_ | refine Zw rfl rfl rfl (by omega) (by omega) ?_ | refine ZaC ?_ | refine Zk Tryz.underlying9 rfl rfl ?_)
      exact Zab (i+1) 2 ⟨hlt',ok (by unfold ZaI;simp;omega)⟩ (by show s.size - (i+1)<s.size - i;omega) (ZV [] ⟨rfl,rfl,trivial⟩ trivial rfl)
     ·rw [decide_eq_false d3]
      repeat (first | refine ZD rfl rfl (by omega) ?_ | refine Zx rfl rfl rfl (by omega) (by omega) ?_ | refine g_dec rfl rfl rfl (by omega) ?_ | refine Zw rfl rfl rfl (by omega) (by omega) ?_ | refine ZaC ?_ | refine Zk Tryz.underlying9 rfl rfl ?_)
      by_cases d4:((s[i].toNat:Nat):Int)=95
      ·refine ZF (by (conv=>lhs;whnf);try rfl) (by simp [d4]) ?_
       repeat (first | refine ZD rfl rfl (by omega) ?_ | refine Zx rfl rfl rfl (by omega) (by omega) ?_ | refine g_dec rfl rfl rfl (by omega) ?_ | refine Zw rfl rfl rfl (by omega) (by omega) ?_ | refine ZaC ?_ | refine Zk Tryz.underlying9 rfl rfl ?_)
       exact Zab (i+1) 2 ⟨hlt',ok (by unfold ZaI;simp;omega)⟩ (by show s.size - (i+1)<s.size - i;omega) (ZV [] ⟨rfl,rfl,trivial⟩ trivial rfl)
      ·refine ZE (by (conv=>lhs;whnf);try rfl) (by simp [d4]) ?_
       repeat (first | refine ZD rfl rfl (by omega) ?_ | refine Zx rfl rfl rfl (by omega) (by omega) ?_ | refine g_dec rfl rfl rfl (by omega) ?_ | refine Zw rfl rfl rfl (by omega) (by omega) ?_ | refine ZaC ?_ | refine Zk Tryz.underlying9 rfl rfl ?_)
       exact ZZ rfl rfl (by rw [Zbb i hlt' (by unfold ZaI;simp;omega)];rfl)
    ·rw [decide_eq_false d2]
     repeat (first | (refine ZY rfl ?_) | refine ZD rfl rfl (by omega) ?_ | refine Zx rfl rfl rfl (by omega) (by omega) ?_ | refine g_dec rfl rfl rfl (by omega) ?_ | refine Zw rfl rfl rfl (by omega) (by omega) ?_ | refine ZaC ?_ | refine Zk Tryz.underlying9 rfl rfl ?_)
     refine ZF (by (conv=>lhs;whnf);try rfl) rfl ?_
     repeat (first | refine ZD rfl rfl (by omega) ?_ | refine Zx rfl rfl rfl (by omega) (by omega) ?_ | refine g_dec rfl rfl rfl (by omega) ?_ | refine Zw rfl rfl rfl (by omega) (by omega) ?_ | refine ZaC ?_ | refine Zk Tryz.underlying9 rfl rfl ?_)
     exact Zab (i+1) 2 ⟨hlt',ok (by unfold ZaI;simp;omega)⟩ (by show s.size - (i+1)<s.size - i;omega) (ZV [] ⟨rfl,rfl,trivial⟩ trivial rfl)
  ·rw [decide_eq_false b1]
   repeat (first | refine ZD rfl rfl (by omega) ?_ | refine Zx rfl rfl rfl (by omega) (by omega) ?_ | refine g_dec rfl rfl rfl (by omega) ?_ | refine Zw rfl rfl rfl (by omega) (by omega) ?_ | refine ZaC ?_ | refine Zk Tryz.underlying9 rfl rfl ?_)
   by_cases b2:(122:Int)<((s[i].toNat:Nat):Int)
   ·rw [decide_eq_true b2]
    repeat (first | refine ZD rfl rfl (by omega) ?_ | refine Zx rfl rfl rfl (by omega) (by omega) ?_ | refine g_dec rfl rfl rfl (by omega) ?_ | refine Zw rfl rfl rfl (by omega) (by omega) ?_ | refine ZaC ?_ | refine Zk Tryz.underlying9 rfl rfl ?_)
    by_cases d1:((s[i].toNat:Nat):Int)<48
    ·rw [decide_eq_true d1]
     repeat (first | (refine ZY rfl ?_) | refine ZD rfl rfl (by omega) ?_ | refine Zx rfl rfl rfl (by omega) (by omega) ?_ | refine g_dec rfl rfl rfl (by omega) ?_ | refine Zw rfl rfl rfl (by omega) (by omega) ?_ | refine ZaC ?_ | refine Zk Tryz.underlying9 rfl rfl ?_)
     by_cases d3:((s[i].toNat:Nat):Int)=45
     ·rw [decide_eq_true d3]
      repeat (first | (refine ZY rfl ?_) | refine ZD rfl rfl (by omega) ?_ | refine Zx rfl rfl rfl (by omega) (by omega) ?_ | refine g_dec rfl rfl rfl (by omega) ?_ | refine Zw rfl rfl rfl (by omega) (by omega) ?_ | refine ZaC ?_ | refine Zk Tryz.underlying9 rfl rfl ?_)
      refine ZF (by (conv=>lhs;whnf);try rfl) rfl ?_
      repeat (first | refine ZD rfl rfl (by omega) ?_ | refine Zx rfl rfl rfl (by omega) (by omega) ?_ | refine g_dec rfl rfl rfl (by omega) ?_ | refine Zw rfl rfl rfl (by omega) (by omega) ?_ | refine ZaC ?_ | refine Zk Tryz.underlying9 rfl rfl ?_)
      exact Zab (i+1) 2 ⟨hlt',ok (by unfold ZaI;simp;omega)⟩ (by show s.size - (i+1)<s.size - i;omega) (ZV [] ⟨rfl,rfl,trivial⟩ trivial rfl)
     ·rw [decide_eq_false d3]
      repeat (first | refine ZD rfl rfl (by omega) ?_ | refine Zx rfl rfl rfl (by omega) (by omega) ?_ | refine g_dec rfl rfl rfl (by omega) ?_ | refine Zw rfl rfl rfl (by omega) (by omega) ?_ | refine ZaC ?_ | refine Zk Tryz.underlying9 rfl rfl ?_)
      by_cases d4:((s[i].toNat:Nat):Int)=95
      ·refine ZF (by (conv=>lhs;whnf);try rfl) (by simp [d4]) ?_
       repeat (first | refine ZD rfl rfl (by omega) ?_ | refine Zx rfl rfl rfl (by omega) (by omega) ?_ | refine g_dec rfl rfl rfl (by omega) ?_ | refine Zw rfl rfl rfl (by omega) (by omega) ?_ | refine ZaC ?_ | refine Zk Tryz.underlying9 rfl rfl ?_)
       exact Zab (i+1) 2 ⟨hlt',ok (by unfold ZaI;simp;omega)⟩ (by show s.size - (i+1)<s.size - i;omega) (ZV [] ⟨rfl,rfl,trivial⟩ trivial rfl)
      ·refine ZE (by (conv=>lhs;whnf);try rfl) (by simp [d4]) ?_
       repeat (first | refine ZD rfl rfl (by omega) ?_ | refine Zx rfl rfl rfl (by omega) (by omega) ?_ | refine g_dec rfl rfl rfl (by omega) ?_ | refine Zw rfl rfl rfl (by omega) (by omega) ?_ | refine ZaC ?_ | refine Zk Tryz.underlying9 rfl rfl ?_)
       exact ZZ rfl rfl (by rw [Zbb i hlt' (by unfold ZaI;simp;omega)];rfl)
    ·rw [decide_eq_false d1]
     repeat (first | refine ZD rfl rfl (by omega) ?_ | refine Zx rfl rfl rfl (by omega) (by omega) ?_ | refine g_dec rfl rfl rfl (by omega) ?_ | refine Zw rfl rfl rfl (by omega) (by omega) ?_ | refine ZaC ?_ | refine Zk Tryz.underlying9 rfl rfl ?_)
     by_cases d2:(57:Int)<((s[i].toNat:Nat):Int)
     ·rw [decide_eq_true d2]
      repeat (first | refine ZD rfl rfl (by omega) ?_ | refine Zx rfl rfl rfl (by omega) (by omega) ?_ | refine g_dec rfl rfl rfl (by omega) ?_ | refine Zw rfl rfl rfl (by omega) (by omega) ?_ | refine ZaC ?_ | refine Zk Tryz.underlying9 rfl rfl ?_)
      by_cases d3:((s[i].toNat:Nat):Int)=45
      ·rw [decide_eq_true d3]
       repeat (first | (refine ZY rfl ?_) | refine ZD rfl rfl (by omega) ?_ | refine Zx rfl rfl rfl (by omega) (by omega) ?_ | refine g_dec rfl rfl rfl (by omega) ?_ | refine Zw rfl rfl rfl (by omega) (by omega) ?_ | refine ZaC ?_ | refine Zk Tryz.underlying9 rfl rfl ?_)
       refine ZF (by (conv=>lhs;whnf);try rfl) rfl ?_
       repeat (first | refine ZD rfl rfl (by omega) ?_ | refine Zx rfl rfl rfl (by omega) (by omega) ?_ | refine g_dec rfl rfl rfl (by omega) ?_ | refine Zw rfl rfl rfl (by omega) (by omega) ?_ | refine ZaC ?_ | refine Zk Tryz.underlying9 rfl rfl ?_)
       exact Zab (i+1) 2 ⟨hlt',ok (by unfold ZaI;simp;omega)⟩ (by show s.size - (i+1)<s.size - i;omega) (ZV [] ⟨rfl,rfl,trivial⟩ trivial rfl)
      ·rw [decide_eq_false d3]
       repeat (first | refine ZD rfl rfl (by omega) ?_ | refine Zx rfl rfl rfl (by omega) (by omega) ?_ | refine g_dec rfl rfl rfl (by omega) ?_ | refine Zw rfl rfl rfl (by omega) (by omega) ?_ | refine ZaC ?_ | refine Zk Tryz.underlying9 rfl rfl ?_)
       by_cases d4:((s[i].toNat:Nat):Int)=95
       ·refine ZF (by (conv=>lhs;whnf);try rfl) (by simp [d4]) ?_
        repeat (first | refine ZD rfl rfl (by omega) ?_ | refine Zx rfl rfl rfl (by omega) (by omega) ?_ | refine g_dec rfl rfl rfl (by omega) ?_ | refine Zw rfl rfl rfl (by omega) (by omega) ?_ | refine ZaC ?_ | refine Zk Tryz.underlying9 rfl rfl ?_)
        exact Zab (i+1) 2 ⟨hlt',ok (by unfold ZaI;simp;omega)⟩ (by show s.size - (i+1)<s.size - i;omega) (ZV [] ⟨rfl,rfl,trivial⟩ trivial rfl)
       ·refine ZE (by (conv=>lhs;whnf);try rfl) (by simp [d4]) ?_
        repeat (first | refine ZD rfl rfl (by omega) ?_ | refine Zx rfl rfl rfl (by omega) (by omega) ?_ | refine g_dec rfl rfl rfl (by omega) ?_ | refine Zw rfl rfl rfl (by omega) (by omega) ?_ | refine ZaC ?_ | refine Zk Tryz.underlying9 rfl rfl ?_)
        exact ZZ rfl rfl (by rw [Zbb i hlt' (by unfold ZaI;simp;omega)];rfl)
     ·rw [decide_eq_false d2]
      repeat (first | (refine ZY rfl ?_) | refine ZD rfl rfl (by omega) ?_ | refine Zx rfl rfl rfl (by omega) (by omega) ?_ | refine g_dec rfl rfl rfl (by omega) ?_ | refine Zw rfl rfl rfl (by omega) (by omega) ?_ | refine ZaC ?_ | refine Zk Tryz.underlying9 rfl rfl ?_)
      refine ZF (by (conv=>lhs;whnf);try rfl) rfl ?_
      repeat (first | refine ZD rfl rfl (by omega) ?_ | refine Zx rfl rfl rfl (by omega) (by omega) ?_ | refine g_dec rfl rfl rfl (by omega) ?_ | refine Zw rfl rfl rfl (by omega) (by omega) ?_ | refine ZaC ?_ | refine Zk Tryz.underlying9 rfl rfl ?_)
      exact Zab (i+1) 2 ⟨hlt',ok (by unfold ZaI;simp;omega)⟩ (by show s.size - (i+1)<s.size - i;omega) (ZV [] ⟨rfl,rfl,trivial⟩ trivial rfl)
   ·rw [decide_eq_false b2]
    repeat (first | (refine ZY rfl ?_) | refine ZD rfl rfl (by omega) ?_ | refine Zx rfl rfl rfl (by omega) (by omega) ?_ | refine g_dec rfl rfl rfl (by omega) ?_ | refine Zw rfl rfl rfl (by omega) (by omega) ?_ | refine ZaC ?_ | refine Zk Tryz.underlying9 rfl rfl ?_)
    refine ZF (by (conv=>lhs;whnf);try rfl) rfl ?_
    repeat (first | refine ZD rfl rfl (by omega) ?_ | refine Zx rfl rfl rfl (by omega) (by omega) ?_ | refine g_dec rfl rfl rfl (by omega) ?_ | refine Zw rfl rfl rfl (by omega) (by omega) ?_ | refine ZaC ?_ | refine Zk Tryz.underlying9 rfl rfl ?_)
    exact Zab (i+1) 2 ⟨hlt',ok (by unfold ZaI;simp;omega)⟩ (by show s.size - (i+1)<s.size - i;omega) (ZV [] ⟨rfl,rfl,trivial⟩ trivial rfl)
 ·refine ZF (by (conv=>lhs;whnf);try rfl) (decide_eq_false hlt) ?_
  repeat (first | refine ZD rfl rfl (by omega) ?_ | refine Zx rfl rfl rfl (by omega) (by omega) ?_ | refine g_dec rfl rfl rfl (by omega) ?_ | refine Zw rfl rfl rfl (by omega) (by omega) ?_ | refine ZaC ?_ | refine Zk Tryz.underlying9 rfl rfl ?_)
  exact ZZ rfl rfl (by rw [ZdL hz (by omega) (by omega) (by omega) fun j hj=>hno j hj (by omega)];rfl)
set_option maxHeartbeats 4000000 in
set_option maxRecDepth 100000 in
theorem Ze0 (s:ByteArray):ZH Tryz.prog 74 [.str s] (.bool (Zao s)):=by
 refine Zae mix Tryz.func74 (by kernel_rfl) rfl (by kernel_rfl) ?_
 repeat (first | refine ZD rfl rfl (by omega) ?_ | refine Zx rfl rfl rfl (by omega) (by omega) ?_ | refine g_dec rfl rfl rfl (by omega) ?_ | refine Zw rfl rfl rfl (by omega) (by omega) ?_ | refine ZaC ?_ | refine Zk Tryz.underlying9 rfl rfl ?_)
 by_cases a1:(s.size:Int)<1
 ·rw [decide_eq_true a1]
  repeat (first | (refine ZY rfl ?_) | refine ZD rfl rfl (by omega) ?_ | refine Zx rfl rfl rfl (by omega) (by omega) ?_ | refine g_dec rfl rfl rfl (by omega) ?_ | refine Zw rfl rfl rfl (by omega) (by omega) ?_ | refine ZaC ?_ | refine Zk Tryz.underlying9 rfl rfl ?_)
  refine ZE (by (conv=>lhs;whnf);try rfl) rfl ?_
  repeat (first | refine ZD rfl rfl (by omega) ?_ | refine Zx rfl rfl rfl (by omega) (by omega) ?_ | refine g_dec rfl rfl rfl (by omega) ?_ | refine Zw rfl rfl rfl (by omega) (by omega) ?_ | refine ZaC ?_ | refine Zk Tryz.underlying9 rfl rfl ?_)
  exact ZZ rfl rfl (by rw [Zcr (by omega)];rfl)
 rw [decide_eq_false a1]
 repeat (first | refine ZD rfl rfl (by omega) ?_ | refine Zx rfl rfl rfl (by omega) (by omega) ?_ | refine g_dec rfl rfl rfl (by omega) ?_ | refine Zw rfl rfl rfl (by omega) (by omega) ?_ | refine ZaC ?_ | refine Zk Tryz.underlying9 rfl rfl ?_)
 by_cases a2:(30:Int)<(s.size:Int)
 ·rw [decide_eq_true a2]
  repeat (first | (refine ZY rfl ?_) | refine ZD rfl rfl (by omega) ?_ | refine Zx rfl rfl rfl (by omega) (by omega) ?_ | refine g_dec rfl rfl rfl (by omega) ?_ | refine Zw rfl rfl rfl (by omega) (by omega) ?_ | refine ZaC ?_ | refine Zk Tryz.underlying9 rfl rfl ?_)
  refine ZE (by (conv=>lhs;whnf);try rfl) rfl ?_
  repeat (first | refine ZD rfl rfl (by omega) ?_ | refine Zx rfl rfl rfl (by omega) (by omega) ?_ | refine g_dec rfl rfl rfl (by omega) ?_ | refine Zw rfl rfl rfl (by omega) (by omega) ?_ | refine ZaC ?_ | refine Zk Tryz.underlying9 rfl rfl ?_)
  exact ZZ rfl rfl (by rw [ZdK (by omega)];rfl)
 rw [decide_eq_false a2]
 have hz:0<s.size:=by omega
 have h0:s[0]? = some (s[0]'hz):=getElem?_pos s 0 hz
 repeat (first | (refine Za5 Tryz.underlying9 rfl rfl rfl h0 ?_) | refine ZD rfl rfl (by omega) ?_ | refine Zx rfl rfl rfl (by omega) (by omega) ?_ | refine g_dec rfl rfl rfl (by omega) ?_ | refine Zw rfl rfl rfl (by omega) (by omega) ?_ | refine ZaC ?_ | refine Zk Tryz.underlying9 rfl rfl ?_)
 by_cases a3:(((s[0]'hz).toNat:Nat):Int)<97
 ·rw [decide_eq_true a3]
  repeat (first | (refine ZY rfl ?_) | refine ZD rfl rfl (by omega) ?_ | refine Zx rfl rfl rfl (by omega) (by omega) ?_ | refine g_dec rfl rfl rfl (by omega) ?_ | refine Zw rfl rfl rfl (by omega) (by omega) ?_ | refine ZaC ?_ | refine Zk Tryz.underlying9 rfl rfl ?_)
  refine ZE (by (conv=>lhs;whnf);try rfl) rfl ?_
  repeat (first | refine ZD rfl rfl (by omega) ?_ | refine Zx rfl rfl rfl (by omega) (by omega) ?_ | refine g_dec rfl rfl rfl (by omega) ?_ | refine Zw rfl rfl rfl (by omega) (by omega) ?_ | refine ZaC ?_ | refine Zk Tryz.underlying9 rfl rfl ?_)
  exact ZZ rfl rfl (by rw [ZbK hz (.inl a3)];rfl)
 rw [decide_eq_false a3]
 repeat (first | (refine Za5 Tryz.underlying9 rfl rfl rfl h0 ?_) | refine ZD rfl rfl (by omega) ?_ | refine Zx rfl rfl rfl (by omega) (by omega) ?_ | refine g_dec rfl rfl rfl (by omega) ?_ | refine Zw rfl rfl rfl (by omega) (by omega) ?_ | refine ZaC ?_ | refine Zk Tryz.underlying9 rfl rfl ?_)
 by_cases a4:(122:Int)<(((s[0]'hz).toNat:Nat):Int)
 ·refine ZE (by (conv=>lhs;whnf);try rfl) (decide_eq_true a4) ?_
  repeat (first | refine ZD rfl rfl (by omega) ?_ | refine Zx rfl rfl rfl (by omega) (by omega) ?_ | refine g_dec rfl rfl rfl (by omega) ?_ | refine Zw rfl rfl rfl (by omega) (by omega) ?_ | refine ZaC ?_ | refine Zk Tryz.underlying9 rfl rfl ?_)
  exact ZZ rfl rfl (by rw [ZbK hz (.inr a4)];rfl)
 refine ZF (by (conv=>lhs;whnf);try rfl) (decide_eq_false a4) ?_
 repeat (first | refine ZD rfl rfl (by omega) ?_ | refine Zx rfl rfl rfl (by omega) (by omega) ?_ | refine g_dec rfl rfl rfl (by omega) ?_ | refine Zw rfl rfl rfl (by omega) (by omega) ?_ | refine ZaC ?_ | refine Zk Tryz.underlying9 rfl rfl ?_)
 refine Zah (α:=Nat) (fun i _=>mkS [(0,.str s),(24,.int .i64 (s.size:Int)),(25,.int .i64 ((i:Nat):Int))] [] 2)
  (fun i=>i≤s.size∧∀ j (hj:j<s.size),j<i→ZaI s[j]=true) (fun i=>s.size - i) 0 2 ⟨Nat.zero_le _,fun j _ h=>absurd h (Nat.not_lt_zero _)⟩ (ZV [] ⟨rfl,rfl,rfl,trivial⟩ trivial rfl) (fun i _ hJ=>?_)
 obtain ⟨(hi:i≤s.size),(hno:∀ j (hj:j<s.size),j<i→ZaI s[j]=true)⟩:=hJ
 repeat (first | refine ZD rfl rfl (by omega) ?_ | refine Zx rfl rfl rfl (by omega) (by omega) ?_ | refine g_dec rfl rfl rfl (by omega) ?_ | refine Zw rfl rfl rfl (by omega) (by omega) ?_ | refine ZaC ?_ | refine Zk Tryz.underlying9 rfl rfl ?_)
 by_cases hlt:(i:Int)<(s.size:Int)
 ·refine ZE (by (conv=>lhs;whnf);try rfl) (decide_eq_true hlt) ?_
  have hlt':i<s.size:=by omega
  have hx:s[i]? = some s[i]:=getElem?_pos s i hlt'
  have ok:ZaI s[i]=true→∀ j (hj:j<s.size),j<i+1→ZaI s[j]=true:=fun h j hj hj2=>by
   rcases Nat.lt_succ_iff_lt_or_eq.1 hj2 with h2 | h2
   ·exact hno j hj h2
   ·subst h2;exact h
  repeat (first | (refine Za5 Tryz.underlying9 rfl rfl rfl hx ?_) | refine ZD rfl rfl (by omega) ?_ | refine Zx rfl rfl rfl (by omega) (by omega) ?_ | refine g_dec rfl rfl rfl (by omega) ?_ | refine Zw rfl rfl rfl (by omega) (by omega) ?_ | refine ZaC ?_ | refine Zk Tryz.underlying9 rfl rfl ?_)
  by_cases b1:((s[i].toNat:Nat):Int)<97
  ·rw [decide_eq_true b1]
   repeat (first | (refine ZY rfl ?_) | refine ZD rfl rfl (by omega) ?_ | refine Zx rfl rfl rfl (by omega) (by omega) ?_ | refine g_dec rfl rfl rfl (by omega) ?_ | refine Zw rfl rfl rfl (by omega) (by omega) ?_ | refine ZaC ?_ | refine Zk Tryz.underlying9 rfl rfl ?_)
   by_cases d1:((s[i].toNat:Nat):Int)<48
   ·rw [decide_eq_true d1]
    repeat (first | (refine ZY rfl ?_) | refine ZD rfl rfl (by omega) ?_ | refine Zx rfl rfl rfl (by omega) (by omega) ?_ | refine g_dec rfl rfl rfl (by omega) ?_ | refine Zw rfl rfl rfl (by omega) (by omega) ?_ | refine ZaC ?_ | refine Zk Tryz.underlying9 rfl rfl ?_)
    by_cases d3:((s[i].toNat:Nat):Int)=45
    ·rw [decide_eq_true d3]
     repeat (first | (refine ZY rfl ?_) | refine ZD rfl rfl (by omega) ?_ | refine Zx rfl rfl rfl (by omega) (by omega) ?_ | refine g_dec rfl rfl rfl (by omega) ?_ | refine Zw rfl rfl rfl (by omega) (by omega) ?_ | refine ZaC ?_ | refine Zk Tryz.underlying9 rfl rfl ?_)
     refine ZF (by (conv=>lhs;whnf);try rfl) rfl ?_
     repeat (first | refine ZD rfl rfl (by omega) ?_ | refine Zx rfl rfl rfl (by omega) (by omega) ?_ | refine g_dec rfl rfl rfl (by omega) ?_ | refine Zw rfl rfl rfl (by omega) (by omega) ?_ | refine ZaC ?_ | refine Zk Tryz.underlying9 rfl rfl ?_)
     exact Zab (i+1) 2 ⟨hlt',ok (by unfold ZaI;simp;omega)⟩ (by show s.size - (i+1)<s.size - i;omega) (ZV [] ⟨rfl,rfl,rfl,trivial⟩ trivial rfl)
    ·rw [decide_eq_false d3]
     repeat (first | refine ZD rfl rfl (by omega) ?_ | refine Zx rfl rfl rfl (by omega) (by omega) ?_ | refine g_dec rfl rfl rfl (by omega) ?_ | refine Zw rfl rfl rfl (by omega) (by omega) ?_ | refine ZaC ?_ | refine Zk Tryz.underlying9 rfl rfl ?_)
     by_cases d4:((s[i].toNat:Nat):Int)=95
     ·refine ZF (by (conv=>lhs;whnf);try rfl) (by simp [d4]) ?_
      repeat (first | refine ZD rfl rfl (by omega) ?_ | refine Zx rfl rfl rfl (by omega) (by omega) ?_ | refine g_dec rfl rfl rfl (by omega) ?_ | refine Zw rfl rfl rfl (by omega) (by omega) ?_ | refine ZaC ?_ | refine Zk Tryz.underlying9 rfl rfl ?_)
      exact Zab (i+1) 2 ⟨hlt',ok (by unfold ZaI;simp;omega)⟩ (by show s.size - (i+1)<s.size - i;omega) (ZV [] ⟨rfl,rfl,rfl,trivial⟩ trivial rfl)
     ·refine ZE (by (conv=>lhs;whnf);try rfl) (by simp [d4]) ?_
      repeat (first | refine ZD rfl rfl (by omega) ?_ | refine Zx rfl rfl rfl (by omega) (by omega) ?_ | refine g_dec rfl rfl rfl (by omega) ?_ | refine Zw rfl rfl rfl (by omega) (by omega) ?_ | refine ZaC ?_ | refine Zk Tryz.underlying9 rfl rfl ?_)
      exact ZZ rfl rfl (by rw [Zbb i hlt' (by unfold ZaI;simp;omega)];rfl)
   ·rw [decide_eq_false d1]
    repeat (first | refine ZD rfl rfl (by omega) ?_ | refine Zx rfl rfl rfl (by omega) (by omega) ?_ | refine g_dec rfl rfl rfl (by omega) ?_ | refine Zw rfl rfl rfl (by omega) (by omega) ?_ | refine ZaC ?_ | refine Zk Tryz.underlying9 rfl rfl ?_)
    by_cases d2:(57:Int)<((s[i].toNat:Nat):Int)
    ·rw [decide_eq_true d2]
     repeat (first | refine ZD rfl rfl (by omega) ?_ | refine Zx rfl rfl rfl (by omega) (by omega) ?_ | refine g_dec rfl rfl rfl (by omega) ?_ | refine Zw rfl rfl rfl (by omega) (by omega) ?_ | refine ZaC ?_ | refine Zk Tryz.underlying9 rfl rfl ?_)
     by_cases d3:((s[i].toNat:Nat):Int)=45
     ·rw [decide_eq_true d3]
      repeat (first | (refine ZY rfl ?_) | refine ZD rfl rfl (by omega) ?_ | refine Zx rfl rfl rfl (by omega) (by omega) ?_ | refine g_dec rfl rfl rfl (by omega) ?_ | refine Zw rfl rfl rfl (by omega) (by omega) ?_ | refine ZaC ?_ | refine Zk Tryz.underlying9 rfl rfl ?_)
      refine ZF (by (conv=>lhs;whnf);try rfl) rfl ?_
      repeat (first | refine ZD rfl rfl (by omega) ?_ | refine Zx rfl rfl rfl (by omega) (by omega) ?_ | refine g_dec rfl rfl rfl (by omega) ?_ | refine Zw rfl rfl rfl (by omega) (by omega) ?_ | refine ZaC ?_ | refine Zk Tryz.underlying9 rfl rfl ?_)
      exact Zab (i+1) 2 ⟨hlt',ok (by unfold ZaI;simp;omega)⟩ (by show s.size - (i+1)<s.size - i;omega) (ZV [] ⟨rfl,rfl,rfl,trivial⟩ trivial rfl)
     ·rw [decide_eq_false d3]
      repeat (first | refine ZD rfl rfl (by omega) ?_ | refine Zx rfl rfl rfl (by omega) (by omega) ?_ | refine g_dec rfl rfl rfl (by omega) ?_ | refine Zw rfl rfl rfl (by omega) (by omega) ?_ | refine ZaC ?_ | refine Zk Tryz.underlying9 rfl rfl ?_)
      by_cases d4:((s[i].toNat:Nat):Int)=95
      ·refine ZF (by (conv=>lhs;whnf);try rfl) (by simp [d4]) ?_
       repeat (first | refine ZD rfl rfl (by omega) ?_ | refine Zx rfl rfl rfl (by omega) (by omega) ?_ | refine g_dec rfl rfl rfl (by omega) ?_ | refine Zw rfl rfl rfl (by omega) (by omega) ?_ | refine ZaC ?_ | refine Zk Tryz.underlying9 rfl rfl ?_)
       exact Zab (i+1) 2 ⟨hlt',ok (by unfold ZaI;simp;omega)⟩ (by show s.size - (i+1)<s.size - i;omega) (ZV [] ⟨rfl,rfl,rfl,trivial⟩ trivial rfl)
      ·refine ZE (by (conv=>lhs;whnf);try rfl) (by simp [d4]) ?_
       repeat (first | refine ZD rfl rfl (by omega) ?_ | refine Zx rfl rfl rfl (by omega) (by omega) ?_ | refine g_dec rfl rfl rfl (by omega) ?_ | refine Zw rfl rfl rfl (by omega) (by omega) ?_ | refine ZaC ?_ | refine Zk Tryz.underlying9 rfl rfl ?_)
       exact ZZ rfl rfl (by rw [Zbb i hlt' (by unfold ZaI;simp;omega)];rfl)
    ·rw [decide_eq_false d2]
     repeat (first | (refine ZY rfl ?_) | refine ZD rfl rfl (by omega) ?_ | refine Zx rfl rfl rfl (by omega) (by omega) ?_ | refine g_dec rfl rfl rfl (by omega) ?_ | refine Zw rfl rfl rfl (by omega) (by omega) ?_ | refine ZaC ?_ | refine Zk Tryz.underlying9 rfl rfl ?_)
     refine ZF (by (conv=>lhs;whnf);try rfl) rfl ?_
     repeat (first | refine ZD rfl rfl (by omega) ?_ | refine Zx rfl rfl rfl (by omega) (by omega) ?_ | refine g_dec rfl rfl rfl (by omega) ?_ | refine Zw rfl rfl rfl (by omega) (by omega) ?_ | refine ZaC ?_ | refine Zk Tryz.underlying9 rfl rfl ?_)
     exact Zab (i+1) 2 ⟨hlt',ok (by unfold ZaI;simp;omega)⟩ (by show s.size - (i+1)<s.size - i;omega) (ZV [] ⟨rfl,rfl,rfl,trivial⟩ trivial rfl)
  ·rw [decide_eq_false b1]
   repeat (first | refine ZD rfl rfl (by omega) ?_ | refine Zx rfl rfl rfl (by omega) (by omega) ?_ | refine g_dec rfl rfl rfl (by omega) ?_ | refine Zw rfl rfl rfl (by omega) (by omega) ?_ | refine ZaC ?_ | refine Zk Tryz.underlying9 rfl rfl ?_)
   by_cases b2:(122:Int)<((s[i].toNat:Nat):Int)
   ·rw [decide_eq_true b2]
    repeat (first | refine ZD rfl rfl (by omega) ?_ | refine Zx rfl rfl rfl (by omega) (by omega) ?_ | refine g_dec rfl rfl rfl (by omega) ?_ | refine Zw rfl rfl rfl (by omega) (by omega) ?_ | refine ZaC ?_ | refine Zk Tryz.underlying9 rfl rfl ?_)
    by_cases d1:((s[i].toNat:Nat):Int)<48
    ·rw [decide_eq_true d1]
     repeat (first | (refine ZY rfl ?_) | refine ZD rfl rfl (by omega) ?_ | refine Zx rfl rfl rfl (by omega) (by omega) ?_ | refine g_dec rfl rfl rfl (by omega) ?_ | refine Zw rfl rfl rfl (by omega) (by omega) ?_ | refine ZaC ?_ | refine Zk Tryz.underlying9 rfl rfl ?_)
     by_cases d3:((s[i].toNat:Nat):Int)=45
     ·rw [decide_eq_true d3]
      repeat (first | (refine ZY rfl ?_) | refine ZD rfl rfl (by omega) ?_ | refine Zx rfl rfl rfl (by omega) (by omega) ?_ | refine g_dec rfl rfl rfl (by omega) ?_ | refine Zw rfl rfl rfl (by omega) (by omega) ?_ | refine ZaC ?_ | refine Zk Tryz.underlying9 rfl rfl ?_)
      refine ZF (by (conv=>lhs;whnf);try rfl) rfl ?_
      repeat (first | refine ZD rfl rfl (by omega) ?_ | refine Zx rfl rfl rfl (by omega) (by omega) ?_ | refine g_dec rfl rfl rfl (by omega) ?_ | refine Zw rfl rfl rfl (by omega) (by omega) ?_ | refine ZaC ?_ | refine Zk Tryz.underlying9 rfl rfl ?_)
      exact Zab (i+1) 2 ⟨hlt',ok (by unfold ZaI;simp;omega)⟩ (by show s.size - (i+1)<s.size - i;omega) (ZV [] ⟨rfl,rfl,rfl,trivial⟩ trivial rfl)
     ·rw [decide_eq_false d3]
      repeat (first | refine ZD rfl rfl (by omega) ?_ | refine Zx rfl rfl rfl (by omega) (by omega) ?_ | refine g_dec rfl rfl rfl (by omega) ?_ | refine Zw rfl rfl rfl (by omega) (by omega) ?_ | refine ZaC ?_ | refine Zk Tryz.underlying9 rfl rfl ?_)
      by_cases d4:((s[i].toNat:Nat):Int)=95
      ·refine ZF (by (conv=>lhs;whnf);try rfl) (by simp [d4]) ?_
       repeat (first | refine ZD rfl rfl (by omega) ?_ | refine Zx rfl rfl rfl (by omega) (by omega) ?_ | refine g_dec rfl rfl rfl (by omega) ?_ | refine Zw rfl rfl rfl (by omega) (by omega) ?_ | refine ZaC ?_ | refine Zk Tryz.underlying9 rfl rfl ?_)
       exact Zab (i+1) 2 ⟨hlt',ok (by unfold ZaI;simp;omega)⟩ (by show s.size - (i+1)<s.size - i;omega) (ZV [] ⟨rfl,rfl,rfl,trivial⟩ trivial rfl)
      ·refine ZE (by (conv=>lhs;whnf);try rfl) (by simp [d4]) ?_
       repeat (first | refine ZD rfl rfl (by omega) ?_ | refine Zx rfl rfl rfl (by omega) (by omega) ?_ | refine g_dec rfl rfl rfl (by omega) ?_ | refine Zw rfl rfl rfl (by omega) (by omega) ?_ | refine ZaC ?_ | refine Zk Tryz.underlying9 rfl rfl ?_)
       exact ZZ rfl rfl (by rw [Zbb i hlt' (by unfold ZaI;simp;omega)];rfl)
    ·rw [decide_eq_false d1]
     repeat (first | refine ZD rfl rfl (by omega) ?_ | refine Zx rfl rfl rfl (by omega) (by omega) ?_ | refine g_dec rfl rfl rfl (by omega) ?_ | refine Zw rfl rfl rfl (by omega) (by omega) ?_ | refine ZaC ?_ | refine Zk Tryz.underlying9 rfl rfl ?_)
     by_cases d2:(57:Int)<((s[i].toNat:Nat):Int)
     ·rw [decide_eq_true d2]
      repeat (first | refine ZD rfl rfl (by omega) ?_ | refine Zx rfl rfl rfl (by omega) (by omega) ?_ | refine g_dec rfl rfl rfl (by omega) ?_ | refine Zw rfl rfl rfl (by omega) (by omega) ?_ | refine ZaC ?_ | refine Zk Tryz.underlying9 rfl rfl ?_)
      by_cases d3:((s[i].toNat:Nat):Int)=45
      ·rw [decide_eq_true d3]
       repeat (first | (refine ZY rfl ?_) | refine ZD rfl rfl (by omega) ?_ | refine Zx rfl rfl rfl (by omega) (by omega) ?_ | refine g_dec rfl rfl rfl (by omega) ?_ | refine Zw rfl rfl rfl (by omega) (by omega) ?_ | refine ZaC ?_ | refine Zk Tryz.underlying9 rfl rfl ?_)
       refine ZF (by (conv=>lhs;whnf);try rfl) rfl ?_
       repeat (first | refine ZD rfl rfl (by omega) ?_ | refine Zx rfl rfl rfl (by omega) (by omega) ?_ | refine g_dec rfl rfl rfl (by omega) ?_ | refine Zw rfl rfl rfl (by omega) (by omega) ?_ | refine ZaC ?_ | refine Zk Tryz.underlying9 rfl rfl ?_)
       exact Zab (i+1) 2 ⟨hlt',ok (by unfold ZaI;simp;omega)⟩ (by show s.size - (i+1)<s.size - i;omega) (ZV [] ⟨rfl,rfl,rfl,trivial⟩ trivial rfl)
      ·rw [decide_eq_false d3]
       repeat (first | refine ZD rfl rfl (by omega) ?_ | refine Zx rfl rfl rfl (by omega) (by omega) ?_ | refine g_dec rfl rfl rfl (by omega) ?_ | refine Zw rfl rfl rfl (by omega) (by omega) ?_ | refine ZaC ?_ | refine Zk Tryz.underlying9 rfl rfl ?_)
       by_cases d4:((s[i].toNat:Nat):Int)=95
       ·refine ZF (by (conv=>lhs;whnf);try rfl) (by simp [d4]) ?_
        repeat (first | refine ZD rfl rfl (by omega) ?_ | refine Zx rfl rfl rfl (by omega) (by omega) ?_ | refine g_dec rfl rfl rfl (by omega) ?_ | refine Zw rfl rfl rfl (by omega) (by omega) ?_ | refine ZaC ?_ | refine Zk Tryz.underlying9 rfl rfl ?_)
        exact Zab (i+1) 2 ⟨hlt',ok (by unfold ZaI;simp;omega)⟩ (by show s.size - (i+1)<s.size - i;omega) (ZV [] ⟨rfl,rfl,rfl,trivial⟩ trivial rfl)
       ·refine ZE (by (conv=>lhs;whnf);try rfl) (by simp [d4]) ?_
        repeat (first | refine ZD rfl rfl (by omega) ?_ | refine Zx rfl rfl rfl (by omega) (by omega) ?_ | refine g_dec rfl rfl rfl (by omega) ?_ | refine Zw rfl rfl rfl (by omega) (by omega) ?_ | refine ZaC ?_ | refine Zk Tryz.underlying9 rfl rfl ?_)
        exact ZZ rfl rfl (by rw [Zbb i hlt' (by unfold ZaI;simp;omega)];rfl)
     ·rw [decide_eq_false d2]
      repeat (first | (refine ZY rfl ?_) | refine ZD rfl rfl (by omega) ?_ | refine Zx rfl rfl rfl (by omega) (by omega) ?_ | refine g_dec rfl rfl rfl (by omega) ?_ | refine Zw rfl rfl rfl (by omega) (by omega) ?_ | refine ZaC ?_ | refine Zk Tryz.underlying9 rfl rfl ?_)
      refine ZF (by (conv=>lhs;whnf);try rfl) rfl ?_
      repeat (first | refine ZD rfl rfl (by omega) ?_ | refine Zx rfl rfl rfl (by omega) (by omega) ?_ | refine g_dec rfl rfl rfl (by omega) ?_ | refine Zw rfl rfl rfl (by omega) (by omega) ?_ | refine ZaC ?_ | refine Zk Tryz.underlying9 rfl rfl ?_)
      exact Zab (i+1) 2 ⟨hlt',ok (by unfold ZaI;simp;omega)⟩ (by show s.size - (i+1)<s.size - i;omega) (ZV [] ⟨rfl,rfl,rfl,trivial⟩ trivial rfl)
   ·rw [decide_eq_false b2]
    repeat (first | (refine ZY rfl ?_) | refine ZD rfl rfl (by omega) ?_ | refine Zx rfl rfl rfl (by omega) (by omega) ?_ | refine g_dec rfl rfl rfl (by omega) ?_ | refine Zw rfl rfl rfl (by omega) (by omega) ?_ | refine ZaC ?_ | refine Zk Tryz.underlying9 rfl rfl ?_)
    refine ZF (by (conv=>lhs;whnf);try rfl) rfl ?_
    repeat (first | refine ZD rfl rfl (by omega) ?_ | refine Zx rfl rfl rfl (by omega) (by omega) ?_ | refine g_dec rfl rfl rfl (by omega) ?_ | refine Zw rfl rfl rfl (by omega) (by omega) ?_ | refine ZaC ?_ | refine Zk Tryz.underlying9 rfl rfl ?_)
    exact Zab (i+1) 2 ⟨hlt',ok (by unfold ZaI;simp;omega)⟩ (by show s.size - (i+1)<s.size - i;omega) (ZV [] ⟨rfl,rfl,rfl,trivial⟩ trivial rfl)
 ·refine ZF (by (conv=>lhs;whnf);try rfl) (decide_eq_false hlt) ?_
  repeat (first | refine ZD rfl rfl (by omega) ?_ | refine Zx rfl rfl rfl (by omega) (by omega) ?_ | refine g_dec rfl rfl rfl (by omega) ?_ | refine Zw rfl rfl rfl (by omega) (by omega) ?_ | refine ZaC ?_ | refine Zk Tryz.underlying9 rfl rfl ?_)
  exact ZZ rfl rfl (by rw [ZdL hz (by omega) (by omega) (by omega) fun j hj=>hno j hj (by omega)];rfl)
end Go.Proofs.YtpffimahajgiaaaGreatDoor
