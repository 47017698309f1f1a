/- IsName of policy and of trcref12, of any string. -/
import Derived.Test.YtphibahplgmgfaaGreatDoorPB03
import Derived.Test.YtphibahplgmgfaaGreatDoorPB02
import Derived.Test.YtphibahplgmgfaaGreatDoorPB04
namespace Go.Proofs.YtphibahplgmgfaaGreatDoor
open VL
set_option maxHeartbeats 4000000 in
set_option maxRecDepth 100000 in
theorem isNameR_c (s:ByteArray):Contract0 Tryz.prog 59 [.str s] (.bool (isName s)):=by
 refine contract_run mix Tryz.func59 (by kernel_rfl) rfl (by kernel_rfl) ?_
 repeat (first | refine g_inc rfl rfl (by omega) ?_ | refine g_add rfl rfl rfl (by omega) (by omega) ?_ | refine g_dec rfl rfl rfl (by omega) ?_ | refine g_sub rfl rfl rfl (by omega) (by omega) ?_ | refine runA ?_ | refine g_lenS Tryz.underlying9 rfl rfl ?_)
 by_cases a1:(s.size:Int)<1
 ·rw [decide_eq_true a1]
  repeat (first | (refine g_skip rfl ?_) | refine g_inc rfl rfl (by omega) ?_ | refine g_add rfl rfl rfl (by omega) (by omega) ?_ | refine g_dec rfl rfl rfl (by omega) ?_ | refine g_sub rfl rfl rfl (by omega) (by omega) ?_ | refine runA ?_ | refine g_lenS Tryz.underlying9 rfl rfl ?_)
  refine pws_condT (by (conv=>lhs;whnf);try rfl) rfl ?_
  repeat (first | refine g_inc rfl rfl (by omega) ?_ | refine g_add rfl rfl rfl (by omega) (by omega) ?_ | refine g_dec rfl rfl rfl (by omega) ?_ | refine g_sub rfl rfl rfl (by omega) (by omega) ?_ | refine runA ?_ | refine g_lenS Tryz.underlying9 rfl rfl ?_)
  exact rq_ret rfl rfl (by rw [isName_short (by omega)];rfl)
 rw [decide_eq_false a1]
 repeat (first | refine g_inc rfl rfl (by omega) ?_ | refine g_add rfl rfl rfl (by omega) (by omega) ?_ | refine g_dec rfl rfl rfl (by omega) ?_ | refine g_sub rfl rfl rfl (by omega) (by omega) ?_ | refine runA ?_ | refine g_lenS Tryz.underlying9 rfl rfl ?_)
 by_cases a2:(30:Int)<(s.size:Int)
 ·rw [decide_eq_true a2]
  repeat (first | (refine g_skip rfl ?_) | refine g_inc rfl rfl (by omega) ?_ | refine g_add rfl rfl rfl (by omega) (by omega) ?_ | refine g_dec rfl rfl rfl (by omega) ?_ | refine g_sub rfl rfl rfl (by omega) (by omega) ?_ | refine runA ?_ | refine g_lenS Tryz.underlying9 rfl rfl ?_)
  refine pws_condT (by (conv=>lhs;whnf);try rfl) rfl ?_
  repeat (first | refine g_inc rfl rfl (by omega) ?_ | refine g_add rfl rfl rfl (by omega) (by omega) ?_ | refine g_dec rfl rfl rfl (by omega) ?_ | refine g_sub rfl rfl rfl (by omega) (by omega) ?_ | refine runA ?_ | refine g_lenS Tryz.underlying9 rfl rfl ?_)
  exact rq_ret rfl rfl (by rw [isName_long (by omega)];rfl)
 rw [decide_eq_false a2]
 have hz:0<s.size:=by omega
 have h0:s[0]? = some (s[0]'hz):=getElem?_pos s 0 hz
 repeat (first | (refine g_indexS Tryz.underlying9 rfl rfl rfl h0 ?_) | refine g_inc rfl rfl (by omega) ?_ | refine g_add rfl rfl rfl (by omega) (by omega) ?_ | refine g_dec rfl rfl rfl (by omega) ?_ | refine g_sub rfl rfl rfl (by omega) (by omega) ?_ | refine runA ?_ | refine g_lenS Tryz.underlying9 rfl rfl ?_)
 by_cases a3:(((s[0]'hz).toNat:Nat):Int)<97
 ·rw [decide_eq_true a3]
  repeat (first | (refine g_skip rfl ?_) | refine g_inc rfl rfl (by omega) ?_ | refine g_add rfl rfl rfl (by omega) (by omega) ?_ | refine g_dec rfl rfl rfl (by omega) ?_ | refine g_sub rfl rfl rfl (by omega) (by omega) ?_ | refine runA ?_ | refine g_lenS Tryz.underlying9 rfl rfl ?_)
  refine pws_condT (by (conv=>lhs;whnf);try rfl) rfl ?_
  repeat (first | refine g_inc rfl rfl (by omega) ?_ | refine g_add rfl rfl rfl (by omega) (by omega) ?_ | refine g_dec rfl rfl rfl (by omega) ?_ | refine g_sub rfl rfl rfl (by omega) (by omega) ?_ | refine runA ?_ | refine g_lenS Tryz.underlying9 rfl rfl ?_)
  exact rq_ret rfl rfl (by rw [isName_first hz (.inl a3)];rfl)
 rw [decide_eq_false a3]
 repeat (first | (refine g_indexS Tryz.underlying9 rfl rfl rfl h0 ?_) | refine g_inc rfl rfl (by omega) ?_ | refine g_add rfl rfl rfl (by omega) (by omega) ?_ | refine g_dec rfl rfl rfl (by omega) ?_ | refine g_sub rfl rfl rfl (by omega) (by omega) ?_ | refine runA ?_ | refine g_lenS Tryz.underlying9 rfl rfl ?_)
 by_cases a4:(122:Int)<(((s[0]'hz).toNat:Nat):Int)
 ·refine pws_condT (by (conv=>lhs;whnf);try rfl) (decide_eq_true a4) ?_
  repeat (first | refine g_inc rfl rfl (by omega) ?_ | refine g_add rfl rfl rfl (by omega) (by omega) ?_ | refine g_dec rfl rfl rfl (by omega) ?_ | refine g_sub rfl rfl rfl (by omega) (by omega) ?_ | refine runA ?_ | refine g_lenS Tryz.underlying9 rfl rfl ?_)
  exact rq_ret rfl rfl (by rw [isName_first hz (.inr a4)];rfl)
 refine pws_condF (by (conv=>lhs;whnf);try rfl) (decide_eq_false a4) ?_
 repeat (first | refine g_inc rfl rfl (by omega) ?_ | refine g_add rfl rfl rfl (by omega) (by omega) ?_ | refine g_dec rfl rfl rfl (by omega) ?_ | refine g_sub rfl rfl rfl (by omega) (by omega) ?_ | refine runA ?_ | refine g_lenS Tryz.underlying9 rfl rfl ?_)
 refine pws_loop (α:=Nat) (fun i _=>mkS [(0,.str s),(3,.int .i64 ((i:Nat):Int))] [] 2)
  (fun i=>i≤s.size∧∀ j (hj:j<s.size),j<i→nameC s[j]=true) (fun i=>s.size - i) 0 2 ⟨Nat.zero_le _,fun j _ h=>absurd h (Nat.not_lt_zero _)⟩ (shift_ren [] ⟨rfl,rfl,trivial⟩ trivial rfl) (fun i _ hJ=>?_)
 obtain ⟨(hi:i≤s.size),(hno:∀ j (hj:j<s.size),j<i→nameC s[j]=true)⟩:=hJ
 repeat (first | refine g_inc rfl rfl (by omega) ?_ | refine g_add rfl rfl rfl (by omega) (by omega) ?_ | refine g_dec rfl rfl rfl (by omega) ?_ | refine g_sub rfl rfl rfl (by omega) (by omega) ?_ | refine runA ?_ | refine g_lenS Tryz.underlying9 rfl rfl ?_)
 by_cases hlt:(i:Int)<(s.size:Int)
 ·refine pws_condT (by (conv=>lhs;whnf);try rfl) (decide_eq_true hlt) ?_
  have hlt':i<s.size:=by omega
  have hx:s[i]? = some s[i]:=getElem?_pos s i hlt'
  have ok:nameC s[i]=true→∀ j (hj:j<s.size),j<i+1→nameC s[j]=true:=fun h j hj hj2=>by
   rcases Nat.lt_succ_iff_lt_or_eq.1 hj2 with h2 | h2
   ·exact hno j hj h2
   ·subst h2;exact h
  repeat (first | (refine g_indexS Tryz.underlying9 rfl rfl rfl hx ?_) | refine g_inc rfl rfl (by omega) ?_ | refine g_add rfl rfl rfl (by omega) (by omega) ?_ | refine g_dec rfl rfl rfl (by omega) ?_ | refine g_sub rfl rfl rfl (by omega) (by omega) ?_ | refine runA ?_ | refine g_lenS Tryz.underlying9 rfl rfl ?_)
  by_cases b1:((s[i].toNat:Nat):Int)<97
  ·rw [decide_eq_true b1]
   repeat (first | (refine g_skip rfl ?_) | refine g_inc rfl rfl (by omega) ?_ | refine g_add rfl rfl rfl (by omega) (by omega) ?_ | refine g_dec rfl rfl rfl (by omega) ?_ | refine g_sub rfl rfl rfl (by omega) (by omega) ?_ | refine runA ?_ | refine g_lenS Tryz.underlying9 rfl rfl ?_)
   by_cases d1:((s[i].toNat:Nat):Int)<48
   ·rw [decide_eq_true d1]
    repeat (first | (refine g_skip rfl ?_) | refine g_inc rfl rfl (by omega) ?_ | refine g_add rfl rfl rfl (by omega) (by omega) ?_ | refine g_dec rfl rfl rfl (by omega) ?_ | refine g_sub rfl rfl rfl (by omega) (by omega) ?_ | refine runA ?_ | refine g_lenS Tryz.underlying9 rfl rfl ?_)
    by_cases d3:((s[i].toNat:Nat):Int)=45
    ·rw [decide_eq_true d3]
     repeat (first | (refine g_skip rfl ?_) | refine g_inc rfl rfl (by omega) ?_ | refine g_add rfl rfl rfl (by omega) (by omega) ?_ | refine g_dec rfl rfl rfl (by omega) ?_ | refine g_sub rfl rfl rfl (by omega) (by omega) ?_ | refine runA ?_ | refine g_lenS Tryz.underlying9 rfl rfl ?_)
     refine pws_condF (by (conv=>lhs;whnf);try rfl) rfl ?_
     repeat (first | refine g_inc rfl rfl (by omega) ?_ | refine g_add rfl rfl rfl (by omega) (by omega) ?_ | refine g_dec rfl rfl rfl (by omega) ?_ | refine g_sub rfl rfl rfl (by omega) (by omega) ?_ | refine runA ?_ | refine g_lenS Tryz.underlying9 rfl rfl ?_)
     exact rk_normal (i+1) 2 ⟨hlt',ok (by unfold nameC;simp;omega)⟩ (by show s.size - (i+1)<s.size - i;omega) (shift_ren [] ⟨rfl,rfl,trivial⟩ trivial rfl)
    ·rw [decide_eq_false d3]
     repeat (first | refine g_inc rfl rfl (by omega) ?_ | refine g_add rfl rfl rfl (by omega) (by omega) ?_ | refine g_dec rfl rfl rfl (by omega) ?_ | refine g_sub rfl rfl rfl (by omega) (by omega) ?_ | refine runA ?_ | refine g_lenS Tryz.underlying9 rfl rfl ?_)
     by_cases d4:((s[i].toNat:Nat):Int)=95
     ·refine pws_condF (by (conv=>lhs;whnf);try rfl) (by simp [d4]) ?_
      repeat (first | refine g_inc rfl rfl (by omega) ?_ | refine g_add rfl rfl rfl (by omega) (by omega) ?_ | refine g_dec rfl rfl rfl (by omega) ?_ | refine g_sub rfl rfl rfl (by omega) (by omega) ?_ | refine runA ?_ | refine g_lenS Tryz.underlying9 rfl rfl ?_)
      exact rk_normal (i+1) 2 ⟨hlt',ok (by unfold nameC;simp;omega)⟩ (by show s.size - (i+1)<s.size - i;omega) (shift_ren [] ⟨rfl,rfl,trivial⟩ trivial rfl)
     ·refine pws_condT (by (conv=>lhs;whnf);try rfl) (by simp [d4]) ?_
      repeat (first | refine g_inc rfl rfl (by omega) ?_ | refine g_add rfl rfl rfl (by omega) (by omega) ?_ | refine g_dec rfl rfl rfl (by omega) ?_ | refine g_sub rfl rfl rfl (by omega) (by omega) ?_ | refine runA ?_ | refine g_lenS Tryz.underlying9 rfl rfl ?_)
      exact rq_ret rfl rfl (by rw [isName_bad i hlt' (by unfold nameC;simp;omega)];rfl)
   ·rw [decide_eq_false d1]
    repeat (first | refine g_inc rfl rfl (by omega) ?_ | refine g_add rfl rfl rfl (by omega) (by omega) ?_ | refine g_dec rfl rfl rfl (by omega) ?_ | refine g_sub rfl rfl rfl (by omega) (by omega) ?_ | refine runA ?_ | refine g_lenS Tryz.underlying9 rfl rfl ?_)
    by_cases d2:(57:Int)<((s[i].toNat:Nat):Int)
    ·rw [decide_eq_true d2]
     repeat (first | refine g_inc rfl rfl (by omega) ?_ | refine g_add rfl rfl rfl (by omega) (by omega) ?_ | refine g_dec rfl rfl rfl (by omega) ?_ | refine g_sub rfl rfl rfl (by omega) (by omega) ?_ | refine runA ?_ | refine g_lenS Tryz.underlying9 rfl rfl ?_)
     by_cases d3:((s[i].toNat:Nat):Int)=45
     ·rw [decide_eq_true d3]
      repeat (first | (refine g_skip rfl ?_) | refine g_inc rfl rfl (by omega) ?_ | refine g_add rfl rfl rfl (by omega) (by omega) ?_ | refine g_dec rfl rfl rfl (by omega) ?_ | refine g_sub rfl rfl rfl (by omega) (by omega) ?_ | refine runA ?_ | refine g_lenS Tryz.underlying9 rfl rfl ?_)
      refine pws_condF (by (conv=>lhs;whnf);try rfl) rfl ?_
      repeat (first | refine g_inc rfl rfl (by omega) ?_ | refine g_add rfl rfl rfl (by omega) (by omega) ?_ | refine g_dec rfl rfl rfl (by omega) ?_ | refine g_sub rfl rfl rfl (by omega) (by omega) ?_ | refine runA ?_ | refine g_lenS Tryz.underlying9 rfl rfl ?_)
      exact rk_normal (i+1) 2 ⟨hlt',ok (by unfold nameC;simp;omega)⟩ (by show s.size - (i+1)<s.size - i;omega) (shift_ren [] ⟨rfl,rfl,trivial⟩ trivial rfl)
     ·rw [decide_eq_false d3]
      repeat (first | refine g_inc rfl rfl (by omega) ?_ | refine g_add rfl rfl rfl (by omega) (by omega) ?_ | refine g_dec rfl rfl rfl (by omega) ?_ | refine g_sub rfl rfl rfl (by omega) (by omega) ?_ | refine runA ?_ | refine g_lenS Tryz.underlying9 rfl rfl ?_)
      by_cases d4:((s[i].toNat:Nat):Int)=95
      ·refine pws_condF (by (conv=>lhs;whnf);try rfl) (by simp [d4]) ?_
       repeat (first | refine g_inc rfl rfl (by omega) ?_ | refine g_add rfl rfl rfl (by omega) (by omega) ?_ | refine g_dec rfl rfl rfl (by omega) ?_ | refine g_sub rfl rfl rfl (by omega) (by omega) ?_ | refine runA ?_ | refine g_lenS Tryz.underlying9 rfl rfl ?_)
       exact rk_normal (i+1) 2 ⟨hlt',ok (by unfold nameC;simp;omega)⟩ (by show s.size - (i+1)<s.size - i;omega) (shift_ren [] ⟨rfl,rfl,trivial⟩ trivial rfl)
      ·refine pws_condT (by (conv=>lhs;whnf);try rfl) (by simp [d4]) ?_
       repeat (first | refine g_inc rfl rfl (by omega) ?_ | refine g_add rfl rfl rfl (by omega) (by omega) ?_ | refine g_dec rfl rfl rfl (by omega) ?_ | refine g_sub rfl rfl rfl (by omega) (by omega) ?_ | refine runA ?_ | refine g_lenS Tryz.underlying9 rfl rfl ?_)
       exact rq_ret rfl rfl (by rw [isName_bad i hlt' (by unfold nameC;simp;omega)];rfl)
    ·rw [decide_eq_false d2]
     repeat (first | (refine g_skip rfl ?_) | refine g_inc rfl rfl (by omega) ?_ | refine g_add rfl rfl rfl (by omega) (by omega) ?_ | refine g_dec rfl rfl rfl (by omega) ?_ | refine g_sub rfl rfl rfl (by omega) (by omega) ?_ | refine runA ?_ | refine g_lenS Tryz.underlying9 rfl rfl ?_)
     refine pws_condF (by (conv=>lhs;whnf);try rfl) rfl ?_
     repeat (first | refine g_inc rfl rfl (by omega) ?_ | refine g_add rfl rfl rfl (by omega) (by omega) ?_ | refine g_dec rfl rfl rfl (by omega) ?_ | refine g_sub rfl rfl rfl (by omega) (by omega) ?_ | refine runA ?_ | refine g_lenS Tryz.underlying9 rfl rfl ?_)
     exact rk_normal (i+1) 2 ⟨hlt',ok (by unfold nameC;simp;omega)⟩ (by show s.size - (i+1)<s.size - i;omega) (shift_ren [] ⟨rfl,rfl,trivial⟩ trivial rfl)
  ·rw [decide_eq_false b1]
   repeat (first | refine g_inc rfl rfl (by omega) ?_ | refine g_add rfl rfl rfl (by omega) (by omega) ?_ | refine g_dec rfl rfl rfl (by omega) ?_ | refine g_sub rfl rfl rfl (by omega) (by omega) ?_ | refine runA ?_ | refine g_lenS Tryz.underlying9 rfl rfl ?_)
   by_cases b2:(122:Int)<((s[i].toNat:Nat):Int)
   ·rw [decide_eq_true b2]
    repeat (first | refine g_inc rfl rfl (by omega) ?_ | refine g_add rfl rfl rfl (by omega) (by omega) ?_ | refine g_dec rfl rfl rfl (by omega) ?_ | refine g_sub rfl rfl rfl (by omega) (by omega) ?_ | refine runA ?_ | refine g_lenS Tryz.underlying9 rfl rfl ?_)
    by_cases d1:((s[i].toNat:Nat):Int)<48
    ·rw [decide_eq_true d1]
     repeat (first | (refine g_skip rfl ?_) | refine g_inc rfl rfl (by omega) ?_ | refine g_add rfl rfl rfl (by omega) (by omega) ?_ | refine g_dec rfl rfl rfl (by omega) ?_ | refine g_sub rfl rfl rfl (by omega) (by omega) ?_ | refine runA ?_ | refine g_lenS Tryz.underlying9 rfl rfl ?_)
     by_cases d3:((s[i].toNat:Nat):Int)=45
     ·rw [decide_eq_true d3]
      repeat (first | (refine g_skip rfl ?_) | refine g_inc rfl rfl (by omega) ?_ | refine g_add rfl rfl rfl (by omega) (by omega) ?_ | refine g_dec rfl rfl rfl (by omega) ?_ | refine g_sub rfl rfl rfl (by omega) (by omega) ?_ | refine runA ?_ | refine g_lenS Tryz.underlying9 rfl rfl ?_)
      refine pws_condF (by (conv=>lhs;whnf);try rfl) rfl ?_
      repeat (first | refine g_inc rfl rfl (by omega) ?_ | refine g_add rfl rfl rfl (by omega) (by omega) ?_ | refine g_dec rfl rfl rfl (by omega) ?_ | refine g_sub rfl rfl rfl (by omega) (by omega) ?_ | refine runA ?_ | refine g_lenS Tryz.underlying9 rfl rfl ?_)
      exact rk_normal (i+1) 2 ⟨hlt',ok (by unfold nameC;simp;omega)⟩ (by show s.size - (i+1)<s.size - i;omega) (shift_ren [] ⟨rfl,rfl,trivial⟩ trivial rfl)
     ·rw [decide_eq_false d3]
      repeat (first | refine g_inc rfl rfl (by omega) ?_ | refine g_add rfl rfl rfl (by omega) (by omega) ?_ | refine g_dec rfl rfl rfl (by omega) ?_ | refine g_sub rfl rfl rfl (by omega) (by omega) ?_ | refine runA ?_ | refine g_lenS Tryz.underlying9 rfl rfl ?_)
      by_cases d4:((s[i].toNat:Nat):Int)=95
      ·refine pws_condF (by (conv=>lhs;whnf);try rfl) (by simp [d4]) ?_
       repeat (first | refine g_inc rfl rfl (by omega) ?_ | refine g_add rfl rfl rfl (by omega) (by omega) ?_ | refine g_dec rfl rfl rfl (by omega) ?_ | refine g_sub rfl rfl rfl (by omega) (by omega) ?_ | refine runA ?_ | refine g_lenS Tryz.underlying9 rfl rfl ?_)
       exact rk_normal (i+1) 2 ⟨hlt',ok (by unfold nameC;simp;omega)⟩ (by show s.size - (i+1)<s.size - i;omega) (shift_ren [] ⟨rfl,rfl,trivial⟩ trivial rfl)
      ·refine pws_condT (by (conv=>lhs;whnf);try rfl) (by simp [d4]) ?_
       repeat (first | refine g_inc rfl rfl (by omega) ?_ | refine g_add rfl rfl rfl (by omega) (by omega) ?_ | refine g_dec rfl rfl rfl (by omega) ?_ | refine g_sub rfl rfl rfl (by omega) (by omega) ?_ | refine runA ?_ | refine g_lenS Tryz.underlying9 rfl rfl ?_)
       exact rq_ret rfl rfl (by rw [isName_bad i hlt' (by unfold nameC;simp;omega)];rfl)
    ·rw [decide_eq_false d1]
     repeat (first | refine g_inc rfl rfl (by omega) ?_ | refine g_add rfl rfl rfl (by omega) (by omega) ?_ | refine g_dec rfl rfl rfl (by omega) ?_ | refine g_sub rfl rfl rfl (by omega) (by omega) ?_ | refine runA ?_ | refine g_lenS Tryz.underlying9 rfl rfl ?_)
     by_cases d2:(57:Int)<((s[i].toNat:Nat):Int)
     ·rw [decide_eq_true d2]
      repeat (first | refine g_inc rfl rfl (by omega) ?_ | refine g_add rfl rfl rfl (by omega) (by omega) ?_ | refine g_dec rfl rfl rfl (by omega) ?_ | refine g_sub rfl rfl rfl (by omega) (by omega) ?_ | refine runA ?_ | refine g_lenS Tryz.underlying9 rfl rfl ?_)
      by_cases d3:((s[i].toNat:Nat):Int)=45
      ·rw [decide_eq_true d3]
       repeat (first | (refine g_skip rfl ?_) | refine g_inc rfl rfl (by omega) ?_ | refine g_add rfl rfl rfl (by omega) (by omega) ?_ | refine g_dec rfl rfl rfl (by omega) ?_ | refine g_sub rfl rfl rfl (by omega) (by omega) ?_ | refine runA ?_ | refine g_lenS Tryz.underlying9 rfl rfl ?_)
       refine pws_condF (by (conv=>lhs;whnf);try rfl) rfl ?_
       repeat (first | refine g_inc rfl rfl (by omega) ?_ | refine g_add rfl rfl rfl (by omega) (by omega) ?_ | refine g_dec rfl rfl rfl (by omega) ?_ | refine g_sub rfl rfl rfl (by omega) (by omega) ?_ | refine runA ?_ | refine g_lenS Tryz.underlying9 rfl rfl ?_)
       exact rk_normal (i+1) 2 ⟨hlt',ok (by unfold nameC;simp;omega)⟩ (by show s.size - (i+1)<s.size - i;omega) (shift_ren [] ⟨rfl,rfl,trivial⟩ trivial rfl)
      ·rw [decide_eq_false d3]
       repeat (first | refine g_inc rfl rfl (by omega) ?_ | refine g_add rfl rfl rfl (by omega) (by omega) ?_ | refine g_dec rfl rfl rfl (by omega) ?_ | refine g_sub rfl rfl rfl (by omega) (by omega) ?_ | refine runA ?_ | refine g_lenS Tryz.underlying9 rfl rfl ?_)
       by_cases d4:((s[i].toNat:Nat):Int)=95
       ·refine pws_condF (by (conv=>lhs;whnf);try rfl) (by simp [d4]) ?_
        repeat (first | refine g_inc rfl rfl (by omega) ?_ | refine g_add rfl rfl rfl (by omega) (by omega) ?_ | refine g_dec rfl rfl rfl (by omega) ?_ | refine g_sub rfl rfl rfl (by omega) (by omega) ?_ | refine runA ?_ | refine g_lenS Tryz.underlying9 rfl rfl ?_)
        exact rk_normal (i+1) 2 ⟨hlt',ok (by unfold nameC;simp;omega)⟩ (by show s.size - (i+1)<s.size - i;omega) (shift_ren [] ⟨rfl,rfl,trivial⟩ trivial rfl)
       ·refine pws_condT (by (conv=>lhs;whnf);try rfl) (by simp [d4]) ?_
        repeat (first | refine g_inc rfl rfl (by omega) ?_ | refine g_add rfl rfl rfl (by omega) (by omega) ?_ | refine g_dec rfl rfl rfl (by omega) ?_ | refine g_sub rfl rfl rfl (by omega) (by omega) ?_ | refine runA ?_ | refine g_lenS Tryz.underlying9 rfl rfl ?_)
        exact rq_ret rfl rfl (by rw [isName_bad i hlt' (by unfold nameC;simp;omega)];rfl)
     ·rw [decide_eq_false d2]
      repeat (first | (refine g_skip rfl ?_) | refine g_inc rfl rfl (by omega) ?_ | refine g_add rfl rfl rfl (by omega) (by omega) ?_ | refine g_dec rfl rfl rfl (by omega) ?_ | refine g_sub rfl rfl rfl (by omega) (by omega) ?_ | refine runA ?_ | refine g_lenS Tryz.underlying9 rfl rfl ?_)
      refine pws_condF (by (conv=>lhs;whnf);try rfl) rfl ?_
      repeat (first | refine g_inc rfl rfl (by omega) ?_ | refine g_add rfl rfl rfl (by omega) (by omega) ?_ | refine g_dec rfl rfl rfl (by omega) ?_ | refine g_sub rfl rfl rfl (by omega) (by omega) ?_ | refine runA ?_ | refine g_lenS Tryz.underlying9 rfl rfl ?_)
      exact rk_normal (i+1) 2 ⟨hlt',ok (by unfold nameC;simp;omega)⟩ (by show s.size - (i+1)<s.size - i;omega) (shift_ren [] ⟨rfl,rfl,trivial⟩ trivial rfl)
   ·rw [decide_eq_false b2]
    repeat (first | (refine g_skip rfl ?_) | refine g_inc rfl rfl (by omega) ?_ | refine g_add rfl rfl rfl (by omega) (by omega) ?_ | refine g_dec rfl rfl rfl (by omega) ?_ | refine g_sub rfl rfl rfl (by omega) (by omega) ?_ | refine runA ?_ | refine g_lenS Tryz.underlying9 rfl rfl ?_)
    refine pws_condF (by (conv=>lhs;whnf);try rfl) rfl ?_
    repeat (first | refine g_inc rfl rfl (by omega) ?_ | refine g_add rfl rfl rfl (by omega) (by omega) ?_ | refine g_dec rfl rfl rfl (by omega) ?_ | refine g_sub rfl rfl rfl (by omega) (by omega) ?_ | refine runA ?_ | refine g_lenS Tryz.underlying9 rfl rfl ?_)
    exact rk_normal (i+1) 2 ⟨hlt',ok (by unfold nameC;simp;omega)⟩ (by show s.size - (i+1)<s.size - i;omega) (shift_ren [] ⟨rfl,rfl,trivial⟩ trivial rfl)
 ·refine pws_condF (by (conv=>lhs;whnf);try rfl) (decide_eq_false hlt) ?_
  repeat (first | refine g_inc rfl rfl (by omega) ?_ | refine g_add rfl rfl rfl (by omega) (by omega) ?_ | refine g_dec rfl rfl rfl (by omega) ?_ | refine g_sub rfl rfl rfl (by omega) (by omega) ?_ | refine runA ?_ | refine g_lenS Tryz.underlying9 rfl rfl ?_)
  exact rq_ret rfl rfl (by rw [isName_good hz (by omega) (by omega) (by omega) fun j hj=>hno j hj (by omega)];rfl)
set_option maxHeartbeats 4000000 in
set_option maxRecDepth 100000 in
theorem isNameP_c (s:ByteArray):Contract0 Tryz.prog 81 [.str s] (.bool (isName s)):=by
 refine contract_run mix Tryz.func81 (by kernel_rfl) rfl (by kernel_rfl) ?_
 repeat (first | refine g_inc rfl rfl (by omega) ?_ | refine g_add rfl rfl rfl (by omega) (by omega) ?_ | refine g_dec rfl rfl rfl (by omega) ?_ | refine g_sub rfl rfl rfl (by omega) (by omega) ?_ | refine runA ?_ | refine g_lenS Tryz.underlying9 rfl rfl ?_)
 by_cases a1:(s.size:Int)<1
 ·rw [decide_eq_true a1]
  repeat (first | (refine g_skip rfl ?_) | refine g_inc rfl rfl (by omega) ?_ | refine g_add rfl rfl rfl (by omega) (by omega) ?_ | refine g_dec rfl rfl rfl (by omega) ?_ | refine g_sub rfl rfl rfl (by omega) (by omega) ?_ | refine runA ?_ | refine g_lenS Tryz.underlying9 rfl rfl ?_)
  refine pws_condT (by (conv=>lhs;whnf);try rfl) rfl ?_
  repeat (first | refine g_inc rfl rfl (by omega) ?_ | refine g_add rfl rfl rfl (by omega) (by omega) ?_ | refine g_dec rfl rfl rfl (by omega) ?_ | refine g_sub rfl rfl rfl (by omega) (by omega) ?_ | refine runA ?_ | refine g_lenS Tryz.underlying9 rfl rfl ?_)
  exact rq_ret rfl rfl (by rw [isName_short (by omega)];rfl)
 rw [decide_eq_false a1]
 repeat (first | refine g_inc rfl rfl (by omega) ?_ | refine g_add rfl rfl rfl (by omega) (by omega) ?_ | refine g_dec rfl rfl rfl (by omega) ?_ | refine g_sub rfl rfl rfl (by omega) (by omega) ?_ | refine runA ?_ | refine g_lenS Tryz.underlying9 rfl rfl ?_)
 by_cases a2:(30:Int)<(s.size:Int)
 ·rw [decide_eq_true a2]
  repeat (first | (refine g_skip rfl ?_) | refine g_inc rfl rfl (by omega) ?_ | refine g_add rfl rfl rfl (by omega) (by omega) ?_ | refine g_dec rfl rfl rfl (by omega) ?_ | refine g_sub rfl rfl rfl (by omega) (by omega) ?_ | refine runA ?_ | refine g_lenS Tryz.underlying9 rfl rfl ?_)
  refine pws_condT (by (conv=>lhs;whnf);try rfl) rfl ?_
  repeat (first | refine g_inc rfl rfl (by omega) ?_ | refine g_add rfl rfl rfl (by omega) (by omega) ?_ | refine g_dec rfl rfl rfl (by omega) ?_ | refine g_sub rfl rfl rfl (by omega) (by omega) ?_ | refine runA ?_ | refine g_lenS Tryz.underlying9 rfl rfl ?_)
  exact rq_ret rfl rfl (by rw [isName_long (by omega)];rfl)
 rw [decide_eq_false a2]
 have hz:0<s.size:=by omega
 have h0:s[0]? = some (s[0]'hz):=getElem?_pos s 0 hz
 repeat (first | (refine g_indexS Tryz.underlying9 rfl rfl rfl h0 ?_) | refine g_inc rfl rfl (by omega) ?_ | refine g_add rfl rfl rfl (by omega) (by omega) ?_ | refine g_dec rfl rfl rfl (by omega) ?_ | refine g_sub rfl rfl rfl (by omega) (by omega) ?_ | refine runA ?_ | refine g_lenS Tryz.underlying9 rfl rfl ?_)
 by_cases a3:(((s[0]'hz).toNat:Nat):Int)<97
 ·rw [decide_eq_true a3]
  repeat (first | (refine g_skip rfl ?_) | refine g_inc rfl rfl (by omega) ?_ | refine g_add rfl rfl rfl (by omega) (by omega) ?_ | refine g_dec rfl rfl rfl (by omega) ?_ | refine g_sub rfl rfl rfl (by omega) (by omega) ?_ | refine runA ?_ | refine g_lenS Tryz.underlying9 rfl rfl ?_)
  refine pws_condT (by (conv=>lhs;whnf);try rfl) rfl ?_
  repeat (first | refine g_inc rfl rfl (by omega) ?_ | refine g_add rfl rfl rfl (by omega) (by omega) ?_ | refine g_dec rfl rfl rfl (by omega) ?_ | refine g_sub rfl rfl rfl (by omega) (by omega) ?_ | refine runA ?_ | refine g_lenS Tryz.underlying9 rfl rfl ?_)
  exact rq_ret rfl rfl (by rw [isName_first hz (.inl a3)];rfl)
 rw [decide_eq_false a3]
 repeat (first | (refine g_indexS Tryz.underlying9 rfl rfl rfl h0 ?_) | refine g_inc rfl rfl (by omega) ?_ | refine g_add rfl rfl rfl (by omega) (by omega) ?_ | refine g_dec rfl rfl rfl (by omega) ?_ | refine g_sub rfl rfl rfl (by omega) (by omega) ?_ | refine runA ?_ | refine g_lenS Tryz.underlying9 rfl rfl ?_)
 by_cases a4:(122:Int)<(((s[0]'hz).toNat:Nat):Int)
 ·refine pws_condT (by (conv=>lhs;whnf);try rfl) (decide_eq_true a4) ?_
  repeat (first | refine g_inc rfl rfl (by omega) ?_ | refine g_add rfl rfl rfl (by omega) (by omega) ?_ | refine g_dec rfl rfl rfl (by omega) ?_ | refine g_sub rfl rfl rfl (by omega) (by omega) ?_ | refine runA ?_ | refine g_lenS Tryz.underlying9 rfl rfl ?_)
  exact rq_ret rfl rfl (by rw [isName_first hz (.inr a4)];rfl)
 refine pws_condF (by (conv=>lhs;whnf);try rfl) (decide_eq_false a4) ?_
 repeat (first | refine g_inc rfl rfl (by omega) ?_ | refine g_add rfl rfl rfl (by omega) (by omega) ?_ | refine g_dec rfl rfl rfl (by omega) ?_ | refine g_sub rfl rfl rfl (by omega) (by omega) ?_ | refine runA ?_ | refine g_lenS Tryz.underlying9 rfl rfl ?_)
 refine pws_loop (α:=Nat) (fun i _=>mkS [(0,.str s),(24,.int .i64 (s.size:Int)),(25,.int .i64 ((i:Nat):Int))] [] 2)
  (fun i=>i≤s.size∧∀ j (hj:j<s.size),j<i→nameC s[j]=true) (fun i=>s.size - i) 0 2 ⟨Nat.zero_le _,fun j _ h=>absurd h (Nat.not_lt_zero _)⟩ (shift_ren [] ⟨rfl,rfl,rfl,trivial⟩ trivial rfl) (fun i _ hJ=>?_)
 obtain ⟨(hi:i≤s.size),(hno:∀ j (hj:j<s.size),j<i→nameC s[j]=true)⟩:=hJ
 repeat (first | refine g_inc rfl rfl (by omega) ?_ | refine g_add rfl rfl rfl (by omega) (by omega) ?_ | refine g_dec rfl rfl rfl (by omega) ?_ | refine g_sub rfl rfl rfl (by omega) (by omega) ?_ | refine runA ?_ | refine g_lenS Tryz.underlying9 rfl rfl ?_)
 by_cases hlt:(i:Int)<(s.size:Int)
 ·refine pws_condT (by (conv=>lhs;whnf);try rfl) (decide_eq_true hlt) ?_
  have hlt':i<s.size:=by omega
  have hx:s[i]? = some s[i]:=getElem?_pos s i hlt'
  have ok:nameC s[i]=true→∀ j (hj:j<s.size),j<i+1→nameC s[j]=true:=fun h j hj hj2=>by
   rcases Nat.lt_succ_iff_lt_or_eq.1 hj2 with h2 | h2
   ·exact hno j hj h2
   ·subst h2;exact h
  repeat (first | (refine g_indexS Tryz.underlying9 rfl rfl rfl hx ?_) | refine g_inc rfl rfl (by omega) ?_ | refine g_add rfl rfl rfl (by omega) (by omega) ?_ | refine g_dec rfl rfl rfl (by omega) ?_ | refine g_sub rfl rfl rfl (by omega) (by omega) ?_ | refine runA ?_ | refine g_lenS Tryz.underlying9 rfl rfl ?_)
  by_cases b1:((s[i].toNat:Nat):Int)<97
  ·rw [decide_eq_true b1]
   repeat (first | (refine g_skip rfl ?_) | refine g_inc rfl rfl (by omega) ?_ | refine g_add rfl rfl rfl (by omega) (by omega) ?_ | refine g_dec rfl rfl rfl (by omega) ?_ | refine g_sub rfl rfl rfl (by omega) (by omega) ?_ | refine runA ?_ | refine g_lenS Tryz.underlying9 rfl rfl ?_)
   by_cases d1:((s[i].toNat:Nat):Int)<48
   ·rw [decide_eq_true d1]
    repeat (first | (refine g_skip rfl ?_) | refine g_inc rfl rfl (by omega) ?_ | refine g_add rfl rfl rfl (by omega) (by omega) ?_ | refine g_dec rfl rfl rfl (by omega) ?_ | refine g_sub rfl rfl rfl (by omega) (by omega) ?_ | refine runA ?_ | refine g_lenS Tryz.underlying9 rfl rfl ?_)
    by_cases d3:((s[i].toNat:Nat):Int)=45
    ·rw [decide_eq_true d3]
     repeat (first | (refine g_skip rfl ?_) | refine g_inc rfl rfl (by omega) ?_ | refine g_add rfl rfl rfl (by omega) (by omega) ?_ | refine g_dec rfl rfl rfl (by omega) ?_ | refine g_sub rfl rfl rfl (by omega) (by omega) ?_ | refine runA ?_ | refine g_lenS Tryz.underlying9 rfl rfl ?_)
     refine pws_condF (by (conv=>lhs;whnf);try rfl) rfl ?_
     repeat (first | refine g_inc rfl rfl (by omega) ?_ | refine g_add rfl rfl rfl (by omega) (by omega) ?_ | refine g_dec rfl rfl rfl (by omega) ?_ | refine g_sub rfl rfl rfl (by omega) (by omega) ?_ | refine runA ?_ | refine g_lenS Tryz.underlying9 rfl rfl ?_)
     exact rk_normal (i+1) 2 ⟨hlt',ok (by unfold nameC;simp;omega)⟩ (by show s.size - (i+1)<s.size - i;omega) (shift_ren [] ⟨rfl,rfl,rfl,trivial⟩ trivial rfl)
    ·rw [decide_eq_false d3]
     repeat (first | refine g_inc rfl rfl (by omega) ?_ | refine g_add rfl rfl rfl (by omega) (by omega) ?_ | refine g_dec rfl rfl rfl (by omega) ?_ | refine g_sub rfl rfl rfl (by omega) (by omega) ?_ | refine runA ?_ | refine g_lenS Tryz.underlying9 rfl rfl ?_)
     by_cases d4:((s[i].toNat:Nat):Int)=95
     ·refine pws_condF (by (conv=>lhs;whnf);try rfl) (by simp [d4]) ?_
      repeat (first | refine g_inc rfl rfl (by omega) ?_ | refine g_add rfl rfl rfl (by omega) (by omega) ?_ | refine g_dec rfl rfl rfl (by omega) ?_ | refine g_sub rfl rfl rfl (by omega) (by omega) ?_ | refine runA ?_ | refine g_lenS Tryz.underlying9 rfl rfl ?_)
      exact rk_normal (i+1) 2 ⟨hlt',ok (by unfold nameC;simp;omega)⟩ (by show s.size - (i+1)<s.size - i;omega) (shift_ren [] ⟨rfl,rfl,rfl,trivial⟩ trivial rfl)
     ·refine pws_condT (by (conv=>lhs;whnf);try rfl) (by simp [d4]) ?_
      repeat (first | refine g_inc rfl rfl (by omega) ?_ | refine g_add rfl rfl rfl (by omega) (by omega) ?_ | refine g_dec rfl rfl rfl (by omega) ?_ | refine g_sub rfl rfl rfl (by omega) (by omega) ?_ | refine runA ?_ | refine g_lenS Tryz.underlying9 rfl rfl ?_)
      exact rq_ret rfl rfl (by rw [isName_bad i hlt' (by unfold nameC;simp;omega)];rfl)
   ·rw [decide_eq_false d1]
    repeat (first | refine g_inc rfl rfl (by omega) ?_ | refine g_add rfl rfl rfl (by omega) (by omega) ?_ | refine g_dec rfl rfl rfl (by omega) ?_ | refine g_sub rfl rfl rfl (by omega) (by omega) ?_ | refine runA ?_ | refine g_lenS Tryz.underlying9 rfl rfl ?_)
    by_cases d2:(57:Int)<((s[i].toNat:Nat):Int)
    ·rw [decide_eq_true d2]
     repeat (first | refine g_inc rfl rfl (by omega) ?_ | refine g_add rfl rfl rfl (by omega) (by omega) ?_ | refine g_dec rfl rfl rfl (by omega) ?_ | refine g_sub rfl rfl rfl (by omega) (by omega) ?_ | refine runA ?_ | refine g_lenS Tryz.underlying9 rfl rfl ?_)
     by_cases d3:((s[i].toNat:Nat):Int)=45
     ·rw [decide_eq_true d3]
      repeat (first | (refine g_skip rfl ?_) | refine g_inc rfl rfl (by omega) ?_ | refine g_add rfl rfl rfl (by omega) (by omega) ?_ | refine g_dec rfl rfl rfl (by omega) ?_ | refine g_sub rfl rfl rfl (by omega) (by omega) ?_ | refine runA ?_ | refine g_lenS Tryz.underlying9 rfl rfl ?_)
      refine pws_condF (by (conv=>lhs;whnf);try rfl) rfl ?_
      repeat (first | refine g_inc rfl rfl (by omega) ?_ | refine g_add rfl rfl rfl (by omega) (by omega) ?_ | refine g_dec rfl rfl rfl (by omega) ?_ | refine g_sub rfl rfl rfl (by omega) (by omega) ?_ | refine runA ?_ | refine g_lenS Tryz.underlying9 rfl rfl ?_)
      exact rk_normal (i+1) 2 ⟨hlt',ok (by unfold nameC;simp;omega)⟩ (by show s.size - (i+1)<s.size - i;omega) (shift_ren [] ⟨rfl,rfl,rfl,trivial⟩ trivial rfl)
     ·rw [decide_eq_false d3]
      repeat (first | refine g_inc rfl rfl (by omega) ?_ | refine g_add rfl rfl rfl (by omega) (by omega) ?_ | refine g_dec rfl rfl rfl (by omega) ?_ | refine g_sub rfl rfl rfl (by omega) (by omega) ?_ | refine runA ?_ | refine g_lenS Tryz.underlying9 rfl rfl ?_)
      by_cases d4:((s[i].toNat:Nat):Int)=95
      ·refine pws_condF (by (conv=>lhs;whnf);try rfl) (by simp [d4]) ?_
       repeat (first | refine g_inc rfl rfl (by omega) ?_ | refine g_add rfl rfl rfl (by omega) (by omega) ?_ | refine g_dec rfl rfl rfl (by omega) ?_ | refine g_sub rfl rfl rfl (by omega) (by omega) ?_ | refine runA ?_ | refine g_lenS Tryz.underlying9 rfl rfl ?_)
       exact rk_normal (i+1) 2 ⟨hlt',ok (by unfold nameC;simp;omega)⟩ (by show s.size - (i+1)<s.size - i;omega) (shift_ren [] ⟨rfl,rfl,rfl,trivial⟩ trivial rfl)
      ·refine pws_condT (by (conv=>lhs;whnf);try rfl) (by simp [d4]) ?_
       repeat (first | refine g_inc rfl rfl (by omega) ?_ | refine g_add rfl rfl rfl (by omega) (by omega) ?_ | refine g_dec rfl rfl rfl (by omega) ?_ | refine g_sub rfl rfl rfl (by omega) (by omega) ?_ | refine runA ?_ | refine g_lenS Tryz.underlying9 rfl rfl ?_)
       exact rq_ret rfl rfl (by rw [isName_bad i hlt' (by unfold nameC;simp;omega)];rfl)
    ·rw [decide_eq_false d2]
     repeat (first | (refine g_skip rfl ?_) | refine g_inc rfl rfl (by omega) ?_ | refine g_add rfl rfl rfl (by omega) (by omega) ?_ | refine g_dec rfl rfl rfl (by omega) ?_ | refine g_sub rfl rfl rfl (by omega) (by omega) ?_ | refine runA ?_ | refine g_lenS Tryz.underlying9 rfl rfl ?_)
     refine pws_condF (by (conv=>lhs;whnf);try rfl) rfl ?_
     repeat (first | refine g_inc rfl rfl (by omega) ?_ | refine g_add rfl rfl rfl (by omega) (by omega) ?_ | refine g_dec rfl rfl rfl (by omega) ?_ | refine g_sub rfl rfl rfl (by omega) (by omega) ?_ | refine runA ?_ | refine g_lenS Tryz.underlying9 rfl rfl ?_)
     exact rk_normal (i+1) 2 ⟨hlt',ok (by unfold nameC;simp;omega)⟩ (by show s.size - (i+1)<s.size - i;omega) (shift_ren [] ⟨rfl,rfl,rfl,trivial⟩ trivial rfl)
  ·rw [decide_eq_false b1]
   repeat (first | refine g_inc rfl rfl (by omega) ?_ | refine g_add rfl rfl rfl (by omega) (by omega) ?_ | refine g_dec rfl rfl rfl (by omega) ?_ | refine g_sub rfl rfl rfl (by omega) (by omega) ?_ | refine runA ?_ | refine g_lenS Tryz.underlying9 rfl rfl ?_)
   by_cases b2:(122:Int)<((s[i].toNat:Nat):Int)
   ·rw [decide_eq_true b2]
    repeat (first | refine g_inc rfl rfl (by omega) ?_ | refine g_add rfl rfl rfl (by omega) (by omega) ?_ | refine g_dec rfl rfl rfl (by omega) ?_ | refine g_sub rfl rfl rfl (by omega) (by omega) ?_ | refine runA ?_ | refine g_lenS Tryz.underlying9 rfl rfl ?_)
    by_cases d1:((s[i].toNat:Nat):Int)<48
    ·rw [decide_eq_true d1]
     repeat (first | (refine g_skip rfl ?_) | refine g_inc rfl rfl (by omega) ?_ | refine g_add rfl rfl rfl (by omega) (by omega) ?_ | refine g_dec rfl rfl rfl (by omega) ?_ | refine g_sub rfl rfl rfl (by omega) (by omega) ?_ | refine runA ?_ | refine g_lenS Tryz.underlying9 rfl rfl ?_)
     by_cases d3:((s[i].toNat:Nat):Int)=45
     ·rw [decide_eq_true d3]
      repeat (first | (refine g_skip rfl ?_) | refine g_inc rfl rfl (by omega) ?_ | refine g_add rfl rfl rfl (by omega) (by omega) ?_ | refine g_dec rfl rfl rfl (by omega) ?_ | refine g_sub rfl rfl rfl (by omega) (by omega) ?_ | refine runA ?_ | refine g_lenS Tryz.underlying9 rfl rfl ?_)
      refine pws_condF (by (conv=>lhs;whnf);try rfl) rfl ?_
      repeat (first | refine g_inc rfl rfl (by omega) ?_ | refine g_add rfl rfl rfl (by omega) (by omega) ?_ | refine g_dec rfl rfl rfl (by omega) ?_ | refine g_sub rfl rfl rfl (by omega) (by omega) ?_ | refine runA ?_ | refine g_lenS Tryz.underlying9 rfl rfl ?_)
      exact rk_normal (i+1) 2 ⟨hlt',ok (by unfold nameC;simp;omega)⟩ (by show s.size - (i+1)<s.size - i;omega) (shift_ren [] ⟨rfl,rfl,rfl,trivial⟩ trivial rfl)
     ·rw [decide_eq_false d3]
      repeat (first | refine g_inc rfl rfl (by omega) ?_ | refine g_add rfl rfl rfl (by omega) (by omega) ?_ | refine g_dec rfl rfl rfl (by omega) ?_ | refine g_sub rfl rfl rfl (by omega) (by omega) ?_ | refine runA ?_ | refine g_lenS Tryz.underlying9 rfl rfl ?_)
      by_cases d4:((s[i].toNat:Nat):Int)=95
      ·refine pws_condF (by (conv=>lhs;whnf);try rfl) (by simp [d4]) ?_
       repeat (first | refine g_inc rfl rfl (by omega) ?_ | refine g_add rfl rfl rfl (by omega) (by omega) ?_ | refine g_dec rfl rfl rfl (by omega) ?_ | refine g_sub rfl rfl rfl (by omega) (by omega) ?_ | refine runA ?_ | refine g_lenS Tryz.underlying9 rfl rfl ?_)
       exact rk_normal (i+1) 2 ⟨hlt',ok (by unfold nameC;simp;omega)⟩ (by show s.size - (i+1)<s.size - i;omega) (shift_ren [] ⟨rfl,rfl,rfl,trivial⟩ trivial rfl)
      ·refine pws_condT (by (conv=>lhs;whnf);try rfl) (by simp [d4]) ?_
       repeat (first | refine g_inc rfl rfl (by omega) ?_ | refine g_add rfl rfl rfl (by omega) (by omega) ?_ | refine g_dec rfl rfl rfl (by omega) ?_ | refine g_sub rfl rfl rfl (by omega) (by omega) ?_ | refine runA ?_ | refine g_lenS Tryz.underlying9 rfl rfl ?_)
       exact rq_ret rfl rfl (by rw [isName_bad i hlt' (by unfold nameC;simp;omega)];rfl)
    ·rw [decide_eq_false d1]
     repeat (first | refine g_inc rfl rfl (by omega) ?_ | refine g_add rfl rfl rfl (by omega) (by omega) ?_ | refine g_dec rfl rfl rfl (by omega) ?_ | refine g_sub rfl rfl rfl (by omega) (by omega) ?_ | refine runA ?_ | refine g_lenS Tryz.underlying9 rfl rfl ?_)
     by_cases d2:(57:Int)<((s[i].toNat:Nat):Int)
     ·rw [decide_eq_true d2]
      repeat (first | refine g_inc rfl rfl (by omega) ?_ | refine g_add rfl rfl rfl (by omega) (by omega) ?_ | refine g_dec rfl rfl rfl (by omega) ?_ | refine g_sub rfl rfl rfl (by omega) (by omega) ?_ | refine runA ?_ | refine g_lenS Tryz.underlying9 rfl rfl ?_)
      by_cases d3:((s[i].toNat:Nat):Int)=45
      ·rw [decide_eq_true d3]
       repeat (first | (refine g_skip rfl ?_) | refine g_inc rfl rfl (by omega) ?_ | refine g_add rfl rfl rfl (by omega) (by omega) ?_ | refine g_dec rfl rfl rfl (by omega) ?_ | refine g_sub rfl rfl rfl (by omega) (by omega) ?_ | refine runA ?_ | refine g_lenS Tryz.underlying9 rfl rfl ?_)
       refine pws_condF (by (conv=>lhs;whnf);try rfl) rfl ?_
       repeat (first | refine g_inc rfl rfl (by omega) ?_ | refine g_add rfl rfl rfl (by omega) (by omega) ?_ | refine g_dec rfl rfl rfl (by omega) ?_ | refine g_sub rfl rfl rfl (by omega) (by omega) ?_ | refine runA ?_ | refine g_lenS Tryz.underlying9 rfl rfl ?_)
       exact rk_normal (i+1) 2 ⟨hlt',ok (by unfold nameC;simp;omega)⟩ (by show s.size - (i+1)<s.size - i;omega) (shift_ren [] ⟨rfl,rfl,rfl,trivial⟩ trivial rfl)
      ·rw [decide_eq_false d3]
       repeat (first | refine g_inc rfl rfl (by omega) ?_ | refine g_add rfl rfl rfl (by omega) (by omega) ?_ | refine g_dec rfl rfl rfl (by omega) ?_ | refine g_sub rfl rfl rfl (by omega) (by omega) ?_ | refine runA ?_ | refine g_lenS Tryz.underlying9 rfl rfl ?_)
       by_cases d4:((s[i].toNat:Nat):Int)=95
       ·refine pws_condF (by (conv=>lhs;whnf);try rfl) (by simp [d4]) ?_
        repeat (first | refine g_inc rfl rfl (by omega) ?_ | refine g_add rfl rfl rfl (by omega) (by omega) ?_ | refine g_dec rfl rfl rfl (by omega) ?_ | refine g_sub rfl rfl rfl (by omega) (by omega) ?_ | refine runA ?_ | refine g_lenS Tryz.underlying9 rfl rfl ?_)
        exact rk_normal (i+1) 2 ⟨hlt',ok (by unfold nameC;simp;omega)⟩ (by show s.size - (i+1)<s.size - i;omega) (shift_ren [] ⟨rfl,rfl,rfl,trivial⟩ trivial rfl)
       ·refine pws_condT (by (conv=>lhs;whnf);try rfl) (by simp [d4]) ?_
        repeat (first | refine g_inc rfl rfl (by omega) ?_ | refine g_add rfl rfl rfl (by omega) (by omega) ?_ | refine g_dec rfl rfl rfl (by omega) ?_ | refine g_sub rfl rfl rfl (by omega) (by omega) ?_ | refine runA ?_ | refine g_lenS Tryz.underlying9 rfl rfl ?_)
        exact rq_ret rfl rfl (by rw [isName_bad i hlt' (by unfold nameC;simp;omega)];rfl)
     ·rw [decide_eq_false d2]
      repeat (first | (refine g_skip rfl ?_) | refine g_inc rfl rfl (by omega) ?_ | refine g_add rfl rfl rfl (by omega) (by omega) ?_ | refine g_dec rfl rfl rfl (by omega) ?_ | refine g_sub rfl rfl rfl (by omega) (by omega) ?_ | refine runA ?_ | refine g_lenS Tryz.underlying9 rfl rfl ?_)
      refine pws_condF (by (conv=>lhs;whnf);try rfl) rfl ?_
      repeat (first | refine g_inc rfl rfl (by omega) ?_ | refine g_add rfl rfl rfl (by omega) (by omega) ?_ | refine g_dec rfl rfl rfl (by omega) ?_ | refine g_sub rfl rfl rfl (by omega) (by omega) ?_ | refine runA ?_ | refine g_lenS Tryz.underlying9 rfl rfl ?_)
      exact rk_normal (i+1) 2 ⟨hlt',ok (by unfold nameC;simp;omega)⟩ (by show s.size - (i+1)<s.size - i;omega) (shift_ren [] ⟨rfl,rfl,rfl,trivial⟩ trivial rfl)
   ·rw [decide_eq_false b2]
    repeat (first | (refine g_skip rfl ?_) | refine g_inc rfl rfl (by omega) ?_ | refine g_add rfl rfl rfl (by omega) (by omega) ?_ | refine g_dec rfl rfl rfl (by omega) ?_ | refine g_sub rfl rfl rfl (by omega) (by omega) ?_ | refine runA ?_ | refine g_lenS Tryz.underlying9 rfl rfl ?_)
    refine pws_condF (by (conv=>lhs;whnf);try rfl) rfl ?_
    repeat (first | refine g_inc rfl rfl (by omega) ?_ | refine g_add rfl rfl rfl (by omega) (by omega) ?_ | refine g_dec rfl rfl rfl (by omega) ?_ | refine g_sub rfl rfl rfl (by omega) (by omega) ?_ | refine runA ?_ | refine g_lenS Tryz.underlying9 rfl rfl ?_)
    exact rk_normal (i+1) 2 ⟨hlt',ok (by unfold nameC;simp;omega)⟩ (by show s.size - (i+1)<s.size - i;omega) (shift_ren [] ⟨rfl,rfl,rfl,trivial⟩ trivial rfl)
 ·refine pws_condF (by (conv=>lhs;whnf);try rfl) (decide_eq_false hlt) ?_
  repeat (first | refine g_inc rfl rfl (by omega) ?_ | refine g_add rfl rfl rfl (by omega) (by omega) ?_ | refine g_dec rfl rfl rfl (by omega) ?_ | refine g_sub rfl rfl rfl (by omega) (by omega) ?_ | refine runA ?_ | refine g_lenS Tryz.underlying9 rfl rfl ?_)
  exact rq_ret rfl rfl (by rw [isName_good hz (by omega) (by omega) (by omega) fun j hj=>hno j hj (by omega)];rfl)
end Go.Proofs.YtphibahplgmgfaaGreatDoor
