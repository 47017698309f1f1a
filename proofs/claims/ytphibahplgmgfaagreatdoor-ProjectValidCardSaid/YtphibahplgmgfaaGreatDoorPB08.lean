/- trcref13: Levels, May. | May, as the others are written. | Functions of the library whose contracts are proved by hand or lie on the shelf, written as the others are. | New names where function values that came in lie in slots. No program is named. | A slice that is not empty is not nil. No program is named. | On as far as it goes by itself, but for arrays that are built. No program is named. | make([]T, 0, c): a new row of no elements. No program is named. | A call with function values that hands back a new object. No program is named. | Short forms of what fx prints. No program is named. | Functions of the program as Lean functions. Written by fxgen.py. | Count of a byte, Join, FieldsFunc at blanks, a title's prefix, as the others are written. -/
import Derived.Test.YtphibahplgmgfaaGreatDoorPB03
import Derived.Test.YtphibahplgmgfaaGreatDoorPB07
import Derived.Test.YtphibahplgmgfaaGreatDoorPB06
import Derived.Lib.SplitLaws
import Derived.Lib.OwnBridge
import Derived.Lib.SliceRun
import Derived.Laws.BytesArg
namespace Go.Proofs.YtphibahplgmgfaaGreatDoor
open VL
theorem refAncestors_n (t:Title):ContractN Tryz.prog 132 [t.pv] (.row 29 2 false ((ancL t).map Title.cs)):=
 contractN_own (vals:=[.agg #[.int .i64 t.space,.string t.name]]) (enc:=encTitle) (by kernel_rfl) rfl plainTitle (fun S w x cs h=>h) (fun x=>rfl) fun w hw=>refAncestors_any t w hw.1
set_option maxHeartbeats 2000000 in
set_option maxRecDepth 100000 in
theorem refLevels_c (t:Title):Contract0 Tryz.prog 89 [t.pv] (.sl ((levelsL t).map Scope.cs)):=by
 have hlen:=ancL_len t
 refine contract_run mix Tryz.func89 (by kernel_rfl) rfl (by kernel_rfl) ?_
 repeat (first | (refine g_callN (refAncestors_n t) rfl rfl ?_) | (refine g_sub rfl rfl rfl (by simp;omega) (by simp;omega) ?_) | refine g_inc rfl rfl (by omega) ?_ | refine g_add rfl rfl rfl (by omega) (by omega) ?_ | refine g_dec rfl rfl rfl (by omega) ?_ | refine g_sub rfl rfl rfl (by omega) (by omega) ?_ | refine runA ?_ | refine g_lenS Tryz.underlying9 rfl rfl ?_)
 refine pws_loop (α:=Nat) (fun n _=>mkS [(1,.ptr 1 (1,1) 0),(3,.row 8 (1,8)),(4,.sl ((ancL t).map Title.cs)),(5,.int .i64 ((n:Int) - 1))]
   [(1,some ((1,1),.box t.cs)),(8,some ((1,8),.row 103 3 false ((⟨3,t⟩::((ancL t).drop n).reverse.map fun a=>(⟨3,a⟩:Scope)).map Scope.cs)))] 2)
  (fun n=>n≤(ancL t).length) (fun n=>n) (ancL t).length 2 (Nat.le_refl _)
  (Shift.trans (shift_T 4 rfl rfl) (shift_ren [((1,1),_),((1,8),_)] ⟨rfl,rfl,rfl,?_,trivial⟩ ⟨⟨rfl,rfl⟩,⟨?_,rfl⟩,trivial⟩ rfl)) (fun n _ (hn:n≤(ancL t).length)=>?_)
 ·show some (PV.int .i64 (((ancL t).length:Int) - 1))=some (PV.int .i64 ((((ancL t).map Title.cs).length:Int) - 1))
  rw [List.length_map]
 ·rw [List.drop_length]
  rfl
 repeat (first | refine g_inc rfl rfl (by omega) ?_ | refine g_add rfl rfl rfl (by omega) (by omega) ?_ | refine g_dec rfl rfl rfl (by omega) ?_ | refine g_sub rfl rfl rfl (by omega) (by omega) ?_ | refine runA ?_ | refine g_lenS Tryz.underlying9 rfl rfl ?_)
 by_cases hge:(0:Int)≤(n:Int) - 1
 ·refine pws_condT (by (conv=>lhs;whnf);try rfl) (decide_eq_true hge) ?_
  obtain ⟨m,rfl⟩:∃ m,n=m+1:=⟨n - 1,by omega⟩
  have e1:(((m+1:Nat):Int) - 1)=(m:Int):=by omega
  obtain ⟨x,hx⟩:∃ x,(ancL t)[m]? = some x:=⟨_,List.getElem?_eq_getElem (by omega)⟩
  have hcs:((ancL t).map Title.cs)[m]? = some x.cs:=by rw [List.getElem?_map,hx];rfl
  repeat (first | (refine g_index_sl rfl rfl (congrArg (PV.int .i64) e1) hcs rfl ?_) | (refine g_append_row rfl rfl rfl rfl (by show (List.length _+1) * _≤_;simp;omega) (by show List.length _+1≤_;simp;omega) (by rfl) ?_) | refine g_inc rfl rfl (by omega) ?_ | refine g_add rfl rfl rfl (by omega) (by omega) ?_ | refine g_dec rfl rfl rfl (by omega) ?_ | refine g_sub rfl rfl rfl (by omega) (by omega) ?_ | refine runA ?_ | refine g_lenS Tryz.underlying9 rfl rfl ?_)
  refine rk_normal m 2 (by omega) (by omega) (shift_ren [((1,1),(1,1)),((1,8),_)] ⟨rfl,rfl,rfl,?_,trivial⟩ ⟨⟨rfl,rfl⟩,⟨?_,rfl⟩,trivial⟩ rfl)
  ·show some (PV.int .i64 ((m:Int) - 1))=some (PV.int .i64 (((m+1:Nat):Int) - 1 - 1))
   rw [e1]
  ·rw [drop_at hx,List.reverse_cons,List.map_append,← List.cons_append,List.map_append]
   rfl
 ·refine pws_condF (by (conv=>lhs;whnf);try rfl) (decide_eq_false hge) ?_
  obtain rfl:n=0:=by omega
  repeat (first | (refine g_append_row rfl rfl rfl rfl (by show (List.length _+2) * _≤_;simp;omega) (by show List.length _+2≤_;simp;omega) (by rfl) ?_) | refine g_inc rfl rfl (by omega) ?_ | refine g_add rfl rfl rfl (by omega) (by omega) ?_ | refine g_dec rfl rfl rfl (by omega) ?_ | refine g_sub rfl rfl rfl (by omega) (by omega) ?_ | refine runA ?_ | refine g_lenS Tryz.underlying9 rfl rfl ?_)
  refine rq_ret rfl rfl ?_
  unfold levelsL
  rw [up_rev,List.drop_zero]
  simp only [List.map_append,List.map_cons,List.map_nil]
  rfl
set_option maxHeartbeats 8000000 in
set_option maxRecDepth 100000 in
theorem refMay_c (p:Policy) (G:List ByteArray) (right:Int) (t:Title) (hR:p.rules.length≤1000000):Contract0 Tryz.prog 51 [p.pv,strsV G,.int .i64 right,t.pv] (.bool (mayB p G right t)):=by
 have hcv:=refValid_c t
 have hll:(levelsL t).length≤103:=by unfold levelsL;have:=ancL_len t;simp [upLevels_len];omega
 refine contract_run mix Tryz.func51 (by kernel_rfl) rfl (by kernel_rfl) ?_
 rcases Bool.eq_false_or_eq_true t.valid with hv | hv<;>rw [hv] at hcv
 ·repeat (first | (refine g_call hcv rfl rfl ?_) | refine g_inc rfl rfl (by omega) ?_ | refine g_add rfl rfl rfl (by omega) (by omega) ?_ | refine g_dec rfl rfl rfl (by omega) ?_ | refine g_sub rfl rfl rfl (by omega) (by omega) ?_ | refine runA ?_ | refine g_lenS Tryz.underlying9 rfl rfl ?_)
  by_cases h1:right<1
  ·rw [decide_eq_true h1]
   repeat (first | (refine g_skip rfl ?_) | refine g_inc rfl rfl (by omega) ?_ | refine g_add rfl rfl rfl (by omega) (by omega) ?_ | refine g_dec rfl rfl rfl (by omega) ?_ | refine g_sub rfl rfl rfl (by omega) (by omega) ?_ | refine runA ?_ | refine g_lenS Tryz.underlying9 rfl rfl ?_)
   refine pws_condT (by (conv=>lhs;whnf);try rfl) rfl ?_
   repeat (first | refine g_inc rfl rfl (by omega) ?_ | refine g_add rfl rfl rfl (by omega) (by omega) ?_ | refine g_dec rfl rfl rfl (by omega) ?_ | refine g_sub rfl rfl rfl (by omega) (by omega) ?_ | refine runA ?_ | refine g_lenS Tryz.underlying9 rfl rfl ?_)
   refine rq_ret rfl rfl ?_
   unfold mayB
   rw [decide_eq_false (show ¬ 1≤right by omega)]
   simp
   rfl
  ·rw [decide_eq_false h1]
   repeat (first | refine g_inc rfl rfl (by omega) ?_ | refine g_add rfl rfl rfl (by omega) (by omega) ?_ | refine g_dec rfl rfl rfl (by omega) ?_ | refine g_sub rfl rfl rfl (by omega) (by omega) ?_ | refine runA ?_ | refine g_lenS Tryz.underlying9 rfl rfl ?_)
   by_cases h5:5<right
   ·refine pws_condT (by (conv=>lhs;whnf);try rfl) (decide_eq_true h5) ?_
    repeat (first | refine g_inc rfl rfl (by omega) ?_ | refine g_add rfl rfl rfl (by omega) (by omega) ?_ | refine g_dec rfl rfl rfl (by omega) ?_ | refine g_sub rfl rfl rfl (by omega) (by omega) ?_ | refine runA ?_ | refine g_lenS Tryz.underlying9 rfl rfl ?_)
    refine rq_ret rfl rfl ?_
    unfold mayB
    rw [decide_eq_false (show ¬ right≤5 by omega)]
    simp
    rfl
   ·refine pws_condF (by (conv=>lhs;whnf);try rfl) (decide_eq_false h5) ?_
    have hmay:mayB p G right t=mayFrom p.rules G right (levelsL t):=by
     unfold mayB
     rw [hv,decide_eq_true (show 1≤right by omega),decide_eq_true (show right≤5 by omega)]
     rfl
    rw [hmay]
    repeat (first | (refine g_call (refLevels_c t) rfl rfl ?_) | refine g_inc rfl rfl (by omega) ?_ | refine g_add rfl rfl rfl (by omega) (by omega) ?_ | refine g_dec rfl rfl rfl (by omega) ?_ | refine g_sub rfl rfl rfl (by omega) (by omega) ?_ | refine runA ?_ | refine g_lenS Tryz.underlying9 rfl rfl ?_)
    refine pws_loop (α:=Nat) (fun i _=>mkS [(1,strsV G),(2,.int .i64 right),(4,.ptr 4 (1,4) 0),(9,.sl ((levelsL t).map Scope.cs)),(10,.int .i64 ((i:Nat):Int))] [(4,some ((1,4),.box p.cs))] 2)
     (fun i=>i≤(levelsL t).length∧mayFrom p.rules G right (levelsL t)=mayFrom p.rules G right ((levelsL t).drop i)) (fun i=>(levelsL t).length - i) 0 2 ⟨Nat.zero_le _,rfl⟩
     (shift_ren [((1,4),_)] ⟨rfl,rfl,rfl,rfl,rfl,trivial⟩ ⟨⟨rfl,rfl⟩,trivial⟩ rfl) (fun i _ hJ=>?_)
    obtain ⟨(hi:i≤(levelsL t).length),(hno:mayFrom p.rules G right (levelsL t)=mayFrom p.rules G right ((levelsL t).drop i))⟩:=hJ
    repeat (first | refine g_inc rfl rfl (by omega) ?_ | refine g_add rfl rfl rfl (by omega) (by omega) ?_ | refine g_dec rfl rfl rfl (by omega) ?_ | refine g_sub rfl rfl rfl (by omega) (by omega) ?_ | refine runA ?_ | refine g_lenS Tryz.underlying9 rfl rfl ?_)
    by_cases hlt:(i:Int)<(((levelsL t).map Scope.cs).length:Int)
    ·refine pws_condT (by (conv=>lhs;whnf);try rfl) (decide_eq_true hlt) ?_
     have hlt':i<(levelsL t).length:=by simpa using hlt
     obtain ⟨lv,hx⟩:∃ lv,(levelsL t)[i]? = some lv:=⟨_,List.getElem?_eq_getElem hlt'⟩
     have hcs:((levelsL t).map Scope.cs)[i]? = some lv.cs:=by rw [List.getElem?_map,hx];rfl
     rw [drop_at hx,mayFrom] at hno
     repeat (first | refine g_inc rfl rfl (by omega) ?_ | refine g_add rfl rfl rfl (by omega) (by omega) ?_ | refine g_dec rfl rfl rfl (by omega) ?_ | refine g_sub rfl rfl rfl (by omega) (by omega) ?_ | refine runA ?_ | refine g_lenS Tryz.underlying9 rfl rfl ?_)
     refine pws_loop (α:=Nat) (fun k _=>mkS [(1,strsV G),(2,.int .i64 right),(4,.ptr 4 (1,4) 0),(9,.sl ((levelsL t).map Scope.cs)),(10,.int .i64 (i:Int)),(11,.bool ((p.rules.take k).any (ruleHits G right lv))),(12,.bool ((p.rules.take k).all fun r=>!ruleHits G right lv r||r.allow)),(13,.int .i64 ((k:Nat):Int))] [(4,some ((1,4),.box p.cs))] 2)
      (fun k=>k≤p.rules.length) (fun k=>p.rules.length - k) 0 2 (Nat.zero_le _)
      (shift_ren [((1,4),(1,4))] ⟨rfl,rfl,rfl,rfl,rfl,rfl,rfl,rfl,trivial⟩ ⟨⟨rfl,rfl⟩,trivial⟩ rfl) (fun k _ (hk:k≤p.rules.length)=>?_)
     repeat (first | refine g_inc rfl rfl (by omega) ?_ | refine g_add rfl rfl rfl (by omega) (by omega) ?_ | refine g_dec rfl rfl rfl (by omega) ?_ | refine g_sub rfl rfl rfl (by omega) (by omega) ?_ | refine runA ?_ | refine g_lenS Tryz.underlying9 rfl rfl ?_)
     by_cases hlk:(k:Int)<((p.rules.map Rule.cs).length:Int)
     ·refine pws_condT (by (conv=>lhs;whnf);try rfl) (decide_eq_true hlk) ?_
      have hlk':k<p.rules.length:=by simpa using hlk
      obtain ⟨r,hr⟩:∃ r,p.rules[k]? = some r:=⟨_,List.getElem?_eq_getElem hlk'⟩
      have hcr:(p.rules.map Rule.cs)[k]? = some r.cs:=by rw [List.getElem?_map,hr];rfl
      have hany:(p.rules.take (k+1)).any (ruleHits G right lv)=((p.rules.take k).any (ruleHits G right lv)||ruleHits G right lv r):=any_take hr
      have hall:(p.rules.take (k+1)).all (fun r=>!ruleHits G right lv r||r.allow)=((p.rules.take k).all (fun r=>!ruleHits G right lv r||r.allow)&&(!ruleHits G right lv r||r.allow)):=all_take (f:=fun r=>!ruleHits G right lv r||r.allow) hr
      have hms:p.rules.length - (k+1)<p.rules.length - k:=by omega
      repeat (first | (refine g_index_sl rfl rfl rfl hcr rfl ?_) | refine g_inc rfl rfl (by omega) ?_ | refine g_add rfl rfl rfl (by omega) (by omega) ?_ | refine g_dec rfl rfl rfl (by omega) ?_ | refine g_sub rfl rfl rfl (by omega) (by omega) ?_ | refine runA ?_ | refine g_lenS Tryz.underlying9 rfl rfl ?_)
      by_cases e1:r.right=right
      ·rw [decide_eq_true e1]
       repeat (first | (refine g_call (has_c G _) rfl rfl ?_) | refine g_inc rfl rfl (by omega) ?_ | refine g_add rfl rfl rfl (by omega) (by omega) ?_ | refine g_dec rfl rfl rfl (by omega) ?_ | refine g_sub rfl rfl rfl (by omega) (by omega) ?_ | refine runA ?_ | refine g_lenS Tryz.underlying9 rfl rfl ?_)
       rcases Bool.eq_false_or_eq_true (hasL G r.group) with e2 | e2
       ·rw [e2]
        repeat (first | (refine g_index_sl rfl rfl rfl hcs rfl ?_) | (refine g_call (refMatches_c r.scope lv) rfl rfl ?_) | refine g_inc rfl rfl (by omega) ?_ | refine g_add rfl rfl rfl (by omega) (by omega) ?_ | refine g_dec rfl rfl rfl (by omega) ?_ | refine g_sub rfl rfl rfl (by omega) (by omega) ?_ | refine runA ?_ | refine g_lenS Tryz.underlying9 rfl rfl ?_)
        have hf:ruleHits G right lv r=matchB r.scope lv:=by unfold ruleHits;rw [decide_eq_true e1,e2];rfl
        rcases Bool.eq_false_or_eq_true (matchB r.scope lv) with e3 | e3
        ·refine pws_condT (by (conv=>lhs;whnf);try rfl) e3 ?_
         rw [hf,e3] at hany hall
         simp only [Bool.or_true,Bool.not_true,Bool.false_or] at hany hall
         rcases Bool.eq_false_or_eq_true ((p.rules.take k).all fun r=>!ruleHits G right lv r||r.allow) with e4 | e4
         ·rw [e4]
          rw [e4,Bool.true_and] at hall
          repeat (first | refine g_inc rfl rfl (by omega) ?_ | refine g_add rfl rfl rfl (by omega) (by omega) ?_ | refine g_dec rfl rfl rfl (by omega) ?_ | refine g_sub rfl rfl rfl (by omega) (by omega) ?_ | refine runA ?_ | refine g_lenS Tryz.underlying9 rfl rfl ?_)
          refine rk_normal (k+1) 2 hlk' hms (shift_ren [((1,4),(1,4))] ⟨rfl,rfl,rfl,rfl,rfl,?_,?_,rfl,trivial⟩ ⟨⟨rfl,rfl⟩,trivial⟩ rfl)
          ·rw [hany];rfl
          ·rw [hall];rfl
         ·rw [e4]
          rw [e4,Bool.false_and] at hall
          repeat (first | (refine g_skip rfl ?_) | refine g_inc rfl rfl (by omega) ?_ | refine g_add rfl rfl rfl (by omega) (by omega) ?_ | refine g_dec rfl rfl rfl (by omega) ?_ | refine g_sub rfl rfl rfl (by omega) (by omega) ?_ | refine runA ?_ | refine g_lenS Tryz.underlying9 rfl rfl ?_)
          refine rk_normal (k+1) 2 hlk' hms (shift_ren [((1,4),(1,4))] ⟨rfl,rfl,rfl,rfl,rfl,?_,?_,rfl,trivial⟩ ⟨⟨rfl,rfl⟩,trivial⟩ rfl)
          ·rw [hany];rfl
          ·rw [hall];rfl
        ·refine pws_condF (by (conv=>lhs;whnf);try rfl) e3 ?_
         rw [hf,e3] at hany hall
         simp only [Bool.or_false,Bool.not_false,Bool.true_or,Bool.and_true] at hany hall
         repeat (first | refine g_inc rfl rfl (by omega) ?_ | refine g_add rfl rfl rfl (by omega) (by omega) ?_ | refine g_dec rfl rfl rfl (by omega) ?_ | refine g_sub rfl rfl rfl (by omega) (by omega) ?_ | refine runA ?_ | refine g_lenS Tryz.underlying9 rfl rfl ?_)
         refine rk_normal (k+1) 2 hlk' hms (shift_ren [((1,4),(1,4))] ⟨rfl,rfl,rfl,rfl,rfl,?_,?_,rfl,trivial⟩ ⟨⟨rfl,rfl⟩,trivial⟩ rfl)
         ·rw [hany];rfl
         ·rw [hall];rfl
       ·rw [e2]
        have hf:ruleHits G right lv r=false:=by unfold ruleHits;rw [decide_eq_true e1,e2];rfl
        rw [hf] at hany hall
        simp only [Bool.or_false,Bool.not_false,Bool.true_or,Bool.and_true] at hany hall
        repeat (first | (refine g_skip rfl ?_) | refine g_inc rfl rfl (by omega) ?_ | refine g_add rfl rfl rfl (by omega) (by omega) ?_ | refine g_dec rfl rfl rfl (by omega) ?_ | refine g_sub rfl rfl rfl (by omega) (by omega) ?_ | refine runA ?_ | refine g_lenS Tryz.underlying9 rfl rfl ?_)
        refine pws_condF (by (conv=>lhs;whnf);try rfl) rfl ?_
        repeat (first | refine g_inc rfl rfl (by omega) ?_ | refine g_add rfl rfl rfl (by omega) (by omega) ?_ | refine g_dec rfl rfl rfl (by omega) ?_ | refine g_sub rfl rfl rfl (by omega) (by omega) ?_ | refine runA ?_ | refine g_lenS Tryz.underlying9 rfl rfl ?_)
        refine rk_normal (k+1) 2 hlk' hms (shift_ren [((1,4),(1,4))] ⟨rfl,rfl,rfl,rfl,rfl,?_,?_,rfl,trivial⟩ ⟨⟨rfl,rfl⟩,trivial⟩ rfl)
        ·rw [hany];rfl
        ·rw [hall];rfl
      ·rw [decide_eq_false e1]
       have hf:ruleHits G right lv r=false:=by unfold ruleHits;rw [decide_eq_false e1];rfl
       rw [hf] at hany hall
       simp only [Bool.or_false,Bool.not_false,Bool.true_or,Bool.and_true] at hany hall
       repeat (first | (refine g_skip rfl ?_) | refine g_inc rfl rfl (by omega) ?_ | refine g_add rfl rfl rfl (by omega) (by omega) ?_ | refine g_dec rfl rfl rfl (by omega) ?_ | refine g_sub rfl rfl rfl (by omega) (by omega) ?_ | refine runA ?_ | refine g_lenS Tryz.underlying9 rfl rfl ?_)
       refine pws_condF (by (conv=>lhs;whnf);try rfl) rfl ?_
       repeat (first | refine g_inc rfl rfl (by omega) ?_ | refine g_add rfl rfl rfl (by omega) (by omega) ?_ | refine g_dec rfl rfl rfl (by omega) ?_ | refine g_sub rfl rfl rfl (by omega) (by omega) ?_ | refine runA ?_ | refine g_lenS Tryz.underlying9 rfl rfl ?_)
       refine rk_normal (k+1) 2 hlk' hms (shift_ren [((1,4),(1,4))] ⟨rfl,rfl,rfl,rfl,rfl,?_,?_,rfl,trivial⟩ ⟨⟨rfl,rfl⟩,trivial⟩ rfl)
       ·rw [hany];rfl
       ·rw [hall];rfl
     ·refine pws_condF (by (conv=>lhs;whnf);try rfl) (decide_eq_false hlk) ?_
      obtain rfl:k=p.rules.length:=by simp at hlk;omega
      rw [List.take_length]
      repeat (first | refine g_inc rfl rfl (by omega) ?_ | refine g_add rfl rfl rfl (by omega) (by omega) ?_ | refine g_dec rfl rfl rfl (by omega) ?_ | refine g_sub rfl rfl rfl (by omega) (by omega) ?_ | refine runA ?_ | refine g_lenS Tryz.underlying9 rfl rfl ?_)
      rcases Bool.eq_false_or_eq_true (p.rules.any (ruleHits G right lv)) with e5 | e5
      ·refine pws_condT (by (conv=>lhs;whnf);try rfl) e5 ?_
       rw [if_pos e5] at hno
       repeat (first | refine g_inc rfl rfl (by omega) ?_ | refine g_add rfl rfl rfl (by omega) (by omega) ?_ | refine g_dec rfl rfl rfl (by omega) ?_ | refine g_sub rfl rfl rfl (by omega) (by omega) ?_ | refine runA ?_ | refine g_lenS Tryz.underlying9 rfl rfl ?_)
       exact rq_ret rfl rfl (by rw [hno];rfl)
      ·refine pws_condF (by (conv=>lhs;whnf);try rfl) e5 ?_
       rw [if_neg (by rw [e5];simp)] at hno
       repeat (first | refine g_inc rfl rfl (by omega) ?_ | refine g_add rfl rfl rfl (by omega) (by omega) ?_ | refine g_dec rfl rfl rfl (by omega) ?_ | refine g_sub rfl rfl rfl (by omega) (by omega) ?_ | refine runA ?_ | refine g_lenS Tryz.underlying9 rfl rfl ?_)
       exact rk_normal (i+1) 2 ⟨hlt',hno⟩ (by show (levelsL t).length - (i+1)<(levelsL t).length - i;omega) (shift_ren [((1,4),(1,4))] ⟨rfl,rfl,rfl,rfl,rfl,trivial⟩ ⟨⟨rfl,rfl⟩,trivial⟩ rfl)
    ·refine pws_condF (by (conv=>lhs;whnf);try rfl) (decide_eq_false hlt) ?_
     obtain rfl:i=(levelsL t).length:=by simp at hlt;omega
     rw [List.drop_length,mayFrom] at hno
     repeat (first | refine g_inc rfl rfl (by omega) ?_ | refine g_add rfl rfl rfl (by omega) (by omega) ?_ | refine g_dec rfl rfl rfl (by omega) ?_ | refine g_sub rfl rfl rfl (by omega) (by omega) ?_ | refine runA ?_ | refine g_lenS Tryz.underlying9 rfl rfl ?_)
     exact rq_ret rfl rfl (by rw [hno];rfl)
 ·repeat (first | (refine g_call hcv rfl rfl ?_) | (refine g_skip rfl ?_) | refine g_inc rfl rfl (by omega) ?_ | refine g_add rfl rfl rfl (by omega) (by omega) ?_ | refine g_dec rfl rfl rfl (by omega) ?_ | refine g_sub rfl rfl rfl (by omega) (by omega) ?_ | refine runA ?_ | refine g_lenS Tryz.underlying9 rfl rfl ?_)
  refine pws_condT (by (conv=>lhs;whnf);try rfl) rfl ?_
  repeat (first | refine g_inc rfl rfl (by omega) ?_ | refine g_add rfl rfl rfl (by omega) (by omega) ?_ | refine g_dec rfl rfl rfl (by omega) ?_ | refine g_sub rfl rfl rfl (by omega) (by omega) ?_ | refine runA ?_ | refine g_lenS Tryz.underlying9 rfl rfl ?_)
  refine rq_ret rfl rfl ?_
  unfold mayB
  rw [hv]
  rfl
end Go.Proofs.YtphibahplgmgfaaGreatDoor
namespace Go.Proofs.YtphibahplgmgfaaGreatDoor
open VL
set_option linter.unusedVariables false
def r13_May (p:Policy) (G:List ByteArray) (right:Int) (t:Title):Option Bool:=if p.rules.length≤1000000 then some (mayB p G right t) else none
theorem r13_May_c (p:Policy) (G:List ByteArray) (right:Int) (t:Title) (r:Bool) (h:r13_May p G right t=some r):Contract0 Tryz.prog 51 [p.pv,.sl (List.map csS G),.int .i64 right,t.pv] (.bool r):=by
 unfold r13_May at h
 split at h
 ·cases h;exact refMay_c p G right t (by assumption)
 ·cases h
def access_May (p:Policy) (G:List ByteArray) (right:Int) (t:Title):Option Bool:=if p.rules.length≤1000000 then some (mayB p G right t) else none
theorem access_May_c (p:Policy) (G:List ByteArray) (right:Int) (t:Title) (r:Bool) (h:access_May p G right t=some r):Contract0 Tryz.prog 49 [p.pv,.sl (List.map csS G),.int .i64 right,t.pv] (.bool r):=by
 unfold access_May at h
 split at h
 ·cases h;exact may_c p G right t (by assumption)
 ·cases h
end Go.Proofs.YtphibahplgmgfaaGreatDoor
namespace Go.Proofs.YtphibahplgmgfaaGreatDoor
open VL Go.RowKit
open Go.Lib (holds_of_ownsRow)
set_option linter.unusedVariables false
def asciiB (s:ByteArray):Bool:=s.data.toList.all fun b=>decide (b.toNat<128)
theorem asciiB_S {s:ByteArray} (h:asciiB s=true):asciiS s:=fun j b hj=>by
 have:=List.all_eq_true.1 h b (List.mem_of_getElem? hj)
 simpa using this
def strings_Trim (s c:ByteArray):Option ByteArray:=if s.size≤9223372036854775807∧c=⟨#[32,9]⟩ then some (trimLB blankL (trimRB blankL s)) else none
theorem strings_Trim_c (s c:ByteArray) (r:ByteArray) (h:strings_Trim s c=some r):Contract0 Tryz.prog 183 [.str s,.str c] (.str r):=by
 unfold strings_Trim at h
 split at h
 ·rename_i hc
  cases h
  rw [hc.2]
  exact trim_c s hc.1
 ·cases h
def strings_ContainsAny (s c:ByteArray):Option Bool:=if (s.size<4294967281∧asciiB s=true)∧c=⟨#[10,124]⟩ then some (Lib.containsAny s.data.toList [10,124]) else none
theorem strings_ContainsAny_c (s c:ByteArray) (r:Bool) (h:strings_ContainsAny s c=some r):Contract0 Tryz.prog 195 [.str s,.str c] (.bool r):=by
 unfold strings_ContainsAny at h
 split at h
 ·rename_i hc
  cases h
  rw [hc.2]
  exact containsAny_c s hc.1.1 (asciiB_S hc.1.2)
 ·cases h
def strings_IndexAny (s c:ByteArray):Option Int:=if (s.size<4294967281∧asciiB s=true)∧(c.size<4294967281∧asciiB c=true) then some (Lib.indexAny s.data.toList c.data.toList) else none
theorem strings_IndexAny_c (s c:ByteArray) (r:Int) (h:strings_IndexAny s c=some r):Contract0 Tryz.prog 184 [.str s,.str c] (.int .i64 r):=by
 unfold strings_IndexAny at h
 split at h
 ·rename_i hc
  cases h
  exact contract_plain (vals:=[.string s,.string c]) (by kernel_rfl) rfl rfl (fun x=>.int _ _) fun w _=>Tryz.strings_IndexAny_laid s c w hc.1.1 hc.2.1 (asciiB_S hc.1.2) (asciiB_S hc.2.2)
 ·cases h
def strings_Cut (s c:ByteArray):Option (ByteArray×ByteArray×Bool):=if s.size<4294967281 then some (⟨(Lib.cut s.data.toList c.data.toList).1.toArray⟩,⟨(Lib.cut s.data.toList c.data.toList).2.1.toArray⟩,(Lib.cut s.data.toList c.data.toList).2.2) else none
theorem tup3 {x:Ctx} (a b:ByteArray) (c:Bool):Rep x (.tup [.str a,.str b,.bool c]) (.tuple #[.string a,.string b,.bool c]):=.tup _ _ rfl fun i p v hp hv=>by
 match i,hp,hv with
 | 0,hp,hv=>injection hp with hp;injection hv with hv;subst hp hv;exact .str _
 | 1,hp,hv=>injection hp with hp;injection hv with hv;subst hp hv;exact .str _
 | 2,hp,hv=>injection hp with hp;injection hv with hv;subst hp hv;exact .bool _
 | i+3,hp,_=>simp at hp
theorem strings_Cut_c (s c:ByteArray) (r:ByteArray×ByteArray×Bool) (h:strings_Cut s c=some r):Contract0 Tryz.prog 172 [.str s,.str c] (.tup [.str r.1,.str r.2.1,.bool r.2.2]):=by
 unfold strings_Cut at h
 split at h
 ·rename_i hc
  cases h
  exact contract_plain (vals:=[.string s,.string c]) (by kernel_rfl) rfl rfl (fun x=>tup3 _ _ _) fun w hw=>by
   obtain ⟨m,hm⟩:=hw.1
   refine (Tryz.strings_Cut s c m w hc hm).mono ?_
   rintro e w' ⟨rfl,n,rfl⟩
   exact ⟨rfl,Below.dn (Below.refl _ _) n⟩
 ·cases h
def strings_Split (s c:ByteArray):Option (List ByteArray):=if (s.size<4294967281∧1≤c.size)∧Lib.countB s c≤1000000 then some (Lib.splitB c 0 (Lib.countB s c) s) else none
theorem strings_Split_c (s c:ByteArray) (r:List ByteArray) (h:strings_Split s c=some r):ContractN Tryz.prog 121 [.str s,.str c] (.row 9 1 false (List.map csS r)):=by
 unfold strings_Split at h
 split at h
 ·rename_i hc
  injection h with h
  have hlen:r.length=Lib.countB s c+1:=by rw [← h];exact Lib.splitB_all c hc.1.2 0 _ s rfl
  refine contractN_own (α:=ByteArray) (vals:=[.string s,.string c]) (enc:=fun x=>[.string x]) (by kernel_rfl) rfl (fun x=>rfl) (fun S w x cs h=>h) (fun x=>rfl) fun w hw=>?_
  obtain ⟨m,hm⟩:=hw.1
  refine (Tryz.strings_Split s c m w hc.1.1 hm hc.1.2).mono ?_
  rintro e w' ⟨rfl,rfl⟩
  rw [h,← hlen]
  refine ⟨_,rfl,OwnL.of_row ⟨by simp,.inr ⟨w.heap.size,r.length,_,rfl,Nat.le_refl _,heap_alloc_new w _,Nat.le_refl _,?_,by simp,?_⟩⟩,Below.al (Below.refl _ _) _⟩
  ·unfold maxLen;omega
  ·rw [Nat.mul_one,List.take_of_length_le (by simp)]
 ·cases h
def leB (x y:ByteArray):Bool:=decide (x.data.toList≤y.data.toList)
def insB (x:ByteArray):List ByteArray→List ByteArray
 | []=>[x]
 | y::l=>if leB x y=true then x::y::l else y::insB x l
def isortB:List ByteArray→List ByteArray
 | []=>[]
 | x::l=>insB x (isortB l)
theorem leB_trans (a b c:ByteArray) (h:leB a b=true) (k:leB b c=true):leB a c=true:=by
 unfold leB at *
 rw [decide_eq_true_eq] at *
 exact List.le_trans h k
theorem leB_total (a b:ByteArray):(leB a b||leB b a)=true:=by
 unfold leB
 rw [Bool.or_eq_true,decide_eq_true_eq,decide_eq_true_eq]
 exact List.le_total _ _
theorem leB_anti {a b:ByteArray} (h:leB a b=true) (k:leB b a=true):a=b:=by
 unfold leB at *
 rw [decide_eq_true_eq] at *
 obtain ⟨⟨a⟩⟩:=a
 obtain ⟨⟨b⟩⟩:=b
 exact congrArg (fun l:List UInt8=>(⟨⟨l⟩⟩:ByteArray)) (List.le_antisymm h k)
theorem insB_perm (x:ByteArray):∀ l:List ByteArray,(insB x l).Perm (x::l)
 | []=>.refl _
 | y::l=>by
   unfold insB
   split
   ·exact .refl _
   ·exact ((insB_perm x l).cons y).trans (.swap x y l)
theorem isortB_perm:∀ l:List ByteArray,(isortB l).Perm l
 | []=>.refl _
 | x::l=>(insB_perm x _).trans ((isortB_perm l).cons x)
theorem insB_pw (x:ByteArray):∀ l:List ByteArray,l.Pairwise (fun a b=>leB a b=true)→(insB x l).Pairwise fun a b=>leB a b=true
 | [],_=>by simp [insB]
 | y::l,h=>by
   unfold insB
   have hy:=List.pairwise_cons.1 h
   split
   ·rename_i hx
    exact List.pairwise_cons.2 ⟨fun z hz=>by
     rcases List.mem_cons.1 hz with rfl | hz
     ·exact hx
     ·exact leB_trans _ _ _ hx (hy.1 z hz),h⟩
   ·rename_i hx
    refine List.pairwise_cons.2 ⟨fun z hz=>?_,insB_pw x l hy.2⟩
    rcases List.mem_cons.1 ((insB_perm x l).mem_iff.1 hz) with rfl | hz
    ·have:=leB_total z y
     simp only [Bool.or_eq_true] at this
     exact this.resolve_left hx
    ·exact hy.1 z hz
theorem isortB_pw:∀ l:List ByteArray,(isortB l).Pairwise fun a b=>leB a b=true
 | []=>.nil
 | x::l=>insB_pw x _ (isortB_pw l)
theorem merge_isort (l:List ByteArray):l.mergeSort leB=isortB l:=
 List.Perm.eq_of_pairwise (fun _ _ _ _ h k=>leB_anti h k) (List.pairwise_mergeSort leB_trans leB_total l) (isortB_pw l) ((List.mergeSort_perm l leB).trans (isortB_perm l).symm)
def slices_Sort_string (l:List ByteArray):Option (List ByteArray):=if 0<l.length∧l.length<1000000 then some (isortB l) else none
theorem leB_list (l:List ByteArray):(l.mergeSort leB).map (fun s=>s.data.toList)=(l.map (fun s=>s.data.toList)).mergeSort fun x y=>decide (x≤y):=by
 rw [List.map_mergeSort]
 intro a _ b _
 rfl
theorem ba_map (l:List ByteArray):l.map Value.string=(l.map fun s=>s.data.toList).map encStr:=by
 rw [List.map_map]
 rfl
theorem slices_Sort_string_c (l:List ByteArray) (r:List ByteArray) (h:slices_Sort_string l=some r):ContractM Tryz.prog 85 9 1 (List.map csS l) (List.map csS r):=by
 unfold slices_Sort_string at h
 split at h
 ·rename_i hl
  injection h with h
  rw [← merge_isort] at h
  have hk:∀ x:ByteArray,[Value.string x].length=1:=fun _=>rfl
  have hpl:∀ l:List ByteArray,plainL (l.map csS).flatten=some (l.flatMap fun x=>[Value.string x]):=plainL_flat fun x=>rfl
  have hfm:∀ l:List ByteArray,(l.flatMap fun x=>[Value.string x])=(l.map fun s=>s.data.toList).map encStr:=fun l=>by rw [← ba_map,List.map_eq_flatMap]
  have hrl:r.length=l.length:=by rw [← h,List.length_mergeSort]
  refine ⟨by kernel_rfl,fun e he=>?_,fun e he p hp=>?_,by rw [hpl];rfl,fun W v vs hown hvs _=>?_⟩
  ·obtain ⟨x,_,rfl⟩:=List.mem_map.1 he
   rfl
  ·obtain ⟨x,_,rfl⟩:=List.mem_map.1 he
   simp at hp
   rw [hp]
   rfl
  ·rw [hpl] at hvs
   injection hvs with hvs
   subst hvs
   rw [List.length_map] at hown
   rcases hown.2 with ⟨hn,h0⟩ | ⟨g,cap,cur,hv,hB,hh,h1,h2,h3,ht⟩
   ·omega
   ·subst hv
    rw [hfm] at hown ht
    have hH:Sort.Holds encStr W g 0 (l.map fun s=>s.data.toList).toArray:=by
     obtain ⟨g',cap',e1,_,_,_,_,_,hH⟩:=holds_of_ownsRow hown (by simp)
     injection e1 with e1
     injection e1 with e1
     injection e1 with e1
     subst e1
     exact hH
    have:=Tryz.slices_Sort_string g 0 cap (l.map fun s=>s.data.toList) W hH (Array.getElem?_eq_some_iff.1 hh).1 (by simp;omega)
    rw [List.length_map,← leB_list,h] at this
    refine Calls.mono this ?_
    rintro e w' ⟨rfl,n,os,rfl⟩
    have hlt:g<W.heap.size:=(Array.getElem?_eq_some_iff.1 hh).1
    obtain ⟨q1,q2⟩:=Lib.ownsRow_putRow (q:=n) (ys:=r.map fun s=>s.data.toList) hown (by rw [List.length_map,hrl]) (Nat.le_refl _)
    rcases q2 with ⟨e0,_⟩ | ⟨g',cap',cur',e0,hb',hg',hn',hm',hs',ht'⟩
    ·cases e0
    ·injection e0 with e1 _ e3
     injection e1 with e1
     injection e1 with e1
     subst e1 e3
     refine ⟨_,rfl,hpl r,⟨by rw [hfm];simp,.inr ⟨g,cap,cur',by rw [List.length_map,hrl],hb',?_,by rw [List.length_map,hrl];exact hn',hm',hs',?_⟩⟩,rfl,rfl,rfl,by simp [Sort.grow,Sort.putRow,Sort.mapBlock,Sort.ahead],fun b hb hne=>?_⟩
     ·show ((Sort.putRow encStr (Sort.ahead W n) g 0 (r.map fun s=>s.data.toList).toArray).heap++os)[g]? = _
      rw [Array.getElem?_append_left (by simpa [Sort.putRow,Sort.mapBlock,Sort.ahead] using hlt)]
      exact hg'
     ·rw [List.length_map,hrl,ht',hfm,List.take_of_length_le (by simp [hrl])]
     ·have hgb:g≠b:=fun e=>hne (by rw [e];rfl)
      show ((Sort.putRow encStr (Sort.ahead W n) g 0 (r.map fun s=>s.data.toList).toArray).heap++os)[b]? = _
      rw [Array.getElem?_append_left (by simpa [Sort.putRow,Sort.mapBlock,Sort.ahead] using hb)]
      simp [Sort.putRow,Sort.mapBlock,Sort.ahead,Array.getElem?_modify,hgb]
 ·cases h
end Go.Proofs.YtphibahplgmgfaaGreatDoor
namespace Go.Proofs.YtphibahplgmgfaaGreatDoor
namespace VL
theorem renL_cels (σ:List (Gen×Gen)):∀ (L:List (List PV)),renL σ (L.map PV.cel)=some (L.map PV.cel)
 | []=>rfl
 | cs::L=>by
   show (match ren1 σ (.cel cs),renL σ (L.map PV.cel) with
    | some q,some qs=>some (q::qs)
    | _,_=>none)=_
   rw [renL_cels σ L]
   rfl
theorem renF_cels (σ:List (Gen×Gen)) (f:FuncId) (L:List (List PV)):renF σ (.fn f (L.map PV.cel))=some (.fn f (L.map PV.cel)):=by
 show (renL σ (L.map PV.cel)).map (PV.fn f)=_
 rw [renL_cels]
 rfl
end VL
end Go.Proofs.YtphibahplgmgfaaGreatDoor
namespace Go.Proofs.YtphibahplgmgfaaGreatDoor
namespace VL
open Go.RowKit
def neL {α:Type}:List α→Option Unit
 | []=>none
 | _::_=>some ()
section
variable {P:Program} [WInv P] {ops:Array Oper} {o:Oper} {i:Nat} {s:FS} {T T':TypeId}
theorem opR_eqNil {E:TypeId} {x:Operand} {e:List PV} {els:List (List PV)} (hT:P.underlying T=some (.slice E)) (hw:wantedV ops s o=some true) (ho:o.op = .binOp .eql T x (.const (.slice none 0 0)) T') (hx:ev s x = .sl (e::els)):OpR P ops i o s ⟨.bool false,[]⟩:=.any hw fun s' r hA hI=>by
 have e1:ev s x=ev s' x:=hA.ev x (by rw [ho];simp [Op.operands])
 intro S a y Q hX hi hd
 have hr:=ev_rep hX x
 rw [← e1,hx] at hr
 generalize hv:a.eval x=v at hr
 cases hr with
 | sl _ A n c k b off f hn hc hm hk hA' hcell hh=>
   have hA2:=hA' (by rw [hn];simp)
   subst hA2
   refine wp_value (v:=.bool false) (W':=y.W) ?_ (hX.val hd (.bool false))
   have hq:=Lib.run_eql_slice_nil (P:=P) y.W T E (some ⟨b,off,none⟩) n c 0 0 hT
   unfold execOp
   rw [ho]
   simp only [binOp] at hq ⊢
   simp_all [Act.eval,eqGuard]
   generalize Sem.run P (Op.equal T (Value.slice (some ⟨b,off,none⟩) (els.length+1) c) (Value.slice none 0 0)) y.W=R at hq ⊢
   cases R<;>simp_all [Result.andThen]
end
section
variable {P:Program} [WInv P] {ops:Array Oper} {draw:Bool} {i:Nat} {L:List Oper} {acc:List (List Nat×List Nat)} {K:FS→Prop} {tm:List (Nat×PV)} {ob:List (Nat×Option (Gen×VObj))} {ng:Nat}
 {d:Option Tmp} {ty T T':TypeId} {pos:String} {after:Array Edge} {gd:Option (Nat×Bool)} {x:Operand}
theorem g_eqNil {E kk by_:Nat} {z:List PV} [h:Sl P T E kk by_ z] {α:Type} {f:α→List PV} {M:List α} {u:Unit} (hw:wantedV ops (mkS tm ob ng) ⟨d,.binOp .eql T x (.const (.slice none 0 0)) T',ty,pos,after,gd⟩=some true) (hne:neL M=some u) (hx:evL tm x = .sl (M.map f))
  (k:GoL P ops draw (i+1) L (acc ++ [(keysO (mkS tm ob ng) ⟨d,.binOp .eql T x (.const (.slice none 0 0)) T',ty,pos,after,gd⟩,[])]) (mkS (putT d (.bool false) tm) ob ng) K):GoL P ops draw i (⟨d,.binOp .eql T x (.const (.slice none 0 0)) T',ty,pos,after,gd⟩::L) acc (mkS tm ob ng) K:=by
 cases M with
 | nil=>cases hne
 | cons m M=>
   obtain ⟨ti,h1,h2⟩:∃ E,P.underlying T=some (.slice E)∧True:=by
    have:=h.eq
    unfold slI at this
    split at this
    ·rename_i ht
     obtain ⟨_,_,q,_⟩:=tyI_spec ht
     exact ⟨_,q,trivial⟩
    ·simp at this
   refine go_op (u:=⟨.bool false,[]⟩) (opR_eqNil h1 hw rfl (by rw [ev_mkS];exact hx)) ?_
   rw [mkS_app]
   exact k
end
end VL
end Go.Proofs.YtphibahplgmgfaaGreatDoor
namespace Go.Proofs.YtphibahplgmgfaaGreatDoor
namespace VL
theorem runY {p q:Prop} (k:q) (h:q→p:=by
 (intro k)
 (repeat (first
  | refine g_load rfl rfl rfl ?_
  | refine g_move rfl (by (conv=>lhs;whnf);try rfl) ?_
  | refine g_assign rfl (by (conv=>lhs;whnf);try rfl) ?_
  | refine g_fieldAddr rfl rfl ?_
  | refine g_int rfl rfl rfl rfl (by (conv=>lhs;whnf);try rfl) ?_
  | refine g_str rfl rfl rfl rfl (by (conv=>lhs;whnf);try rfl) ?_
  | refine g_extract rfl rfl rfl ?_
  | refine g_store rfl rfl rfl (by (conv=>lhs;whnf);try rfl) (by (conv=>lhs;whnf);try rfl) (by rfl) (by rfl) (Nat.le_of_ble_eq_true rfl) (by (conv=>lhs;whnf);try rfl) ?_
  | refine g_build rfl rfl ?_
  | refine g_lenT rfl rfl ?_
  | refine g_not rfl rfl ?_
  | refine g_pick rfl rfl (by (conv=>lhs;whnf);try rfl) ?_
  | refine g_field rfl rfl rfl ?_
  | refine g_box rfl (by (conv=>lhs;whnf);try rfl) (by (conv=>lhs;whnf);try rfl) (by rfl) ?_
  | refine g_alloc rfl rfl ?_
  | refine g_nil rfl rfl ?_
  | refine g_nilC rfl rfl ?_
  | refine g_conv rfl rfl ?_
  | refine g_bits rfl rfl rfl rfl ?_
  | refine go_endF ?_
  | refine go_endT (by kernel_rfl) ?_
  | refine pws_seq ?_
  | refine pws_skip ?_
  | refine pws_ret ?_
  | refine pws_exit ?_
  | refine pws_nil ?_
  | refine bk_exit ?_
  | refine bk_normal ?_
  | refine bk_ret ?_
  | refine bk_other rfl ?_
  | refine rk_exit ?_
  | refine rk_ret ?_
  | refine jk_exit ?_
  | refine jk_ret ?_
  | refine pws_label ?_))
 (exact k)):p:=h k
end VL
end Go.Proofs.YtphibahplgmgfaaGreatDoor
namespace Go.Proofs.YtphibahplgmgfaaGreatDoor
namespace VL
open Go.RowKit
section
variable {P:Program} {r:Run} {o:Oper} {i:Nat} {s:FS}
theorem row_new0 {S:Nat→Prop} {a:Act} {x:Ctx} (hX:RstX r S s a x) (hi:¬ S i) {d:Nat} (hd:d<r.N) {E k c:Nat} {vs:Array Value} (hl:vs.size=c * k) (hm:c≤9223372036854775807) :
  ∃ y:Ctx,y.W=x.W.alloc (.cells vs E)∧RstX r (fun j=>S j∨j=i) (s.app (some d) ⟨.row d (s.ng,i),[(d,some ((s.ng,i),.row E k false []))]⟩) (a.put (some d) (.slice (some ⟨x.W.heap.size,0,none⟩) 0 c)) y:=by
 have hold:∀ b,b<x.W.heap.size→(x.W.alloc (.cells vs E)).heap[b]? = x.W.heap[b]?:=fun b hb=>heap_alloc_old x.W _ hb
 refine hX.newObj hi (fun k hk=>by cases hk;exact hd) rfl rfl rfl (by simp) (fun b hb _=>hold b hb) (fun b o v hF hv=>?_) (v0:=.slice (some ⟨x.W.heap.size,0,none⟩) 0 c) (fun b hb=>.inl ?_) (fun y st hF hW hρ=>?_) (fun y st hW hG hρ=>?_)
 ·rw [World.cell?_of_block (hold b (hX.flt b o hF))];exact hv
 ·have:x.W.heap.size=b:=by simpa [blk] using hb
  omega
 ·refine ⟨fun e he=>(by cases he),fun e he=>(by cases he),[],?_,fun m p v hpp hv=>(by simp at hpp),fun b hb=>⟨.inl ?_,fun o ho=>?_⟩⟩
  ·rw [hρ,hW]
   exact ⟨by simp,.inr ⟨x.W.heap.size,c,vs,rfl,Nat.zero_le _,heap_alloc_new x.W _,Nat.zero_le _,by unfold maxLen;omega,hl,by simp⟩⟩
  ·rw [hρ] at hb
   have e:x.W.heap.size=b:=by simpa [blk] using hb
   rw [← e]
   exact hX.gr.size
  ·rw [hρ] at hb
   rw [hF] at ho
   have e:x.W.heap.size=b:=by simpa [blk] using hb
   have:=hX.flt b o ho
   change b<x.W.heap.size at this
   omega
 ·exact .row d (s.ng,i) _ _ _ hG hρ
theorem ok_make0 {T E d:Nat} {e e':Operand} {te:TI} {sz b:Nat} {zz:List PV} {c:Nat} {kl kc:IntKind} (ho:o.op = .makeSlice T e e') (hdst:o.dst=some d) (ht:tyI P T=some ⟨.slice E,sz,b,zz⟩) (hte:tyI P E=some te) (hl:ev s e = .int kl 0) (hc:ev s e' = .int kc (c:Int)) (hb:te.bytes * c≤281474976710656) (hm:c≤9223372036854775807) :
  OpOK P r o i s ⟨.row d (s.ng,i),[(d,some ((s.ng,i),.row E te.size false []))]⟩:=by
 intro S a x Q hX hi hd
 obtain ⟨inf,zv,h1,_⟩:=tyI_spec ht
 obtain ⟨inf',z',h1',h2',h3',h4',h5',h6'⟩:=tyI_spec hte
 have q1:a.eval e = .int kl 0:=by
  have:=ev_rep hX e
  rw [hl] at this
  generalize a.eval e=v at this
  cases this
  rfl
 have q2:a.eval e' = .int kc (c:Int):=by
  have:=ev_rep hX e'
  rw [hc] at this
  generalize a.eval e'=v at this
  cases this
  rfl
 have hrun:=run_make (P:=P) (w:=x.W) T E inf' z' h1 h2' h3' kl kc 0 c (Int.le_refl _) (by omega) (by
  rw [h5',← Int.natCast_mul];omega) (by omega)
 simp only [Int.toNat_natCast,Int.toNat_zero,h4'] at hrun
 obtain ⟨y,hy1,hy2⟩:=row_new0 hX hi (hd d hdst) (E:=E) (k:=te.size) (c:=c) (vs:=madeCells z'.cells (c * te.size)) (size_madeCells _ _) hm
 rw [hdst]
 refine wp_value (v:=.slice (some ⟨x.W.heap.size,0,none⟩) 0 c) (W':=x.W.alloc (.cells (madeCells z'.cells (c * te.size)) E)) ?_ ⟨y,hy1,by rw [hdst];exact hy2⟩
 unfold execOp
 rw [ho]
 simp [q1,q2,hrun]
end
def makeC (w:Nat) (c:Int):Option Unit:=if 0≤c∧c * (w:Int)≤281474976710656∧c≤9223372036854775807 then some () else none
section
variable {P:Program} [WInv P] {ops:Array Oper} {draw:Bool} {i:Nat} {L:List Oper} {acc:List (List Nat×List Nat)} {K:FS→Prop} {tm:List (Nat×PV)} {ob:List (Nat×Option (Gen×VObj))} {ng:Nat}
 {d:Nat} {ty T:TypeId} {pos:String} {after:Array Edge} {gd:Option (Nat×Bool)} {x y:Operand}
theorem g_make0 {α:Type} (f:α→List PV) {E kk by_:Nat} {z:List PV} [Sl P T E kk by_ z] {kl:IntKind} {c:Int} {u:Unit} (hw:wantedV ops (mkS tm ob ng) ⟨some d,.makeSlice T x y,ty,pos,after,gd⟩=some true) (hx:evL tm x = .int kl 0) {kc:IntKind} (hy:evL tm y = .int kc c) (hs:makeC by_ c=some u)
  (k:GoL P ops draw (i+1) L (acc ++ [(keysO (mkS tm ob ng) ⟨some d,.makeSlice T x y,ty,pos,after,gd⟩,[d])]) (mkS ((d,.row d (ng,i))::tm) ((d,some ((ng,i),.row E kk false (List.map f [])))::ob) ng) K):GoL P ops draw i (⟨some d,.makeSlice T x y,ty,pos,after,gd⟩::L) acc (mkS tm ob ng) K:=by
 obtain ⟨s1,b,zz,te,q1,q2,q3,q4,q5,q6,q7⟩:=sl_spec (P:=P) (T:=T) (E:=E) (k:=kk) (by_:=by_) (z:=z)
 unfold makeC at hs
 split at hs
 ·rename_i hc
  refine go_op (u:=⟨.row d (ng,i),[(d,some ((ng,i),.row E kk false []))]⟩) (.any hw fun s' r hA hI=>?_) ?_
  ·have e1:ev s' x = .int kl 0:=by rw [← hA.ev x (by simp [Op.operands])];exact (congrFun (ev_mkS tm ob ng) x).trans hx
   have e2:ev s' y = .int kc ((c.toNat:Nat):Int):=by rw [← hA.ev y (by simp [Op.operands]),Int.toNat_of_nonneg hc.1];exact (congrFun (ev_mkS tm ob ng) y).trans hy
   have e3:s'.ng=ng:=hA.ng.symm
   rw [← e3,← q3]
   refine ok_make0 rfl rfl q1 q2 e1 e2 ?_ ?_
   ·rw [q4]
    have h1:=hc.2.1
    have:((by_ * c.toNat:Nat):Int)≤281474976710656:=by rw [Int.natCast_mul,Int.toNat_of_nonneg hc.1,Int.mul_comm];exact h1
    omega
   ·have:=hc.2.2
    omega
  ·rw [mkS_app]
   exact k
 ·cases hs
end
theorem rep_bytes {P:Program} {y:Ctx} {l:List Int} {v:Value} (h:Rep y (.sl (l.map fun n=>[PV.int .u8 n])) v) {src E dst:TypeId} (hs:P.underlying src=some (.slice E)) (he:P.underlying E=some (.int .u8)) (hd:P.underlying dst=some .string) :
  (convert src dst v).run P y.W = .ok (.string (strOfNums l)) y.W:=by
 generalize hg:(l.map fun n=>[PV.int .u8 n])=els at h
 cases h with
 | sl _ A n c k b off f hn hc hm hk hA hcell hh=>
   have hln:n=l.length:=by rw [hn,← hg,List.length_map]
   have hel:∀ (i:Nat) (m:Int),l[i]? = some m→els[i]? = some [PV.int .u8 m]:=fun i m hi=>by rw [← hg,List.getElem?_map,hi];rfl
   have key:∀ a:Addr,A=some a→(loadCells a n).run P y.W = .ok (l.map (Value.int .u8)).toArray y.W:=fun a ha=>by
    have:=run_loadCells_list (P:=P) y.W a (l.map (Value.int .u8)) (fun j u hj=>by
     rw [List.getElem?_map,Option.map_eq_some_iff] at hj
     obtain ⟨m,hm1,rfl⟩:=hj
     have hjl:=(List.getElem?_eq_some_iff.1 hm1).1
     rw [hA (by omega)] at ha
     injection ha with ha
     subst ha
     have h1:=hel j m hm1
     have hk1:k=1:=by rw [← hk _ (List.mem_of_getElem? h1)];rfl
     subst hk1
     obtain ⟨_,_,h2⟩:=hcell j 0 _ _ h1 rfl
     have h3:=hh j 0 _ _ h1 rfl
     have h4:f j 0 = .int .u8 m:=by
      generalize f j 0=w at h3
      cases h3
      rfl
     rw [h4] at h2
     have hadd:(⟨b,off,none⟩:Addr).add j=⟨b,off+j,none⟩:=by unfold Addr.add;split<;>simp_all
     rw [hadd]
     simpa using h2)
    simpa [hln] using this
   cases A with
   | none=>
     have:l = []:=by
      rcases Nat.eq_zero_or_pos n with h0 | h0
      ·exact List.eq_nil_of_length_eq_zero (by omega)
      ·have:=hA h0
       cases this
     subst this
     exact run_convert_bytes_nil y.W src E hs he n c dst hd
   | some a=>
     rw [run_convert_bytes_string y.W src dst E (some a) n c hs he hd,run_bytesToString y.W a n c l (key a rfl),foldl_push_bytes]
     simp [strOfNums,ByteArray.empty,ByteArray.emptyWithCapacity]
     rfl
section
variable {P:Program} [WInv P] {ops:Array Oper} {draw:Bool} {i:Nat} {L:List Oper} {acc:List (List Nat×List Nat)} {K:FS→Prop} {tm:List (Nat×PV)} {ob:List (Nat×Option (Gen×VObj))} {ng:Nat}
 {d:Option Tmp} {ty T T':TypeId} {pos:String} {after:Array Edge} {gd:Option (Nat×Bool)} {x:Operand}
theorem g_convBS {E kk by_:Nat} {z:List PV} [Sl P T E kk by_ z] [hk:Kd P E .u8] [hs:StrT P T'] {l:List Int} (hw:wantedV ops (mkS tm ob ng) ⟨d,.convert T T' x,ty,pos,after,gd⟩=some true) (hx:frz1 (lookO ob) (evL tm x)=some (.sl (l.map fun n=>[PV.int .u8 n])))
  (k:GoL P ops draw (i+1) L (acc ++ [(keysO (mkS tm ob ng) ⟨d,.convert T T' x,ty,pos,after,gd⟩,[])]) (mkS (putT d (.str (strOfNums l)) tm) ob ng) K):GoL P ops draw i (⟨d,.convert T T' x,ty,pos,after,gd⟩::L) acc (mkS tm ob ng) K:=by
 obtain ⟨s1,b,zz,te,q1,q2,q3,q4,q5,q6,q7⟩:=sl_spec (P:=P) (T:=T) (E:=E) (k:=kk) (by_:=by_) (z:=z)
 obtain ⟨inf,zv,h1,_⟩:=tyI_spec q1
 refine go_op (u:=⟨.str (strOfNums l),[]⟩) (.any hw fun s' r hA hI=>?_) ?_
 ·intro S a c Q hX hi hd
  have hm:x ∈ (Op.convert T T' x).operands:=by simp [Op.operands]
  have e1:ev s' x=evL tm x:=by rw [← hA.ev x hm];exact congrFun (ev_mkS tm ob ng) x
  have e2:frz1 s'.ob (ev s' x)=some (.sl (l.map fun n=>[PV.int .u8 n])):=by
   rw [← frz1_congr (fun t ht=>hA.key1 hm rfl t ht),e1]
   exact hx
  have h3:=frz1_rep hX e2 (ev_rep hX x)
  have hrun:=rep_bytes (P:=P) h3 (src:=T) (dst:=T') h1 hk.eq hs.eq
  refine wp_value (v:=.string (strOfNums l)) (W':=c.W) ?_ (hX.val hd (.str _))
  unfold execOp
  have hrun2:(convert T T' (a.eval x)).run P c.W = .ok (.string (strOfNums l)) c.W:=hrun
  simp [hrun2]
 ·rw [mkS_app]
  exact k
end
end VL
end Go.Proofs.YtphibahplgmgfaaGreatDoor
namespace Go.Proofs.YtphibahplgmgfaaGreatDoor
namespace VL
open Go.RowKit
def flat0:PV→Bool
 | .bool _ | .int _ _ | .str _=>true
 | .fn _ []=>true
 | _=>false
theorem Rep.flat {x y:Ctx} {p:PV} {v:Value} (hp:flat0 p=true) (h:Rep x p v):Rep y p v:=by
 cases h with
 | bool b=>exact .bool b
 | int k n=>exact .int k n
 | str s=>exact .str s
 | fn f ps cs hl hh=>
   cases ps with
   | nil=>exact .fn f [] cs hl fun i p v hp=>by simp at hp
   | cons=>cases hp
 | _=>cases hp
section
variable {P:Program} [WInv P] {r:Run} {ops:Array Oper} {o:Oper} {i:Nat} {s s':FS}
theorem ok_callN0 {f:FuncId} {es:Array Operand} {ts:Array TypeId} {args:List PV} {dd:Nat} {ob:VObj} (ho:o.op = .call { callee:=.value (.func f),args:=es,argTypes:=ts })
  (ha:es.toList.map (ev s)=args) (hf:args.all flat0=true) (hc:ContractN P f args ob) (hI:r.I=WInv.I P):OpOK P r o i s ⟨newVal ob dd (s.ng,i),[(dd,some ((s.ng,i),ob))]⟩:=by
 intro S a x Q hX hi hd
 let z:Ctx:=⟨fun _=>False,x.F,x.W,x.ρ⟩
 have hlen:args.length=es.size:=by rw [← ha];simp
 have hpre:Pre z args none (es.map a.eval):=by
  refine ⟨by simpa using hlen,fun j p v hp hv=>?_,fun j os h=>by simp at h,fun g hg=>hg.elim,fun b o hb=>hX.flt b o hb⟩
  have hfl:=List.all_eq_true.1 hf p (List.mem_of_getElem? hp)
  rw [← ha,List.getElem?_map,Option.map_eq_some_iff] at hp
  obtain ⟨e,he,rfl⟩:=hp
  rw [Array.getElem?_map,Option.map_eq_some_iff] at hv
  obtain ⟨e2,he2,rfl⟩:=hv
  rw [Array.getElem?_toList] at he
  rw [he] at he2
  injection he2 with he2
  subst he2
  exact (ev_rep hX e).flat hfl
 have hcalls:=hc.calls z _ hpre fun W' hW=>by
  rw [← hI]
  exact hX.inv.1 W' (hX.gr.trans' hW.os hW.tape hW.output hW.size fun b hb _=>hW.block b (Nat.lt_of_lt_of_le hb hX.gr.size) fun h=>h)
 unfold Oper.wp
 rw [exec_call ho hc.isGo,Oper.upon_enter]
 refine hcalls.mono ?_
 rintro e W' ⟨y,v,rfl,rfl,hst,hgr,hfn,hfl,g0,hv,hob⟩
 have hnew:¬ x.G (s.ng,i):=fun hg=>by
  rcases hX.gens _ hg with e | ⟨_,e⟩
  ·exact absurd e (Nat.lt_irrefl _)
  ·exact hi e
 let y':Ctx:=⟨fun g=>x.G g∨g=(s.ng,i),y.F,y.W,fun g=>if g=(s.ng,i) then v else x.ρ g⟩
 have hρ:y'.ρ (s.ng,i)=v:=if_pos rfl
 have k:Step x y':=⟨fun g hg=>⟨.inl hg,if_neg (fun (e:g=(s.ng,i))=>hnew (by rw [← e];exact hg))⟩,fun b o hb=>hst.F b o hb,fun b o v hb hv=>hst.W b o v hb hv⟩
 have hob':∀ {B:Nat} {D:Nat→Prop},B≤x.W.heap.size→ObRep y' B D (s.ng,i) ob:=fun hB=>hob.newOf (hρ.trans hv.symm) rfl rfl hB hc.pure
 refine ⟨y',rfl,?_⟩
 refine hX.change k hd hgr.os hgr.tape hgr.output hgr.size (fun b hb _=>hgr.block b hb (fun e=>e)) hfn hfl (fun g hg=>?_) (.inr rfl) (hob' hX.gr.size) (fun b hb=>.inl ?_) (newVal_rep (hob' (Nat.le_refl _) (D:=fun _=>False)) (.inr rfl) hρ)
 ·rcases hg with hg | rfl
  ·exact (hX.gens g hg).imp id fun ⟨e,f⟩=>⟨e,.inl f⟩
  ·exact .inr ⟨rfl,.inr rfl⟩
 ·exact (((hob' (Nat.le_refl _) (D:=fun _=>False)).lt b hb).2).resolve_right fun e=>e
end
section
variable {P:Program} [WInv P] {ops:Array Oper} {draw:Bool} {i:Nat} {L:List Oper} {acc:List (List Nat×List Nat)} {K:FS→Prop} {tm:List (Nat×PV)} {ob:List (Nat×Option (Gen×VObj))} {ng:Nat}
 {ty:TypeId} {pos:String} {after:Array Edge} {gd:Option (Nat×Bool)}
theorem g_callN0 {dd:Nat} {f:FuncId} {es:Array Operand} {ts:Array TypeId} {args:List PV} {o2:VObj} (hc:ContractN P f args o2) (hw:wantedV ops (mkS tm ob ng) ⟨some dd,.call ⟨.value (.func f),es,ts⟩,ty,pos,after,gd⟩=some true)
  (ha:es.toList.map (evL tm)=args) (hf:args.all flat0=true)
  (k:GoL P ops draw (i+1) L (acc ++ [(keysO (mkS tm ob ng) ⟨some dd,.call ⟨.value (.func f),es,ts⟩,ty,pos,after,gd⟩,[dd])])
   (mkS ((dd,newVal o2 dd (ng,i))::tm) ((dd,some ((ng,i),o2))::ob) ng) K):GoL P ops draw i (⟨some dd,.call ⟨.value (.func f),es,ts⟩,ty,pos,after,gd⟩::L) acc (mkS tm ob ng) K:=by
 refine go_op (u:=⟨newVal o2 dd (ng,i),[(dd,some ((ng,i),o2))]⟩) (.any hw fun s' r hA hI=>?_) ?_
 ·obtain ⟨e1,-⟩:=agree_call rfl hA
  have e3:s'.ng=ng:=hA.ng.symm
  rw [← e3]
  exact ok_callN0 rfl (by rw [e1,ev_mkS];exact ha) hf hc hI
 ·rw [mkS_app]
  exact k
end
end VL
end Go.Proofs.YtphibahplgmgfaaGreatDoor
namespace Go.Proofs.YtphibahplgmgfaaGreatDoor
namespace VL
section
variable {P:Program} [WInv P] {α β:Type} {cs:List Code} {Q:Ex→FS→Prop} {s:FS} {tm:List (Nat×PV)} {ob:List (Nat×Option (Gen×VObj))} {ng:Nat}
theorem rg {draw:Bool} {id:Nat} {l:List Oper} {q:Prop} (k:q) (h:q→GoL P l.toArray draw 0 l [] s fun s'=>PWs P cs Q ⟨s'.tm,s'.ob,s'.ng+1⟩:=by
 (intro k)
 (refine runX ?_)
 (exact k)):PWs P (.region id l.toArray draw::cs) Q s:=pws_regionL (h k)
theorem bl {id:Nat} {c:Code} {q:Prop} (k:q) (h:q→PWs P [c] (blockK id (PWs P cs Q) Q) s:=by
 (intro k)
 (refine runX ?_)
 (exact k)):PWs P (.block id c::cs) Q s:=pws_block (h k)
theorem cS {A B:Option β} {r:β} {c:Operand} {x y:Code} {t:Bool} {q1 q2:Prop} (hF:(if t=true then A else B)=some r) (hc:evL tm c = .bool t) (k1:A=some r→q1) (k2:B=some r→q2)
  (h1:q1→PWs P (x::cs) Q (mkS tm ob ng):=by
 (intro k)
 (refine runX ?_)
 (exact k)) (h2:q2→PWs P (y::cs) Q (mkS tm ob ng):=by
 (intro k)
 (refine runX ?_)
 (exact k)):PWs P (.cond c x y::cs) Q (mkS tm ob ng):=
 pws_condS hc (fun h=>h1 (k1 (ifT h hF))) fun h=>h2 (k2 (ifF h hF))
theorem kS (t:Nat) {A B:Option β} {r:β} {ops:Array Oper} {draw:Bool} {i:Nat} {L:List Oper} {acc:List (List Nat×List Nat)} {K:FS→Prop} {b:Bool} {q1 q2:Prop} (hF:(if b=true then A else B)=some r) (hx:look tm t = .bool b) (k1:A=some r→q1) (k2:B=some r→q2)
  (h1:q1→GoL P ops draw i L acc (mkS ((t,.bool true)::tm) ob ng) K:=by
 (intro k)
 (refine runX ?_)
 (exact k)) (h2:q2→GoL P ops draw i L acc (mkS ((t,.bool false)::tm) ob ng) K:=by
 (intro k)
 (refine runX ?_)
 (exact k)):GoL P ops draw i L acc (mkS tm ob ng) K:=
 g_know t hx (fun h=>h1 (k1 (ifT h hF))) fun h=>h2 (k2 (ifF h hF))
theorem cF {F:Option β} (R:β→PV) {f:FuncId} {fn:Func} {c:Code} {args:List PV} {r:β} (hF:F=some r) (hmix:P.follows .mixedOrders=true) (hf:P.funcs[f]? = some fn)
  (h:∀ r,F=some r→PWs P [c] (RetQ P fn.results.toList (R r)) (mkS (argTm 0 args) [] 1)) (hg:isGo P f=true:=by kernel_rfl) (hb:fn.body=some c:=by exact rfl) (hok:(decide (args.length≤fn.ntmps)&&codeOK fn.ntmps c)=true:=by kernel_rfl):Contract0 P f args (R r):=
 contract_F hF hmix hf hg hb hok h
omit [WInv P] in
theorem rQ {res:PV} {rs:List ResultVar} {ps qs:List PV} {us:List (Nat×Option (Gen×VObj))} (h1:resVs P s rs=some ps:=by exact rfl) (h2:resA s.ob ps=some (qs,us):=by exact rfl) (h3:oneOr qs=res:=by exact rfl):RetQ P rs res .ret s:=rq_ret h1 h2 h3
def sg (σ:List (Nat×Nat×Nat)):List (Gen×Gen):=σ.map fun q=>((1,q.1),q.2)
theorem sR (σ:List (Nat×Nat×Nat)) {tm':List (Nat×PV)} {ob':List (Nat×Option (Gen×VObj))} {ng':Nat} (h1:subTR (sg σ) tm tm':=by
 (repeat (refine ⟨rfl,?_⟩))
 (exact trivial)) (h2:subOR (sg σ) ob ob':=by
 (repeat (refine ⟨⟨rfl,rfl⟩,?_⟩))
 (exact trivial)) (h3:(decide (0<ng')&&(sg σ).all fun q=>decide (q.1.1<ng'))=true:=by exact rfl):Shift (mkS tm ob ng) (mkS tm' ob' ng'):=
 shift_ren (sg σ) h1 h2 h3
theorem jn {St:α→Nat→FS} {J:α→Prop} (a:α) (h1:J a) (h3:Shift s (St a 2)):joinK St J Q .normal s:=jk_normal a 2 h1 h3
theorem rn {St:α→Nat→FS} {J:α→Prop} {m:α→Nat} {a:α} (a':α) (h1:J a') (h3:Shift s (St a' 2)) (h2:m a'<m a:=by exact Nat.lt_succ_self _):roundK St J m a Q .normal s:=rk_normal a' 2 h1 h2 h3
theorem jL {K:α→Option β} {f:(α→Option β)→Option β} {r:β} {c c2:Code} {q1:(α→Option β)→Prop} {q2:α→Prop} (hF:letk K f=some r) (St:α→FS) (h1:∀ k,f k=some r→q1 k) (h2:∀ x,K x=some r→q2 x)
  (g1:∀ k:α→Option β,q1 k→PWs P [c] (joinK (fun a _=>St a) (fun x=>k x=some r) Q) s:=by
 (intro k h)
 (refine runX ?_)
 (exact h)) (g2:∀ x,q2 x→PWs P (c2::cs) Q (St x):=by
 (intro x h)
 (try dsimp only)
 (refine runX ?_)
 (exact h)):PWs P (c::c2::cs) Q s:=
 pws_join (fun a _=>St a) (fun x=>K x=some r) (g1 K (h1 K hF)) fun a _ hJ=>g2 a (h2 a hJ)
end
end VL
end Go.Proofs.YtphibahplgmgfaaGreatDoor
set_option linter.unusedVariables false
set_option maxHeartbeats 4000000
set_option maxRecDepth 100000
namespace Go.Proofs.YtphibahplgmgfaaGreatDoor
open VL
def policy_group_1 (p0:Int):Option Bool:=
 letk (fun (x1:Bool)=>
  (some x1:Option Bool)) fun k1=>
 if (decide (p0=32)) then
  k1 true
 else
 k1 (decide (p0=9))
theorem policy_group_1_c (p0:Int) (r:Bool) (hF:policy_group_1 p0=some r):Contract0 Tryz.prog 186 [.int .i32 p0] (.bool r):=by
 refine cF (fun r=>.bool r) hF mix Tryz.func186 fun r hF=>?_
 unfold policy_group_1 at hF
 refine runX ?_
 refine rg ?_
 refine jL hF (fun x1=>mkS [(2,.bool x1)] [] 2) (fun k1 hF=>?_) fun x1 hF=>?_
 ·refine rg ?_
  refine kS 5 hF rfl (fun hF=>?_) fun hF=>?_
  ·iterate 2 refine g_skip rfl (runX ?_)
   exact jn true hF (sR [])
  exact jn (decide (p0=9)) hF (sR [])
 cases hF
 exact rQ
def policy_rights:Option (List ByteArray):=
 (some [(⟨#[114,101,97,100]⟩:ByteArray),(⟨#[101,100,105,116]⟩:ByteArray),(⟨#[109,111,118,101]⟩:ByteArray),(⟨#[100,101,108,101,116,101]⟩:ByteArray),(⟨#[114,101,118,105,101,119]⟩:ByteArray)]:Option (List ByteArray))
theorem policy_rights_c  (r:List ByteArray) (hF:policy_rights=some r):Contract0 Tryz.prog 187 [] (.sl (List.map csS r)):=by
 refine cF (fun r=>.sl (List.map csS r)) hF mix Tryz.func187 fun r hF=>?_
 unfold policy_rights at hF
 refine runX ?_
 refine rg ?_
 refine rg ?_
 refine g_buildM (M:=([(⟨#[114,101,97,100]⟩:ByteArray),(⟨#[101,100,105,116]⟩:ByteArray),(⟨#[109,111,118,101]⟩:ByteArray),(⟨#[100,101,108,101,116,101]⟩:ByteArray),(⟨#[114,101,118,105,101,119]⟩:ByteArray)]:List ByteArray)) (f:=csS) rfl rfl rfl rfl (Nat.le_of_ble_eq_true rfl) rfl (runX ?_)
 cases hF
 exact rQ
def slices_Index_string (p0:List ByteArray) (p1:ByteArray):Option Int:=
 fixN bigN (fun f2 (x10:Int)=>
  if (decide (x10<(p0.length:Int))) then
   (atI p0 x10).bind fun e14=>
   if (decide (p1=e14)) then
    (some x10:Option Int)
   else
   f2 (w64 (x10+1))
  else
  (some (-1):Option Int)) 0
theorem slices_Index_string_c (p0:List ByteArray) (p1:ByteArray) (r:Int) (hF:slices_Index_string p0 p1=some r):Contract0 Tryz.prog 124 [.sl (List.map csS p0),.str p1] (.int .i64 r):=by
 refine cF (fun r=>.int .i64 r) hF mix Tryz.func124 fun r hF=>?_
 unfold slices_Index_string at hF
 refine runX ?_
 refine rg ?_
 refine rg ?_
 refine g_lenM rfl (M:=p0) (f:=csS) rfl (runX ?_)
 refine bl ?_
 refine fix_elim hF fun f2 mf2 hf2 hF=>?_
 refine pws_loop (α:=Nat×Int) (fun a _=>mkS [(0,.sl (List.map csS p0)),(1,.str p1),(7,.int .i64 (p0.length:Int)),(8,.int .i64 a.2)] [] 2) (fun a=>fixN a.1 f2 a.2=some r) (fun a=>a.1) (mf2,0) 2 hF (sR []) (fun a _ hF=>?_)
 obtain ⟨mf2,x10⟩:=a
 obtain ⟨mf2,rfl,hF⟩:=fix_step hf2 hF
 dsimp only at hF ⊢
 refine runX ?_
 refine rg ?_
 refine cS hF rfl (fun hF=>?_) fun hF=>?_
 ·refine bl ?_
  refine rg ?_
  refine rg ?_
  obtain ⟨e14,h12,hF⟩:=bnd hF
  refine g_indexI (f:=csS) rfl h12 rfl rfl rfl (runX ?_)
  refine cS hF rfl (fun hF=>?_) fun hF=>?_
  ·refine rg ?_
   cases hF
   exact rQ
  refine rg ?_
  exact rn (mf2,(w64 (x10+1))) hF (sR [])
 refine rg ?_
 cases hF
 exact rQ
def policy_spaces:Option (List ByteArray):=
 (some [(⟨#[60,77,97,105,110,62]⟩:ByteArray),(⟨#[60,84,97,108,107,62]⟩:ByteArray),(⟨#[60,85,115,101,114,62]⟩:ByteArray),(⟨#[60,84,101,109,112,108,97,116,101,62]⟩:ByteArray),(⟨#[60,67,97,116,101,103,111,114,121,62]⟩:ByteArray),(⟨#[60,80,114,111,106,101,99,116,62]⟩:ByteArray)]:Option (List ByteArray))
theorem policy_spaces_c  (r:List ByteArray) (hF:policy_spaces=some r):Contract0 Tryz.prog 188 [] (.sl (List.map csS r)):=by
 refine cF (fun r=>.sl (List.map csS r)) hF mix Tryz.func188 fun r hF=>?_
 unfold policy_spaces at hF
 refine runX ?_
 refine rg ?_
 refine rg ?_
 refine g_buildM (M:=([(⟨#[60,77,97,105,110,62]⟩:ByteArray),(⟨#[60,84,97,108,107,62]⟩:ByteArray),(⟨#[60,85,115,101,114,62]⟩:ByteArray),(⟨#[60,84,101,109,112,108,97,116,101,62]⟩:ByteArray),(⟨#[60,67,97,116,101,103,111,114,121,62]⟩:ByteArray),(⟨#[60,80,114,111,106,101,99,116,62]⟩:ByteArray)]:List ByteArray)) (f:=csS) rfl rfl rfl rfl (Nat.le_of_ble_eq_true rfl) rfl (runX ?_)
 cases hF
 exact rQ
def policy_builtIn (p0:ByteArray):Option Bool:=
 letk (fun (x1:Bool)=>
  (some x1:Option Bool)) fun k1=>
 if (decide (p0=(⟨#[97,108,108]⟩:ByteArray))) then
  k1 true
 else
 k1 (decide (p0=(⟨#[117,115,101,114,115]⟩:ByteArray)))
theorem policy_builtIn_c (p0:ByteArray) (r:Bool) (hF:policy_builtIn p0=some r):Contract0 Tryz.prog 190 [.str p0] (.bool r):=by
 refine cF (fun r=>.bool r) hF mix Tryz.func190 fun r hF=>?_
 unfold policy_builtIn at hF
 refine runX ?_
 refine rg ?_
 refine jL hF (fun x1=>mkS [(2,.bool x1)] [] 2) (fun k1 hF=>?_) fun x1 hF=>?_
 ·refine rg ?_
  refine kS 5 hF rfl (fun hF=>?_) fun hF=>?_
  ·iterate 2 refine g_skip rfl (runX ?_)
   exact jn true hF (sR [])
  exact jn (decide (p0=(⟨#[117,115,101,114,115]⟩:ByteArray))) hF (sR [])
 cases hF
 exact rQ
def policy_checkGroup_1 (p0:Group) (p1:Group):Option Bool:=
 (some (decide (p0.name=p1.name)):Option Bool)
theorem policy_checkGroup_1_c (p0:Group) (p1:Group) (r:Bool) (hF:policy_checkGroup_1 p0 p1=some r):Contract0 Tryz.prog 192 [p0.pv,.cel [.str p1.name,.sl (List.map csS p1.members)]] (.bool r):=by
 refine cF (fun r=>.bool r) hF mix Tryz.func192 fun r hF=>?_
 unfold policy_checkGroup_1 at hF
 refine runX ?_
 refine rg ?_
 refine rg ?_
 cases hF
 exact rQ
def slices_IndexFunc_Group (p0:List Group) (qf1:Group→Option Bool):Option Int:=
 fixN bigN (fun f2 (x18:Int)=>
  if (decide (x18<(p0.length:Int))) then
   (atI p0 x18).bind fun e25=>
   (qf1 e25).bind fun r26=>
   if r26 then
    (some x18:Option Int)
   else
   f2 (w64 (x18+1))
  else
  (some (-1):Option Int)) 0
theorem slices_IndexFunc_Group_c (p0:List Group) (qf1:Group→Option Bool) (fv1:Nat) (Lv1:List (List PV)) (hq1:∀ (y0:Group) (r:Bool),qf1 y0=some r→Contract0 Tryz.prog fv1 ([y0.pv]++Lv1.map .cel) (.bool r)) (r:Int) (hF:slices_IndexFunc_Group p0 qf1=some r):Contract0 Tryz.prog 226 [.sl (List.map Group.cs p0),.fn fv1 (Lv1.map .cel)] (.int .i64 r):=by
 refine cF (fun r=>.int .i64 r) hF mix Tryz.func226 fun r hF=>?_
 unfold slices_IndexFunc_Group at hF
 refine runX ?_
 refine rg ?_
 refine rg ?_
 refine g_lenM rfl (M:=p0) (f:=Group.cs) rfl (runX ?_)
 refine bl ?_
 refine fix_elim hF fun f2 mf2 hf2 hF=>?_
 refine pws_loop (α:=Nat×Int) (fun a _=>mkS [(0,.sl (List.map Group.cs p0)),(1,.fn fv1 (Lv1.map .cel)),(7,.int .i64 (p0.length:Int)),(8,.int .i64 a.2)] [] 2) (fun a=>fixN a.1 f2 a.2=some r) (fun a=>a.1) (mf2,0) 2 hF (shift_renF [] ⟨rfl,renF_cels _ _ _,rfl,rfl,trivial⟩ trivial rfl) (fun a _ hF=>?_)
 obtain ⟨mf2,x18⟩:=a
 obtain ⟨mf2,rfl,hF⟩:=fix_step hf2 hF
 dsimp only at hF ⊢
 refine runX ?_
 refine rg ?_
 refine cS hF rfl (fun hF=>?_) fun hF=>?_
 ·refine bl ?_
  refine rg ?_
  refine rg ?_
  obtain ⟨e25,h23,hF⟩:=bnd hF
  refine g_indexI (f:=Group.cs) rfl h23 rfl rfl rfl (runX ?_)
  obtain ⟨r26,h24,hF⟩:=bnd hF
  refine g_callFC (args1:=[e25.pv]) (hq1 e25 _ h24) rfl rfl rfl rfl (runX ?_)
  refine cS hF rfl (fun hF=>?_) fun hF=>?_
  ·refine rg ?_
   cases hF
   exact rQ
  refine rg ?_
  exact rn (mf2,(w64 (x18+1))) hF (shift_renF [] ⟨rfl,renF_cels _ _ _,rfl,rfl,trivial⟩ trivial rfl)
 refine rg ?_
 cases hF
 exact rQ
def slices_ContainsFunc_Group (p0:List Group) (qf1:Group→Option Bool):Option Bool:=
 (slices_IndexFunc_Group p0 qf1).bind fun r1=>
 (some (decide (0≤r1)):Option Bool)
theorem slices_ContainsFunc_Group_c (p0:List Group) (qf1:Group→Option Bool) (fv1:Nat) (Lv1:List (List PV)) (hq1:∀ (y0:Group) (r:Bool),qf1 y0=some r→Contract0 Tryz.prog fv1 ([y0.pv]++Lv1.map .cel) (.bool r)) (r:Bool) (hF:slices_ContainsFunc_Group p0 qf1=some r):Contract0 Tryz.prog 191 [.sl (List.map Group.cs p0),.fn fv1 (Lv1.map .cel)] (.bool r):=by
 refine cF (fun r=>.bool r) hF mix Tryz.func191 fun r hF=>?_
 unfold slices_ContainsFunc_Group at hF
 refine runX ?_
 refine rg ?_
 refine rg ?_
 obtain ⟨r1,h1,hF⟩:=bnd hF
 refine g_lookF (pre:=[.sl (List.map Group.cs p0)]) (pre':=[.sl (List.map Group.cs p0)]) (slices_IndexFunc_Group_c _ qf1 fv1 Lv1 hq1 _ h1) rfl rfl rfl rfl (runX ?_)
 cases hF
 exact rQ
def policy_exists_1 (p0:Group) (p1:ByteArray):Option Bool:=
 (some (decide (p0.name=p1)):Option Bool)
theorem policy_exists_1_c (p0:Group) (p1:ByteArray) (r:Bool) (hF:policy_exists_1 p0 p1=some r):Contract0 Tryz.prog 228 [p0.pv,.cel [.str p1]] (.bool r):=by
 refine cF (fun r=>.bool r) hF mix Tryz.func228 fun r hF=>?_
 unfold policy_exists_1 at hF
 refine runX ?_
 refine rg ?_
 refine rg ?_
 cases hF
 exact rQ
def policy_exists (p0:Policy) (p1:ByteArray):Option Bool:=
 letk (fun (x3:Bool)=>
  (some x3:Option Bool)) fun k1=>
 (policy_builtIn p1).bind fun r4=>
 if r4 then
  k1 true
 else
 (slices_ContainsFunc_Group p0.groups (fun y0=>policy_exists_1 y0 p1)).bind fun r5=>
 k1 r5
theorem policy_exists_c (p0:Policy) (p1:ByteArray) (r:Bool) (hF:policy_exists p0 p1=some r):Contract0 Tryz.prog 194 [p0.pv,.str p1] (.bool r):=by
 refine cF (fun r=>.bool r) hF mix Tryz.func194 fun r hF=>?_
 unfold policy_exists at hF
 refine runX ?_
 refine rg ?_
 refine jL hF (fun x3=>mkS [(4,.bool x3)] [] 2) (fun k1 hF=>?_) fun x3 hF=>?_
 ·refine rg ?_
  obtain ⟨r4,h3,hF⟩:=bnd hF
  refine g_call (policy_builtIn_c _ _ h3) rfl rfl (runX ?_)
  refine kS 7 hF rfl (fun hF=>?_) fun hF=>?_
  ·iterate 4 refine g_skip rfl (runX ?_)
   exact jn true hF (sR [])
  refine g_makeFunc rfl rfl (runX ?_)
  obtain ⟨r5,h4,hF⟩:=bnd hF
  refine g_look (slices_ContainsFunc_Group_c _ (fun y0=>policy_exists_1 y0 p1) 228 [[.str p1]] (fun y0 r h=>policy_exists_1_c y0 p1 r h) _ h4) rfl rfl rfl (runX ?_)
  exact jn r5 hF (sR [])
 cases hF
 exact rQ
def slices_IndexFunc_string (p0:List ByteArray) (qf1:ByteArray→Option Bool):Option Int:=
 fixN bigN (fun f2 (x18:Int)=>
  if (decide (x18<(p0.length:Int))) then
   (atI p0 x18).bind fun e25=>
   (qf1 e25).bind fun r26=>
   if r26 then
    (some x18:Option Int)
   else
   f2 (w64 (x18+1))
  else
  (some (-1):Option Int)) 0
theorem slices_IndexFunc_string_c (p0:List ByteArray) (qf1:ByteArray→Option Bool) (fv1:Nat) (Lv1:List (List PV)) (hq1:∀ (y0:ByteArray) (r:Bool),qf1 y0=some r→Contract0 Tryz.prog fv1 ([.str y0]++Lv1.map .cel) (.bool r)) (r:Int) (hF:slices_IndexFunc_string p0 qf1=some r):Contract0 Tryz.prog 125 [.sl (List.map csS p0),.fn fv1 (Lv1.map .cel)] (.int .i64 r):=by
 refine cF (fun r=>.int .i64 r) hF mix Tryz.func125 fun r hF=>?_
 unfold slices_IndexFunc_string at hF
 refine runX ?_
 refine rg ?_
 refine rg ?_
 refine g_lenM rfl (M:=p0) (f:=csS) rfl (runX ?_)
 refine bl ?_
 refine fix_elim hF fun f2 mf2 hf2 hF=>?_
 refine pws_loop (α:=Nat×Int) (fun a _=>mkS [(0,.sl (List.map csS p0)),(1,.fn fv1 (Lv1.map .cel)),(7,.int .i64 (p0.length:Int)),(8,.int .i64 a.2)] [] 2) (fun a=>fixN a.1 f2 a.2=some r) (fun a=>a.1) (mf2,0) 2 hF (shift_renF [] ⟨rfl,renF_cels _ _ _,rfl,rfl,trivial⟩ trivial rfl) (fun a _ hF=>?_)
 obtain ⟨mf2,x18⟩:=a
 obtain ⟨mf2,rfl,hF⟩:=fix_step hf2 hF
 dsimp only at hF ⊢
 refine runX ?_
 refine rg ?_
 refine cS hF rfl (fun hF=>?_) fun hF=>?_
 ·refine bl ?_
  refine rg ?_
  refine rg ?_
  obtain ⟨e25,h23,hF⟩:=bnd hF
  refine g_indexI (f:=csS) rfl h23 rfl rfl rfl (runX ?_)
  obtain ⟨r26,h24,hF⟩:=bnd hF
  refine g_callFC (args1:=[.str e25]) (hq1 e25 _ h24) rfl rfl rfl rfl (runX ?_)
  refine cS hF rfl (fun hF=>?_) fun hF=>?_
  ·refine rg ?_
   cases hF
   exact rQ
  refine rg ?_
  exact rn (mf2,(w64 (x18+1))) hF (shift_renF [] ⟨rfl,renF_cels _ _ _,rfl,rfl,trivial⟩ trivial rfl)
 refine rg ?_
 cases hF
 exact rQ
def slices_ContainsFunc_string (p0:List ByteArray) (qf1:ByteArray→Option Bool):Option Bool:=
 (slices_IndexFunc_string p0 qf1).bind fun r1=>
 (some (decide (0≤r1)):Option Bool)
theorem slices_ContainsFunc_string_c (p0:List ByteArray) (qf1:ByteArray→Option Bool) (fv1:Nat) (Lv1:List (List PV)) (hq1:∀ (y0:ByteArray) (r:Bool),qf1 y0=some r→Contract0 Tryz.prog fv1 ([.str y0]++Lv1.map .cel) (.bool r)) (r:Bool) (hF:slices_ContainsFunc_string p0 qf1=some r):Contract0 Tryz.prog 83 [.sl (List.map csS p0),.fn fv1 (Lv1.map .cel)] (.bool r):=by
 refine cF (fun r=>.bool r) hF mix Tryz.func83 fun r hF=>?_
 unfold slices_ContainsFunc_string at hF
 refine runX ?_
 refine rg ?_
 refine rg ?_
 obtain ⟨r1,h1,hF⟩:=bnd hF
 refine g_lookF (pre:=[.sl (List.map csS p0)]) (pre':=[.sl (List.map csS p0)]) (slices_IndexFunc_string_c _ qf1 fv1 Lv1 hq1 _ h1) rfl rfl rfl rfl (runX ?_)
 cases hF
 exact rQ
end Go.Proofs.YtphibahplgmgfaaGreatDoor
namespace Go.Proofs.YtphibahplgmgfaaGreatDoor
open VL Go.RowKit
set_option linter.unusedVariables false
def strings_Count (s c:ByteArray):Option Int:=match c.data.toList with
 | [b]=>some (Lib.countByte s.data.toList b)
 | _=>none
theorem strings_Count_c (s c:ByteArray) (r:Int) (h:strings_Count s c=some r):Contract0 Tryz.prog 181 [.str s,.str c] (.int .i64 r):=by
 unfold strings_Count at h
 split at h
 ·rename_i b hb
  cases h
  obtain rfl:c=⟨#[b]⟩:=by
   obtain ⟨⟨l⟩⟩:=c
   exact congrArg (fun l:List UInt8=>(⟨⟨l⟩⟩:ByteArray)) hb
  exact contract_plain (vals:=[.string s,.string ⟨#[b]⟩]) (by kernel_rfl) rfl rfl (fun x=>.int _ _) fun w _=>(Tryz.strings_Count_one s b w).mono fun e w' ⟨e1,e2⟩=>⟨e1,e2 ▸ Below.refl _ _⟩
 ·cases h
def strings_Join (L:List ByteArray) (s:ByteArray):Option ByteArray:=
 if (0<L.length∧L.length≤140737488355328)∧(Lib.join (L.map (·.data.toList)) s.data.toList).length≤140737488355328 then some ⟨(Lib.join (L.map (·.data.toList)) s.data.toList).toArray⟩ else none
theorem strings_Join_c (L:List ByteArray) (s:ByteArray) (r:ByteArray) (h:strings_Join L s=some r):Contract0 Tryz.prog 244 [.sl (List.map csS L),.str s] (.str r):=by
 unfold strings_Join at h
 split at h
 ·rename_i hc
  cases h
  refine contract_world (by kernel_rfl) rfl (fun x=>.str _) fun x vs hp _=>?_
  obtain ⟨v,w,rfl,h1,h2⟩:=args2 hp
  obtain rfl:=str_rep h2
  obtain ⟨A,n,c,rfl,hS⟩:=strs_of_rep hp.flt h1
  obtain ⟨q1,q2,q3,q4⟩:=hS
  obtain ⟨b,off,css,hA,_,hlt,hx⟩:=q4 (by omega)
  subst hA
  subst q1
  refine Tryz.strings_Join b off c L s x.W (fun j y hy=>?_) hlt hc.1.2 q2 hc.2
  obtain ⟨p1,p2⟩:=hx j y hy
  have e1:css j = [.string y]:=p1
  have:=p2 0 (.string y) (by rw [e1];rfl)
  rw [show off+j=off+j * Enc.k ByteArray+0 by show off+j=off+j * 1+0;omega]
  exact this
 ·cases h
def blankP (n:Nat):Bool:=decide ((n:Int)=32)||decide ((n:Int)=9)
def strings_FieldsFunc (s:ByteArray):Option (List ByteArray):=if s.size≤4294967296∧(Lib.goFieldsP blankP s).length≤9223372036854775807 then some (Lib.goFieldsP blankP s) else none
theorem enter_go {f:FuncId} (h:VL.isGo Tryz.prog f=true) (args:Array Value) (w:World):(callFunc f args).run Tryz.prog w = .ok (.enter f args) w:=by
 unfold VL.isGo at h
 split at h
 ·rename_i fn hfn
  simp only [Bool.and_eq_true,bne_iff_ne,ne_eq] at h
  obtain ⟨h1,h2⟩:=h
  obtain ⟨b,hb⟩:=Option.isSome_iff_exists.1 h2
  simp [callFunc,hfn,h1,hb]
 ·cases h
theorem blank_grows (w:World) (hI:∀ W,Below w.heap.size w W→WInv.I Tryz.prog W):PredGrows Tryz.prog 186 #[] blankP w:=fun W x hx hb=>by
 have hc:policy_group_1 (x:Int)=some (blankP x):=by
  unfold policy_group_1 letk blankP
  dsimp only
  by_cases h:(x:Int)=32
  ·rw [if_pos (decide_eq_true h),decide_eq_true h];rfl
  ·rw [if_neg (by simpa using h),decide_eq_false h];rfl
 refine calls_bool (policy_group_1_c x _ hc) (vs:=#[encR x] ++ #[]) rfl (fun i p v hp hv=>?_) fun w' hw=>hI w' (hb.trans (hw.mono hb.size))
 match i,hp,hv with
 | 0,hp,hv=>injection hp with hp;injection hv with hv;subst hp hv;exact .int _ _
 | i+1,hp,_=>simp at hp
theorem strings_FieldsFunc_c (s:ByteArray) (r:List ByteArray) (h:strings_FieldsFunc s=some r):ContractN Tryz.prog 185 [.str s,.fn 186 []] (.row 9 1 false (List.map csS r)):=by
 unfold strings_FieldsFunc at h
 split at h
 ·rename_i hc
  injection h with h
  subst h
  refine contractN_own3 (α:=ByteArray) (vals:=[.string s,.func (.func 186) #[] #[]]) (enc:=fun x=>[.string x]) (by kernel_rfl) (fun x vs hp=>?_) (fun x=>rfl) (fun S w x cs h=>h) (fun x=>rfl) fun w hw=>?_
  ·obtain ⟨v,w,rfl,h1,h2⟩:=args2 hp
   obtain rfl:=str_rep h1
   cases h2 with
   | fn _ _ cs hl hh=>
     have:cs = #[]:=Array.eq_empty_of_size_eq_zero hl.symm
     rw [this]
  ·refine (Tryz.strings_FieldsFunc_grows 186 #[] (enter_go (by kernel_rfl)) blankP s w hc.1 (blank_grows w hw)).mono ?_
   rintro e w' ⟨A,rfl,hA,hown,hb⟩
   exact ⟨_,rfl,OwnL.of_row hown,hb⟩
 ·cases h
def title_prefix (s:ByteArray):Option (Int×ByteArray×Bool):=if s.size<4294967281 then (match prefixL s.data.toList with | some q=>some (q.1,⟨q.2.toArray⟩,true) | none=>some (0,⟨#[]⟩,false)) else none
theorem tupP {x:Ctx} (a:Int) (b:ByteArray) (c:Bool):Rep x (.tup [.int .i64 a,.str b,.bool c]) (.tuple #[.int .i64 a,.string b,.bool c]):=.tup _ _ rfl fun i p v hp hv=>by
 match i,hp,hv with
 | 0,hp,hv=>injection hp with hp;injection hv with hv;subst hp hv;exact .int _ _
 | 1,hp,hv=>injection hp with hp;injection hv with hv;subst hp hv;exact .str _
 | 2,hp,hv=>injection hp with hp;injection hv with hv;subst hp hv;exact .bool _
 | i+3,hp,_=>simp at hp
theorem title_prefix_c (s:ByteArray) (r:Int×ByteArray×Bool) (h:title_prefix s=some r):Contract0 Tryz.prog 129 [.str s] (.tup [.int .i64 r.1,.str r.2.1,.bool r.2.2]):=by
 unfold title_prefix at h
 split at h
 ·rename_i hc
  have hv:prefixV s.data.toList = .tuple #[.int .i64 r.1,.string r.2.1,.bool r.2.2]:=by
   unfold prefixV
   cases hp:prefixL s.data.toList with
   | none=>rw [hp] at h;injection h with h;subst h;rfl
   | some q=>rw [hp] at h;injection h with h;subst h;rfl
  exact contract_plain (vals:=[.string s]) (by kernel_rfl) rfl rfl (fun x=>tupP _ _ _) fun w hw=>by
   rw [← hv]
   exact prefix_any s w hc hw.1
 ·cases h
end Go.Proofs.YtphibahplgmgfaaGreatDoor
