/- access: levels, May. | The law's own example: a view of one page. | The first element of a list with a key; the answers to the keys of the law's own example. | The law's own example: the answers to four keys, and the comparison of keys as a total order. | The law's own example: its answer is true. -/
import Derived.Test.YthmlnffponjikaaGreatDoorZa05
import Derived.Test.YthmlnffponjikaaGreatDoorZa04
import Derived.Handy
namespace Go.Proofs.YthmlnffponjikaaGreatDoor
open VL
theorem up_rev : ∀ l : List Title, upLevels l = l.reverse.map fun a => (⟨3, a⟩ : Scope)
  | [] => rfl
  | a :: r => by simp [upLevels, up_rev r]
set_option maxHeartbeats 2000000 in
set_option maxRecDepth 100000 in
theorem levels_c (t : Title) : Contract0 Tryz.prog 104 [t.pv] (.sl ((levelsL t).map Scope.cs)) := by
  have hlen := ancL_len t
  refine contract_run mix Tryz.func104 (by kernel_rfl) rfl (by kernel_rfl) ?_
  repeat (first | (refine g_callN (ancestors_n t) rfl rfl ?_) | (refine g_callM (reverse_m _) rfl rfl rfl ?_) | refine g_move rfl (by (conv => lhs; whnf); try rfl) ?_ | refine g_load rfl rfl rfl ?_ | refine g_fieldAddr rfl rfl ?_ | refine g_assign rfl (by (conv => lhs; whnf); try rfl) ?_ | refine g_inc rfl rfl (by omega) ?_ | refine g_add rfl rfl rfl (by omega) (by omega) ?_ | refine g_dec rfl rfl rfl (by omega) ?_ | refine g_sub rfl rfl rfl (by omega) (by omega) ?_ | refine g_int rfl rfl rfl rfl (by (conv => lhs; whnf); try rfl) ?_ | refine g_str rfl rfl rfl rfl (by (conv => lhs; whnf); try rfl) ?_ | refine g_nil rfl rfl ?_ | refine g_build_ar rfl rfl ?_ | refine g_conv rfl rfl ?_ | refine g_bits rfl rfl rfl rfl ?_ | refine g_shr rfl rfl rfl (by decide) ?_ | refine g_rem rfl rfl rfl (by first | decide | omega) ?_ | refine g_len rfl rfl ?_ | refine g_lenS Tryz.underlying9 rfl rfl ?_ | refine g_box rfl (by (conv => lhs; whnf); try rfl) (by (conv => lhs; whnf); try rfl) (by rfl) ?_ | refine g_alloc rfl rfl ?_ | refine g_store rfl rfl rfl (by (conv => lhs; whnf); try rfl) (by (conv => lhs; whnf); try rfl) (by rfl) (by rfl) (Nat.le_of_ble_eq_true rfl) (by (conv => lhs; whnf); try rfl) ?_ | refine g_build rfl rfl ?_ | refine g_buildSlice rfl rfl rfl (by rfl) (by decide) (by (conv => lhs; whnf); try rfl) ?_ | refine g_extract rfl rfl rfl ?_ | refine g_not rfl rfl ?_ | refine g_pick rfl rfl (by (conv => lhs; whnf); try rfl) ?_ | refine g_field rfl rfl rfl ?_ | refine go_endF ?_ | refine go_endT (by kernel_rfl) ?_ | refine pws_seq ?_ | refine pws_regionL ?_ | refine pws_block ?_ | refine pws_skip ?_ | refine pws_ret ?_ | refine pws_exit ?_ | refine pws_nil ?_ | refine bk_exit ?_ | refine bk_ret ?_ | refine bk_normal ?_ | refine rk_exit ?_ | refine rk_ret ?_)
  refine pws_loop (α := Nat) (fun i _ => mkS [(1, .ptr 1 (1, 1) 0), (3, .row 9 (1, 9)), (14, .sl ((ancL t).reverse.map Title.cs)), (15, .int .i64 ((ancL t).length : Int)), (16, .int .i64 ((i : Nat) : Int))]
      [(1, some ((1, 1), .box t.cs)), (9, some ((1, 9), .row 87 3 false ((⟨3, t⟩ :: ((ancL t).reverse.take i).map fun a => (⟨3, a⟩ : Scope)).map Scope.cs)))] 2)
    (fun i => i ≤ (ancL t).length) (fun i => (ancL t).length - i) 0 2 (Nat.zero_le _)
    (Shift.trans (shift_T 14 rfl rfl) (shift_ren [((1, 1), _), ((1, 9), _)] ⟨rfl, rfl, rfl, ?_, rfl, trivial⟩ ⟨⟨rfl, rfl⟩, ⟨rfl, rfl⟩, trivial⟩ rfl)) (fun i _ (hi : i ≤ (ancL t).length) => ?_)
  · show some (PV.int .i64 ((ancL t).length : Int)) = some (PV.int .i64 (((ancL t).reverse.map Title.cs).length : Int))
    rw [List.length_map, List.length_reverse]
  repeat (first | refine g_move rfl (by (conv => lhs; whnf); try rfl) ?_ | refine g_load rfl rfl rfl ?_ | refine g_fieldAddr rfl rfl ?_ | refine g_assign rfl (by (conv => lhs; whnf); try rfl) ?_ | refine g_inc rfl rfl (by omega) ?_ | refine g_add rfl rfl rfl (by omega) (by omega) ?_ | refine g_dec rfl rfl rfl (by omega) ?_ | refine g_sub rfl rfl rfl (by omega) (by omega) ?_ | refine g_int rfl rfl rfl rfl (by (conv => lhs; whnf); try rfl) ?_ | refine g_str rfl rfl rfl rfl (by (conv => lhs; whnf); try rfl) ?_ | refine g_nil rfl rfl ?_ | refine g_build_ar rfl rfl ?_ | refine g_conv rfl rfl ?_ | refine g_bits rfl rfl rfl rfl ?_ | refine g_shr rfl rfl rfl (by decide) ?_ | refine g_rem rfl rfl rfl (by first | decide | omega) ?_ | refine g_len rfl rfl ?_ | refine g_lenS Tryz.underlying9 rfl rfl ?_ | refine g_box rfl (by (conv => lhs; whnf); try rfl) (by (conv => lhs; whnf); try rfl) (by rfl) ?_ | refine g_alloc rfl rfl ?_ | refine g_store rfl rfl rfl (by (conv => lhs; whnf); try rfl) (by (conv => lhs; whnf); try rfl) (by rfl) (by rfl) (Nat.le_of_ble_eq_true rfl) (by (conv => lhs; whnf); try rfl) ?_ | refine g_build rfl rfl ?_ | refine g_buildSlice rfl rfl rfl (by rfl) (by decide) (by (conv => lhs; whnf); try rfl) ?_ | refine g_extract rfl rfl rfl ?_ | refine g_not rfl rfl ?_ | refine g_pick rfl rfl (by (conv => lhs; whnf); try rfl) ?_ | refine g_field rfl rfl rfl ?_ | refine go_endF ?_ | refine go_endT (by kernel_rfl) ?_ | refine pws_seq ?_ | refine pws_regionL ?_ | refine pws_block ?_ | refine pws_skip ?_ | refine pws_ret ?_ | refine pws_exit ?_ | refine pws_nil ?_ | refine bk_exit ?_ | refine bk_ret ?_ | refine bk_normal ?_ | refine rk_exit ?_ | refine rk_ret ?_)
  by_cases hlt : (i : Int) < ((ancL t).length : Int)
  · refine pws_condT (by (conv => lhs; whnf); try rfl) (decide_eq_true hlt) ?_
    have hlt' : i < (ancL t).reverse.length := by rw [List.length_reverse]; omega
    obtain ⟨x, hx⟩ : ∃ x, (ancL t).reverse[i]? = some x := ⟨_, List.getElem?_eq_getElem hlt'⟩
    have hcs : ((ancL t).reverse.map Title.cs)[i]? = some x.cs := by rw [List.getElem?_map, hx]; rfl
    repeat (first | (refine g_index_sl rfl rfl rfl hcs rfl ?_) | (refine g_append_row rfl rfl rfl rfl (by show (List.length _ + 1) * _ ≤ _; simp; omega) (by show List.length _ + 1 ≤ _; simp; omega) (by rfl) ?_) | refine g_move rfl (by (conv => lhs; whnf); try rfl) ?_ | refine g_load rfl rfl rfl ?_ | refine g_fieldAddr rfl rfl ?_ | refine g_assign rfl (by (conv => lhs; whnf); try rfl) ?_ | refine g_inc rfl rfl (by omega) ?_ | refine g_add rfl rfl rfl (by omega) (by omega) ?_ | refine g_dec rfl rfl rfl (by omega) ?_ | refine g_sub rfl rfl rfl (by omega) (by omega) ?_ | refine g_int rfl rfl rfl rfl (by (conv => lhs; whnf); try rfl) ?_ | refine g_str rfl rfl rfl rfl (by (conv => lhs; whnf); try rfl) ?_ | refine g_nil rfl rfl ?_ | refine g_build_ar rfl rfl ?_ | refine g_conv rfl rfl ?_ | refine g_bits rfl rfl rfl rfl ?_ | refine g_shr rfl rfl rfl (by decide) ?_ | refine g_rem rfl rfl rfl (by first | decide | omega) ?_ | refine g_len rfl rfl ?_ | refine g_lenS Tryz.underlying9 rfl rfl ?_ | refine g_box rfl (by (conv => lhs; whnf); try rfl) (by (conv => lhs; whnf); try rfl) (by rfl) ?_ | refine g_alloc rfl rfl ?_ | refine g_store rfl rfl rfl (by (conv => lhs; whnf); try rfl) (by (conv => lhs; whnf); try rfl) (by rfl) (by rfl) (Nat.le_of_ble_eq_true rfl) (by (conv => lhs; whnf); try rfl) ?_ | refine g_build rfl rfl ?_ | refine g_buildSlice rfl rfl rfl (by rfl) (by decide) (by (conv => lhs; whnf); try rfl) ?_ | refine g_extract rfl rfl rfl ?_ | refine g_not rfl rfl ?_ | refine g_pick rfl rfl (by (conv => lhs; whnf); try rfl) ?_ | refine g_field rfl rfl rfl ?_ | refine go_endF ?_ | refine go_endT (by kernel_rfl) ?_ | refine pws_seq ?_ | refine pws_regionL ?_ | refine pws_block ?_ | refine pws_skip ?_ | refine pws_ret ?_ | refine pws_exit ?_ | refine pws_nil ?_ | refine bk_exit ?_ | refine bk_ret ?_ | refine bk_normal ?_ | refine rk_exit ?_ | refine rk_ret ?_)
    refine rk_normal (i + 1) 2 (by omega) (by show (ancL t).length - (i + 1) < (ancL t).length - i; omega) (shift_ren [((1, 1), (1, 1)), ((1, 9), _)] ⟨rfl, rfl, rfl, rfl, rfl, trivial⟩ ⟨⟨rfl, rfl⟩, ⟨?_, rfl⟩, trivial⟩ rfl)
    rw [List.take_add_one, hx]
    simp only [Option.toList_some, List.map_append, List.map_cons, List.map_nil]
    rfl
  · refine pws_condF (by (conv => lhs; whnf); try rfl) (decide_eq_false hlt) ?_
    repeat (first | (refine g_append_row rfl rfl rfl rfl (by show (List.length _ + 2) * _ ≤ _; simp; omega) (by show List.length _ + 2 ≤ _; simp; omega) (by rfl) ?_) | refine g_move rfl (by (conv => lhs; whnf); try rfl) ?_ | refine g_load rfl rfl rfl ?_ | refine g_fieldAddr rfl rfl ?_ | refine g_assign rfl (by (conv => lhs; whnf); try rfl) ?_ | refine g_inc rfl rfl (by omega) ?_ | refine g_add rfl rfl rfl (by omega) (by omega) ?_ | refine g_dec rfl rfl rfl (by omega) ?_ | refine g_sub rfl rfl rfl (by omega) (by omega) ?_ | refine g_int rfl rfl rfl rfl (by (conv => lhs; whnf); try rfl) ?_ | refine g_str rfl rfl rfl rfl (by (conv => lhs; whnf); try rfl) ?_ | refine g_nil rfl rfl ?_ | refine g_build_ar rfl rfl ?_ | refine g_conv rfl rfl ?_ | refine g_bits rfl rfl rfl rfl ?_ | refine g_shr rfl rfl rfl (by decide) ?_ | refine g_rem rfl rfl rfl (by first | decide | omega) ?_ | refine g_len rfl rfl ?_ | refine g_lenS Tryz.underlying9 rfl rfl ?_ | refine g_box rfl (by (conv => lhs; whnf); try rfl) (by (conv => lhs; whnf); try rfl) (by rfl) ?_ | refine g_alloc rfl rfl ?_ | refine g_store rfl rfl rfl (by (conv => lhs; whnf); try rfl) (by (conv => lhs; whnf); try rfl) (by rfl) (by rfl) (Nat.le_of_ble_eq_true rfl) (by (conv => lhs; whnf); try rfl) ?_ | refine g_build rfl rfl ?_ | refine g_buildSlice rfl rfl rfl (by rfl) (by decide) (by (conv => lhs; whnf); try rfl) ?_ | refine g_extract rfl rfl rfl ?_ | refine g_not rfl rfl ?_ | refine g_pick rfl rfl (by (conv => lhs; whnf); try rfl) ?_ | refine g_field rfl rfl rfl ?_ | refine go_endF ?_ | refine go_endT (by kernel_rfl) ?_ | refine pws_seq ?_ | refine pws_regionL ?_ | refine pws_block ?_ | refine pws_skip ?_ | refine pws_ret ?_ | refine pws_exit ?_ | refine pws_nil ?_ | refine bk_exit ?_ | refine bk_ret ?_ | refine bk_normal ?_ | refine rk_exit ?_ | refine rk_ret ?_)
    refine rq_ret rfl rfl ?_
    unfold levelsL
    rw [up_rev, List.take_of_length_le (by simp; omega)]
    simp only [List.map_append, List.map_cons, List.map_nil]
    rfl
/-- A rule concerns a level. -/
def ruleHits (G : List ByteArray) (right : Int) (lv : Scope) (r : Rule) : Bool := decide (r.right = right) && hasL G r.group && matchB r.scope lv
def mayFrom (R : List Rule) (G : List ByteArray) (right : Int) : List Scope → Bool
  | [] => false
  | lv :: rest => if R.any (ruleHits G right lv) then R.all (fun r => !ruleHits G right lv r || r.allow) else mayFrom R G right rest
/-- May, as chapter 13 has it. -/
def mayB (p : Policy) (G : List ByteArray) (right : Int) (t : Title) : Bool := t.valid && decide (1 ≤ right) && decide (right ≤ 5) && mayFrom p.rules G right (levelsL t)
theorem any_take {α : Type} {R : List α} {f : α → Bool} {k : Nat} {r : α} (h : R[k]? = some r) : (R.take (k + 1)).any f = ((R.take k).any f || f r) := by rw [List.take_add_one, h]; simp
theorem all_take {α : Type} {R : List α} {f : α → Bool} {k : Nat} {r : α} (h : R[k]? = some r) : (R.take (k + 1)).all f = ((R.take k).all f && f r) := by rw [List.take_add_one, h]; simp
set_option maxHeartbeats 8000000 in
set_option maxRecDepth 100000 in
theorem may_c (p : Policy) (G : List ByteArray) (right : Int) (t : Title) (hR : p.rules.length ≤ 1000000) : Contract0 Tryz.prog 54 [p.pv, strsV G, .int .i64 right, t.pv] (.bool (mayB p G right t)) := by
  have hcv := valid_c t
  have hll : (levelsL t).length ≤ 103 := by unfold levelsL; have := ancL_len t; simp [upLevels_len]; omega
  refine contract_run mix Tryz.func54 (by kernel_rfl) rfl (by kernel_rfl) ?_
  rcases Bool.eq_false_or_eq_true t.valid with hv | hv <;> rw [hv] at hcv
  · repeat (first | (refine g_call hcv rfl rfl ?_) | refine g_move rfl (by (conv => lhs; whnf); try rfl) ?_ | refine g_load rfl rfl rfl ?_ | refine g_fieldAddr rfl rfl ?_ | refine g_assign rfl (by (conv => lhs; whnf); try rfl) ?_ | refine g_inc rfl rfl (by omega) ?_ | refine g_add rfl rfl rfl (by omega) (by omega) ?_ | refine g_dec rfl rfl rfl (by omega) ?_ | refine g_sub rfl rfl rfl (by omega) (by omega) ?_ | refine g_int rfl rfl rfl rfl (by (conv => lhs; whnf); try rfl) ?_ | refine g_str rfl rfl rfl rfl (by (conv => lhs; whnf); try rfl) ?_ | refine g_nil rfl rfl ?_ | refine g_build_ar rfl rfl ?_ | refine g_conv rfl rfl ?_ | refine g_bits rfl rfl rfl rfl ?_ | refine g_shr rfl rfl rfl (by decide) ?_ | refine g_rem rfl rfl rfl (by first | decide | omega) ?_ | refine g_len rfl rfl ?_ | refine g_lenS Tryz.underlying9 rfl rfl ?_ | refine g_box rfl (by (conv => lhs; whnf); try rfl) (by (conv => lhs; whnf); try rfl) (by rfl) ?_ | refine g_alloc rfl rfl ?_ | refine g_store rfl rfl rfl (by (conv => lhs; whnf); try rfl) (by (conv => lhs; whnf); try rfl) (by rfl) (by rfl) (Nat.le_of_ble_eq_true rfl) (by (conv => lhs; whnf); try rfl) ?_ | refine g_build rfl rfl ?_ | refine g_buildSlice rfl rfl rfl (by rfl) (by decide) (by (conv => lhs; whnf); try rfl) ?_ | refine g_extract rfl rfl rfl ?_ | refine g_not rfl rfl ?_ | refine g_pick rfl rfl (by (conv => lhs; whnf); try rfl) ?_ | refine g_field rfl rfl rfl ?_ | refine go_endF ?_ | refine go_endT (by kernel_rfl) ?_ | refine pws_seq ?_ | refine pws_regionL ?_ | refine pws_block ?_ | refine pws_skip ?_ | refine pws_ret ?_ | refine pws_exit ?_ | refine pws_nil ?_ | refine bk_exit ?_ | refine bk_ret ?_ | refine bk_normal ?_ | refine rk_exit ?_ | refine rk_ret ?_)
    by_cases h1 : right < 1
    · rw [decide_eq_true h1]
      repeat (first | (refine g_skip rfl ?_) | refine g_move rfl (by (conv => lhs; whnf); try rfl) ?_ | refine g_load rfl rfl rfl ?_ | refine g_fieldAddr rfl rfl ?_ | refine g_assign rfl (by (conv => lhs; whnf); try rfl) ?_ | refine g_inc rfl rfl (by omega) ?_ | refine g_add rfl rfl rfl (by omega) (by omega) ?_ | refine g_dec rfl rfl rfl (by omega) ?_ | refine g_sub rfl rfl rfl (by omega) (by omega) ?_ | refine g_int rfl rfl rfl rfl (by (conv => lhs; whnf); try rfl) ?_ | refine g_str rfl rfl rfl rfl (by (conv => lhs; whnf); try rfl) ?_ | refine g_nil rfl rfl ?_ | refine g_build_ar rfl rfl ?_ | refine g_conv rfl rfl ?_ | refine g_bits rfl rfl rfl rfl ?_ | refine g_shr rfl rfl rfl (by decide) ?_ | refine g_rem rfl rfl rfl (by first | decide | omega) ?_ | refine g_len rfl rfl ?_ | refine g_lenS Tryz.underlying9 rfl rfl ?_ | refine g_box rfl (by (conv => lhs; whnf); try rfl) (by (conv => lhs; whnf); try rfl) (by rfl) ?_ | refine g_alloc rfl rfl ?_ | refine g_store rfl rfl rfl (by (conv => lhs; whnf); try rfl) (by (conv => lhs; whnf); try rfl) (by rfl) (by rfl) (Nat.le_of_ble_eq_true rfl) (by (conv => lhs; whnf); try rfl) ?_ | refine g_build rfl rfl ?_ | refine g_buildSlice rfl rfl rfl (by rfl) (by decide) (by (conv => lhs; whnf); try rfl) ?_ | refine g_extract rfl rfl rfl ?_ | refine g_not rfl rfl ?_ | refine g_pick rfl rfl (by (conv => lhs; whnf); try rfl) ?_ | refine g_field rfl rfl rfl ?_ | refine go_endF ?_ | refine go_endT (by kernel_rfl) ?_ | refine pws_seq ?_ | refine pws_regionL ?_ | refine pws_block ?_ | refine pws_skip ?_ | refine pws_ret ?_ | refine pws_exit ?_ | refine pws_nil ?_ | refine bk_exit ?_ | refine bk_ret ?_ | refine bk_normal ?_ | refine rk_exit ?_ | refine rk_ret ?_)
      refine pws_condT (by (conv => lhs; whnf); try rfl) rfl ?_
      repeat (first | refine g_move rfl (by (conv => lhs; whnf); try rfl) ?_ | refine g_load rfl rfl rfl ?_ | refine g_fieldAddr rfl rfl ?_ | refine g_assign rfl (by (conv => lhs; whnf); try rfl) ?_ | refine g_inc rfl rfl (by omega) ?_ | refine g_add rfl rfl rfl (by omega) (by omega) ?_ | refine g_dec rfl rfl rfl (by omega) ?_ | refine g_sub rfl rfl rfl (by omega) (by omega) ?_ | refine g_int rfl rfl rfl rfl (by (conv => lhs; whnf); try rfl) ?_ | refine g_str rfl rfl rfl rfl (by (conv => lhs; whnf); try rfl) ?_ | refine g_nil rfl rfl ?_ | refine g_build_ar rfl rfl ?_ | refine g_conv rfl rfl ?_ | refine g_bits rfl rfl rfl rfl ?_ | refine g_shr rfl rfl rfl (by decide) ?_ | refine g_rem rfl rfl rfl (by first | decide | omega) ?_ | refine g_len rfl rfl ?_ | refine g_lenS Tryz.underlying9 rfl rfl ?_ | refine g_box rfl (by (conv => lhs; whnf); try rfl) (by (conv => lhs; whnf); try rfl) (by rfl) ?_ | refine g_alloc rfl rfl ?_ | refine g_store rfl rfl rfl (by (conv => lhs; whnf); try rfl) (by (conv => lhs; whnf); try rfl) (by rfl) (by rfl) (Nat.le_of_ble_eq_true rfl) (by (conv => lhs; whnf); try rfl) ?_ | refine g_build rfl rfl ?_ | refine g_buildSlice rfl rfl rfl (by rfl) (by decide) (by (conv => lhs; whnf); try rfl) ?_ | refine g_extract rfl rfl rfl ?_ | refine g_not rfl rfl ?_ | refine g_pick rfl rfl (by (conv => lhs; whnf); try rfl) ?_ | refine g_field rfl rfl rfl ?_ | refine go_endF ?_ | refine go_endT (by kernel_rfl) ?_ | refine pws_seq ?_ | refine pws_regionL ?_ | refine pws_block ?_ | refine pws_skip ?_ | refine pws_ret ?_ | refine pws_exit ?_ | refine pws_nil ?_ | refine bk_exit ?_ | refine bk_ret ?_ | refine bk_normal ?_ | refine rk_exit ?_ | refine rk_ret ?_)
      refine rq_ret rfl rfl ?_
      unfold mayB
      rw [decide_eq_false (show ¬ 1 ≤ right by omega)]
      simp
      rfl
    · rw [decide_eq_false h1]
      repeat (first | refine g_move rfl (by (conv => lhs; whnf); try rfl) ?_ | refine g_load rfl rfl rfl ?_ | refine g_fieldAddr rfl rfl ?_ | refine g_assign rfl (by (conv => lhs; whnf); try rfl) ?_ | refine g_inc rfl rfl (by omega) ?_ | refine g_add rfl rfl rfl (by omega) (by omega) ?_ | refine g_dec rfl rfl rfl (by omega) ?_ | refine g_sub rfl rfl rfl (by omega) (by omega) ?_ | refine g_int rfl rfl rfl rfl (by (conv => lhs; whnf); try rfl) ?_ | refine g_str rfl rfl rfl rfl (by (conv => lhs; whnf); try rfl) ?_ | refine g_nil rfl rfl ?_ | refine g_build_ar rfl rfl ?_ | refine g_conv rfl rfl ?_ | refine g_bits rfl rfl rfl rfl ?_ | refine g_shr rfl rfl rfl (by decide) ?_ | refine g_rem rfl rfl rfl (by first | decide | omega) ?_ | refine g_len rfl rfl ?_ | refine g_lenS Tryz.underlying9 rfl rfl ?_ | refine g_box rfl (by (conv => lhs; whnf); try rfl) (by (conv => lhs; whnf); try rfl) (by rfl) ?_ | refine g_alloc rfl rfl ?_ | refine g_store rfl rfl rfl (by (conv => lhs; whnf); try rfl) (by (conv => lhs; whnf); try rfl) (by rfl) (by rfl) (Nat.le_of_ble_eq_true rfl) (by (conv => lhs; whnf); try rfl) ?_ | refine g_build rfl rfl ?_ | refine g_buildSlice rfl rfl rfl (by rfl) (by decide) (by (conv => lhs; whnf); try rfl) ?_ | refine g_extract rfl rfl rfl ?_ | refine g_not rfl rfl ?_ | refine g_pick rfl rfl (by (conv => lhs; whnf); try rfl) ?_ | refine g_field rfl rfl rfl ?_ | refine go_endF ?_ | refine go_endT (by kernel_rfl) ?_ | refine pws_seq ?_ | refine pws_regionL ?_ | refine pws_block ?_ | refine pws_skip ?_ | refine pws_ret ?_ | refine pws_exit ?_ | refine pws_nil ?_ | refine bk_exit ?_ | refine bk_ret ?_ | refine bk_normal ?_ | refine rk_exit ?_ | refine rk_ret ?_)
      by_cases h5 : 5 < right
      · refine pws_condT (by (conv => lhs; whnf); try rfl) (decide_eq_true h5) ?_
        repeat (first | refine g_move rfl (by (conv => lhs; whnf); try rfl) ?_ | refine g_load rfl rfl rfl ?_ | refine g_fieldAddr rfl rfl ?_ | refine g_assign rfl (by (conv => lhs; whnf); try rfl) ?_ | refine g_inc rfl rfl (by omega) ?_ | refine g_add rfl rfl rfl (by omega) (by omega) ?_ | refine g_dec rfl rfl rfl (by omega) ?_ | refine g_sub rfl rfl rfl (by omega) (by omega) ?_ | refine g_int rfl rfl rfl rfl (by (conv => lhs; whnf); try rfl) ?_ | refine g_str rfl rfl rfl rfl (by (conv => lhs; whnf); try rfl) ?_ | refine g_nil rfl rfl ?_ | refine g_build_ar rfl rfl ?_ | refine g_conv rfl rfl ?_ | refine g_bits rfl rfl rfl rfl ?_ | refine g_shr rfl rfl rfl (by decide) ?_ | refine g_rem rfl rfl rfl (by first | decide | omega) ?_ | refine g_len rfl rfl ?_ | refine g_lenS Tryz.underlying9 rfl rfl ?_ | refine g_box rfl (by (conv => lhs; whnf); try rfl) (by (conv => lhs; whnf); try rfl) (by rfl) ?_ | refine g_alloc rfl rfl ?_ | refine g_store rfl rfl rfl (by (conv => lhs; whnf); try rfl) (by (conv => lhs; whnf); try rfl) (by rfl) (by rfl) (Nat.le_of_ble_eq_true rfl) (by (conv => lhs; whnf); try rfl) ?_ | refine g_build rfl rfl ?_ | refine g_buildSlice rfl rfl rfl (by rfl) (by decide) (by (conv => lhs; whnf); try rfl) ?_ | refine g_extract rfl rfl rfl ?_ | refine g_not rfl rfl ?_ | refine g_pick rfl rfl (by (conv => lhs; whnf); try rfl) ?_ | refine g_field rfl rfl rfl ?_ | refine go_endF ?_ | refine go_endT (by kernel_rfl) ?_ | refine pws_seq ?_ | refine pws_regionL ?_ | refine pws_block ?_ | refine pws_skip ?_ | refine pws_ret ?_ | refine pws_exit ?_ | refine pws_nil ?_ | refine bk_exit ?_ | refine bk_ret ?_ | refine bk_normal ?_ | refine rk_exit ?_ | refine rk_ret ?_)
        refine rq_ret rfl rfl ?_
        unfold mayB
        rw [decide_eq_false (show ¬ right ≤ 5 by omega)]
        simp
        rfl
      · refine pws_condF (by (conv => lhs; whnf); try rfl) (decide_eq_false h5) ?_
        have hmay : mayB p G right t = mayFrom p.rules G right (levelsL t) := by
          unfold mayB
          rw [hv, decide_eq_true (show 1 ≤ right by omega), decide_eq_true (show right ≤ 5 by omega)]
          rfl
        rw [hmay]
        repeat (first | (refine g_call (levels_c t) rfl rfl ?_) | refine g_move rfl (by (conv => lhs; whnf); try rfl) ?_ | refine g_load rfl rfl rfl ?_ | refine g_fieldAddr rfl rfl ?_ | refine g_assign rfl (by (conv => lhs; whnf); try rfl) ?_ | refine g_inc rfl rfl (by omega) ?_ | refine g_add rfl rfl rfl (by omega) (by omega) ?_ | refine g_dec rfl rfl rfl (by omega) ?_ | refine g_sub rfl rfl rfl (by omega) (by omega) ?_ | refine g_int rfl rfl rfl rfl (by (conv => lhs; whnf); try rfl) ?_ | refine g_str rfl rfl rfl rfl (by (conv => lhs; whnf); try rfl) ?_ | refine g_nil rfl rfl ?_ | refine g_build_ar rfl rfl ?_ | refine g_conv rfl rfl ?_ | refine g_bits rfl rfl rfl rfl ?_ | refine g_shr rfl rfl rfl (by decide) ?_ | refine g_rem rfl rfl rfl (by first | decide | omega) ?_ | refine g_len rfl rfl ?_ | refine g_lenS Tryz.underlying9 rfl rfl ?_ | refine g_box rfl (by (conv => lhs; whnf); try rfl) (by (conv => lhs; whnf); try rfl) (by rfl) ?_ | refine g_alloc rfl rfl ?_ | refine g_store rfl rfl rfl (by (conv => lhs; whnf); try rfl) (by (conv => lhs; whnf); try rfl) (by rfl) (by rfl) (Nat.le_of_ble_eq_true rfl) (by (conv => lhs; whnf); try rfl) ?_ | refine g_build rfl rfl ?_ | refine g_buildSlice rfl rfl rfl (by rfl) (by decide) (by (conv => lhs; whnf); try rfl) ?_ | refine g_extract rfl rfl rfl ?_ | refine g_not rfl rfl ?_ | refine g_pick rfl rfl (by (conv => lhs; whnf); try rfl) ?_ | refine g_field rfl rfl rfl ?_ | refine go_endF ?_ | refine go_endT (by kernel_rfl) ?_ | refine pws_seq ?_ | refine pws_regionL ?_ | refine pws_block ?_ | refine pws_skip ?_ | refine pws_ret ?_ | refine pws_exit ?_ | refine pws_nil ?_ | refine bk_exit ?_ | refine bk_ret ?_ | refine bk_normal ?_ | refine rk_exit ?_ | refine rk_ret ?_)
        refine pws_loop (α := Nat) (fun i _ => mkS [(1, strsV G), (2, .int .i64 right), (4, .ptr 4 (1, 4) 0), (27, .sl ((levelsL t).map Scope.cs)), (28, .int .i64 ((levelsL t).length : Int)), (29, .int .i64 ((i : Nat) : Int))] [(4, some ((1, 4), .box p.cs))] 2)
          (fun i => i ≤ (levelsL t).length ∧ mayFrom p.rules G right (levelsL t) = mayFrom p.rules G right ((levelsL t).drop i)) (fun i => (levelsL t).length - i) 0 2 ⟨Nat.zero_le _, rfl⟩
          (shift_ren [((1, 4), (1, 0))] ⟨rfl, rfl, rfl, rfl, ?_, rfl, trivial⟩ ⟨⟨rfl, rfl⟩, trivial⟩ rfl) (fun i _ hJ => ?_)
        · show some (PV.int .i64 ((levelsL t).length : Int)) = some (PV.int .i64 (((levelsL t).map Scope.cs).length : Int))
          rw [List.length_map]
        obtain ⟨(hi : i ≤ (levelsL t).length), (hno : mayFrom p.rules G right (levelsL t) = mayFrom p.rules G right ((levelsL t).drop i))⟩ := hJ
        repeat (first | refine g_move rfl (by (conv => lhs; whnf); try rfl) ?_ | refine g_load rfl rfl rfl ?_ | refine g_fieldAddr rfl rfl ?_ | refine g_assign rfl (by (conv => lhs; whnf); try rfl) ?_ | refine g_inc rfl rfl (by omega) ?_ | refine g_add rfl rfl rfl (by omega) (by omega) ?_ | refine g_dec rfl rfl rfl (by omega) ?_ | refine g_sub rfl rfl rfl (by omega) (by omega) ?_ | refine g_int rfl rfl rfl rfl (by (conv => lhs; whnf); try rfl) ?_ | refine g_str rfl rfl rfl rfl (by (conv => lhs; whnf); try rfl) ?_ | refine g_nil rfl rfl ?_ | refine g_build_ar rfl rfl ?_ | refine g_conv rfl rfl ?_ | refine g_bits rfl rfl rfl rfl ?_ | refine g_shr rfl rfl rfl (by decide) ?_ | refine g_rem rfl rfl rfl (by first | decide | omega) ?_ | refine g_len rfl rfl ?_ | refine g_lenS Tryz.underlying9 rfl rfl ?_ | refine g_box rfl (by (conv => lhs; whnf); try rfl) (by (conv => lhs; whnf); try rfl) (by rfl) ?_ | refine g_alloc rfl rfl ?_ | refine g_store rfl rfl rfl (by (conv => lhs; whnf); try rfl) (by (conv => lhs; whnf); try rfl) (by rfl) (by rfl) (Nat.le_of_ble_eq_true rfl) (by (conv => lhs; whnf); try rfl) ?_ | refine g_build rfl rfl ?_ | refine g_buildSlice rfl rfl rfl (by rfl) (by decide) (by (conv => lhs; whnf); try rfl) ?_ | refine g_extract rfl rfl rfl ?_ | refine g_not rfl rfl ?_ | refine g_pick rfl rfl (by (conv => lhs; whnf); try rfl) ?_ | refine g_field rfl rfl rfl ?_ | refine go_endF ?_ | refine go_endT (by kernel_rfl) ?_ | refine pws_seq ?_ | refine pws_regionL ?_ | refine pws_block ?_ | refine pws_skip ?_ | refine pws_ret ?_ | refine pws_exit ?_ | refine pws_nil ?_ | refine bk_exit ?_ | refine bk_ret ?_ | refine bk_normal ?_ | refine rk_exit ?_ | refine rk_ret ?_)
        by_cases hlt : (i : Int) < ((levelsL t).length : Int)
        · refine pws_condT (by (conv => lhs; whnf); try rfl) (decide_eq_true hlt) ?_
          have hlt' : i < (levelsL t).length := by omega
          obtain ⟨lv, hx⟩ : ∃ lv, (levelsL t)[i]? = some lv := ⟨_, List.getElem?_eq_getElem hlt'⟩
          have hcs : ((levelsL t).map Scope.cs)[i]? = some lv.cs := by rw [List.getElem?_map, hx]; rfl
          have hd : (levelsL t).drop i = lv :: (levelsL t).drop (i + 1) := by
            rw [List.drop_eq_getElem_cons hlt']
            rw [List.getElem?_eq_getElem hlt'] at hx
            injection hx with hx
            rw [hx]
          rw [hd, mayFrom] at hno
          repeat (first | (refine g_index_sl rfl rfl rfl hcs rfl ?_) | refine g_move rfl (by (conv => lhs; whnf); try rfl) ?_ | refine g_load rfl rfl rfl ?_ | refine g_fieldAddr rfl rfl ?_ | refine g_assign rfl (by (conv => lhs; whnf); try rfl) ?_ | refine g_inc rfl rfl (by omega) ?_ | refine g_add rfl rfl rfl (by omega) (by omega) ?_ | refine g_dec rfl rfl rfl (by omega) ?_ | refine g_sub rfl rfl rfl (by omega) (by omega) ?_ | refine g_int rfl rfl rfl rfl (by (conv => lhs; whnf); try rfl) ?_ | refine g_str rfl rfl rfl rfl (by (conv => lhs; whnf); try rfl) ?_ | refine g_nil rfl rfl ?_ | refine g_build_ar rfl rfl ?_ | refine g_conv rfl rfl ?_ | refine g_bits rfl rfl rfl rfl ?_ | refine g_shr rfl rfl rfl (by decide) ?_ | refine g_rem rfl rfl rfl (by first | decide | omega) ?_ | refine g_len rfl rfl ?_ | refine g_lenS Tryz.underlying9 rfl rfl ?_ | refine g_box rfl (by (conv => lhs; whnf); try rfl) (by (conv => lhs; whnf); try rfl) (by rfl) ?_ | refine g_alloc rfl rfl ?_ | refine g_store rfl rfl rfl (by (conv => lhs; whnf); try rfl) (by (conv => lhs; whnf); try rfl) (by rfl) (by rfl) (Nat.le_of_ble_eq_true rfl) (by (conv => lhs; whnf); try rfl) ?_ | refine g_build rfl rfl ?_ | refine g_buildSlice rfl rfl rfl (by rfl) (by decide) (by (conv => lhs; whnf); try rfl) ?_ | refine g_extract rfl rfl rfl ?_ | refine g_not rfl rfl ?_ | refine g_pick rfl rfl (by (conv => lhs; whnf); try rfl) ?_ | refine g_field rfl rfl rfl ?_ | refine go_endF ?_ | refine go_endT (by kernel_rfl) ?_ | refine pws_seq ?_ | refine pws_regionL ?_ | refine pws_block ?_ | refine pws_skip ?_ | refine pws_ret ?_ | refine pws_exit ?_ | refine pws_nil ?_ | refine bk_exit ?_ | refine bk_ret ?_ | refine bk_normal ?_ | refine rk_exit ?_ | refine rk_ret ?_)
          refine pws_loop (α := Nat) (fun k _ => mkS [(1, strsV G), (2, .int .i64 right), (4, .ptr 4 (1, 4) 0), (27, .sl ((levelsL t).map Scope.cs)), (28, .int .i64 ((levelsL t).length : Int)), (29, .int .i64 (i : Int)), (10, .ptr 10 (1, 10) 0), (11, .bool ((p.rules.take k).any (ruleHits G right lv))), (12, .bool ((p.rules.take k).all fun r => !ruleHits G right lv r || r.allow)), (34, .sl (p.rules.map Rule.cs)), (35, .int .i64 (p.rules.length : Int)), (36, .int .i64 ((k : Nat) : Int))] [(4, some ((1, 4), .box p.cs)), (10, some ((1, 10), .box lv.cs))] 2)
            (fun k => k ≤ p.rules.length) (fun k => p.rules.length - k) 0 2 (Nat.zero_le _)
            (shift_ren [((1, 4), (1, 4)), ((1, 10), _)] ⟨rfl, rfl, rfl, rfl, rfl, rfl, rfl, rfl, rfl, rfl, ?_, rfl, trivial⟩ ⟨⟨rfl, rfl⟩, ⟨rfl, rfl⟩, trivial⟩ rfl) (fun k _ (hk : k ≤ p.rules.length) => ?_)
          · show some (PV.int .i64 (p.rules.length : Int)) = some (PV.int .i64 ((p.rules.map Rule.cs).length : Int))
            rw [List.length_map]
          repeat (first | refine g_move rfl (by (conv => lhs; whnf); try rfl) ?_ | refine g_load rfl rfl rfl ?_ | refine g_fieldAddr rfl rfl ?_ | refine g_assign rfl (by (conv => lhs; whnf); try rfl) ?_ | refine g_inc rfl rfl (by omega) ?_ | refine g_add rfl rfl rfl (by omega) (by omega) ?_ | refine g_dec rfl rfl rfl (by omega) ?_ | refine g_sub rfl rfl rfl (by omega) (by omega) ?_ | refine g_int rfl rfl rfl rfl (by (conv => lhs; whnf); try rfl) ?_ | refine g_str rfl rfl rfl rfl (by (conv => lhs; whnf); try rfl) ?_ | refine g_nil rfl rfl ?_ | refine g_build_ar rfl rfl ?_ | refine g_conv rfl rfl ?_ | refine g_bits rfl rfl rfl rfl ?_ | refine g_shr rfl rfl rfl (by decide) ?_ | refine g_rem rfl rfl rfl (by first | decide | omega) ?_ | refine g_len rfl rfl ?_ | refine g_lenS Tryz.underlying9 rfl rfl ?_ | refine g_box rfl (by (conv => lhs; whnf); try rfl) (by (conv => lhs; whnf); try rfl) (by rfl) ?_ | refine g_alloc rfl rfl ?_ | refine g_store rfl rfl rfl (by (conv => lhs; whnf); try rfl) (by (conv => lhs; whnf); try rfl) (by rfl) (by rfl) (Nat.le_of_ble_eq_true rfl) (by (conv => lhs; whnf); try rfl) ?_ | refine g_build rfl rfl ?_ | refine g_buildSlice rfl rfl rfl (by rfl) (by decide) (by (conv => lhs; whnf); try rfl) ?_ | refine g_extract rfl rfl rfl ?_ | refine g_not rfl rfl ?_ | refine g_pick rfl rfl (by (conv => lhs; whnf); try rfl) ?_ | refine g_field rfl rfl rfl ?_ | refine go_endF ?_ | refine go_endT (by kernel_rfl) ?_ | refine pws_seq ?_ | refine pws_regionL ?_ | refine pws_block ?_ | refine pws_skip ?_ | refine pws_ret ?_ | refine pws_exit ?_ | refine pws_nil ?_ | refine bk_exit ?_ | refine bk_ret ?_ | refine bk_normal ?_ | refine rk_exit ?_ | refine rk_ret ?_)
          by_cases hlk : (k : Int) < (p.rules.length : Int)
          · refine pws_condT (by (conv => lhs; whnf); try rfl) (decide_eq_true hlk) ?_
            have hlk' : k < p.rules.length := by omega
            obtain ⟨r, hr⟩ : ∃ r, p.rules[k]? = some r := ⟨_, List.getElem?_eq_getElem hlk'⟩
            have hcr : (p.rules.map Rule.cs)[k]? = some r.cs := by rw [List.getElem?_map, hr]; rfl
            have hany : (p.rules.take (k + 1)).any (ruleHits G right lv) = ((p.rules.take k).any (ruleHits G right lv) || ruleHits G right lv r) := any_take hr
            have hall : (p.rules.take (k + 1)).all (fun r => !ruleHits G right lv r || r.allow) = ((p.rules.take k).all (fun r => !ruleHits G right lv r || r.allow) && (!ruleHits G right lv r || r.allow)) := all_take (f := fun r => !ruleHits G right lv r || r.allow) hr
            have hms : p.rules.length - (k + 1) < p.rules.length - k := by omega
            repeat (first | (refine g_index_sl rfl rfl rfl hcr rfl ?_) | refine g_move rfl (by (conv => lhs; whnf); try rfl) ?_ | refine g_load rfl rfl rfl ?_ | refine g_fieldAddr rfl rfl ?_ | refine g_assign rfl (by (conv => lhs; whnf); try rfl) ?_ | refine g_inc rfl rfl (by omega) ?_ | refine g_add rfl rfl rfl (by omega) (by omega) ?_ | refine g_dec rfl rfl rfl (by omega) ?_ | refine g_sub rfl rfl rfl (by omega) (by omega) ?_ | refine g_int rfl rfl rfl rfl (by (conv => lhs; whnf); try rfl) ?_ | refine g_str rfl rfl rfl rfl (by (conv => lhs; whnf); try rfl) ?_ | refine g_nil rfl rfl ?_ | refine g_build_ar rfl rfl ?_ | refine g_conv rfl rfl ?_ | refine g_bits rfl rfl rfl rfl ?_ | refine g_shr rfl rfl rfl (by decide) ?_ | refine g_rem rfl rfl rfl (by first | decide | omega) ?_ | refine g_len rfl rfl ?_ | refine g_lenS Tryz.underlying9 rfl rfl ?_ | refine g_box rfl (by (conv => lhs; whnf); try rfl) (by (conv => lhs; whnf); try rfl) (by rfl) ?_ | refine g_alloc rfl rfl ?_ | refine g_store rfl rfl rfl (by (conv => lhs; whnf); try rfl) (by (conv => lhs; whnf); try rfl) (by rfl) (by rfl) (Nat.le_of_ble_eq_true rfl) (by (conv => lhs; whnf); try rfl) ?_ | refine g_build rfl rfl ?_ | refine g_buildSlice rfl rfl rfl (by rfl) (by decide) (by (conv => lhs; whnf); try rfl) ?_ | refine g_extract rfl rfl rfl ?_ | refine g_not rfl rfl ?_ | refine g_pick rfl rfl (by (conv => lhs; whnf); try rfl) ?_ | refine g_field rfl rfl rfl ?_ | refine go_endF ?_ | refine go_endT (by kernel_rfl) ?_ | refine pws_seq ?_ | refine pws_regionL ?_ | refine pws_block ?_ | refine pws_skip ?_ | refine pws_ret ?_ | refine pws_exit ?_ | refine pws_nil ?_ | refine bk_exit ?_ | refine bk_ret ?_ | refine bk_normal ?_ | refine rk_exit ?_ | refine rk_ret ?_)
            by_cases e1 : r.right = right
            · rw [decide_eq_true e1]
              repeat (first | (refine g_call (contains_c G _) rfl rfl ?_) | refine g_move rfl (by (conv => lhs; whnf); try rfl) ?_ | refine g_load rfl rfl rfl ?_ | refine g_fieldAddr rfl rfl ?_ | refine g_assign rfl (by (conv => lhs; whnf); try rfl) ?_ | refine g_inc rfl rfl (by omega) ?_ | refine g_add rfl rfl rfl (by omega) (by omega) ?_ | refine g_dec rfl rfl rfl (by omega) ?_ | refine g_sub rfl rfl rfl (by omega) (by omega) ?_ | refine g_int rfl rfl rfl rfl (by (conv => lhs; whnf); try rfl) ?_ | refine g_str rfl rfl rfl rfl (by (conv => lhs; whnf); try rfl) ?_ | refine g_nil rfl rfl ?_ | refine g_build_ar rfl rfl ?_ | refine g_conv rfl rfl ?_ | refine g_bits rfl rfl rfl rfl ?_ | refine g_shr rfl rfl rfl (by decide) ?_ | refine g_rem rfl rfl rfl (by first | decide | omega) ?_ | refine g_len rfl rfl ?_ | refine g_lenS Tryz.underlying9 rfl rfl ?_ | refine g_box rfl (by (conv => lhs; whnf); try rfl) (by (conv => lhs; whnf); try rfl) (by rfl) ?_ | refine g_alloc rfl rfl ?_ | refine g_store rfl rfl rfl (by (conv => lhs; whnf); try rfl) (by (conv => lhs; whnf); try rfl) (by rfl) (by rfl) (Nat.le_of_ble_eq_true rfl) (by (conv => lhs; whnf); try rfl) ?_ | refine g_build rfl rfl ?_ | refine g_buildSlice rfl rfl rfl (by rfl) (by decide) (by (conv => lhs; whnf); try rfl) ?_ | refine g_extract rfl rfl rfl ?_ | refine g_not rfl rfl ?_ | refine g_pick rfl rfl (by (conv => lhs; whnf); try rfl) ?_ | refine g_field rfl rfl rfl ?_ | refine go_endF ?_ | refine go_endT (by kernel_rfl) ?_ | refine pws_seq ?_ | refine pws_regionL ?_ | refine pws_block ?_ | refine pws_skip ?_ | refine pws_ret ?_ | refine pws_exit ?_ | refine pws_nil ?_ | refine bk_exit ?_ | refine bk_ret ?_ | refine bk_normal ?_ | refine rk_exit ?_ | refine rk_ret ?_)
              rcases Bool.eq_false_or_eq_true (hasL G r.group) with e2 | e2
              · rw [e2]
                repeat (first | (refine g_call (covers_c r.scope lv) rfl rfl ?_) | refine g_move rfl (by (conv => lhs; whnf); try rfl) ?_ | refine g_load rfl rfl rfl ?_ | refine g_fieldAddr rfl rfl ?_ | refine g_assign rfl (by (conv => lhs; whnf); try rfl) ?_ | refine g_inc rfl rfl (by omega) ?_ | refine g_add rfl rfl rfl (by omega) (by omega) ?_ | refine g_dec rfl rfl rfl (by omega) ?_ | refine g_sub rfl rfl rfl (by omega) (by omega) ?_ | refine g_int rfl rfl rfl rfl (by (conv => lhs; whnf); try rfl) ?_ | refine g_str rfl rfl rfl rfl (by (conv => lhs; whnf); try rfl) ?_ | refine g_nil rfl rfl ?_ | refine g_build_ar rfl rfl ?_ | refine g_conv rfl rfl ?_ | refine g_bits rfl rfl rfl rfl ?_ | refine g_shr rfl rfl rfl (by decide) ?_ | refine g_rem rfl rfl rfl (by first | decide | omega) ?_ | refine g_len rfl rfl ?_ | refine g_lenS Tryz.underlying9 rfl rfl ?_ | refine g_box rfl (by (conv => lhs; whnf); try rfl) (by (conv => lhs; whnf); try rfl) (by rfl) ?_ | refine g_alloc rfl rfl ?_ | refine g_store rfl rfl rfl (by (conv => lhs; whnf); try rfl) (by (conv => lhs; whnf); try rfl) (by rfl) (by rfl) (Nat.le_of_ble_eq_true rfl) (by (conv => lhs; whnf); try rfl) ?_ | refine g_build rfl rfl ?_ | refine g_buildSlice rfl rfl rfl (by rfl) (by decide) (by (conv => lhs; whnf); try rfl) ?_ | refine g_extract rfl rfl rfl ?_ | refine g_not rfl rfl ?_ | refine g_pick rfl rfl (by (conv => lhs; whnf); try rfl) ?_ | refine g_field rfl rfl rfl ?_ | refine go_endF ?_ | refine go_endT (by kernel_rfl) ?_ | refine pws_seq ?_ | refine pws_regionL ?_ | refine pws_block ?_ | refine pws_skip ?_ | refine pws_ret ?_ | refine pws_exit ?_ | refine pws_nil ?_ | refine bk_exit ?_ | refine bk_ret ?_ | refine bk_normal ?_ | refine rk_exit ?_ | refine rk_ret ?_)
                have hf : ruleHits G right lv r = matchB r.scope lv := by unfold ruleHits; rw [decide_eq_true e1, e2]; rfl
                rcases Bool.eq_false_or_eq_true (matchB r.scope lv) with e3 | e3
                · refine pws_condT (by (conv => lhs; whnf); try rfl) e3 ?_
                  rw [hf, e3] at hany hall
                  simp only [Bool.or_true, Bool.not_true, Bool.false_or] at hany hall
                  rcases Bool.eq_false_or_eq_true ((p.rules.take k).all fun r => !ruleHits G right lv r || r.allow) with e4 | e4
                  · rw [e4]
                    rw [e4, Bool.true_and] at hall
                    repeat (first | refine g_move rfl (by (conv => lhs; whnf); try rfl) ?_ | refine g_load rfl rfl rfl ?_ | refine g_fieldAddr rfl rfl ?_ | refine g_assign rfl (by (conv => lhs; whnf); try rfl) ?_ | refine g_inc rfl rfl (by omega) ?_ | refine g_add rfl rfl rfl (by omega) (by omega) ?_ | refine g_dec rfl rfl rfl (by omega) ?_ | refine g_sub rfl rfl rfl (by omega) (by omega) ?_ | refine g_int rfl rfl rfl rfl (by (conv => lhs; whnf); try rfl) ?_ | refine g_str rfl rfl rfl rfl (by (conv => lhs; whnf); try rfl) ?_ | refine g_nil rfl rfl ?_ | refine g_build_ar rfl rfl ?_ | refine g_conv rfl rfl ?_ | refine g_bits rfl rfl rfl rfl ?_ | refine g_shr rfl rfl rfl (by decide) ?_ | refine g_rem rfl rfl rfl (by first | decide | omega) ?_ | refine g_len rfl rfl ?_ | refine g_lenS Tryz.underlying9 rfl rfl ?_ | refine g_box rfl (by (conv => lhs; whnf); try rfl) (by (conv => lhs; whnf); try rfl) (by rfl) ?_ | refine g_alloc rfl rfl ?_ | refine g_store rfl rfl rfl (by (conv => lhs; whnf); try rfl) (by (conv => lhs; whnf); try rfl) (by rfl) (by rfl) (Nat.le_of_ble_eq_true rfl) (by (conv => lhs; whnf); try rfl) ?_ | refine g_build rfl rfl ?_ | refine g_buildSlice rfl rfl rfl (by rfl) (by decide) (by (conv => lhs; whnf); try rfl) ?_ | refine g_extract rfl rfl rfl ?_ | refine g_not rfl rfl ?_ | refine g_pick rfl rfl (by (conv => lhs; whnf); try rfl) ?_ | refine g_field rfl rfl rfl ?_ | refine go_endF ?_ | refine go_endT (by kernel_rfl) ?_ | refine pws_seq ?_ | refine pws_regionL ?_ | refine pws_block ?_ | refine pws_skip ?_ | refine pws_ret ?_ | refine pws_exit ?_ | refine pws_nil ?_ | refine bk_exit ?_ | refine bk_ret ?_ | refine bk_normal ?_ | refine rk_exit ?_ | refine rk_ret ?_)
                    refine rk_normal (k + 1) 2 hlk' hms (shift_ren [((1, 4), (1, 4)), ((1, 10), (1, 10))] ⟨rfl, rfl, rfl, rfl, rfl, rfl, rfl, ?_, ?_, rfl, rfl, rfl, trivial⟩ ⟨⟨rfl, rfl⟩, ⟨rfl, rfl⟩, trivial⟩ rfl)
                    · rw [hany]; rfl
                    · rw [hall]; rfl
                  · rw [e4]
                    rw [e4, Bool.false_and] at hall
                    repeat (first | (refine g_skip rfl ?_) | refine g_move rfl (by (conv => lhs; whnf); try rfl) ?_ | refine g_load rfl rfl rfl ?_ | refine g_fieldAddr rfl rfl ?_ | refine g_assign rfl (by (conv => lhs; whnf); try rfl) ?_ | refine g_inc rfl rfl (by omega) ?_ | refine g_add rfl rfl rfl (by omega) (by omega) ?_ | refine g_dec rfl rfl rfl (by omega) ?_ | refine g_sub rfl rfl rfl (by omega) (by omega) ?_ | refine g_int rfl rfl rfl rfl (by (conv => lhs; whnf); try rfl) ?_ | refine g_str rfl rfl rfl rfl (by (conv => lhs; whnf); try rfl) ?_ | refine g_nil rfl rfl ?_ | refine g_build_ar rfl rfl ?_ | refine g_conv rfl rfl ?_ | refine g_bits rfl rfl rfl rfl ?_ | refine g_shr rfl rfl rfl (by decide) ?_ | refine g_rem rfl rfl rfl (by first | decide | omega) ?_ | refine g_len rfl rfl ?_ | refine g_lenS Tryz.underlying9 rfl rfl ?_ | refine g_box rfl (by (conv => lhs; whnf); try rfl) (by (conv => lhs; whnf); try rfl) (by rfl) ?_ | refine g_alloc rfl rfl ?_ | refine g_store rfl rfl rfl (by (conv => lhs; whnf); try rfl) (by (conv => lhs; whnf); try rfl) (by rfl) (by rfl) (Nat.le_of_ble_eq_true rfl) (by (conv => lhs; whnf); try rfl) ?_ | refine g_build rfl rfl ?_ | refine g_buildSlice rfl rfl rfl (by rfl) (by decide) (by (conv => lhs; whnf); try rfl) ?_ | refine g_extract rfl rfl rfl ?_ | refine g_not rfl rfl ?_ | refine g_pick rfl rfl (by (conv => lhs; whnf); try rfl) ?_ | refine g_field rfl rfl rfl ?_ | refine go_endF ?_ | refine go_endT (by kernel_rfl) ?_ | refine pws_seq ?_ | refine pws_regionL ?_ | refine pws_block ?_ | refine pws_skip ?_ | refine pws_ret ?_ | refine pws_exit ?_ | refine pws_nil ?_ | refine bk_exit ?_ | refine bk_ret ?_ | refine bk_normal ?_ | refine rk_exit ?_ | refine rk_ret ?_)
                    refine rk_normal (k + 1) 2 hlk' hms (shift_ren [((1, 4), (1, 4)), ((1, 10), (1, 10))] ⟨rfl, rfl, rfl, rfl, rfl, rfl, rfl, ?_, ?_, rfl, rfl, rfl, trivial⟩ ⟨⟨rfl, rfl⟩, ⟨rfl, rfl⟩, trivial⟩ rfl)
                    · rw [hany]; rfl
                    · rw [hall]; rfl
                · refine pws_condF (by (conv => lhs; whnf); try rfl) e3 ?_
                  rw [hf, e3] at hany hall
                  simp only [Bool.or_false, Bool.not_false, Bool.true_or, Bool.and_true] at hany hall
                  repeat (first | refine g_move rfl (by (conv => lhs; whnf); try rfl) ?_ | refine g_load rfl rfl rfl ?_ | refine g_fieldAddr rfl rfl ?_ | refine g_assign rfl (by (conv => lhs; whnf); try rfl) ?_ | refine g_inc rfl rfl (by omega) ?_ | refine g_add rfl rfl rfl (by omega) (by omega) ?_ | refine g_dec rfl rfl rfl (by omega) ?_ | refine g_sub rfl rfl rfl (by omega) (by omega) ?_ | refine g_int rfl rfl rfl rfl (by (conv => lhs; whnf); try rfl) ?_ | refine g_str rfl rfl rfl rfl (by (conv => lhs; whnf); try rfl) ?_ | refine g_nil rfl rfl ?_ | refine g_build_ar rfl rfl ?_ | refine g_conv rfl rfl ?_ | refine g_bits rfl rfl rfl rfl ?_ | refine g_shr rfl rfl rfl (by decide) ?_ | refine g_rem rfl rfl rfl (by first | decide | omega) ?_ | refine g_len rfl rfl ?_ | refine g_lenS Tryz.underlying9 rfl rfl ?_ | refine g_box rfl (by (conv => lhs; whnf); try rfl) (by (conv => lhs; whnf); try rfl) (by rfl) ?_ | refine g_alloc rfl rfl ?_ | refine g_store rfl rfl rfl (by (conv => lhs; whnf); try rfl) (by (conv => lhs; whnf); try rfl) (by rfl) (by rfl) (Nat.le_of_ble_eq_true rfl) (by (conv => lhs; whnf); try rfl) ?_ | refine g_build rfl rfl ?_ | refine g_buildSlice rfl rfl rfl (by rfl) (by decide) (by (conv => lhs; whnf); try rfl) ?_ | refine g_extract rfl rfl rfl ?_ | refine g_not rfl rfl ?_ | refine g_pick rfl rfl (by (conv => lhs; whnf); try rfl) ?_ | refine g_field rfl rfl rfl ?_ | refine go_endF ?_ | refine go_endT (by kernel_rfl) ?_ | refine pws_seq ?_ | refine pws_regionL ?_ | refine pws_block ?_ | refine pws_skip ?_ | refine pws_ret ?_ | refine pws_exit ?_ | refine pws_nil ?_ | refine bk_exit ?_ | refine bk_ret ?_ | refine bk_normal ?_ | refine rk_exit ?_ | refine rk_ret ?_)
                  refine rk_normal (k + 1) 2 hlk' hms (shift_ren [((1, 4), (1, 4)), ((1, 10), (1, 10))] ⟨rfl, rfl, rfl, rfl, rfl, rfl, rfl, ?_, ?_, rfl, rfl, rfl, trivial⟩ ⟨⟨rfl, rfl⟩, ⟨rfl, rfl⟩, trivial⟩ rfl)
                  · rw [hany]; rfl
                  · rw [hall]; rfl
              · rw [e2]
                have hf : ruleHits G right lv r = false := by unfold ruleHits; rw [decide_eq_true e1, e2]; rfl
                rw [hf] at hany hall
                simp only [Bool.or_false, Bool.not_false, Bool.true_or, Bool.and_true] at hany hall
                repeat (first | (refine g_skip rfl ?_) | refine g_move rfl (by (conv => lhs; whnf); try rfl) ?_ | refine g_load rfl rfl rfl ?_ | refine g_fieldAddr rfl rfl ?_ | refine g_assign rfl (by (conv => lhs; whnf); try rfl) ?_ | refine g_inc rfl rfl (by omega) ?_ | refine g_add rfl rfl rfl (by omega) (by omega) ?_ | refine g_dec rfl rfl rfl (by omega) ?_ | refine g_sub rfl rfl rfl (by omega) (by omega) ?_ | refine g_int rfl rfl rfl rfl (by (conv => lhs; whnf); try rfl) ?_ | refine g_str rfl rfl rfl rfl (by (conv => lhs; whnf); try rfl) ?_ | refine g_nil rfl rfl ?_ | refine g_build_ar rfl rfl ?_ | refine g_conv rfl rfl ?_ | refine g_bits rfl rfl rfl rfl ?_ | refine g_shr rfl rfl rfl (by decide) ?_ | refine g_rem rfl rfl rfl (by first | decide | omega) ?_ | refine g_len rfl rfl ?_ | refine g_lenS Tryz.underlying9 rfl rfl ?_ | refine g_box rfl (by (conv => lhs; whnf); try rfl) (by (conv => lhs; whnf); try rfl) (by rfl) ?_ | refine g_alloc rfl rfl ?_ | refine g_store rfl rfl rfl (by (conv => lhs; whnf); try rfl) (by (conv => lhs; whnf); try rfl) (by rfl) (by rfl) (Nat.le_of_ble_eq_true rfl) (by (conv => lhs; whnf); try rfl) ?_ | refine g_build rfl rfl ?_ | refine g_buildSlice rfl rfl rfl (by rfl) (by decide) (by (conv => lhs; whnf); try rfl) ?_ | refine g_extract rfl rfl rfl ?_ | refine g_not rfl rfl ?_ | refine g_pick rfl rfl (by (conv => lhs; whnf); try rfl) ?_ | refine g_field rfl rfl rfl ?_ | refine go_endF ?_ | refine go_endT (by kernel_rfl) ?_ | refine pws_seq ?_ | refine pws_regionL ?_ | refine pws_block ?_ | refine pws_skip ?_ | refine pws_ret ?_ | refine pws_exit ?_ | refine pws_nil ?_ | refine bk_exit ?_ | refine bk_ret ?_ | refine bk_normal ?_ | refine rk_exit ?_ | refine rk_ret ?_)
                refine pws_condF (by (conv => lhs; whnf); try rfl) rfl ?_
                repeat (first | refine g_move rfl (by (conv => lhs; whnf); try rfl) ?_ | refine g_load rfl rfl rfl ?_ | refine g_fieldAddr rfl rfl ?_ | refine g_assign rfl (by (conv => lhs; whnf); try rfl) ?_ | refine g_inc rfl rfl (by omega) ?_ | refine g_add rfl rfl rfl (by omega) (by omega) ?_ | refine g_dec rfl rfl rfl (by omega) ?_ | refine g_sub rfl rfl rfl (by omega) (by omega) ?_ | refine g_int rfl rfl rfl rfl (by (conv => lhs; whnf); try rfl) ?_ | refine g_str rfl rfl rfl rfl (by (conv => lhs; whnf); try rfl) ?_ | refine g_nil rfl rfl ?_ | refine g_build_ar rfl rfl ?_ | refine g_conv rfl rfl ?_ | refine g_bits rfl rfl rfl rfl ?_ | refine g_shr rfl rfl rfl (by decide) ?_ | refine g_rem rfl rfl rfl (by first | decide | omega) ?_ | refine g_len rfl rfl ?_ | refine g_lenS Tryz.underlying9 rfl rfl ?_ | refine g_box rfl (by (conv => lhs; whnf); try rfl) (by (conv => lhs; whnf); try rfl) (by rfl) ?_ | refine g_alloc rfl rfl ?_ | refine g_store rfl rfl rfl (by (conv => lhs; whnf); try rfl) (by (conv => lhs; whnf); try rfl) (by rfl) (by rfl) (Nat.le_of_ble_eq_true rfl) (by (conv => lhs; whnf); try rfl) ?_ | refine g_build rfl rfl ?_ | refine g_buildSlice rfl rfl rfl (by rfl) (by decide) (by (conv => lhs; whnf); try rfl) ?_ | refine g_extract rfl rfl rfl ?_ | refine g_not rfl rfl ?_ | refine g_pick rfl rfl (by (conv => lhs; whnf); try rfl) ?_ | refine g_field rfl rfl rfl ?_ | refine go_endF ?_ | refine go_endT (by kernel_rfl) ?_ | refine pws_seq ?_ | refine pws_regionL ?_ | refine pws_block ?_ | refine pws_skip ?_ | refine pws_ret ?_ | refine pws_exit ?_ | refine pws_nil ?_ | refine bk_exit ?_ | refine bk_ret ?_ | refine bk_normal ?_ | refine rk_exit ?_ | refine rk_ret ?_)
                refine rk_normal (k + 1) 2 hlk' hms (shift_ren [((1, 4), (1, 4)), ((1, 10), (1, 10))] ⟨rfl, rfl, rfl, rfl, rfl, rfl, rfl, ?_, ?_, rfl, rfl, rfl, trivial⟩ ⟨⟨rfl, rfl⟩, ⟨rfl, rfl⟩, trivial⟩ rfl)
                · rw [hany]; rfl
                · rw [hall]; rfl
            · rw [decide_eq_false e1]
              have hf : ruleHits G right lv r = false := by unfold ruleHits; rw [decide_eq_false e1]; rfl
              rw [hf] at hany hall
              simp only [Bool.or_false, Bool.not_false, Bool.true_or, Bool.and_true] at hany hall
              repeat (first | (refine g_skip rfl ?_) | refine g_move rfl (by (conv => lhs; whnf); try rfl) ?_ | refine g_load rfl rfl rfl ?_ | refine g_fieldAddr rfl rfl ?_ | refine g_assign rfl (by (conv => lhs; whnf); try rfl) ?_ | refine g_inc rfl rfl (by omega) ?_ | refine g_add rfl rfl rfl (by omega) (by omega) ?_ | refine g_dec rfl rfl rfl (by omega) ?_ | refine g_sub rfl rfl rfl (by omega) (by omega) ?_ | refine g_int rfl rfl rfl rfl (by (conv => lhs; whnf); try rfl) ?_ | refine g_str rfl rfl rfl rfl (by (conv => lhs; whnf); try rfl) ?_ | refine g_nil rfl rfl ?_ | refine g_build_ar rfl rfl ?_ | refine g_conv rfl rfl ?_ | refine g_bits rfl rfl rfl rfl ?_ | refine g_shr rfl rfl rfl (by decide) ?_ | refine g_rem rfl rfl rfl (by first | decide | omega) ?_ | refine g_len rfl rfl ?_ | refine g_lenS Tryz.underlying9 rfl rfl ?_ | refine g_box rfl (by (conv => lhs; whnf); try rfl) (by (conv => lhs; whnf); try rfl) (by rfl) ?_ | refine g_alloc rfl rfl ?_ | refine g_store rfl rfl rfl (by (conv => lhs; whnf); try rfl) (by (conv => lhs; whnf); try rfl) (by rfl) (by rfl) (Nat.le_of_ble_eq_true rfl) (by (conv => lhs; whnf); try rfl) ?_ | refine g_build rfl rfl ?_ | refine g_buildSlice rfl rfl rfl (by rfl) (by decide) (by (conv => lhs; whnf); try rfl) ?_ | refine g_extract rfl rfl rfl ?_ | refine g_not rfl rfl ?_ | refine g_pick rfl rfl (by (conv => lhs; whnf); try rfl) ?_ | refine g_field rfl rfl rfl ?_ | refine go_endF ?_ | refine go_endT (by kernel_rfl) ?_ | refine pws_seq ?_ | refine pws_regionL ?_ | refine pws_block ?_ | refine pws_skip ?_ | refine pws_ret ?_ | refine pws_exit ?_ | refine pws_nil ?_ | refine bk_exit ?_ | refine bk_ret ?_ | refine bk_normal ?_ | refine rk_exit ?_ | refine rk_ret ?_)
              refine pws_condF (by (conv => lhs; whnf); try rfl) rfl ?_
              repeat (first | refine g_move rfl (by (conv => lhs; whnf); try rfl) ?_ | refine g_load rfl rfl rfl ?_ | refine g_fieldAddr rfl rfl ?_ | refine g_assign rfl (by (conv => lhs; whnf); try rfl) ?_ | refine g_inc rfl rfl (by omega) ?_ | refine g_add rfl rfl rfl (by omega) (by omega) ?_ | refine g_dec rfl rfl rfl (by omega) ?_ | refine g_sub rfl rfl rfl (by omega) (by omega) ?_ | refine g_int rfl rfl rfl rfl (by (conv => lhs; whnf); try rfl) ?_ | refine g_str rfl rfl rfl rfl (by (conv => lhs; whnf); try rfl) ?_ | refine g_nil rfl rfl ?_ | refine g_build_ar rfl rfl ?_ | refine g_conv rfl rfl ?_ | refine g_bits rfl rfl rfl rfl ?_ | refine g_shr rfl rfl rfl (by decide) ?_ | refine g_rem rfl rfl rfl (by first | decide | omega) ?_ | refine g_len rfl rfl ?_ | refine g_lenS Tryz.underlying9 rfl rfl ?_ | refine g_box rfl (by (conv => lhs; whnf); try rfl) (by (conv => lhs; whnf); try rfl) (by rfl) ?_ | refine g_alloc rfl rfl ?_ | refine g_store rfl rfl rfl (by (conv => lhs; whnf); try rfl) (by (conv => lhs; whnf); try rfl) (by rfl) (by rfl) (Nat.le_of_ble_eq_true rfl) (by (conv => lhs; whnf); try rfl) ?_ | refine g_build rfl rfl ?_ | refine g_buildSlice rfl rfl rfl (by rfl) (by decide) (by (conv => lhs; whnf); try rfl) ?_ | refine g_extract rfl rfl rfl ?_ | refine g_not rfl rfl ?_ | refine g_pick rfl rfl (by (conv => lhs; whnf); try rfl) ?_ | refine g_field rfl rfl rfl ?_ | refine go_endF ?_ | refine go_endT (by kernel_rfl) ?_ | refine pws_seq ?_ | refine pws_regionL ?_ | refine pws_block ?_ | refine pws_skip ?_ | refine pws_ret ?_ | refine pws_exit ?_ | refine pws_nil ?_ | refine bk_exit ?_ | refine bk_ret ?_ | refine bk_normal ?_ | refine rk_exit ?_ | refine rk_ret ?_)
              refine rk_normal (k + 1) 2 hlk' hms (shift_ren [((1, 4), (1, 4)), ((1, 10), (1, 10))] ⟨rfl, rfl, rfl, rfl, rfl, rfl, rfl, ?_, ?_, rfl, rfl, rfl, trivial⟩ ⟨⟨rfl, rfl⟩, ⟨rfl, rfl⟩, trivial⟩ rfl)
              · rw [hany]; rfl
              · rw [hall]; rfl
          · refine pws_condF (by (conv => lhs; whnf); try rfl) (decide_eq_false hlk) ?_
            obtain rfl : k = p.rules.length := by omega
            rw [List.take_length]
            repeat (first | refine g_move rfl (by (conv => lhs; whnf); try rfl) ?_ | refine g_load rfl rfl rfl ?_ | refine g_fieldAddr rfl rfl ?_ | refine g_assign rfl (by (conv => lhs; whnf); try rfl) ?_ | refine g_inc rfl rfl (by omega) ?_ | refine g_add rfl rfl rfl (by omega) (by omega) ?_ | refine g_dec rfl rfl rfl (by omega) ?_ | refine g_sub rfl rfl rfl (by omega) (by omega) ?_ | refine g_int rfl rfl rfl rfl (by (conv => lhs; whnf); try rfl) ?_ | refine g_str rfl rfl rfl rfl (by (conv => lhs; whnf); try rfl) ?_ | refine g_nil rfl rfl ?_ | refine g_build_ar rfl rfl ?_ | refine g_conv rfl rfl ?_ | refine g_bits rfl rfl rfl rfl ?_ | refine g_shr rfl rfl rfl (by decide) ?_ | refine g_rem rfl rfl rfl (by first | decide | omega) ?_ | refine g_len rfl rfl ?_ | refine g_lenS Tryz.underlying9 rfl rfl ?_ | refine g_box rfl (by (conv => lhs; whnf); try rfl) (by (conv => lhs; whnf); try rfl) (by rfl) ?_ | refine g_alloc rfl rfl ?_ | refine g_store rfl rfl rfl (by (conv => lhs; whnf); try rfl) (by (conv => lhs; whnf); try rfl) (by rfl) (by rfl) (Nat.le_of_ble_eq_true rfl) (by (conv => lhs; whnf); try rfl) ?_ | refine g_build rfl rfl ?_ | refine g_buildSlice rfl rfl rfl (by rfl) (by decide) (by (conv => lhs; whnf); try rfl) ?_ | refine g_extract rfl rfl rfl ?_ | refine g_not rfl rfl ?_ | refine g_pick rfl rfl (by (conv => lhs; whnf); try rfl) ?_ | refine g_field rfl rfl rfl ?_ | refine go_endF ?_ | refine go_endT (by kernel_rfl) ?_ | refine pws_seq ?_ | refine pws_regionL ?_ | refine pws_block ?_ | refine pws_skip ?_ | refine pws_ret ?_ | refine pws_exit ?_ | refine pws_nil ?_ | refine bk_exit ?_ | refine bk_ret ?_ | refine bk_normal ?_ | refine rk_exit ?_ | refine rk_ret ?_)
            rcases Bool.eq_false_or_eq_true (p.rules.any (ruleHits G right lv)) with e5 | e5
            · refine pws_condT (by (conv => lhs; whnf); try rfl) e5 ?_
              rw [if_pos e5] at hno
              repeat (first | refine g_move rfl (by (conv => lhs; whnf); try rfl) ?_ | refine g_load rfl rfl rfl ?_ | refine g_fieldAddr rfl rfl ?_ | refine g_assign rfl (by (conv => lhs; whnf); try rfl) ?_ | refine g_inc rfl rfl (by omega) ?_ | refine g_add rfl rfl rfl (by omega) (by omega) ?_ | refine g_dec rfl rfl rfl (by omega) ?_ | refine g_sub rfl rfl rfl (by omega) (by omega) ?_ | refine g_int rfl rfl rfl rfl (by (conv => lhs; whnf); try rfl) ?_ | refine g_str rfl rfl rfl rfl (by (conv => lhs; whnf); try rfl) ?_ | refine g_nil rfl rfl ?_ | refine g_build_ar rfl rfl ?_ | refine g_conv rfl rfl ?_ | refine g_bits rfl rfl rfl rfl ?_ | refine g_shr rfl rfl rfl (by decide) ?_ | refine g_rem rfl rfl rfl (by first | decide | omega) ?_ | refine g_len rfl rfl ?_ | refine g_lenS Tryz.underlying9 rfl rfl ?_ | refine g_box rfl (by (conv => lhs; whnf); try rfl) (by (conv => lhs; whnf); try rfl) (by rfl) ?_ | refine g_alloc rfl rfl ?_ | refine g_store rfl rfl rfl (by (conv => lhs; whnf); try rfl) (by (conv => lhs; whnf); try rfl) (by rfl) (by rfl) (Nat.le_of_ble_eq_true rfl) (by (conv => lhs; whnf); try rfl) ?_ | refine g_build rfl rfl ?_ | refine g_buildSlice rfl rfl rfl (by rfl) (by decide) (by (conv => lhs; whnf); try rfl) ?_ | refine g_extract rfl rfl rfl ?_ | refine g_not rfl rfl ?_ | refine g_pick rfl rfl (by (conv => lhs; whnf); try rfl) ?_ | refine g_field rfl rfl rfl ?_ | refine go_endF ?_ | refine go_endT (by kernel_rfl) ?_ | refine pws_seq ?_ | refine pws_regionL ?_ | refine pws_block ?_ | refine pws_skip ?_ | refine pws_ret ?_ | refine pws_exit ?_ | refine pws_nil ?_ | refine bk_exit ?_ | refine bk_ret ?_ | refine bk_normal ?_ | refine rk_exit ?_ | refine rk_ret ?_)
              exact rq_ret rfl rfl (by rw [hno]; rfl)
            · refine pws_condF (by (conv => lhs; whnf); try rfl) e5 ?_
              rw [if_neg (by rw [e5]; simp)] at hno
              repeat (first | refine g_move rfl (by (conv => lhs; whnf); try rfl) ?_ | refine g_load rfl rfl rfl ?_ | refine g_fieldAddr rfl rfl ?_ | refine g_assign rfl (by (conv => lhs; whnf); try rfl) ?_ | refine g_inc rfl rfl (by omega) ?_ | refine g_add rfl rfl rfl (by omega) (by omega) ?_ | refine g_dec rfl rfl rfl (by omega) ?_ | refine g_sub rfl rfl rfl (by omega) (by omega) ?_ | refine g_int rfl rfl rfl rfl (by (conv => lhs; whnf); try rfl) ?_ | refine g_str rfl rfl rfl rfl (by (conv => lhs; whnf); try rfl) ?_ | refine g_nil rfl rfl ?_ | refine g_build_ar rfl rfl ?_ | refine g_conv rfl rfl ?_ | refine g_bits rfl rfl rfl rfl ?_ | refine g_shr rfl rfl rfl (by decide) ?_ | refine g_rem rfl rfl rfl (by first | decide | omega) ?_ | refine g_len rfl rfl ?_ | refine g_lenS Tryz.underlying9 rfl rfl ?_ | refine g_box rfl (by (conv => lhs; whnf); try rfl) (by (conv => lhs; whnf); try rfl) (by rfl) ?_ | refine g_alloc rfl rfl ?_ | refine g_store rfl rfl rfl (by (conv => lhs; whnf); try rfl) (by (conv => lhs; whnf); try rfl) (by rfl) (by rfl) (Nat.le_of_ble_eq_true rfl) (by (conv => lhs; whnf); try rfl) ?_ | refine g_build rfl rfl ?_ | refine g_buildSlice rfl rfl rfl (by rfl) (by decide) (by (conv => lhs; whnf); try rfl) ?_ | refine g_extract rfl rfl rfl ?_ | refine g_not rfl rfl ?_ | refine g_pick rfl rfl (by (conv => lhs; whnf); try rfl) ?_ | refine g_field rfl rfl rfl ?_ | refine go_endF ?_ | refine go_endT (by kernel_rfl) ?_ | refine pws_seq ?_ | refine pws_regionL ?_ | refine pws_block ?_ | refine pws_skip ?_ | refine pws_ret ?_ | refine pws_exit ?_ | refine pws_nil ?_ | refine bk_exit ?_ | refine bk_ret ?_ | refine bk_normal ?_ | refine rk_exit ?_ | refine rk_ret ?_)
              exact rk_normal (i + 1) 2 ⟨hlt', hno⟩ (by show (levelsL t).length - (i + 1) < (levelsL t).length - i; omega) (shift_ren [((1, 4), (1, 4))] ⟨rfl, rfl, rfl, rfl, rfl, rfl, trivial⟩ ⟨⟨rfl, rfl⟩, trivial⟩ rfl)
        · refine pws_condF (by (conv => lhs; whnf); try rfl) (decide_eq_false hlt) ?_
          obtain rfl : i = (levelsL t).length := by omega
          rw [List.drop_length, mayFrom] at hno
          repeat (first | refine g_move rfl (by (conv => lhs; whnf); try rfl) ?_ | refine g_load rfl rfl rfl ?_ | refine g_fieldAddr rfl rfl ?_ | refine g_assign rfl (by (conv => lhs; whnf); try rfl) ?_ | refine g_inc rfl rfl (by omega) ?_ | refine g_add rfl rfl rfl (by omega) (by omega) ?_ | refine g_dec rfl rfl rfl (by omega) ?_ | refine g_sub rfl rfl rfl (by omega) (by omega) ?_ | refine g_int rfl rfl rfl rfl (by (conv => lhs; whnf); try rfl) ?_ | refine g_str rfl rfl rfl rfl (by (conv => lhs; whnf); try rfl) ?_ | refine g_nil rfl rfl ?_ | refine g_build_ar rfl rfl ?_ | refine g_conv rfl rfl ?_ | refine g_bits rfl rfl rfl rfl ?_ | refine g_shr rfl rfl rfl (by decide) ?_ | refine g_rem rfl rfl rfl (by first | decide | omega) ?_ | refine g_len rfl rfl ?_ | refine g_lenS Tryz.underlying9 rfl rfl ?_ | refine g_box rfl (by (conv => lhs; whnf); try rfl) (by (conv => lhs; whnf); try rfl) (by rfl) ?_ | refine g_alloc rfl rfl ?_ | refine g_store rfl rfl rfl (by (conv => lhs; whnf); try rfl) (by (conv => lhs; whnf); try rfl) (by rfl) (by rfl) (Nat.le_of_ble_eq_true rfl) (by (conv => lhs; whnf); try rfl) ?_ | refine g_build rfl rfl ?_ | refine g_buildSlice rfl rfl rfl (by rfl) (by decide) (by (conv => lhs; whnf); try rfl) ?_ | refine g_extract rfl rfl rfl ?_ | refine g_not rfl rfl ?_ | refine g_pick rfl rfl (by (conv => lhs; whnf); try rfl) ?_ | refine g_field rfl rfl rfl ?_ | refine go_endF ?_ | refine go_endT (by kernel_rfl) ?_ | refine pws_seq ?_ | refine pws_regionL ?_ | refine pws_block ?_ | refine pws_skip ?_ | refine pws_ret ?_ | refine pws_exit ?_ | refine pws_nil ?_ | refine bk_exit ?_ | refine bk_ret ?_ | refine bk_normal ?_ | refine rk_exit ?_ | refine rk_ret ?_)
          exact rq_ret rfl rfl (by rw [hno]; rfl)
  · repeat (first | (refine g_call hcv rfl rfl ?_) | (refine g_skip rfl ?_) | refine g_move rfl (by (conv => lhs; whnf); try rfl) ?_ | refine g_load rfl rfl rfl ?_ | refine g_fieldAddr rfl rfl ?_ | refine g_assign rfl (by (conv => lhs; whnf); try rfl) ?_ | refine g_inc rfl rfl (by omega) ?_ | refine g_add rfl rfl rfl (by omega) (by omega) ?_ | refine g_dec rfl rfl rfl (by omega) ?_ | refine g_sub rfl rfl rfl (by omega) (by omega) ?_ | refine g_int rfl rfl rfl rfl (by (conv => lhs; whnf); try rfl) ?_ | refine g_str rfl rfl rfl rfl (by (conv => lhs; whnf); try rfl) ?_ | refine g_nil rfl rfl ?_ | refine g_build_ar rfl rfl ?_ | refine g_conv rfl rfl ?_ | refine g_bits rfl rfl rfl rfl ?_ | refine g_shr rfl rfl rfl (by decide) ?_ | refine g_rem rfl rfl rfl (by first | decide | omega) ?_ | refine g_len rfl rfl ?_ | refine g_lenS Tryz.underlying9 rfl rfl ?_ | refine g_box rfl (by (conv => lhs; whnf); try rfl) (by (conv => lhs; whnf); try rfl) (by rfl) ?_ | refine g_alloc rfl rfl ?_ | refine g_store rfl rfl rfl (by (conv => lhs; whnf); try rfl) (by (conv => lhs; whnf); try rfl) (by rfl) (by rfl) (Nat.le_of_ble_eq_true rfl) (by (conv => lhs; whnf); try rfl) ?_ | refine g_build rfl rfl ?_ | refine g_buildSlice rfl rfl rfl (by rfl) (by decide) (by (conv => lhs; whnf); try rfl) ?_ | refine g_extract rfl rfl rfl ?_ | refine g_not rfl rfl ?_ | refine g_pick rfl rfl (by (conv => lhs; whnf); try rfl) ?_ | refine g_field rfl rfl rfl ?_ | refine go_endF ?_ | refine go_endT (by kernel_rfl) ?_ | refine pws_seq ?_ | refine pws_regionL ?_ | refine pws_block ?_ | refine pws_skip ?_ | refine pws_ret ?_ | refine pws_exit ?_ | refine pws_nil ?_ | refine bk_exit ?_ | refine bk_ret ?_ | refine bk_normal ?_ | refine rk_exit ?_ | refine rk_ret ?_)
    refine pws_condT (by (conv => lhs; whnf); try rfl) rfl ?_
    repeat (first | refine g_move rfl (by (conv => lhs; whnf); try rfl) ?_ | refine g_load rfl rfl rfl ?_ | refine g_fieldAddr rfl rfl ?_ | refine g_assign rfl (by (conv => lhs; whnf); try rfl) ?_ | refine g_inc rfl rfl (by omega) ?_ | refine g_add rfl rfl rfl (by omega) (by omega) ?_ | refine g_dec rfl rfl rfl (by omega) ?_ | refine g_sub rfl rfl rfl (by omega) (by omega) ?_ | refine g_int rfl rfl rfl rfl (by (conv => lhs; whnf); try rfl) ?_ | refine g_str rfl rfl rfl rfl (by (conv => lhs; whnf); try rfl) ?_ | refine g_nil rfl rfl ?_ | refine g_build_ar rfl rfl ?_ | refine g_conv rfl rfl ?_ | refine g_bits rfl rfl rfl rfl ?_ | refine g_shr rfl rfl rfl (by decide) ?_ | refine g_rem rfl rfl rfl (by first | decide | omega) ?_ | refine g_len rfl rfl ?_ | refine g_lenS Tryz.underlying9 rfl rfl ?_ | refine g_box rfl (by (conv => lhs; whnf); try rfl) (by (conv => lhs; whnf); try rfl) (by rfl) ?_ | refine g_alloc rfl rfl ?_ | refine g_store rfl rfl rfl (by (conv => lhs; whnf); try rfl) (by (conv => lhs; whnf); try rfl) (by rfl) (by rfl) (Nat.le_of_ble_eq_true rfl) (by (conv => lhs; whnf); try rfl) ?_ | refine g_build rfl rfl ?_ | refine g_buildSlice rfl rfl rfl (by rfl) (by decide) (by (conv => lhs; whnf); try rfl) ?_ | refine g_extract rfl rfl rfl ?_ | refine g_not rfl rfl ?_ | refine g_pick rfl rfl (by (conv => lhs; whnf); try rfl) ?_ | refine g_field rfl rfl rfl ?_ | refine go_endF ?_ | refine go_endT (by kernel_rfl) ?_ | refine pws_seq ?_ | refine pws_regionL ?_ | refine pws_block ?_ | refine pws_skip ?_ | refine pws_ret ?_ | refine pws_exit ?_ | refine pws_nil ?_ | refine bk_exit ?_ | refine bk_ret ?_ | refine bk_normal ?_ | refine rk_exit ?_ | refine rk_ret ?_)
    refine rq_ret rfl rfl ?_
    unfold mayB
    rw [hv]
    rfl
end Go.Proofs.YthmlnffponjikaaGreatDoor
namespace Go.Proofs.YthmlnffponjikaaGreatDoor
open Go.RowKit

theorem valid_at (t : Title) (b : Bool) (hv : t.valid = b) (w : World) (hG : Glob w) : Calls Tryz.prog 50 #[.agg #[.int .i64 t.space, .string t.name]] w fun e w' => e = .returned (.bool b) ∧ Below w.heap.size w w' :=
  hv ▸ valid_any t w hG
theorem validA : Title.valid ⟨0, ⟨#[65]⟩⟩ = true := by decide +kernel
set_option maxRecDepth 100000 in
set_option maxHeartbeats 1000000 in
theorem checkPages_one (g : Nat) (w : World) (hG : Glob w) (h0 : w.cell? ⟨g, 0, none⟩ = some (.int .i64 0)) (h1 : w.cell? ⟨g, 1, none⟩ = some (.string ⟨#[65]⟩)) (h2 : w.cell? ⟨g, 2, none⟩ = some (.string ⟨#[120]⟩)) (h3 : w.cell? ⟨g, 3, none⟩ = some (.int .i64 3)) :
    Calls Tryz.prog 41 #[.slice (some ⟨g, 0, none⟩) 1 1] w fun e w' => e = .returned (.int .i64 0) ∧ Below w.heap.size w w' := by
  go_enter Tryz.func41, Tryz.ntmps41
  go_wp2
  refine wp_loop_rounds 2 ?_
  rw [rounds_succ]
  go_wp2_with fail
  refine (valid_at ⟨0, ⟨#[65]⟩⟩ true validA _ (Glob.below hG (Below.al (Below.refl _ _) _))).mono ?_
  rintro e w2 ⟨rfl, hb2⟩
  have c2 : w2.cell? ⟨w.heap.size, 2, none⟩ = some (.string ⟨#[120]⟩) := re1 hb2 (by first | simp | omega | (simp; omega)) (by first | assumption | go_simp)
  have c3 : w2.cell? ⟨w.heap.size, 3, none⟩ = some (.int .i64 3) := re1 hb2 (by first | simp | omega | (simp; omega)) (by first | assumption | go_simp)
  go_wp2
  go_quiet (fail)
  go_wp2
  rw [rounds_succ]
  go_wp2
  go_ret
  exact ⟨rfl, Below.dn (Below.tr (Below.al (Below.refl _ _) _) hb2) _⟩
set_option maxRecDepth 100000 in
set_option maxHeartbeats 1000000 in
theorem policyValidate_nil (w : World) : Calls Tryz.prog 42 #[.agg #[.slice none 0 0, .slice none 0 0, .slice none 0 0]] w fun e w' => e = .returned (.int .i64 0) ∧ Below w.heap.size w w' := by
  go_enter Tryz.func42, Tryz.ntmps42
  go_wp2
  go_rounds 1
  go_rounds 1
  go_rounds 1
  go_ret
  exact ⟨rfl, Below.al (Below.refl _ _) _⟩
set_option maxRecDepth 100000 in
set_option maxHeartbeats 1000000 in
theorem checkGroups_nil (w : World) : Calls Tryz.prog 43 #[.slice none 0 0] w fun e w' => e = .returned (.int .i64 0) ∧ w = w' := by
  go_enter Tryz.func43, Tryz.ntmps43
  go_wp2
  go_rounds 1
  go_ret
  exact ⟨rfl, rfl⟩
set_option maxRecDepth 100000 in
set_option maxHeartbeats 1000000 in
theorem checkFixed_nil (w : World) : Calls Tryz.prog 44 #[.slice none 0 0] w fun e w' => e = .returned (.int .i64 0) ∧ Below w.heap.size w w' := by
  have hmm := @run_makeMap Tryz.prog
  go_enter Tryz.func44, Tryz.ntmps44
  go_wp2
  go_rounds 1
  go_ret
  exact ⟨rfl, Below.al (Below.refl _ _) _⟩
set_option maxRecDepth 100000 in
set_option maxHeartbeats 1000000 in
theorem validate_one (g : Nat) (w : World) (hG : Glob w) (h0 : w.cell? ⟨g, 0, none⟩ = some (.int .i64 0)) (h1 : w.cell? ⟨g, 1, none⟩ = some (.string ⟨#[65]⟩)) (h2 : w.cell? ⟨g, 2, none⟩ = some (.string ⟨#[120]⟩)) (h3 : w.cell? ⟨g, 3, none⟩ = some (.int .i64 3)) :
    Calls Tryz.prog 16 #[.agg #[.slice (some ⟨g, 0, none⟩) 1 1, .slice none 0 0, .slice none 0 0, .slice none 0 0, .slice none 0 0, .int .i64 0, .slice none 0 0]] w fun e w' => e = .returned (.int .i64 0) ∧ Below w.heap.size w w' := by
  go_enter Tryz.func16, Tryz.ntmps16
  go_wp2_with fail
  generalize hw1 : w.alloc _ = w1
  have c0_0 : w1.cell? ⟨w.heap.size, 0, none⟩ = some (.slice (some ⟨g, 0, none⟩) 1 1) := by subst hw1; go_simp
  have c0_1 : w1.cell? ⟨w.heap.size, 1, none⟩ = some (.slice none 0 0) := by subst hw1; go_simp
  have c0_2 : w1.cell? ⟨w.heap.size, 2, none⟩ = some (.slice none 0 0) := by subst hw1; go_simp
  have c0_3 : w1.cell? ⟨w.heap.size, 3, none⟩ = some (.slice none 0 0) := by subst hw1; go_simp
  have c0_4 : w1.cell? ⟨w.heap.size, 4, none⟩ = some (.slice none 0 0) := by subst hw1; go_simp
  have c0_5 : w1.cell? ⟨w.heap.size, 5, none⟩ = some (.int .i64 0) := by subst hw1; go_simp
  have c0_6 : w1.cell? ⟨w.heap.size, 6, none⟩ = some (.slice none 0 0) := by subst hw1; go_simp
  have HB : Hid (Below w.heap.size w w1) := by subst hw1; exact Below.al (Below.refl _ _) _
  clear hw1
  have HF : Hid (∀ W, Below w1.heap.size w1 W → W.cell? ⟨w.heap.size, 0, none⟩ = some (.slice (some ⟨g, 0, none⟩) 1 1) ∧ W.cell? ⟨w.heap.size, 1, none⟩ = some (.slice none 0 0) ∧ W.cell? ⟨w.heap.size, 2, none⟩ = some (.slice none 0 0) ∧ W.cell? ⟨w.heap.size, 3, none⟩ = some (.slice none 0 0) ∧ W.cell? ⟨w.heap.size, 4, none⟩ = some (.slice none 0 0) ∧ W.cell? ⟨w.heap.size, 5, none⟩ = some (.int .i64 0) ∧ W.cell? ⟨w.heap.size, 6, none⟩ = some (.slice none 0 0)) := fun W h => ⟨re1 h (cell_lt c0_0) c0_0, re1 h (cell_lt c0_1) c0_1, re1 h (cell_lt c0_2) c0_2, re1 h (cell_lt c0_3) c0_3, re1 h (cell_lt c0_4) c0_4, re1 h (cell_lt c0_5) c0_5, re1 h (cell_lt c0_6) c0_6⟩
  have hg := cell_lt h0
  refine (checkPages_one g _ (Glob.below hG HB.out) (re1 HB.out hg h0) (re1 HB.out hg h1) (re1 HB.out hg h2) (re1 HB.out hg h3)).mono ?_
  rintro e w2 ⟨rfl, hb2⟩
  have HA := Lib.hid hb2
  clear hb2 h0 h1 h2 h3 hG
  try clear c0_0 c0_1 c0_2 c0_3 c0_4 c0_5 c0_6
  obtain ⟨c0_0, c0_1, c0_2, c0_3, c0_4, c0_5, c0_6⟩ := HF.out _ (HA.out)
  go_wp2_with fail
  refine (policyValidate_nil _).mono ?_
  rintro e w3 ⟨rfl, hb3⟩
  have HA3 := Lib.hid (Below.tr HA.out hb3)
  clear hb3
  try clear c0_0 c0_1 c0_2 c0_3 c0_4 c0_5 c0_6
  obtain ⟨c0_0, c0_1, c0_2, c0_3, c0_4, c0_5, c0_6⟩ := HF.out _ (HA3.out)
  go_wp2_with fail
  refine (checkGroups_nil _).mono ?_
  rintro e w4 ⟨rfl, rfl⟩
  go_wp2_with fail
  refine (checkFixed_nil _).mono ?_
  rintro e w5 ⟨rfl, hb5⟩
  go_wp2
  go_ret
  exact ⟨rfl, Below.tr HB.out (Below.tr HA3.out hb5)⟩
end Go.Proofs.YthmlnffponjikaaGreatDoor
namespace Go.Proofs.YthmlnffponjikaaGreatDoor
open Go.RowKit

def findA : List Asked → Key → Option Answer
  | [], _ => none
  | x :: xs, k => if x.key = k then some x.answer else findA xs k
def ansV (a : Answer) : Value := .agg #[.bool a.ok, .string a.text, .int .i64 a.n]
theorem key_eq {P : Program} {T : TypeId} (a b : Key) (h : ∀ W, (binOp .eql T (.agg #[.int .i64 a.kind, .int .i64 a.title.space, .string a.title.name, .int .i64 a.n]) (.agg #[.int .i64 b.kind, .int .i64 b.title.space, .string b.title.name, .int .i64 b.n])).run P W =
    .ok (.bool (a.kind == b.kind && (a.title.space == b.title.space && (a.title.name.toList == b.title.name.toList && a.n == b.n)))) W) :
    ∀ W, (binOp .eql T (.agg #[.int .i64 a.kind, .int .i64 a.title.space, .string a.title.name, .int .i64 a.n]) (.agg #[.int .i64 b.kind, .int .i64 b.title.space, .string b.title.name, .int .i64 b.n])).run P W = .ok (.bool (decide (a = b))) W := by
  intro W
  rw [h W]
  have e : (a.kind == b.kind && (a.title.space == b.title.space && (a.title.name.toList == b.title.name.toList && a.n == b.n))) = decide (a = b) := by
    rw [Bool.eq_iff_iff]
    obtain ⟨k, ⟨sp, nm⟩, n⟩ := a
    obtain ⟨k', ⟨sp', nm'⟩, n'⟩ := b
    simp [toList_iff, and_assoc]
  rw [e]
theorem keyEqlV (a b : Key) (W : World) : (binOp .eql 36 (.agg #[.int .i64 a.kind, .int .i64 a.title.space, .string a.title.name, .int .i64 a.n]) (.agg #[.int .i64 b.kind, .int .i64 b.title.space, .string b.title.name, .int .i64 b.n])).run Tryz.prog W = .ok (.bool (decide (a = b))) W := by
  refine key_eq a b (fun W => ?_) W
  go_simp
  (repeat' split) <;> simp_all
def findV (xs : List Asked) (k : Key) : Value := match findA xs k with
  | some r => .tuple #[ansV r, .bool true]
  | none => .tuple #[.agg #[.bool false, .string ⟨#[]⟩, .int .i64 0], .bool false]
set_option maxRecDepth 100000 in
set_option maxHeartbeats 1000000 in
theorem find_any (A : Option Addr) (n c : Nat) (xs : List Asked) (k : Key) (w : World) (hS : SlR w A n c xs) :
    Calls Tryz.prog 51 #[.slice A n c, .agg #[.int .i64 k.kind, .int .i64 k.title.space, .string k.title.name, .int .i64 k.n]] w fun e w' => e = .returned (findV xs k) ∧ Below w.heap.size w w' := by
  have HN := Lib.hid hS.1
  have hle := hS.le
  go_enter Tryz.func51, Tryz.ntmps51
  go_wp2
  generalize hw1 : (w.alloc _).alloc _ = w1
  have c0_0 : w1.cell? ⟨w.heap.size, 0, none⟩ = some (.int .i64 k.kind) := by subst hw1; go_simp
  have c0_1 : w1.cell? ⟨w.heap.size, 1, none⟩ = some (.int .i64 k.title.space) := by subst hw1; go_simp
  have c0_2 : w1.cell? ⟨w.heap.size, 2, none⟩ = some (.string k.title.name) := by subst hw1; go_simp
  have c0_3 : w1.cell? ⟨w.heap.size, 3, none⟩ = some (.int .i64 k.n) := by subst hw1; go_simp
  have c1_0 : w1.cell? ⟨w.heap.size + 1, 0, none⟩ = some (.bool false) := by subst hw1; go_simp
  have c1_1 : w1.cell? ⟨w.heap.size + 1, 1, none⟩ = some (.string ⟨#[]⟩) := by subst hw1; go_simp
  have c1_2 : w1.cell? ⟨w.heap.size + 1, 2, none⟩ = some (.int .i64 0) := by subst hw1; go_simp
  have f1_0 : w1.frozen? ⟨w.heap.size + 1, 0, none⟩ = false := by subst hw1; go_simp
  have f1_1 : w1.frozen? ⟨w.heap.size + 1, 1, none⟩ = false := by subst hw1; go_simp
  have f1_2 : w1.frozen? ⟨w.heap.size + 1, 2, none⟩ = false := by subst hw1; go_simp
  have HB : Hid (Below w.heap.size w w1) := by subst hw1; exact Below.al (Below.al (Below.refl _ _) _) _
  clear hw1
  have HF : Hid (∀ W, Below w1.heap.size w1 W → W.cell? ⟨w.heap.size, 0, none⟩ = some (.int .i64 k.kind) ∧ W.cell? ⟨w.heap.size, 1, none⟩ = some (.int .i64 k.title.space) ∧ W.cell? ⟨w.heap.size, 2, none⟩ = some (.string k.title.name) ∧ W.cell? ⟨w.heap.size, 3, none⟩ = some (.int .i64 k.n) ∧ W.cell? ⟨w.heap.size + 1, 0, none⟩ = some (.bool false) ∧ W.cell? ⟨w.heap.size + 1, 1, none⟩ = some (.string ⟨#[]⟩) ∧ W.cell? ⟨w.heap.size + 1, 2, none⟩ = some (.int .i64 0) ∧ W.frozen? ⟨w.heap.size + 1, 0, none⟩ = false ∧ W.frozen? ⟨w.heap.size + 1, 1, none⟩ = false ∧ W.frozen? ⟨w.heap.size + 1, 2, none⟩ = false) := fun W h => ⟨re1 h (cell_lt c0_0) c0_0, re1 h (cell_lt c0_1) c0_1, re1 h (cell_lt c0_2) c0_2, re1 h (cell_lt c0_3) c0_3, re1 h (cell_lt c1_0) c1_0, re1 h (cell_lt c1_1) c1_1, re1 h (cell_lt c1_2) c1_2, rf1 h (cell_lt c1_0) f1_0, rf1 h (cell_lt c1_1) f1_1, rf1 h (cell_lt c1_2) f1_2⟩
  have HS := Lib.hid (hS.mono HB.out)
  clear hS
  go_loopw [7, 10] (fun _ i wr => ∃ q : Nat, q ≤ n ∧ i = .int .i64 q ∧ Below w1.heap.size w1 wr ∧ Hid (findA xs k = findA (xs.drop q) k)) (fun _ i _ => n - (intOf i).toNat)
  case atStart => exact ⟨0, Nat.zero_le _, rfl, Below.refl _ _, rfl⟩
  case round =>
    obtain ⟨q, hq, rfl, hbw, hF⟩ := hrel
    have HW := Lib.hid hbw
    clear hbw
    try clear c0_0 c0_1 c0_2 c0_3 c1_0 c1_1 c1_2 f1_0 f1_1 f1_2
    obtain ⟨c0_0, c0_1, c0_2, c0_3, c1_0, c1_1, c1_2, f1_0, f1_1, f1_2⟩ := HF.out _ (HW.out)
    have z0 := cell_lt c0_0
    have z1 := cell_lt c1_0
    by_cases hlt : q < n
    · obtain ⟨b, off, x, cs, hA, hbl, hx, hd, hR, hc⟩ := (SlR.mono HW.out HS.out).elem hlt
      obtain rfl := hA
      have d0 : wr.cell? ⟨b, off + q * 7, none⟩ = some (.int .i64 x.key.kind) := by subst hR; exact hc 0 _ rfl
      have d1 : wr.cell? ⟨b, off + q * 7 + 1, none⟩ = some (.int .i64 x.key.title.space) := by subst hR; exact hc 1 _ rfl
      have d2 : wr.cell? ⟨b, off + q * 7 + 2, none⟩ = some (.string x.key.title.name) := by subst hR; exact hc 2 _ rfl
      have d3 : wr.cell? ⟨b, off + q * 7 + 3, none⟩ = some (.int .i64 x.key.n) := by subst hR; exact hc 3 _ rfl
      have d4 : wr.cell? ⟨b, off + q * 7 + 4, none⟩ = some (.bool x.answer.ok) := by subst hR; exact hc 4 _ rfl
      have d5 : wr.cell? ⟨b, off + q * 7 + 5, none⟩ = some (.string x.answer.text) := by subst hR; exact hc 5 _ rfl
      have d6 : wr.cell? ⟨b, off + q * 7 + 6, none⟩ = some (.int .i64 x.answer.n) := by subst hR; exact hc 6 _ rfl
      have HD := Lib.hid hd
      have HX := Lib.hid hx
      clear hx hd hR hc
      have ke := keyEqlV x.key k
      by_cases hk : x.key = k
      · rw [decide_eq_true hk] at ke
        have HK := Lib.hid hk
        clear hk
        go_wp2
        exact bodyPost_ret (v := .tuple #[.agg #[.bool x.answer.ok, .string x.answer.text, .int .i64 x.answer.n], .bool true]) (by simp [results, Tryz.results51, go_sem, *]) rfl ⟨by rw [findV, hF.out, HD.out]; simp only [findA, if_pos HK.out]; rfl, (by have hg : Below w.heap.size w wr := Below.tr HB.out HW.out; go_grown)⟩
      · rw [decide_eq_false hk] at ke
        have HK := Lib.hid hk
        clear hk
        go_wp2
        go_roundw
        case rel => exact ⟨q + 1, by omega, by go_num, Below.tr HW.out (Below.al (Below.refl _ _) _), Lib.hid (by rw [hF.out, HD.out]; simp only [findA, if_neg HK.out])⟩
        case measure => simp [intOf]; omega
    · have hz : findA xs k = none := by rw [hF.out, List.drop_eq_nil_of_le (by rw [← HN.out]; omega)]; rfl
      have HZ := Lib.hid hz
      clear hz
      go_wp2
      exact bodyPost_ret (v := .tuple #[.agg #[.bool false, .string ⟨#[]⟩, .int .i64 0], .bool false]) (by simp [results, Tryz.results51, go_sem, *]) rfl ⟨by rw [findV, HZ.out], (by have hg : Below w.heap.size w wr := Below.tr HB.out HW.out; go_grown)⟩
theorem find_some (A : Option Addr) (n c : Nat) (xs : List Asked) (k : Key) (w : World) (hS : SlR w A n c xs) (r : Answer) (hr : findA xs k = some r) :
    Calls Tryz.prog 51 #[.slice A n c, .agg #[.int .i64 k.kind, .int .i64 k.title.space, .string k.title.name, .int .i64 k.n]] w fun e w' => e = .returned (.tuple #[.agg #[.bool r.ok, .string r.text, .int .i64 r.n], .bool true]) ∧ Below w.heap.size w w' :=
  (find_any A n c xs k w hS).mono fun _ _ ⟨he, hb⟩ => ⟨he.trans (by rw [findV, hr]; rfl), hb⟩
theorem find_none (A : Option Addr) (n c : Nat) (xs : List Asked) (k : Key) (w : World) (hS : SlR w A n c xs) (hr : findA xs k = none) :
    Calls Tryz.prog 51 #[.slice A n c, .agg #[.int .i64 k.kind, .int .i64 k.title.space, .string k.title.name, .int .i64 k.n]] w fun e w' => e = .returned (.tuple #[.agg #[.bool false, .string ⟨#[]⟩, .int .i64 0], .bool false]) ∧ Below w.heap.size w w' :=
  (find_any A n c xs k w hS).mono fun _ _ ⟨he, hb⟩ => ⟨he.trans (by rw [findV, hr]), hb⟩
end Go.Proofs.YthmlnffponjikaaGreatDoor
namespace Go.Proofs.YthmlnffponjikaaGreatDoor
open Go.RowKit

set_option maxRecDepth 100000 in
set_option maxHeartbeats 1000000 in
theorem validKey_text (w : World) (hG : Glob w) : Calls Tryz.prog 18 #[.agg #[.int .i64 1, .int .i64 0, .string ⟨#[65]⟩, .int .i64 0]] w fun e w' => e = .returned (.bool true) ∧ Below w.heap.size w w' := by
  go_enter Tryz.func18, Tryz.ntmps18
  go_wp2_with fail
  generalize hw1 : w.alloc _ = w1
  have c0_0 : w1.cell? ⟨w.heap.size, 0, none⟩ = some (.int .i64 1) := by subst hw1; go_simp
  have c0_1 : w1.cell? ⟨w.heap.size, 1, none⟩ = some (.int .i64 0) := by subst hw1; go_simp
  have c0_2 : w1.cell? ⟨w.heap.size, 2, none⟩ = some (.string ⟨#[65]⟩) := by subst hw1; go_simp
  have c0_3 : w1.cell? ⟨w.heap.size, 3, none⟩ = some (.int .i64 0) := by subst hw1; go_simp
  have HB : Hid (Below w.heap.size w w1) := by subst hw1; exact Below.al (Below.refl _ _) _
  clear hw1
  have HF : Hid (∀ W, Below w1.heap.size w1 W → W.cell? ⟨w.heap.size, 0, none⟩ = some (.int .i64 1) ∧ W.cell? ⟨w.heap.size, 1, none⟩ = some (.int .i64 0) ∧ W.cell? ⟨w.heap.size, 2, none⟩ = some (.string ⟨#[65]⟩) ∧ W.cell? ⟨w.heap.size, 3, none⟩ = some (.int .i64 0)) := fun W h => ⟨re1 h (cell_lt c0_0) c0_0, re1 h (cell_lt c0_1) c0_1, re1 h (cell_lt c0_2) c0_2, re1 h (cell_lt c0_3) c0_3⟩
  refine (valid_at ⟨0, ⟨#[65]⟩⟩ true validA _ (Glob.below hG HB.out)).mono ?_
  rintro e w2 ⟨rfl, hb2⟩
  have HA := Lib.hid hb2
  clear hb2
  try clear c0_0 c0_1 c0_2 c0_3
  obtain ⟨c0_0, c0_1, c0_2, c0_3⟩ := HF.out _ (HA.out)
  go_wp2
  go_ret
  exact ⟨rfl, Below.tr HB.out HA.out⟩
set_option maxRecDepth 100000 in
set_option maxHeartbeats 1000000 in
theorem validKey_revision (w : World) (hG : Glob w) : Calls Tryz.prog 18 #[.agg #[.int .i64 7, .int .i64 0, .string ⟨#[65]⟩, .int .i64 0]] w fun e w' => e = .returned (.bool true) ∧ Below w.heap.size w w' := by
  go_enter Tryz.func18, Tryz.ntmps18
  go_wp2_with fail
  generalize hw1 : w.alloc _ = w1
  have c0_0 : w1.cell? ⟨w.heap.size, 0, none⟩ = some (.int .i64 7) := by subst hw1; go_simp
  have c0_1 : w1.cell? ⟨w.heap.size, 1, none⟩ = some (.int .i64 0) := by subst hw1; go_simp
  have c0_2 : w1.cell? ⟨w.heap.size, 2, none⟩ = some (.string ⟨#[65]⟩) := by subst hw1; go_simp
  have c0_3 : w1.cell? ⟨w.heap.size, 3, none⟩ = some (.int .i64 0) := by subst hw1; go_simp
  have HB : Hid (Below w.heap.size w w1) := by subst hw1; exact Below.al (Below.refl _ _) _
  clear hw1
  have HF : Hid (∀ W, Below w1.heap.size w1 W → W.cell? ⟨w.heap.size, 0, none⟩ = some (.int .i64 7) ∧ W.cell? ⟨w.heap.size, 1, none⟩ = some (.int .i64 0) ∧ W.cell? ⟨w.heap.size, 2, none⟩ = some (.string ⟨#[65]⟩) ∧ W.cell? ⟨w.heap.size, 3, none⟩ = some (.int .i64 0)) := fun W h => ⟨re1 h (cell_lt c0_0) c0_0, re1 h (cell_lt c0_1) c0_1, re1 h (cell_lt c0_2) c0_2, re1 h (cell_lt c0_3) c0_3⟩
  refine (valid_at ⟨0, ⟨#[65]⟩⟩ true validA _ (Glob.below hG HB.out)).mono ?_
  rintro e w2 ⟨rfl, hb2⟩
  have HA := Lib.hid hb2
  clear hb2
  try clear c0_0 c0_1 c0_2 c0_3
  obtain ⟨c0_0, c0_1, c0_2, c0_3⟩ := HF.out _ (HA.out)
  go_wp2
  go_ret
  exact ⟨rfl, Below.tr HB.out HA.out⟩
set_option maxRecDepth 100000 in
set_option maxHeartbeats 1000000 in
theorem validKey_clock (w : World) : Calls Tryz.prog 18 #[.agg #[.int .i64 5, .int .i64 0, .string ⟨#[]⟩, .int .i64 3]] w fun e w' => e = .returned (.bool true) ∧ Below w.heap.size w w' := by
  go_enter Tryz.func18, Tryz.ntmps18
  go_wp2
  go_ret
  exact ⟨rfl, Below.al (Below.refl _ _) _⟩
set_option maxRecDepth 100000 in
set_option maxHeartbeats 1000000 in
theorem page_text (g : Nat) (w : World) (h0 : w.cell? ⟨g, 0, none⟩ = some (.int .i64 0)) (h1 : w.cell? ⟨g, 1, none⟩ = some (.string ⟨#[65]⟩)) (h2 : w.cell? ⟨g, 2, none⟩ = some (.string ⟨#[120]⟩)) (h3 : w.cell? ⟨g, 3, none⟩ = some (.int .i64 3)) :
    Calls Tryz.prog 55 #[.agg #[.slice (some ⟨g, 0, none⟩) 1 1, .slice none 0 0, .slice none 0 0, .slice none 0 0, .slice none 0 0, .int .i64 0, .slice none 0 0], .agg #[.int .i64 1, .int .i64 0, .string ⟨#[65]⟩, .int .i64 0]] w fun e w' => e = .returned (.agg #[.bool true, .string ⟨#[120]⟩, .int .i64 0]) ∧ Below w.heap.size w w' := by
  have hg := cell_lt h0
  go_enter Tryz.func55, Tryz.ntmps55
  go_wp2
  generalize hw1 : ((w.alloc _).alloc _).alloc _ = w1
  have c0_0 : w1.cell? ⟨w.heap.size, 0, none⟩ = some (.slice (some ⟨g, 0, none⟩) 1 1) := by subst hw1; go_simp
  have c0_1 : w1.cell? ⟨w.heap.size, 1, none⟩ = some (.slice none 0 0) := by subst hw1; go_simp
  have c0_2 : w1.cell? ⟨w.heap.size, 2, none⟩ = some (.slice none 0 0) := by subst hw1; go_simp
  have c0_3 : w1.cell? ⟨w.heap.size, 3, none⟩ = some (.slice none 0 0) := by subst hw1; go_simp
  have c0_4 : w1.cell? ⟨w.heap.size, 4, none⟩ = some (.slice none 0 0) := by subst hw1; go_simp
  have c0_5 : w1.cell? ⟨w.heap.size, 5, none⟩ = some (.int .i64 0) := by subst hw1; go_simp
  have c0_6 : w1.cell? ⟨w.heap.size, 6, none⟩ = some (.slice none 0 0) := by subst hw1; go_simp
  have c1_0 : w1.cell? ⟨w.heap.size + 1, 0, none⟩ = some (.int .i64 1) := by subst hw1; go_simp
  have c1_1 : w1.cell? ⟨w.heap.size + 1, 1, none⟩ = some (.int .i64 0) := by subst hw1; go_simp
  have c1_2 : w1.cell? ⟨w.heap.size + 1, 2, none⟩ = some (.string ⟨#[65]⟩) := by subst hw1; go_simp
  have c1_3 : w1.cell? ⟨w.heap.size + 1, 3, none⟩ = some (.int .i64 0) := by subst hw1; go_simp
  have c2_0 : w1.cell? ⟨w.heap.size + 2, 0, none⟩ = some (.bool false) := by subst hw1; go_simp
  have c2_1 : w1.cell? ⟨w.heap.size + 2, 1, none⟩ = some (.string ⟨#[]⟩) := by subst hw1; go_simp
  have c2_2 : w1.cell? ⟨w.heap.size + 2, 2, none⟩ = some (.int .i64 0) := by subst hw1; go_simp
  have f2_0 : w1.frozen? ⟨w.heap.size + 2, 0, none⟩ = false := by subst hw1; go_simp
  have f2_1 : w1.frozen? ⟨w.heap.size + 2, 1, none⟩ = false := by subst hw1; go_simp
  have f2_2 : w1.frozen? ⟨w.heap.size + 2, 2, none⟩ = false := by subst hw1; go_simp
  have HB : Hid (Below w.heap.size w w1) := by subst hw1; exact Below.al (Below.al (Below.al (Below.refl _ _) _) _) _
  clear hw1
  have HF : Hid (∀ W, Below w1.heap.size w1 W → W.cell? ⟨w.heap.size, 0, none⟩ = some (.slice (some ⟨g, 0, none⟩) 1 1) ∧ W.cell? ⟨w.heap.size, 1, none⟩ = some (.slice none 0 0) ∧ W.cell? ⟨w.heap.size, 2, none⟩ = some (.slice none 0 0) ∧ W.cell? ⟨w.heap.size, 3, none⟩ = some (.slice none 0 0) ∧ W.cell? ⟨w.heap.size, 4, none⟩ = some (.slice none 0 0) ∧ W.cell? ⟨w.heap.size, 5, none⟩ = some (.int .i64 0) ∧ W.cell? ⟨w.heap.size, 6, none⟩ = some (.slice none 0 0) ∧ W.cell? ⟨w.heap.size + 1, 0, none⟩ = some (.int .i64 1) ∧ W.cell? ⟨w.heap.size + 1, 1, none⟩ = some (.int .i64 0) ∧ W.cell? ⟨w.heap.size + 1, 2, none⟩ = some (.string ⟨#[65]⟩) ∧ W.cell? ⟨w.heap.size + 1, 3, none⟩ = some (.int .i64 0) ∧ W.cell? ⟨w.heap.size + 2, 0, none⟩ = some (.bool false) ∧ W.cell? ⟨w.heap.size + 2, 1, none⟩ = some (.string ⟨#[]⟩) ∧ W.cell? ⟨w.heap.size + 2, 2, none⟩ = some (.int .i64 0) ∧ W.frozen? ⟨w.heap.size + 2, 0, none⟩ = false ∧ W.frozen? ⟨w.heap.size + 2, 1, none⟩ = false ∧ W.frozen? ⟨w.heap.size + 2, 2, none⟩ = false) := fun W h => ⟨re1 h (cell_lt c0_0) c0_0, re1 h (cell_lt c0_1) c0_1, re1 h (cell_lt c0_2) c0_2, re1 h (cell_lt c0_3) c0_3, re1 h (cell_lt c0_4) c0_4, re1 h (cell_lt c0_5) c0_5, re1 h (cell_lt c0_6) c0_6, re1 h (cell_lt c1_0) c1_0, re1 h (cell_lt c1_1) c1_1, re1 h (cell_lt c1_2) c1_2, re1 h (cell_lt c1_3) c1_3, re1 h (cell_lt c2_0) c2_0, re1 h (cell_lt c2_1) c2_1, re1 h (cell_lt c2_2) c2_2, rf1 h (cell_lt c2_0) f2_0, rf1 h (cell_lt c2_1) f2_1, rf1 h (cell_lt c2_2) f2_2⟩
  have e0 := re1 HB.out hg h0
  have e1 := re1 HB.out hg h1
  have e2 := re1 HB.out hg h2
  have e3 := re1 HB.out hg h3
  have z0 := cell_lt c0_0
  have z1 := cell_lt c1_0
  have z2 := cell_lt c2_0
  clear h0 h1 h2 h3
  refine wp_loop_rounds 2 ?_
  rw [rounds_succ]
  go_wp2
  exact bodyPost_ret (v := .agg #[.bool true, .string ⟨#[120]⟩, .int .i64 0]) (by simp [results, Tryz.results55, go_sem, *]) rfl ⟨rfl, by have hg := HB.out; go_grown⟩
set_option maxRecDepth 100000 in
set_option maxHeartbeats 1000000 in
theorem page_revision (g : Nat) (w : World) (h0 : w.cell? ⟨g, 0, none⟩ = some (.int .i64 0)) (h1 : w.cell? ⟨g, 1, none⟩ = some (.string ⟨#[65]⟩)) (h2 : w.cell? ⟨g, 2, none⟩ = some (.string ⟨#[120]⟩)) (h3 : w.cell? ⟨g, 3, none⟩ = some (.int .i64 3)) :
    Calls Tryz.prog 55 #[.agg #[.slice (some ⟨g, 0, none⟩) 1 1, .slice none 0 0, .slice none 0 0, .slice none 0 0, .slice none 0 0, .int .i64 0, .slice none 0 0], .agg #[.int .i64 7, .int .i64 0, .string ⟨#[65]⟩, .int .i64 0]] w fun e w' => e = .returned (.agg #[.bool true, .string ⟨#[]⟩, .int .i64 3]) ∧ Below w.heap.size w w' := by
  have hg := cell_lt h0
  go_enter Tryz.func55, Tryz.ntmps55
  go_wp2
  generalize hw1 : ((w.alloc _).alloc _).alloc _ = w1
  have c0_0 : w1.cell? ⟨w.heap.size, 0, none⟩ = some (.slice (some ⟨g, 0, none⟩) 1 1) := by subst hw1; go_simp
  have c0_1 : w1.cell? ⟨w.heap.size, 1, none⟩ = some (.slice none 0 0) := by subst hw1; go_simp
  have c0_2 : w1.cell? ⟨w.heap.size, 2, none⟩ = some (.slice none 0 0) := by subst hw1; go_simp
  have c0_3 : w1.cell? ⟨w.heap.size, 3, none⟩ = some (.slice none 0 0) := by subst hw1; go_simp
  have c0_4 : w1.cell? ⟨w.heap.size, 4, none⟩ = some (.slice none 0 0) := by subst hw1; go_simp
  have c0_5 : w1.cell? ⟨w.heap.size, 5, none⟩ = some (.int .i64 0) := by subst hw1; go_simp
  have c0_6 : w1.cell? ⟨w.heap.size, 6, none⟩ = some (.slice none 0 0) := by subst hw1; go_simp
  have c1_0 : w1.cell? ⟨w.heap.size + 1, 0, none⟩ = some (.int .i64 7) := by subst hw1; go_simp
  have c1_1 : w1.cell? ⟨w.heap.size + 1, 1, none⟩ = some (.int .i64 0) := by subst hw1; go_simp
  have c1_2 : w1.cell? ⟨w.heap.size + 1, 2, none⟩ = some (.string ⟨#[65]⟩) := by subst hw1; go_simp
  have c1_3 : w1.cell? ⟨w.heap.size + 1, 3, none⟩ = some (.int .i64 0) := by subst hw1; go_simp
  have c2_0 : w1.cell? ⟨w.heap.size + 2, 0, none⟩ = some (.bool false) := by subst hw1; go_simp
  have c2_1 : w1.cell? ⟨w.heap.size + 2, 1, none⟩ = some (.string ⟨#[]⟩) := by subst hw1; go_simp
  have c2_2 : w1.cell? ⟨w.heap.size + 2, 2, none⟩ = some (.int .i64 0) := by subst hw1; go_simp
  have f2_0 : w1.frozen? ⟨w.heap.size + 2, 0, none⟩ = false := by subst hw1; go_simp
  have f2_1 : w1.frozen? ⟨w.heap.size + 2, 1, none⟩ = false := by subst hw1; go_simp
  have f2_2 : w1.frozen? ⟨w.heap.size + 2, 2, none⟩ = false := by subst hw1; go_simp
  have HB : Hid (Below w.heap.size w w1) := by subst hw1; exact Below.al (Below.al (Below.al (Below.refl _ _) _) _) _
  clear hw1
  have HF : Hid (∀ W, Below w1.heap.size w1 W → W.cell? ⟨w.heap.size, 0, none⟩ = some (.slice (some ⟨g, 0, none⟩) 1 1) ∧ W.cell? ⟨w.heap.size, 1, none⟩ = some (.slice none 0 0) ∧ W.cell? ⟨w.heap.size, 2, none⟩ = some (.slice none 0 0) ∧ W.cell? ⟨w.heap.size, 3, none⟩ = some (.slice none 0 0) ∧ W.cell? ⟨w.heap.size, 4, none⟩ = some (.slice none 0 0) ∧ W.cell? ⟨w.heap.size, 5, none⟩ = some (.int .i64 0) ∧ W.cell? ⟨w.heap.size, 6, none⟩ = some (.slice none 0 0) ∧ W.cell? ⟨w.heap.size + 1, 0, none⟩ = some (.int .i64 7) ∧ W.cell? ⟨w.heap.size + 1, 1, none⟩ = some (.int .i64 0) ∧ W.cell? ⟨w.heap.size + 1, 2, none⟩ = some (.string ⟨#[65]⟩) ∧ W.cell? ⟨w.heap.size + 1, 3, none⟩ = some (.int .i64 0) ∧ W.cell? ⟨w.heap.size + 2, 0, none⟩ = some (.bool false) ∧ W.cell? ⟨w.heap.size + 2, 1, none⟩ = some (.string ⟨#[]⟩) ∧ W.cell? ⟨w.heap.size + 2, 2, none⟩ = some (.int .i64 0) ∧ W.frozen? ⟨w.heap.size + 2, 0, none⟩ = false ∧ W.frozen? ⟨w.heap.size + 2, 1, none⟩ = false ∧ W.frozen? ⟨w.heap.size + 2, 2, none⟩ = false) := fun W h => ⟨re1 h (cell_lt c0_0) c0_0, re1 h (cell_lt c0_1) c0_1, re1 h (cell_lt c0_2) c0_2, re1 h (cell_lt c0_3) c0_3, re1 h (cell_lt c0_4) c0_4, re1 h (cell_lt c0_5) c0_5, re1 h (cell_lt c0_6) c0_6, re1 h (cell_lt c1_0) c1_0, re1 h (cell_lt c1_1) c1_1, re1 h (cell_lt c1_2) c1_2, re1 h (cell_lt c1_3) c1_3, re1 h (cell_lt c2_0) c2_0, re1 h (cell_lt c2_1) c2_1, re1 h (cell_lt c2_2) c2_2, rf1 h (cell_lt c2_0) f2_0, rf1 h (cell_lt c2_1) f2_1, rf1 h (cell_lt c2_2) f2_2⟩
  have e0 := re1 HB.out hg h0
  have e1 := re1 HB.out hg h1
  have e2 := re1 HB.out hg h2
  have e3 := re1 HB.out hg h3
  have z0 := cell_lt c0_0
  have z1 := cell_lt c1_0
  have z2 := cell_lt c2_0
  clear h0 h1 h2 h3
  refine wp_loop_rounds 2 ?_
  rw [rounds_succ]
  go_wp2
  exact bodyPost_ret (v := .agg #[.bool true, .string ⟨#[]⟩, .int .i64 3]) (by simp [results, Tryz.results55, go_sem, *]) rfl ⟨rfl, by have hg := HB.out; go_grown⟩
end Go.Proofs.YthmlnffponjikaaGreatDoor
namespace Go.Proofs.YthmlnffponjikaaGreatDoor
open Go.RowKit

set_option maxRecDepth 100000 in
set_option maxHeartbeats 1000000 in
theorem ask_text (g : Nat) (w : World) (hG : Glob w) (h0 : w.cell? ⟨g, 0, none⟩ = some (.int .i64 0)) (h1 : w.cell? ⟨g, 1, none⟩ = some (.string ⟨#[65]⟩)) (h2 : w.cell? ⟨g, 2, none⟩ = some (.string ⟨#[120]⟩)) (h3 : w.cell? ⟨g, 3, none⟩ = some (.int .i64 3)) :
    Calls Tryz.prog 20 #[.agg #[.slice (some ⟨g, 0, none⟩) 1 1, .slice none 0 0, .slice none 0 0, .slice none 0 0, .slice none 0 0, .int .i64 0, .slice none 0 0], .agg #[.int .i64 1, .int .i64 0, .string ⟨#[65]⟩, .int .i64 0]] w fun e w' => e = .returned (.agg #[.bool true, .string ⟨#[120]⟩, .int .i64 0]) ∧ Below w.heap.size w w' := by
  have hg := cell_lt h0
  go_enter Tryz.func20, Tryz.ntmps20
  go_wp2_with fail
  generalize hw1 : ((w.alloc _).alloc _).alloc _ = w1
  have c0_0 : w1.cell? ⟨w.heap.size, 0, none⟩ = some (.slice (some ⟨g, 0, none⟩) 1 1) := by subst hw1; go_simp
  have c0_1 : w1.cell? ⟨w.heap.size, 1, none⟩ = some (.slice none 0 0) := by subst hw1; go_simp
  have c0_2 : w1.cell? ⟨w.heap.size, 2, none⟩ = some (.slice none 0 0) := by subst hw1; go_simp
  have c0_3 : w1.cell? ⟨w.heap.size, 3, none⟩ = some (.slice none 0 0) := by subst hw1; go_simp
  have c0_4 : w1.cell? ⟨w.heap.size, 4, none⟩ = some (.slice none 0 0) := by subst hw1; go_simp
  have c0_5 : w1.cell? ⟨w.heap.size, 5, none⟩ = some (.int .i64 0) := by subst hw1; go_simp
  have c0_6 : w1.cell? ⟨w.heap.size, 6, none⟩ = some (.slice none 0 0) := by subst hw1; go_simp
  have c1_0 : w1.cell? ⟨w.heap.size + 1, 0, none⟩ = some (.int .i64 1) := by subst hw1; go_simp
  have c1_1 : w1.cell? ⟨w.heap.size + 1, 1, none⟩ = some (.int .i64 0) := by subst hw1; go_simp
  have c1_2 : w1.cell? ⟨w.heap.size + 1, 2, none⟩ = some (.string ⟨#[65]⟩) := by subst hw1; go_simp
  have c1_3 : w1.cell? ⟨w.heap.size + 1, 3, none⟩ = some (.int .i64 0) := by subst hw1; go_simp
  have c2_0 : w1.cell? ⟨w.heap.size + 2, 0, none⟩ = some (.bool false) := by subst hw1; go_simp
  have c2_1 : w1.cell? ⟨w.heap.size + 2, 1, none⟩ = some (.string ⟨#[]⟩) := by subst hw1; go_simp
  have c2_2 : w1.cell? ⟨w.heap.size + 2, 2, none⟩ = some (.int .i64 0) := by subst hw1; go_simp
  have f2_0 : w1.frozen? ⟨w.heap.size + 2, 0, none⟩ = false := by subst hw1; go_simp
  have f2_1 : w1.frozen? ⟨w.heap.size + 2, 1, none⟩ = false := by subst hw1; go_simp
  have f2_2 : w1.frozen? ⟨w.heap.size + 2, 2, none⟩ = false := by subst hw1; go_simp
  have HB : Hid (Below w.heap.size w w1) := by subst hw1; exact Below.al (Below.al (Below.al (Below.refl _ _) _) _) _
  clear hw1
  have HF : Hid (∀ W, Below w1.heap.size w1 W → W.cell? ⟨w.heap.size, 0, none⟩ = some (.slice (some ⟨g, 0, none⟩) 1 1) ∧ W.cell? ⟨w.heap.size, 1, none⟩ = some (.slice none 0 0) ∧ W.cell? ⟨w.heap.size, 2, none⟩ = some (.slice none 0 0) ∧ W.cell? ⟨w.heap.size, 3, none⟩ = some (.slice none 0 0) ∧ W.cell? ⟨w.heap.size, 4, none⟩ = some (.slice none 0 0) ∧ W.cell? ⟨w.heap.size, 5, none⟩ = some (.int .i64 0) ∧ W.cell? ⟨w.heap.size, 6, none⟩ = some (.slice none 0 0) ∧ W.cell? ⟨w.heap.size + 1, 0, none⟩ = some (.int .i64 1) ∧ W.cell? ⟨w.heap.size + 1, 1, none⟩ = some (.int .i64 0) ∧ W.cell? ⟨w.heap.size + 1, 2, none⟩ = some (.string ⟨#[65]⟩) ∧ W.cell? ⟨w.heap.size + 1, 3, none⟩ = some (.int .i64 0) ∧ W.cell? ⟨w.heap.size + 2, 0, none⟩ = some (.bool false) ∧ W.cell? ⟨w.heap.size + 2, 1, none⟩ = some (.string ⟨#[]⟩) ∧ W.cell? ⟨w.heap.size + 2, 2, none⟩ = some (.int .i64 0) ∧ W.frozen? ⟨w.heap.size + 2, 0, none⟩ = false ∧ W.frozen? ⟨w.heap.size + 2, 1, none⟩ = false ∧ W.frozen? ⟨w.heap.size + 2, 2, none⟩ = false) := fun W h => ⟨re1 h (cell_lt c0_0) c0_0, re1 h (cell_lt c0_1) c0_1, re1 h (cell_lt c0_2) c0_2, re1 h (cell_lt c0_3) c0_3, re1 h (cell_lt c0_4) c0_4, re1 h (cell_lt c0_5) c0_5, re1 h (cell_lt c0_6) c0_6, re1 h (cell_lt c1_0) c1_0, re1 h (cell_lt c1_1) c1_1, re1 h (cell_lt c1_2) c1_2, re1 h (cell_lt c1_3) c1_3, re1 h (cell_lt c2_0) c2_0, re1 h (cell_lt c2_1) c2_1, re1 h (cell_lt c2_2) c2_2, rf1 h (cell_lt c2_0) f2_0, rf1 h (cell_lt c2_1) f2_1, rf1 h (cell_lt c2_2) f2_2⟩
  have HE : Hid (∀ W, Below w.heap.size w W → W.cell? ⟨g, 0, none⟩ = some (.int .i64 0) ∧ W.cell? ⟨g, 1, none⟩ = some (.string ⟨#[65]⟩) ∧ W.cell? ⟨g, 2, none⟩ = some (.string ⟨#[120]⟩) ∧ W.cell? ⟨g, 3, none⟩ = some (.int .i64 3)) := Lib.hid fun W h => ⟨re1 h hg h0, re1 h hg h1, re1 h hg h2, re1 h hg h3⟩
  clear h0 h1 h2 h3
  refine (find_none none 0 0 [] ⟨1, ⟨0, ⟨#[65]⟩⟩, 0⟩ _ (SlR.nil _) rfl).mono ?_
  rintro e w2 ⟨rfl, hb2⟩
  have HA := Lib.hid hb2
  clear hb2
  try clear c0_0 c0_1 c0_2 c0_3 c0_4 c0_5 c0_6 c1_0 c1_1 c1_2 c1_3 c2_0 c2_1 c2_2 f2_0 f2_1 f2_2
  obtain ⟨c0_0, c0_1, c0_2, c0_3, c0_4, c0_5, c0_6, c1_0, c1_1, c1_2, c1_3, c2_0, c2_1, c2_2, f2_0, f2_1, f2_2⟩ := HF.out _ (HA.out)
  have z0 := cell_lt c0_0
  have z1 := cell_lt c1_0
  have z2 := cell_lt c2_0
  go_wp2_with fail
  refine (validKey_text _ (Glob.below hG (Below.tr HB.out (Below.tr HA.out (Below.al (Below.refl _ _) _))))).mono ?_
  rintro e w3 ⟨rfl, hb3⟩
  have HA3 := Lib.hid (Below.tr HA.out (Below.tr (Below.al (Below.refl _ _) _) hb3))
  clear hb3
  try clear c0_0 c0_1 c0_2 c0_3 c0_4 c0_5 c0_6 c1_0 c1_1 c1_2 c1_3 c2_0 c2_1 c2_2 f2_0 f2_1 f2_2
  obtain ⟨c0_0, c0_1, c0_2, c0_3, c0_4, c0_5, c0_6, c1_0, c1_1, c1_2, c1_3, c2_0, c2_1, c2_2, f2_0, f2_1, f2_2⟩ := HF.out _ (HA3.out)
  go_wp2_with fail
  obtain ⟨e0, e1, e2, e3⟩ := HE.out _ (Below.tr HB.out HA3.out)
  refine (page_text g _ e0 e1 e2 e3).mono ?_
  rintro e w4 ⟨rfl, hb4⟩
  have HA4 := Lib.hid (Below.tr HA3.out hb4)
  clear hb4
  try clear c0_0 c0_1 c0_2 c0_3 c0_4 c0_5 c0_6 c1_0 c1_1 c1_2 c1_3 c2_0 c2_1 c2_2 f2_0 f2_1 f2_2
  obtain ⟨c0_0, c0_1, c0_2, c0_3, c0_4, c0_5, c0_6, c1_0, c1_1, c1_2, c1_3, c2_0, c2_1, c2_2, f2_0, f2_1, f2_2⟩ := HF.out _ (HA4.out)
  go_wp2
  exact bodyPost_ret (v := .agg #[.bool true, .string ⟨#[120]⟩, .int .i64 0]) (by simp [results, Tryz.results20, go_sem, *]) rfl ⟨rfl, by have hg := Below.tr HB.out HA4.out; go_grown⟩
set_option maxRecDepth 100000 in
set_option maxHeartbeats 1000000 in
theorem ask_revision (g : Nat) (w : World) (hG : Glob w) (h0 : w.cell? ⟨g, 0, none⟩ = some (.int .i64 0)) (h1 : w.cell? ⟨g, 1, none⟩ = some (.string ⟨#[65]⟩)) (h2 : w.cell? ⟨g, 2, none⟩ = some (.string ⟨#[120]⟩)) (h3 : w.cell? ⟨g, 3, none⟩ = some (.int .i64 3)) :
    Calls Tryz.prog 20 #[.agg #[.slice (some ⟨g, 0, none⟩) 1 1, .slice none 0 0, .slice none 0 0, .slice none 0 0, .slice none 0 0, .int .i64 0, .slice none 0 0], .agg #[.int .i64 7, .int .i64 0, .string ⟨#[65]⟩, .int .i64 0]] w fun e w' => e = .returned (.agg #[.bool true, .string ⟨#[]⟩, .int .i64 3]) ∧ Below w.heap.size w w' := by
  have hg := cell_lt h0
  go_enter Tryz.func20, Tryz.ntmps20
  go_wp2_with fail
  generalize hw1 : ((w.alloc _).alloc _).alloc _ = w1
  have c0_0 : w1.cell? ⟨w.heap.size, 0, none⟩ = some (.slice (some ⟨g, 0, none⟩) 1 1) := by subst hw1; go_simp
  have c0_1 : w1.cell? ⟨w.heap.size, 1, none⟩ = some (.slice none 0 0) := by subst hw1; go_simp
  have c0_2 : w1.cell? ⟨w.heap.size, 2, none⟩ = some (.slice none 0 0) := by subst hw1; go_simp
  have c0_3 : w1.cell? ⟨w.heap.size, 3, none⟩ = some (.slice none 0 0) := by subst hw1; go_simp
  have c0_4 : w1.cell? ⟨w.heap.size, 4, none⟩ = some (.slice none 0 0) := by subst hw1; go_simp
  have c0_5 : w1.cell? ⟨w.heap.size, 5, none⟩ = some (.int .i64 0) := by subst hw1; go_simp
  have c0_6 : w1.cell? ⟨w.heap.size, 6, none⟩ = some (.slice none 0 0) := by subst hw1; go_simp
  have c1_0 : w1.cell? ⟨w.heap.size + 1, 0, none⟩ = some (.int .i64 7) := by subst hw1; go_simp
  have c1_1 : w1.cell? ⟨w.heap.size + 1, 1, none⟩ = some (.int .i64 0) := by subst hw1; go_simp
  have c1_2 : w1.cell? ⟨w.heap.size + 1, 2, none⟩ = some (.string ⟨#[65]⟩) := by subst hw1; go_simp
  have c1_3 : w1.cell? ⟨w.heap.size + 1, 3, none⟩ = some (.int .i64 0) := by subst hw1; go_simp
  have c2_0 : w1.cell? ⟨w.heap.size + 2, 0, none⟩ = some (.bool false) := by subst hw1; go_simp
  have c2_1 : w1.cell? ⟨w.heap.size + 2, 1, none⟩ = some (.string ⟨#[]⟩) := by subst hw1; go_simp
  have c2_2 : w1.cell? ⟨w.heap.size + 2, 2, none⟩ = some (.int .i64 0) := by subst hw1; go_simp
  have f2_0 : w1.frozen? ⟨w.heap.size + 2, 0, none⟩ = false := by subst hw1; go_simp
  have f2_1 : w1.frozen? ⟨w.heap.size + 2, 1, none⟩ = false := by subst hw1; go_simp
  have f2_2 : w1.frozen? ⟨w.heap.size + 2, 2, none⟩ = false := by subst hw1; go_simp
  have HB : Hid (Below w.heap.size w w1) := by subst hw1; exact Below.al (Below.al (Below.al (Below.refl _ _) _) _) _
  clear hw1
  have HF : Hid (∀ W, Below w1.heap.size w1 W → W.cell? ⟨w.heap.size, 0, none⟩ = some (.slice (some ⟨g, 0, none⟩) 1 1) ∧ W.cell? ⟨w.heap.size, 1, none⟩ = some (.slice none 0 0) ∧ W.cell? ⟨w.heap.size, 2, none⟩ = some (.slice none 0 0) ∧ W.cell? ⟨w.heap.size, 3, none⟩ = some (.slice none 0 0) ∧ W.cell? ⟨w.heap.size, 4, none⟩ = some (.slice none 0 0) ∧ W.cell? ⟨w.heap.size, 5, none⟩ = some (.int .i64 0) ∧ W.cell? ⟨w.heap.size, 6, none⟩ = some (.slice none 0 0) ∧ W.cell? ⟨w.heap.size + 1, 0, none⟩ = some (.int .i64 7) ∧ W.cell? ⟨w.heap.size + 1, 1, none⟩ = some (.int .i64 0) ∧ W.cell? ⟨w.heap.size + 1, 2, none⟩ = some (.string ⟨#[65]⟩) ∧ W.cell? ⟨w.heap.size + 1, 3, none⟩ = some (.int .i64 0) ∧ W.cell? ⟨w.heap.size + 2, 0, none⟩ = some (.bool false) ∧ W.cell? ⟨w.heap.size + 2, 1, none⟩ = some (.string ⟨#[]⟩) ∧ W.cell? ⟨w.heap.size + 2, 2, none⟩ = some (.int .i64 0) ∧ W.frozen? ⟨w.heap.size + 2, 0, none⟩ = false ∧ W.frozen? ⟨w.heap.size + 2, 1, none⟩ = false ∧ W.frozen? ⟨w.heap.size + 2, 2, none⟩ = false) := fun W h => ⟨re1 h (cell_lt c0_0) c0_0, re1 h (cell_lt c0_1) c0_1, re1 h (cell_lt c0_2) c0_2, re1 h (cell_lt c0_3) c0_3, re1 h (cell_lt c0_4) c0_4, re1 h (cell_lt c0_5) c0_5, re1 h (cell_lt c0_6) c0_6, re1 h (cell_lt c1_0) c1_0, re1 h (cell_lt c1_1) c1_1, re1 h (cell_lt c1_2) c1_2, re1 h (cell_lt c1_3) c1_3, re1 h (cell_lt c2_0) c2_0, re1 h (cell_lt c2_1) c2_1, re1 h (cell_lt c2_2) c2_2, rf1 h (cell_lt c2_0) f2_0, rf1 h (cell_lt c2_1) f2_1, rf1 h (cell_lt c2_2) f2_2⟩
  have HE : Hid (∀ W, Below w.heap.size w W → W.cell? ⟨g, 0, none⟩ = some (.int .i64 0) ∧ W.cell? ⟨g, 1, none⟩ = some (.string ⟨#[65]⟩) ∧ W.cell? ⟨g, 2, none⟩ = some (.string ⟨#[120]⟩) ∧ W.cell? ⟨g, 3, none⟩ = some (.int .i64 3)) := Lib.hid fun W h => ⟨re1 h hg h0, re1 h hg h1, re1 h hg h2, re1 h hg h3⟩
  clear h0 h1 h2 h3
  refine (find_none none 0 0 [] ⟨7, ⟨0, ⟨#[65]⟩⟩, 0⟩ _ (SlR.nil _) rfl).mono ?_
  rintro e w2 ⟨rfl, hb2⟩
  have HA := Lib.hid hb2
  clear hb2
  try clear c0_0 c0_1 c0_2 c0_3 c0_4 c0_5 c0_6 c1_0 c1_1 c1_2 c1_3 c2_0 c2_1 c2_2 f2_0 f2_1 f2_2
  obtain ⟨c0_0, c0_1, c0_2, c0_3, c0_4, c0_5, c0_6, c1_0, c1_1, c1_2, c1_3, c2_0, c2_1, c2_2, f2_0, f2_1, f2_2⟩ := HF.out _ (HA.out)
  have z0 := cell_lt c0_0
  have z1 := cell_lt c1_0
  have z2 := cell_lt c2_0
  go_wp2_with fail
  refine (validKey_revision _ (Glob.below hG (Below.tr HB.out (Below.tr HA.out (Below.al (Below.refl _ _) _))))).mono ?_
  rintro e w3 ⟨rfl, hb3⟩
  have HA3 := Lib.hid (Below.tr HA.out (Below.tr (Below.al (Below.refl _ _) _) hb3))
  clear hb3
  try clear c0_0 c0_1 c0_2 c0_3 c0_4 c0_5 c0_6 c1_0 c1_1 c1_2 c1_3 c2_0 c2_1 c2_2 f2_0 f2_1 f2_2
  obtain ⟨c0_0, c0_1, c0_2, c0_3, c0_4, c0_5, c0_6, c1_0, c1_1, c1_2, c1_3, c2_0, c2_1, c2_2, f2_0, f2_1, f2_2⟩ := HF.out _ (HA3.out)
  go_wp2_with fail
  obtain ⟨e0, e1, e2, e3⟩ := HE.out _ (Below.tr HB.out HA3.out)
  refine (page_revision g _ e0 e1 e2 e3).mono ?_
  rintro e w4 ⟨rfl, hb4⟩
  have HA4 := Lib.hid (Below.tr HA3.out hb4)
  clear hb4
  try clear c0_0 c0_1 c0_2 c0_3 c0_4 c0_5 c0_6 c1_0 c1_1 c1_2 c1_3 c2_0 c2_1 c2_2 f2_0 f2_1 f2_2
  obtain ⟨c0_0, c0_1, c0_2, c0_3, c0_4, c0_5, c0_6, c1_0, c1_1, c1_2, c1_3, c2_0, c2_1, c2_2, f2_0, f2_1, f2_2⟩ := HF.out _ (HA4.out)
  go_wp2
  exact bodyPost_ret (v := .agg #[.bool true, .string ⟨#[]⟩, .int .i64 3]) (by simp [results, Tryz.results20, go_sem, *]) rfl ⟨rfl, by have hg := Below.tr HB.out HA4.out; go_grown⟩
theorem ansEql (a b : Answer) (W : World) : (binOp .eql 51 (.agg #[.bool a.ok, .string a.text, .int .i64 a.n]) (.agg #[.bool b.ok, .string b.text, .int .i64 b.n])).run Tryz.prog W = .ok (.bool (decide (a = b))) W := by
  have e : (if a.ok = b.ok then if a.text.toList = b.text.toList then if a.n = b.n then true else false else false else false) = decide (a = b) := by
    obtain ⟨x, y, z⟩ := a
    obtain ⟨x', y', z'⟩ := b
    simp only [Answer.mk.injEq, toList_iff]
    (repeat' split) <;> simp_all
  rw [← e]
  go_simp
  (repeat' split) <;> simp_all
set_option maxRecDepth 100000 in
set_option maxHeartbeats 1000000 in
theorem known_any (w : World) (hG : Glob w) : Calls Tryz.prog 11 #[] w fun e w' => e = .returned (.bool true) ∧ Below w.heap.size w w' := by
  go_enter Tryz.func11, Tryz.ntmps11
  go_wp2_with fail
  generalize hw1 : ((w.alloc _).alloc _).alloc _ = w1
  have c0_0 : w1.cell? ⟨w.heap.size, 0, none⟩ = some (.int .i64 0) := by subst hw1; go_simp
  have c0_1 : w1.cell? ⟨w.heap.size, 1, none⟩ = some (.string ⟨#[65]⟩) := by subst hw1; go_simp
  have c1_0 : w1.cell? ⟨w.heap.size + 1, 0, none⟩ = some (.int .i64 0) := by subst hw1; go_simp
  have c1_1 : w1.cell? ⟨w.heap.size + 1, 1, none⟩ = some (.string ⟨#[65]⟩) := by subst hw1; go_simp
  have c1_2 : w1.cell? ⟨w.heap.size + 1, 2, none⟩ = some (.string ⟨#[120]⟩) := by subst hw1; go_simp
  have c1_3 : w1.cell? ⟨w.heap.size + 1, 3, none⟩ = some (.int .i64 3) := by subst hw1; go_simp
  have c2_0 : w1.cell? ⟨w.heap.size + 1 + 1, 0, none⟩ = some (.slice (some ⟨w.heap.size + 1, 0, none⟩) 1 1) := by subst hw1; go_simp
  have c2_1 : w1.cell? ⟨w.heap.size + 1 + 1, 1, none⟩ = some (.slice none 0 0) := by subst hw1; go_simp
  have c2_2 : w1.cell? ⟨w.heap.size + 1 + 1, 2, none⟩ = some (.slice none 0 0) := by subst hw1; go_simp
  have c2_3 : w1.cell? ⟨w.heap.size + 1 + 1, 3, none⟩ = some (.slice none 0 0) := by subst hw1; go_simp
  have c2_4 : w1.cell? ⟨w.heap.size + 1 + 1, 4, none⟩ = some (.slice none 0 0) := by subst hw1; go_simp
  have c2_5 : w1.cell? ⟨w.heap.size + 1 + 1, 5, none⟩ = some (.int .i64 0) := by subst hw1; go_simp
  have c2_6 : w1.cell? ⟨w.heap.size + 1 + 1, 6, none⟩ = some (.slice none 0 0) := by subst hw1; go_simp
  have HB : Hid (Below w.heap.size w w1) := by subst hw1; exact Below.al (Below.al (Below.al (Below.refl _ _) _) _) _
  clear hw1
  have HF : Hid (∀ W, Below w1.heap.size w1 W → W.cell? ⟨w.heap.size, 0, none⟩ = some (.int .i64 0) ∧ W.cell? ⟨w.heap.size, 1, none⟩ = some (.string ⟨#[65]⟩) ∧ W.cell? ⟨w.heap.size + 1, 0, none⟩ = some (.int .i64 0) ∧ W.cell? ⟨w.heap.size + 1, 1, none⟩ = some (.string ⟨#[65]⟩) ∧ W.cell? ⟨w.heap.size + 1, 2, none⟩ = some (.string ⟨#[120]⟩) ∧ W.cell? ⟨w.heap.size + 1, 3, none⟩ = some (.int .i64 3) ∧ W.cell? ⟨w.heap.size + 1 + 1, 0, none⟩ = some (.slice (some ⟨w.heap.size + 1, 0, none⟩) 1 1) ∧ W.cell? ⟨w.heap.size + 1 + 1, 1, none⟩ = some (.slice none 0 0) ∧ W.cell? ⟨w.heap.size + 1 + 1, 2, none⟩ = some (.slice none 0 0) ∧ W.cell? ⟨w.heap.size + 1 + 1, 3, none⟩ = some (.slice none 0 0) ∧ W.cell? ⟨w.heap.size + 1 + 1, 4, none⟩ = some (.slice none 0 0) ∧ W.cell? ⟨w.heap.size + 1 + 1, 5, none⟩ = some (.int .i64 0) ∧ W.cell? ⟨w.heap.size + 1 + 1, 6, none⟩ = some (.slice none 0 0)) := fun W h => ⟨re1 h (cell_lt c0_0) c0_0, re1 h (cell_lt c0_1) c0_1, re1 h (cell_lt c1_0) c1_0, re1 h (cell_lt c1_1) c1_1, re1 h (cell_lt c1_2) c1_2, re1 h (cell_lt c1_3) c1_3, re1 h (cell_lt c2_0) c2_0, re1 h (cell_lt c2_1) c2_1, re1 h (cell_lt c2_2) c2_2, re1 h (cell_lt c2_3) c2_3, re1 h (cell_lt c2_4) c2_4, re1 h (cell_lt c2_5) c2_5, re1 h (cell_lt c2_6) c2_6⟩
  refine (validate_one (w.heap.size + 1) _ (Glob.below hG HB.out) c1_0 c1_1 c1_2 c1_3).mono ?_
  rintro e w2 ⟨rfl, hb2⟩
  have HA := Lib.hid hb2
  clear hb2
  try clear c0_0 c0_1 c1_0 c1_1 c1_2 c1_3 c2_0 c2_1 c2_2 c2_3 c2_4 c2_5 c2_6
  obtain ⟨c0_0, c0_1, c1_0, c1_1, c1_2, c1_3, c2_0, c2_1, c2_2, c2_3, c2_4, c2_5, c2_6⟩ := HF.out _ (HA.out)
  go_wp2_with fail
  refine (ask_text (w.heap.size + 1) _ (Glob.below hG (Below.tr HB.out HA.out)) c1_0 c1_1 c1_2 c1_3).mono ?_
  rintro e w3 ⟨rfl, hb3⟩
  have HA3 := Lib.hid (Below.tr HA.out hb3)
  clear hb3
  try clear c0_0 c0_1 c1_0 c1_1 c1_2 c1_3 c2_0 c2_1 c2_2 c2_3 c2_4 c2_5 c2_6
  obtain ⟨c0_0, c0_1, c1_0, c1_1, c1_2, c1_3, c2_0, c2_1, c2_2, c2_3, c2_4, c2_5, c2_6⟩ := HF.out _ (HA3.out)
  go_wp2_with fail
  refine (ask_revision (w.heap.size + 1) _ (Glob.below hG (Below.tr HB.out HA3.out)) c1_0 c1_1 c1_2 c1_3).mono ?_
  rintro e w4 ⟨rfl, hb4⟩
  have HA4 := Lib.hid (Below.tr HA3.out hb4)
  clear hb4
  try clear c0_0 c0_1 c1_0 c1_1 c1_2 c1_3 c2_0 c2_1 c2_2 c2_3 c2_4 c2_5 c2_6
  obtain ⟨c0_0, c0_1, c1_0, c1_1, c1_2, c1_3, c2_0, c2_1, c2_2, c2_3, c2_4, c2_5, c2_6⟩ := HF.out _ (HA4.out)
  go_wp2_with fail
  refine (validKey_clock _).mono ?_
  rintro e w5 ⟨rfl, hb5⟩
  have HA5 := Lib.hid (Below.tr HA4.out hb5)
  clear hb5
  try clear c0_0 c0_1 c1_0 c1_1 c1_2 c1_3 c2_0 c2_1 c2_2 c2_3 c2_4 c2_5 c2_6
  obtain ⟨c0_0, c0_1, c1_0, c1_1, c1_2, c1_3, c2_0, c2_1, c2_2, c2_3, c2_4, c2_5, c2_6⟩ := HF.out _ (HA5.out)
  go_wp2_with fail
  refine (keyCompare_any ⟨1, ⟨0, ⟨#[]⟩⟩, 0⟩ ⟨2, ⟨0, ⟨#[]⟩⟩, 0⟩ _).mono ?_
  rintro e w6 ⟨rfl, hb6⟩
  have HA6 := Lib.hid (Below.tr HA5.out hb6)
  clear hb6
  try clear c0_0 c0_1 c1_0 c1_1 c1_2 c1_3 c2_0 c2_1 c2_2 c2_3 c2_4 c2_5 c2_6
  obtain ⟨c0_0, c0_1, c1_0, c1_1, c1_2, c1_3, c2_0, c2_1, c2_2, c2_3, c2_4, c2_5, c2_6⟩ := HF.out _ (HA6.out)
  have hk : Key.cmp ⟨1, ⟨0, ⟨#[]⟩⟩, 0⟩ ⟨2, ⟨0, ⟨#[]⟩⟩, 0⟩ = -1 := by decide +kernel
  rw [hk]
  clear hk
  go_wp2
  go_ret
  exact ⟨rfl, Below.tr HB.out HA6.out⟩
end Go.Proofs.YthmlnffponjikaaGreatDoor
