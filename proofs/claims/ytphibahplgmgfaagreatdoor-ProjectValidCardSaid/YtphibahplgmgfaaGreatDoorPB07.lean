/- The levels of a title, the reference's. | title.Ancestors and slices.Reverse, as contracts in values. | access: levels, May. | strings.Trim at a set of ASCII bytes. | strings.ContainsAny at two bytes; what a list is from a place on. -/
import Derived.Test.YtphibahplgmgfaaGreatDoorPB06
import Derived.Test.YtphibahplgmgfaaGreatDoorPB03
import Derived.Test.YtphibahplgmgfaaGreatDoorPB02
import Derived.Lib.AsciiSet
import Derived.Lib.IndexAny
namespace Go.Proofs.YtphibahplgmgfaaGreatDoor
open Go.RowKit
def upLevels:List Title→List Scope
 | []=>[]
 | a::r=>upLevels r ++ [⟨3,a⟩]
def levelsL (t:Title):List Scope:=[⟨3,t⟩]++upLevels (ancL t) ++ [⟨2,⟨t.space,⟨#[]⟩⟩⟩,⟨1,⟨0,⟨#[]⟩⟩⟩]
theorem upLevels_len:∀ l,(upLevels l).length=l.length
 | []=>rfl
 | a::r=>by simp [upLevels,upLevels_len r]
theorem ancL_len (t:Title):(ancL t).length≤100:=by
 unfold ancL
 split
 ·rename_i h
  have:=ancUpto_len t t.name.size
  simp only [Title.valid,Bool.and_eq_true,decide_eq_true_eq] at h
  omega
 ·simp
end Go.Proofs.YtphibahplgmgfaaGreatDoor
namespace Go.Proofs.YtphibahplgmgfaaGreatDoor
open VL Go.RowKit
def encTitle (x:Title):List Value:=[.int .i64 x.space,.string x.name]
theorem plainTitle (x:Title):plainL (Title.cs x)=some (encTitle x):=rfl
instance:EncPV Title:=⟨Title.cs,fun w x vs h=>by
 have h':vs=encTitle x:=h
 subst h'
 refine ⟨rfl,fun j p v hp hv=>?_⟩
 obtain ⟨r,h1,h2⟩:=plainL_at (plainTitle x) hp
 rw [h1] at hv
 injection hv with hv
 subst hv
 match j,hp with
 | 0,hp=>injection hp with hp;subst hp;injection h1 with h1;subst h1;exact ⟨rfl,.int .i64 _⟩
 | 1,hp=>injection hp with hp;subst hp;injection h1 with h1;subst h1;exact ⟨rfl,.str _⟩⟩
theorem ancestors_n (t:Title):ContractN Tryz.prog 130 [t.pv] (.row 29 2 false ((ancL t).map Title.cs)):=
 contractN_own (vals:=[.agg #[.int .i64 t.space,.string t.name]]) (enc:=encTitle) (by kernel_rfl) rfl plainTitle (fun S w x cs h=>h) (fun x=>rfl) fun w hw=>ancestors_any t w hw.1
instance:Inhabited Title:=⟨⟨0,⟨#[]⟩⟩⟩
theorem reverse_m (M:List Title):ContractM Tryz.prog 131 29 2 (M.map Title.cs) (M.reverse.map Title.cs):=by
 have hk:∀ x,(encTitle x).length=2:=fun _=>rfl
 refine ⟨by kernel_rfl,fun e he=>?_,fun e he p hp=>?_,by rw [plainL_flat plainTitle];rfl,fun W v vs hown hvs _=>?_⟩
 ·obtain ⟨x,_,rfl⟩:=List.mem_map.1 he
  rfl
 ·obtain ⟨x,_,rfl⟩:=List.mem_map.1 he
  simp [Title.cs] at hp
  rcases hp with rfl | rfl<;>rfl
 ·rw [plainL_flat plainTitle] at hvs
  injection hvs with hvs
  subst hvs
  rw [List.length_map] at hown
  rcases hown.2 with ⟨hn,h0⟩ | ⟨g,cap,cur,hv,hB,hh,h1,h2,h3,ht⟩
  ·obtain rfl:M = []:=List.eq_nil_of_length_eq_zero h0
   subst hn
   refine (AnyQ.slices_Reverse_empty Tryz.reverseTitle none 0 W).mono ?_
   rintro e w' ⟨rfl,rfl⟩
   exact ⟨[],rfl,rfl,World.ownsRow_nil _ _ _ _,Gr.refl _ _⟩
  ·subst hv
   have hH:=holdsK_own encTitle 2 hk hh ht
   have hle:M.toArray.size≤9223372036854775807:=by unfold maxLen at h2;simp;omega
   have:=AnyQ.slices_Reverse Tryz.reverseTitle 2 Tryz.isAgg29 Tryz.sizeOf29 encTitle hk (fun x v hv=>by simp [encTitle] at hv;rcases hv with rfl | rfl<;>rfl) g 0 cap M.toArray W hH hle
   refine Calls.mono this ?_
   rintro e w' ⟨rfl,n,rfl⟩
   have hr:M.toArray.reverse=M.reverse.toArray:=by simp
   rw [hr]
   obtain ⟨o1,o2⟩:=own_putRowK (n:=n) encTitle 2 hk (M:=M.reverse) hh (by simpa using h1) h2 h3
   rw [List.length_reverse] at o1 o2
   refine ⟨M.reverse.flatMap encTitle,rfl,plainL_flat plainTitle _,?_,?_⟩
   ·rw [List.length_map,List.length_reverse]
    exact o1
   ·exact o2
end Go.Proofs.YtphibahplgmgfaaGreatDoor
namespace Go.Proofs.YtphibahplgmgfaaGreatDoor
open VL
theorem up_rev:∀ l:List Title,upLevels l=l.reverse.map fun a=>(⟨3,a⟩:Scope)
 | []=>rfl
 | a::r=>by simp [upLevels,up_rev r]
set_option maxHeartbeats 2000000 in
set_option maxRecDepth 100000 in
theorem levels_c (t:Title):Contract0 Tryz.prog 87 [t.pv] (.sl ((levelsL t).map Scope.cs)):=by
 have hlen:=ancL_len t
 refine contract_run mix Tryz.func87 (by kernel_rfl) rfl (by kernel_rfl) ?_
 repeat (first | (refine g_callN (ancestors_n t) rfl rfl ?_) | (refine g_callM (reverse_m _) rfl rfl rfl ?_) | refine g_inc rfl rfl (by omega) ?_ | refine g_add rfl rfl rfl (by omega) (by omega) ?_ | refine g_dec rfl rfl rfl (by omega) ?_ | refine g_sub rfl rfl rfl (by omega) (by omega) ?_ | refine runA ?_ | refine g_lenS Tryz.underlying9 rfl rfl ?_)
 refine pws_loop (α:=Nat) (fun i _=>mkS [(1,.ptr 1 (1,1) 0),(3,.row 9 (1,9)),(14,.sl ((ancL t).reverse.map Title.cs)),(15,.int .i64 ((ancL t).length:Int)),(16,.int .i64 ((i:Nat):Int))]
   [(1,some ((1,1),.box t.cs)),(9,some ((1,9),.row 103 3 false ((⟨3,t⟩::((ancL t).reverse.take i).map fun a=>(⟨3,a⟩:Scope)).map Scope.cs)))] 2)
  (fun i=>i≤(ancL t).length) (fun i=>(ancL t).length - i) 0 2 (Nat.zero_le _)
  (Shift.trans (shift_T 14 rfl rfl) (shift_ren [((1,1),_),((1,9),_)] ⟨rfl,rfl,rfl,?_,rfl,trivial⟩ ⟨⟨rfl,rfl⟩,⟨rfl,rfl⟩,trivial⟩ rfl)) (fun i _ (hi:i≤(ancL t).length)=>?_)
 ·show some (PV.int .i64 ((ancL t).length:Int))=some (PV.int .i64 (((ancL t).reverse.map Title.cs).length:Int))
  rw [List.length_map,List.length_reverse]
 repeat (first | refine g_inc rfl rfl (by omega) ?_ | refine g_add rfl rfl rfl (by omega) (by omega) ?_ | refine g_dec rfl rfl rfl (by omega) ?_ | refine g_sub rfl rfl rfl (by omega) (by omega) ?_ | refine runA ?_ | refine g_lenS Tryz.underlying9 rfl rfl ?_)
 by_cases hlt:(i:Int)<((ancL t).length:Int)
 ·refine pws_condT (by (conv=>lhs;whnf);try rfl) (decide_eq_true hlt) ?_
  have hlt':i<(ancL t).reverse.length:=by rw [List.length_reverse];omega
  obtain ⟨x,hx⟩:∃ x,(ancL t).reverse[i]? = some x:=⟨_,List.getElem?_eq_getElem hlt'⟩
  have hcs:((ancL t).reverse.map Title.cs)[i]? = some x.cs:=by rw [List.getElem?_map,hx];rfl
  repeat (first | (refine g_index_sl rfl rfl rfl hcs rfl ?_) | (refine g_append_row rfl rfl rfl rfl (by show (List.length _+1) * _≤_;simp;omega) (by show List.length _+1≤_;simp;omega) (by rfl) ?_) | refine g_inc rfl rfl (by omega) ?_ | refine g_add rfl rfl rfl (by omega) (by omega) ?_ | refine g_dec rfl rfl rfl (by omega) ?_ | refine g_sub rfl rfl rfl (by omega) (by omega) ?_ | refine runA ?_ | refine g_lenS Tryz.underlying9 rfl rfl ?_)
  refine rk_normal (i+1) 2 (by omega) (by show (ancL t).length - (i+1)<(ancL t).length - i;omega) (shift_ren [((1,1),(1,1)),((1,9),_)] ⟨rfl,rfl,rfl,rfl,rfl,trivial⟩ ⟨⟨rfl,rfl⟩,⟨?_,rfl⟩,trivial⟩ rfl)
  rw [List.take_add_one,hx]
  simp only [Option.toList_some,List.map_append,List.map_cons,List.map_nil]
  rfl
 ·refine pws_condF (by (conv=>lhs;whnf);try rfl) (decide_eq_false hlt) ?_
  repeat (first | (refine g_append_row rfl rfl rfl rfl (by show (List.length _+2) * _≤_;simp;omega) (by show List.length _+2≤_;simp;omega) (by rfl) ?_) | refine g_inc rfl rfl (by omega) ?_ | refine g_add rfl rfl rfl (by omega) (by omega) ?_ | refine g_dec rfl rfl rfl (by omega) ?_ | refine g_sub rfl rfl rfl (by omega) (by omega) ?_ | refine runA ?_ | refine g_lenS Tryz.underlying9 rfl rfl ?_)
  refine rq_ret rfl rfl ?_
  unfold levelsL
  rw [up_rev,List.take_of_length_le (by simp;omega)]
  simp only [List.map_append,List.map_cons,List.map_nil]
  rfl
def ruleHits (G:List ByteArray) (right:Int) (lv:Scope) (r:Rule):Bool:=decide (r.right=right)&&hasL G r.group&&matchB r.scope lv
def mayFrom (R:List Rule) (G:List ByteArray) (right:Int):List Scope→Bool
 | []=>false
 | lv::rest=>if R.any (ruleHits G right lv) then R.all (fun r=>!ruleHits G right lv r||r.allow) else mayFrom R G right rest
def mayB (p:Policy) (G:List ByteArray) (right:Int) (t:Title):Bool:=t.valid&&decide (1≤right)&&decide (right≤5)&&mayFrom p.rules G right (levelsL t)
theorem any_take {α:Type} {R:List α} {f:α→Bool} {k:Nat} {r:α} (h:R[k]? = some r):(R.take (k+1)).any f=((R.take k).any f||f r):=by rw [List.take_add_one,h];simp
theorem all_take {α:Type} {R:List α} {f:α→Bool} {k:Nat} {r:α} (h:R[k]? = some r):(R.take (k+1)).all f=((R.take k).all f&&f r):=by rw [List.take_add_one,h];simp
set_option maxHeartbeats 8000000 in
set_option maxRecDepth 100000 in
theorem may_c (p:Policy) (G:List ByteArray) (right:Int) (t:Title) (hR:p.rules.length≤1000000):Contract0 Tryz.prog 49 [p.pv,strsV G,.int .i64 right,t.pv] (.bool (mayB p G right t)):=by
 have hcv:=valid_c t
 have hll:(levelsL t).length≤103:=by unfold levelsL;have:=ancL_len t;simp [upLevels_len];omega
 refine contract_run mix Tryz.func49 (by kernel_rfl) rfl (by kernel_rfl) ?_
 rcases Bool.eq_false_or_eq_true t.valid with hv | hv<;>rw [hv] at hcv
 ·repeat (first | (refine g_call hcv rfl rfl ?_) | refine g_inc rfl rfl (by omega) ?_ | refine g_add rfl rfl rfl (by omega) (by omega) ?_ | refine g_dec rfl rfl rfl (by omega) ?_ | refine g_sub rfl rfl rfl (by omega) (by omega) ?_ | refine runA ?_ | refine g_lenS Tryz.underlying9 rfl rfl ?_)
  by_cases h1:right<1
  ·rw [decide_eq_true h1]
   repeat (first | (refine g_skip rfl ?_) | refine g_inc rfl rfl (by omega) ?_ | refine g_add rfl rfl rfl (by omega) (by omega) ?_ | refine g_dec rfl rfl rfl (by omega) ?_ | refine g_sub rfl rfl rfl (by omega) (by omega) ?_ | refine runA ?_ | refine g_lenS Tryz.underlying9 rfl rfl ?_)
   refine pws_condT (by (conv=>lhs;whnf);try rfl) rfl ?_
   repeat (first | refine g_inc rfl rfl (by omega) ?_ | refine g_add rfl rfl rfl (by omega) (by omega) ?_ | refine g_dec rfl rfl rfl (by omega) ?_ | refine g_sub rfl rfl rfl (by omega) (by omega) ?_ | refine runA ?_ | refine g_lenS Tryz.underlying9 rfl rfl ?_)
   refine rq_ret rfl rfl ?_
   unfold mayB
   rw [decide_eq_false (show ¬ 1≤right by omega)]
   simp
   rfl
  ·rw [decide_eq_false h1]
   repeat (first | refine g_inc rfl rfl (by omega) ?_ | refine g_add rfl rfl rfl (by omega) (by omega) ?_ | refine g_dec rfl rfl rfl (by omega) ?_ | refine g_sub rfl rfl rfl (by omega) (by omega) ?_ | refine runA ?_ | refine g_lenS Tryz.underlying9 rfl rfl ?_)
   by_cases h5:5<right
   ·refine pws_condT (by (conv=>lhs;whnf);try rfl) (decide_eq_true h5) ?_
    repeat (first | refine g_inc rfl rfl (by omega) ?_ | refine g_add rfl rfl rfl (by omega) (by omega) ?_ | refine g_dec rfl rfl rfl (by omega) ?_ | refine g_sub rfl rfl rfl (by omega) (by omega) ?_ | refine runA ?_ | refine g_lenS Tryz.underlying9 rfl rfl ?_)
    refine rq_ret rfl rfl ?_
    unfold mayB
    rw [decide_eq_false (show ¬ right≤5 by omega)]
    simp
    rfl
   ·refine pws_condF (by (conv=>lhs;whnf);try rfl) (decide_eq_false h5) ?_
    have hmay:mayB p G right t=mayFrom p.rules G right (levelsL t):=by
     unfold mayB
     rw [hv,decide_eq_true (show 1≤right by omega),decide_eq_true (show right≤5 by omega)]
     rfl
    rw [hmay]
    repeat (first | (refine g_call (levels_c t) rfl rfl ?_) | refine g_inc rfl rfl (by omega) ?_ | refine g_add rfl rfl rfl (by omega) (by omega) ?_ | refine g_dec rfl rfl rfl (by omega) ?_ | refine g_sub rfl rfl rfl (by omega) (by omega) ?_ | refine runA ?_ | refine g_lenS Tryz.underlying9 rfl rfl ?_)
    refine pws_loop (α:=Nat) (fun i _=>mkS [(1,strsV G),(2,.int .i64 right),(4,.ptr 4 (1,4) 0),(27,.sl ((levelsL t).map Scope.cs)),(28,.int .i64 ((levelsL t).length:Int)),(29,.int .i64 ((i:Nat):Int))] [(4,some ((1,4),.box p.cs))] 2)
     (fun i=>i≤(levelsL t).length∧mayFrom p.rules G right (levelsL t)=mayFrom p.rules G right ((levelsL t).drop i)) (fun i=>(levelsL t).length - i) 0 2 ⟨Nat.zero_le _,rfl⟩
     (shift_ren [((1,4),(1,0))] ⟨rfl,rfl,rfl,rfl,?_,rfl,trivial⟩ ⟨⟨rfl,rfl⟩,trivial⟩ rfl) (fun i _ hJ=>?_)
    ·show some (PV.int .i64 ((levelsL t).length:Int))=some (PV.int .i64 (((levelsL t).map Scope.cs).length:Int))
     rw [List.length_map]
    obtain ⟨(hi:i≤(levelsL t).length),(hno:mayFrom p.rules G right (levelsL t)=mayFrom p.rules G right ((levelsL t).drop i))⟩:=hJ
    repeat (first | refine g_inc rfl rfl (by omega) ?_ | refine g_add rfl rfl rfl (by omega) (by omega) ?_ | refine g_dec rfl rfl rfl (by omega) ?_ | refine g_sub rfl rfl rfl (by omega) (by omega) ?_ | refine runA ?_ | refine g_lenS Tryz.underlying9 rfl rfl ?_)
    by_cases hlt:(i:Int)<((levelsL t).length:Int)
    ·refine pws_condT (by (conv=>lhs;whnf);try rfl) (decide_eq_true hlt) ?_
     have hlt':i<(levelsL t).length:=by omega
     obtain ⟨lv,hx⟩:∃ lv,(levelsL t)[i]? = some lv:=⟨_,List.getElem?_eq_getElem hlt'⟩
     have hcs:((levelsL t).map Scope.cs)[i]? = some lv.cs:=by rw [List.getElem?_map,hx];rfl
     have hd:(levelsL t).drop i=lv::(levelsL t).drop (i+1):=by
      rw [List.drop_eq_getElem_cons hlt']
      rw [List.getElem?_eq_getElem hlt'] at hx
      injection hx with hx
      rw [hx]
     rw [hd,mayFrom] at hno
     repeat (first | (refine g_index_sl rfl rfl rfl hcs rfl ?_) | refine g_inc rfl rfl (by omega) ?_ | refine g_add rfl rfl rfl (by omega) (by omega) ?_ | refine g_dec rfl rfl rfl (by omega) ?_ | refine g_sub rfl rfl rfl (by omega) (by omega) ?_ | refine runA ?_ | refine g_lenS Tryz.underlying9 rfl rfl ?_)
     refine pws_loop (α:=Nat) (fun k _=>mkS [(1,strsV G),(2,.int .i64 right),(4,.ptr 4 (1,4) 0),(27,.sl ((levelsL t).map Scope.cs)),(28,.int .i64 ((levelsL t).length:Int)),(29,.int .i64 (i:Int)),(10,.ptr 10 (1,10) 0),(11,.bool ((p.rules.take k).any (ruleHits G right lv))),(12,.bool ((p.rules.take k).all fun r=>!ruleHits G right lv r||r.allow)),(34,.sl (p.rules.map Rule.cs)),(35,.int .i64 (p.rules.length:Int)),(36,.int .i64 ((k:Nat):Int))] [(4,some ((1,4),.box p.cs)),(10,some ((1,10),.box lv.cs))] 2)
      (fun k=>k≤p.rules.length) (fun k=>p.rules.length - k) 0 2 (Nat.zero_le _)
      (shift_ren [((1,4),(1,4)),((1,10),_)] ⟨rfl,rfl,rfl,rfl,rfl,rfl,rfl,rfl,rfl,rfl,?_,rfl,trivial⟩ ⟨⟨rfl,rfl⟩,⟨rfl,rfl⟩,trivial⟩ rfl) (fun k _ (hk:k≤p.rules.length)=>?_)
     ·show some (PV.int .i64 (p.rules.length:Int))=some (PV.int .i64 ((p.rules.map Rule.cs).length:Int))
      rw [List.length_map]
     repeat (first | refine g_inc rfl rfl (by omega) ?_ | refine g_add rfl rfl rfl (by omega) (by omega) ?_ | refine g_dec rfl rfl rfl (by omega) ?_ | refine g_sub rfl rfl rfl (by omega) (by omega) ?_ | refine runA ?_ | refine g_lenS Tryz.underlying9 rfl rfl ?_)
     by_cases hlk:(k:Int)<(p.rules.length:Int)
     ·refine pws_condT (by (conv=>lhs;whnf);try rfl) (decide_eq_true hlk) ?_
      have hlk':k<p.rules.length:=by omega
      obtain ⟨r,hr⟩:∃ r,p.rules[k]? = some r:=⟨_,List.getElem?_eq_getElem hlk'⟩
      have hcr:(p.rules.map Rule.cs)[k]? = some r.cs:=by rw [List.getElem?_map,hr];rfl
      have hany:(p.rules.take (k+1)).any (ruleHits G right lv)=((p.rules.take k).any (ruleHits G right lv)||ruleHits G right lv r):=any_take hr
      have hall:(p.rules.take (k+1)).all (fun r=>!ruleHits G right lv r||r.allow)=((p.rules.take k).all (fun r=>!ruleHits G right lv r||r.allow)&&(!ruleHits G right lv r||r.allow)):=all_take (f:=fun r=>!ruleHits G right lv r||r.allow) hr
      have hms:p.rules.length - (k+1)<p.rules.length - k:=by omega
      repeat (first | (refine g_index_sl rfl rfl rfl hcr rfl ?_) | refine g_inc rfl rfl (by omega) ?_ | refine g_add rfl rfl rfl (by omega) (by omega) ?_ | refine g_dec rfl rfl rfl (by omega) ?_ | refine g_sub rfl rfl rfl (by omega) (by omega) ?_ | refine runA ?_ | refine g_lenS Tryz.underlying9 rfl rfl ?_)
      by_cases e1:r.right=right
      ·rw [decide_eq_true e1]
       repeat (first | (refine g_call (contains_c G _) rfl rfl ?_) | refine g_inc rfl rfl (by omega) ?_ | refine g_add rfl rfl rfl (by omega) (by omega) ?_ | refine g_dec rfl rfl rfl (by omega) ?_ | refine g_sub rfl rfl rfl (by omega) (by omega) ?_ | refine runA ?_ | refine g_lenS Tryz.underlying9 rfl rfl ?_)
       rcases Bool.eq_false_or_eq_true (hasL G r.group) with e2 | e2
       ·rw [e2]
        repeat (first | (refine g_call (covers_c r.scope lv) rfl rfl ?_) | refine g_inc rfl rfl (by omega) ?_ | refine g_add rfl rfl rfl (by omega) (by omega) ?_ | refine g_dec rfl rfl rfl (by omega) ?_ | refine g_sub rfl rfl rfl (by omega) (by omega) ?_ | refine runA ?_ | refine g_lenS Tryz.underlying9 rfl rfl ?_)
        have hf:ruleHits G right lv r=matchB r.scope lv:=by unfold ruleHits;rw [decide_eq_true e1,e2];rfl
        rcases Bool.eq_false_or_eq_true (matchB r.scope lv) with e3 | e3
        ·refine pws_condT (by (conv=>lhs;whnf);try rfl) e3 ?_
         rw [hf,e3] at hany hall
         simp only [Bool.or_true,Bool.not_true,Bool.false_or] at hany hall
         rcases Bool.eq_false_or_eq_true ((p.rules.take k).all fun r=>!ruleHits G right lv r||r.allow) with e4 | e4
         ·rw [e4]
          rw [e4,Bool.true_and] at hall
          repeat (first | refine g_inc rfl rfl (by omega) ?_ | refine g_add rfl rfl rfl (by omega) (by omega) ?_ | refine g_dec rfl rfl rfl (by omega) ?_ | refine g_sub rfl rfl rfl (by omega) (by omega) ?_ | refine runA ?_ | refine g_lenS Tryz.underlying9 rfl rfl ?_)
          refine rk_normal (k+1) 2 hlk' hms (shift_ren [((1,4),(1,4)),((1,10),(1,10))] ⟨rfl,rfl,rfl,rfl,rfl,rfl,rfl,?_,?_,rfl,rfl,rfl,trivial⟩ ⟨⟨rfl,rfl⟩,⟨rfl,rfl⟩,trivial⟩ rfl)
          ·rw [hany];rfl
          ·rw [hall];rfl
         ·rw [e4]
          rw [e4,Bool.false_and] at hall
          repeat (first | (refine g_skip rfl ?_) | refine g_inc rfl rfl (by omega) ?_ | refine g_add rfl rfl rfl (by omega) (by omega) ?_ | refine g_dec rfl rfl rfl (by omega) ?_ | refine g_sub rfl rfl rfl (by omega) (by omega) ?_ | refine runA ?_ | refine g_lenS Tryz.underlying9 rfl rfl ?_)
          refine rk_normal (k+1) 2 hlk' hms (shift_ren [((1,4),(1,4)),((1,10),(1,10))] ⟨rfl,rfl,rfl,rfl,rfl,rfl,rfl,?_,?_,rfl,rfl,rfl,trivial⟩ ⟨⟨rfl,rfl⟩,⟨rfl,rfl⟩,trivial⟩ rfl)
          ·rw [hany];rfl
          ·rw [hall];rfl
        ·refine pws_condF (by (conv=>lhs;whnf);try rfl) e3 ?_
         rw [hf,e3] at hany hall
         simp only [Bool.or_false,Bool.not_false,Bool.true_or,Bool.and_true] at hany hall
         repeat (first | refine g_inc rfl rfl (by omega) ?_ | refine g_add rfl rfl rfl (by omega) (by omega) ?_ | refine g_dec rfl rfl rfl (by omega) ?_ | refine g_sub rfl rfl rfl (by omega) (by omega) ?_ | refine runA ?_ | refine g_lenS Tryz.underlying9 rfl rfl ?_)
         refine rk_normal (k+1) 2 hlk' hms (shift_ren [((1,4),(1,4)),((1,10),(1,10))] ⟨rfl,rfl,rfl,rfl,rfl,rfl,rfl,?_,?_,rfl,rfl,rfl,trivial⟩ ⟨⟨rfl,rfl⟩,⟨rfl,rfl⟩,trivial⟩ rfl)
         ·rw [hany];rfl
         ·rw [hall];rfl
       ·rw [e2]
        have hf:ruleHits G right lv r=false:=by unfold ruleHits;rw [decide_eq_true e1,e2];rfl
        rw [hf] at hany hall
        simp only [Bool.or_false,Bool.not_false,Bool.true_or,Bool.and_true] at hany hall
        repeat (first | (refine g_skip rfl ?_) | refine g_inc rfl rfl (by omega) ?_ | refine g_add rfl rfl rfl (by omega) (by omega) ?_ | refine g_dec rfl rfl rfl (by omega) ?_ | refine g_sub rfl rfl rfl (by omega) (by omega) ?_ | refine runA ?_ | refine g_lenS Tryz.underlying9 rfl rfl ?_)
        refine pws_condF (by (conv=>lhs;whnf);try rfl) rfl ?_
        repeat (first | refine g_inc rfl rfl (by omega) ?_ | refine g_add rfl rfl rfl (by omega) (by omega) ?_ | refine g_dec rfl rfl rfl (by omega) ?_ | refine g_sub rfl rfl rfl (by omega) (by omega) ?_ | refine runA ?_ | refine g_lenS Tryz.underlying9 rfl rfl ?_)
        refine rk_normal (k+1) 2 hlk' hms (shift_ren [((1,4),(1,4)),((1,10),(1,10))] ⟨rfl,rfl,rfl,rfl,rfl,rfl,rfl,?_,?_,rfl,rfl,rfl,trivial⟩ ⟨⟨rfl,rfl⟩,⟨rfl,rfl⟩,trivial⟩ rfl)
        ·rw [hany];rfl
        ·rw [hall];rfl
      ·rw [decide_eq_false e1]
       have hf:ruleHits G right lv r=false:=by unfold ruleHits;rw [decide_eq_false e1];rfl
       rw [hf] at hany hall
       simp only [Bool.or_false,Bool.not_false,Bool.true_or,Bool.and_true] at hany hall
       repeat (first | (refine g_skip rfl ?_) | refine g_inc rfl rfl (by omega) ?_ | refine g_add rfl rfl rfl (by omega) (by omega) ?_ | refine g_dec rfl rfl rfl (by omega) ?_ | refine g_sub rfl rfl rfl (by omega) (by omega) ?_ | refine runA ?_ | refine g_lenS Tryz.underlying9 rfl rfl ?_)
       refine pws_condF (by (conv=>lhs;whnf);try rfl) rfl ?_
       repeat (first | refine g_inc rfl rfl (by omega) ?_ | refine g_add rfl rfl rfl (by omega) (by omega) ?_ | refine g_dec rfl rfl rfl (by omega) ?_ | refine g_sub rfl rfl rfl (by omega) (by omega) ?_ | refine runA ?_ | refine g_lenS Tryz.underlying9 rfl rfl ?_)
       refine rk_normal (k+1) 2 hlk' hms (shift_ren [((1,4),(1,4)),((1,10),(1,10))] ⟨rfl,rfl,rfl,rfl,rfl,rfl,rfl,?_,?_,rfl,rfl,rfl,trivial⟩ ⟨⟨rfl,rfl⟩,⟨rfl,rfl⟩,trivial⟩ rfl)
       ·rw [hany];rfl
       ·rw [hall];rfl
     ·refine pws_condF (by (conv=>lhs;whnf);try rfl) (decide_eq_false hlk) ?_
      obtain rfl:k=p.rules.length:=by omega
      rw [List.take_length]
      repeat (first | refine g_inc rfl rfl (by omega) ?_ | refine g_add rfl rfl rfl (by omega) (by omega) ?_ | refine g_dec rfl rfl rfl (by omega) ?_ | refine g_sub rfl rfl rfl (by omega) (by omega) ?_ | refine runA ?_ | refine g_lenS Tryz.underlying9 rfl rfl ?_)
      rcases Bool.eq_false_or_eq_true (p.rules.any (ruleHits G right lv)) with e5 | e5
      ·refine pws_condT (by (conv=>lhs;whnf);try rfl) e5 ?_
       rw [if_pos e5] at hno
       repeat (first | refine g_inc rfl rfl (by omega) ?_ | refine g_add rfl rfl rfl (by omega) (by omega) ?_ | refine g_dec rfl rfl rfl (by omega) ?_ | refine g_sub rfl rfl rfl (by omega) (by omega) ?_ | refine runA ?_ | refine g_lenS Tryz.underlying9 rfl rfl ?_)
       exact rq_ret rfl rfl (by rw [hno];rfl)
      ·refine pws_condF (by (conv=>lhs;whnf);try rfl) e5 ?_
       rw [if_neg (by rw [e5];simp)] at hno
       repeat (first | refine g_inc rfl rfl (by omega) ?_ | refine g_add rfl rfl rfl (by omega) (by omega) ?_ | refine g_dec rfl rfl rfl (by omega) ?_ | refine g_sub rfl rfl rfl (by omega) (by omega) ?_ | refine runA ?_ | refine g_lenS Tryz.underlying9 rfl rfl ?_)
       exact rk_normal (i+1) 2 ⟨hlt',hno⟩ (by show (levelsL t).length - (i+1)<(levelsL t).length - i;omega) (shift_ren [((1,4),(1,4))] ⟨rfl,rfl,rfl,rfl,rfl,rfl,trivial⟩ ⟨⟨rfl,rfl⟩,trivial⟩ rfl)
    ·refine pws_condF (by (conv=>lhs;whnf);try rfl) (decide_eq_false hlt) ?_
     obtain rfl:i=(levelsL t).length:=by omega
     rw [List.drop_length,mayFrom] at hno
     repeat (first | refine g_inc rfl rfl (by omega) ?_ | refine g_add rfl rfl rfl (by omega) (by omega) ?_ | refine g_dec rfl rfl rfl (by omega) ?_ | refine g_sub rfl rfl rfl (by omega) (by omega) ?_ | refine runA ?_ | refine g_lenS Tryz.underlying9 rfl rfl ?_)
     exact rq_ret rfl rfl (by rw [hno];rfl)
 ·repeat (first | (refine g_call hcv rfl rfl ?_) | (refine g_skip rfl ?_) | refine g_inc rfl rfl (by omega) ?_ | refine g_add rfl rfl rfl (by omega) (by omega) ?_ | refine g_dec rfl rfl rfl (by omega) ?_ | refine g_sub rfl rfl rfl (by omega) (by omega) ?_ | refine runA ?_ | refine g_lenS Tryz.underlying9 rfl rfl ?_)
  refine pws_condT (by (conv=>lhs;whnf);try rfl) rfl ?_
  repeat (first | refine g_inc rfl rfl (by omega) ?_ | refine g_add rfl rfl rfl (by omega) (by omega) ?_ | refine g_dec rfl rfl rfl (by omega) ?_ | refine g_sub rfl rfl rfl (by omega) (by omega) ?_ | refine runA ?_ | refine g_lenS Tryz.underlying9 rfl rfl ?_)
  refine rq_ret rfl rfl ?_
  unfold mayB
  rw [hv]
  rfl
end Go.Proofs.YtphibahplgmgfaaGreatDoor
namespace Go.Proofs.YtphibahplgmgfaaGreatDoor
open VL Go.RowKit
def setL (l:List UInt8):List Bool:=(List.range 256).map fun j=>l.contains (UInt8.ofNat j)
def setP (l:List UInt8):List PV:=(setL l).map PV.bool
theorem setP_len (l:List UInt8):(setP l).length=256:=by simp [setP,setL]
theorem setP_at (l:List UInt8) (x:UInt8):(setP l)[x.toNat]? = some (.bool (l.contains x)):=by
 have hx:x.toNat<256:=x.toNat_lt
 unfold setP setL
 rw [List.getElem?_map,List.getElem?_map,List.getElem?_range hx]
 simp
theorem setP_drop (l:List UInt8) (x:UInt8):takeN false 1 ((setP l).drop (x.toNat * 1))=some (.bool (l.contains x)):=by
 show ((setP l).drop (x.toNat * 1))[0]? = _
 rw [List.getElem?_drop,Nat.mul_one,Nat.add_zero]
 exact setP_at l x
theorem ha_set {f:Nat→Option (Gen×VObj)} {t:Nat} {g:Gen} {l:List UInt8} (h:getOb f t g=some (.box (setP l))) (s:ByteArray):mapO (frz f) [.str s,.ptr t g 0]=some [.str s,.cel (setP l)]:=by
 have e:frzC f (.ptr t g 0)=some (.cel (setP l)):=by
  simp only [frzC,h,List.drop_zero]
  unfold setP
  rw [frz_bools]
  rfl
 simp only [mapO,frz,frz1,e]
instance:Ar Tryz.prog 240 256 1:=⟨by kernel_rfl⟩
instance:Ze Tryz.prog 240 (List.replicate 256 (.bool false)):=⟨by kernel_rfl⟩
instance:Ld Tryz.prog 240 true 256:=⟨by kernel_rfl⟩
set_option maxRecDepth 100000 in
theorem setContains_c (l:List UInt8) (x:UInt8):Contract0 Tryz.prog 220 [.cel (setP l),.int .u8 (x.toNat:Int)] (.bool (l.contains x)):=by
 refine contract_run mix Tryz.func220 (by kernel_rfl) rfl (by kernel_rfl) ?_
 repeat (first | (refine g_nilC rfl rfl ?_) | (refine g_index_cel rfl rfl rfl x.toNat_lt ?_) | (refine g_load rfl rfl (setP_drop l x) ?_) | refine g_inc rfl rfl (by omega) ?_ | refine g_add rfl rfl rfl (by omega) (by omega) ?_ | refine g_dec rfl rfl rfl (by omega) ?_ | refine g_sub rfl rfl rfl (by omega) (by omega) ?_ | refine runA ?_ | refine g_lenS Tryz.underlying9 rfl rfl ?_)
 exact rq_ret rfl rfl rfl
def trimLB (l:List UInt8) (s:ByteArray):ByteArray:=⟨(s.data.toList.dropWhile l.contains).toArray⟩
def trimRB (l:List UInt8) (s:ByteArray):ByteArray:=⟨(s.data.toList.reverse.dropWhile l.contains).reverse.toArray⟩
theorem trimL_nil {l:List UInt8} {s:ByteArray} (h:¬ 0<s.size):trimLB l s=s:=by
 obtain ⟨⟨d⟩⟩:=s
 cases d with
 | nil=>rfl
 | cons a r=>exact absurd (Nat.succ_pos _) h
theorem trimL_stop {l:List UInt8} {s:ByteArray} (h:0<s.size) (h1:l.contains (s[0]'h)=false):trimLB l s=s:=by
 obtain ⟨⟨d⟩⟩:=s
 cases d with
 | nil=>exact absurd h (Nat.lt_irrefl 0)
 | cons a r=>
   have h2:l.contains a=false:=h1
   show (⟨(List.dropWhile l.contains (a::r)).toArray⟩:ByteArray)=⟨(a::r).toArray⟩
   rw [List.dropWhile_cons,if_neg (by rw [h2];simp)]
theorem trimL_step {l:List UInt8} {s:ByteArray} (h:0<s.size) (h1:l.contains (s[0]'h)=true):trimLB l (s.extract 1 s.size)=trimLB l s:=by
 obtain ⟨⟨d⟩⟩:=s
 cases d with
 | nil=>exact absurd h (Nat.lt_irrefl 0)
 | cons a r=>
   have h2:l.contains a=true:=h1
   have e:(⟨(a::r).toArray⟩:ByteArray).extract 1 (a::r).length=⟨(((a::r).drop 1).take ((a::r).length - 1)).toArray⟩:=ByteArray.extract_mk (a::r) 1 (a::r).length
   show trimLB l ((⟨(a::r).toArray⟩:ByteArray).extract 1 (a::r).length)=_
   rw [e]
   show (⟨(List.dropWhile l.contains (((a::r).drop 1).take ((a::r).length - 1))).toArray⟩:ByteArray)=⟨(List.dropWhile l.contains (a::r)).toArray⟩
   rw [List.dropWhile_cons,if_pos h2]
   simp
theorem trimR_nil {l:List UInt8} {s:ByteArray} (h:¬ 0<s.size):trimRB l s=s:=by
 obtain ⟨⟨d⟩⟩:=s
 cases d with
 | nil=>rfl
 | cons a r=>exact absurd (Nat.succ_pos _) h
theorem last_split (s:ByteArray) (n:Nat) (hn:s.size=n+1):∃ r:List UInt8,s.data.toList=r ++ [s[n]'(by omega)]∧r.length=n∧s.extract 0 n=⟨r.toArray⟩:=by
 obtain ⟨⟨d⟩⟩:=s
 have hd:d.length=n+1:=hn
 refine ⟨d.take n,?_,by simp;omega,?_⟩
 ·show d=d.take n ++ [d[n]]
  rw [List.take_append_getElem]
  rw [List.take_of_length_le (by omega)]
 ·have e:(⟨d.toArray⟩:ByteArray).extract 0 n=⟨((d.drop 0).take (n - 0)).toArray⟩:=ByteArray.extract_mk d 0 n
  show (⟨d.toArray⟩:ByteArray).extract 0 n=_
  rw [e]
  simp
theorem trimR_stop {l:List UInt8} {s:ByteArray} {n:Nat} (hn:s.size=n+1) (h1:l.contains (s[n]'(by omega))=false):trimRB l s=s:=by
 obtain ⟨r,e1,_,_⟩:=last_split s n hn
 unfold trimRB
 rw [e1,List.reverse_append]
 simp only [List.reverse_cons,List.reverse_nil,List.nil_append,List.cons_append,List.dropWhile,h1]
 rw [List.reverse_reverse,← e1]
theorem trimR_step {l:List UInt8} {s:ByteArray} {n:Nat} (hn:s.size=n+1) (h1:l.contains (s[n]'(by omega))=true):trimRB l (s.extract 0 n)=trimRB l s:=by
 obtain ⟨r,e1,_,e3⟩:=last_split s n hn
 unfold trimRB
 rw [e1,e3,List.reverse_append]
 simp only [List.reverse_cons,List.reverse_nil,List.nil_append,List.cons_append,List.dropWhile,h1]
set_option maxRecDepth 100000 in
theorem trimLeftA_c (l:List UInt8) (s:ByteArray):Contract0 Tryz.prog 214 [.str s,.cel (setP l)] (.str (trimLB l s)):=by
 refine contract_run mix Tryz.func214 (by kernel_rfl) rfl (by kernel_rfl) ?_
 repeat (first | refine g_inc rfl rfl (by omega) ?_ | refine g_add rfl rfl rfl (by omega) (by omega) ?_ | refine g_dec rfl rfl rfl (by omega) ?_ | refine g_sub rfl rfl rfl (by omega) (by omega) ?_ | refine runA ?_ | refine g_lenS Tryz.underlying9 rfl rfl ?_)
 refine pws_loop (α:=ByteArray) (fun c _=>mkS [(0,.str c),(1,.cel (setP l))] [] 2) (fun c=>trimLB l c=trimLB l s) (fun c=>c.size) s 2 rfl (shift_ren [] ⟨rfl,rfl,trivial⟩ trivial rfl) (fun c _ (hno:trimLB l c=trimLB l s)=>?_)
 repeat (first | refine g_inc rfl rfl (by omega) ?_ | refine g_add rfl rfl rfl (by omega) (by omega) ?_ | refine g_dec rfl rfl rfl (by omega) ?_ | refine g_sub rfl rfl rfl (by omega) (by omega) ?_ | refine runA ?_ | refine g_lenS Tryz.underlying9 rfl rfl ?_)
 by_cases hz:(0:Int)<(c.size:Int)
 ·refine pws_condT (by (conv=>lhs;whnf);try rfl) (decide_eq_true hz) ?_
  have hz':0<c.size:=by omega
  have h0:c[0]? = some (c[0]'hz'):=getElem?_pos c 0 hz'
  repeat (first | (refine g_indexS Tryz.underlying9 rfl rfl rfl h0 ?_) | (refine g_look (setContains_c l _) rfl rfl rfl ?_) | refine g_inc rfl rfl (by omega) ?_ | refine g_add rfl rfl rfl (by omega) (by omega) ?_ | refine g_dec rfl rfl rfl (by omega) ?_ | refine g_sub rfl rfl rfl (by omega) (by omega) ?_ | refine runA ?_ | refine g_lenS Tryz.underlying9 rfl rfl ?_)
  rcases Bool.eq_false_or_eq_true (l.contains (c[0]'hz')) with hb | hb
  ·refine pws_condF (by (conv=>lhs;whnf);try rfl) (by rw [hb];rfl) ?_
   repeat (first | (refine g_sliceS Tryz.underlying9 rfl rfl rfl rfl (by omega) (by omega) rfl ?_) | refine g_inc rfl rfl (by omega) ?_ | refine g_add rfl rfl rfl (by omega) (by omega) ?_ | refine g_dec rfl rfl rfl (by omega) ?_ | refine g_sub rfl rfl rfl (by omega) (by omega) ?_ | refine runA ?_ | refine g_lenS Tryz.underlying9 rfl rfl ?_)
   refine rk_normal (c.extract 1 c.size) 2 ((trimL_step hz' hb).trans hno) ?_ (shift_ren [] ⟨rfl,rfl,trivial⟩ trivial rfl)
   show (c.extract 1 c.size).size<c.size
   rw [ByteArray.size_extract]
   omega
  ·refine pws_condT (by (conv=>lhs;whnf);try rfl) (by rw [hb];rfl) ?_
   repeat (first | refine g_inc rfl rfl (by omega) ?_ | refine g_add rfl rfl rfl (by omega) (by omega) ?_ | refine g_dec rfl rfl rfl (by omega) ?_ | refine g_sub rfl rfl rfl (by omega) (by omega) ?_ | refine runA ?_ | refine g_lenS Tryz.underlying9 rfl rfl ?_)
   exact rq_ret rfl rfl (by rw [← hno,trimL_stop hz' hb];rfl)
 ·refine pws_condF (by (conv=>lhs;whnf);try rfl) (decide_eq_false hz) ?_
  repeat (first | refine g_inc rfl rfl (by omega) ?_ | refine g_add rfl rfl rfl (by omega) (by omega) ?_ | refine g_dec rfl rfl rfl (by omega) ?_ | refine g_sub rfl rfl rfl (by omega) (by omega) ?_ | refine runA ?_ | refine g_lenS Tryz.underlying9 rfl rfl ?_)
  exact rq_ret rfl rfl (by rw [← hno,trimL_nil (by omega)];rfl)
set_option maxRecDepth 100000 in
theorem trimRightA_c (l:List UInt8) (s:ByteArray) (hs:s.size≤9223372036854775807):Contract0 Tryz.prog 215 [.str s,.cel (setP l)] (.str (trimRB l s)):=by
 refine contract_run mix Tryz.func215 (by kernel_rfl) rfl (by kernel_rfl) ?_
 repeat (first | refine g_inc rfl rfl (by omega) ?_ | refine g_add rfl rfl rfl (by omega) (by omega) ?_ | refine g_dec rfl rfl rfl (by omega) ?_ | refine g_sub rfl rfl rfl (by omega) (by omega) ?_ | refine runA ?_ | refine g_lenS Tryz.underlying9 rfl rfl ?_)
 refine pws_loop (α:=ByteArray) (fun c _=>mkS [(0,.str c),(1,.cel (setP l))] [] 2) (fun c=>trimRB l c=trimRB l s∧c.size≤9223372036854775807) (fun c=>c.size) s 2 ⟨rfl,hs⟩ (shift_ren [] ⟨rfl,rfl,trivial⟩ trivial rfl) (fun c _ hJ=>?_)
 obtain ⟨(hno:trimRB l c=trimRB l s),(hcs:c.size≤9223372036854775807)⟩:=hJ
 repeat (first | refine g_inc rfl rfl (by omega) ?_ | refine g_add rfl rfl rfl (by omega) (by omega) ?_ | refine g_dec rfl rfl rfl (by omega) ?_ | refine g_sub rfl rfl rfl (by omega) (by omega) ?_ | refine runA ?_ | refine g_lenS Tryz.underlying9 rfl rfl ?_)
 by_cases hz:(0:Int)<(c.size:Int)
 ·refine pws_condT (by (conv=>lhs;whnf);try rfl) (decide_eq_true hz) ?_
  obtain ⟨n,hn⟩:∃ n,c.size=n+1:=⟨c.size - 1,by omega⟩
  have e1:(c.size:Int) - 1=(n:Int):=by omega
  have h0:c[n]? = some (c[n]'(by omega)):=getElem?_pos c n (by omega)
  have h2:toNat? (PV.int .i64 ((c.size:Int) - 1))=some n:=by rw [e1];exact toNat_cast
  repeat (first | (refine g_indexS Tryz.underlying9 rfl rfl (congrArg (PV.int .i64) e1) h0 ?_) | (refine g_look (setContains_c l _) rfl rfl rfl ?_) | refine g_inc rfl rfl (by omega) ?_ | refine g_add rfl rfl rfl (by omega) (by omega) ?_ | refine g_dec rfl rfl rfl (by omega) ?_ | refine g_sub rfl rfl rfl (by omega) (by omega) ?_ | refine runA ?_ | refine g_lenS Tryz.underlying9 rfl rfl ?_)
  rcases Bool.eq_false_or_eq_true (l.contains (c[n]'(by omega))) with hb | hb
  ·refine pws_condF (by (conv=>lhs;whnf);try rfl) (by rw [hb];rfl) ?_
   repeat (first | (refine g_sliceS Tryz.underlying9 rfl rfl rfl h2 (by omega) (by omega) rfl ?_) | refine g_inc rfl rfl (by omega) ?_ | refine g_add rfl rfl rfl (by omega) (by omega) ?_ | refine g_dec rfl rfl rfl (by omega) ?_ | refine g_sub rfl rfl rfl (by omega) (by omega) ?_ | refine runA ?_ | refine g_lenS Tryz.underlying9 rfl rfl ?_)
   refine rk_normal (c.extract 0 n) 2 ⟨(trimR_step hn hb).trans hno,?_⟩ ?_ (shift_ren [] ⟨rfl,rfl,trivial⟩ trivial rfl)
   ·show (c.extract 0 n).size≤_
    rw [ByteArray.size_extract]
    omega
   ·show (c.extract 0 n).size<c.size
    rw [ByteArray.size_extract]
    omega
  ·refine pws_condT (by (conv=>lhs;whnf);try rfl) (by rw [hb];rfl) ?_
   repeat (first | refine g_inc rfl rfl (by omega) ?_ | refine g_add rfl rfl rfl (by omega) (by omega) ?_ | refine g_dec rfl rfl rfl (by omega) ?_ | refine g_sub rfl rfl rfl (by omega) (by omega) ?_ | refine runA ?_ | refine g_lenS Tryz.underlying9 rfl rfl ?_)
   exact rq_ret rfl rfl (by rw [← hno,trimR_stop hn hb];rfl)
 ·refine pws_condF (by (conv=>lhs;whnf);try rfl) (decide_eq_false hz) ?_
  repeat (first | refine g_inc rfl rfl (by omega) ?_ | refine g_add rfl rfl rfl (by omega) (by omega) ?_ | refine g_dec rfl rfl rfl (by omega) ?_ | refine g_sub rfl rfl rfl (by omega) (by omega) ?_ | refine runA ?_ | refine g_lenS Tryz.underlying9 rfl rfl ?_)
  exact rq_ret rfl rfl (by rw [← hno,trimR_nil (by omega)];rfl)
theorem setCells_list (l:List UInt8):(Lib.setCells l).toList=(setL l).map Value.bool:=by
 rw [Lib.setCells_eq]
 simp [setL]
set_option maxRecDepth 1000000 in
theorem makeSet_c (l:List UInt8) (hs:l.length<4294967281) (hl:∀ (j:Nat) b,l[j]? = some b→b.toNat<128):Contract0 Tryz.prog 213 [.str ⟨l.toArray⟩] (.tup [.agg (setP l),.bool true]):=
 contract_plain (vals:=[.string ⟨l.toArray⟩]) (v:=.tuple #[.agg (Lib.setCells l),.bool true]) (by kernel_rfl) rfl (by
   show (PV.dry2 (.agg (setP l))&&(PV.dry2 (.bool true)&&true))=true
   have:(setP l).all PV.dry1=true:=by
    rw [List.all_eq_true]
    intro p hp
    obtain ⟨b,_,rfl⟩:=List.mem_map.1 hp
    rfl
   show ((setP l).all PV.dry1&&_)=true
   rw [this]
   rfl)
  (fun x=>.tup _ _ rfl fun i p v hp hv=>by
   match i,hp,hv with
   | 0,hp,hv=>
     injection hp with hp
     injection hv with hv
     subst hp hv
     refine .agg _ _ (by rw [setP_len,Lib.setCells_size]) fun j q w hq hw=>?_
     rw [← Array.getElem?_toList,setCells_list,List.getElem?_map,Option.map_eq_some_iff] at hw
     obtain ⟨b,hb,rfl⟩:=hw
     unfold setP at hq
     rw [List.getElem?_map,hb] at hq
     injection hq with hq
     subst hq
     exact .bool b
   | 1,hp,hv=>injection hp with hp;injection hv with hv;subst hp hv;exact .bool _
   | i+2,hp,_=>simp at hp)
  fun w _=>(Tryz.strings_makeASCIISet (fun w=>Tryz.zeroValue240 w) ⟨l.toArray⟩ w hs (fun j b h=>hl j b (by simpa using h))).mono fun e w' ⟨e1,e2⟩=>by
   have e3:(⟨l.toArray⟩:ByteArray).data.toList=l:=by simp
   rw [e3] at e1 e2
   exact ⟨e1,by rw [e2];exact Below.al (Below.refl _ _) _⟩
def blankL:List UInt8:=[32,9]
set_option maxHeartbeats 4000000 in
set_option maxRecDepth 1000000 in
theorem trim_c (s:ByteArray) (hs:s.size≤9223372036854775807):Contract0 Tryz.prog 183 [.str s,.str ⟨#[32,9]⟩] (.str (trimLB blankL (trimRB blankL s))):=by
 have hm:=makeSet_c blankL (by decide) (fun j b h=>by
  match j,h with
  | 0,h=>injection h with h;subst h;decide
  | 1,h=>injection h with h;subst h;decide
  | j+2,h=>simp [blankL] at h)
 have hR:=trimRightA_c blankL s hs
 have hL:=trimLeftA_c blankL (trimRB blankL s)
 have ha:∀ {f:Nat→Option (Gen×VObj)} {t:Nat} {g:Gen},getOb f t g=some (.box (setP blankL))→∀ s,mapO (frz f) [.str s,.ptr t g 0]=some [.str s,.cel (setP blankL)]:=fun h s=>ha_set h s
 have hspc:(setP blankL).all PV.cell=true:=by
  rw [List.all_eq_true]
  intro p hp
  obtain ⟨b,_,rfl⟩:=List.mem_map.1 hp
  rfl
 have hsl:(setP blankL).length=256:=setP_len _
 have hrc:(List.replicate 256 (PV.bool false)).all PV.cell=true:=by
  rw [List.all_eq_true]
  intro p hp
  rw [List.eq_of_mem_replicate hp]
  rfl
 have hrl:(List.replicate 256 (PV.bool false)).length=256:=List.length_replicate
 generalize setP blankL=sp at hm hR hL ha hspc hsl
 generalize hz:List.replicate 256 (PV.bool false)=zp at hrc hrl
 have zi:Ze Tryz.prog 240 zp:=hz ▸ inferInstance
 refine contract_run mix Tryz.func183 (by kernel_rfl) rfl (by kernel_rfl) ?_
 repeat (first | refine g_inc rfl rfl (by omega) ?_ | refine g_add rfl rfl rfl (by omega) (by omega) ?_ | refine g_dec rfl rfl rfl (by omega) ?_ | refine g_sub rfl rfl rfl (by omega) (by omega) ?_ | refine runA ?_ | refine g_lenS Tryz.underlying9 rfl rfl ?_)
 by_cases h0:s=⟨#[]⟩
 ·rw [decide_eq_true h0]
  repeat (first | (refine g_skip rfl ?_) | refine g_inc rfl rfl (by omega) ?_ | refine g_add rfl rfl rfl (by omega) (by omega) ?_ | refine g_dec rfl rfl rfl (by omega) ?_ | refine g_sub rfl rfl rfl (by omega) (by omega) ?_ | refine runA ?_ | refine g_lenS Tryz.underlying9 rfl rfl ?_)
  refine pws_condT (by (conv=>lhs;whnf);try rfl) rfl ?_
  repeat (first | refine g_inc rfl rfl (by omega) ?_ | refine g_add rfl rfl rfl (by omega) (by omega) ?_ | refine g_dec rfl rfl rfl (by omega) ?_ | refine g_sub rfl rfl rfl (by omega) (by omega) ?_ | refine runA ?_ | refine g_lenS Tryz.underlying9 rfl rfl ?_)
  exact rq_ret rfl rfl (by rw [h0];rfl)
 rw [decide_eq_false h0]
 repeat (first | refine g_inc rfl rfl (by omega) ?_ | refine g_add rfl rfl rfl (by omega) (by omega) ?_ | refine g_dec rfl rfl rfl (by omega) ?_ | refine g_sub rfl rfl rfl (by omega) (by omega) ?_ | refine runA ?_ | refine g_lenS Tryz.underlying9 rfl rfl ?_)
 refine pws_condF (by (conv=>lhs;whnf);try rfl) (by decide) ?_
 repeat (first | (refine g_skip rfl ?_) | (refine pws_condF rfl rfl ?_) | (refine g_call hm rfl rfl ?_) | (refine g_alloc (z:=zp) rfl hrc ?_) | (refine g_store (ps:=sp) (cs:=zp) (cs':=sp) rfl rfl rfl rfl rfl hsl hspc (show 0+256≤zp.length by omega) (writeL_all (show zp.length=sp.length by omega)) ?_) | (refine pws_condT rfl rfl ?_) | (refine g_look hR rfl (ha rfl _) rfl ?_) | (refine g_look hL rfl (ha rfl _) rfl ?_) | refine g_inc rfl rfl (by omega) ?_ | refine g_add rfl rfl rfl (by omega) (by omega) ?_ | refine g_dec rfl rfl rfl (by omega) ?_ | refine g_sub rfl rfl rfl (by omega) (by omega) ?_ | refine runA ?_ | refine g_lenS Tryz.underlying9 rfl rfl ?_)
 exact rq_ret rfl rfl rfl
end Go.Proofs.YtphibahplgmgfaaGreatDoor
namespace Go.Proofs.YtphibahplgmgfaaGreatDoor
open VL Go.RowKit
def asciiS (s:ByteArray):Prop:=∀ (j:Nat) (b:UInt8),s.data.toList[j]? = some b→b.toNat<128
theorem containsAny_c (s:ByteArray) (hs:s.size<4294967281) (ha:asciiS s):Contract0 Tryz.prog 195 [.str s,.str ⟨#[10,124]⟩] (.bool (Lib.containsAny s.data.toList [10,124])):=
 contract_plain (vals:=[.string s,.string ⟨#[10,124]⟩]) (by kernel_rfl) rfl rfl (fun x=>.bool _) fun w _=>Tryz.strings_ContainsAny_laid s ⟨#[10,124]⟩ w hs (by decide) ha (fun j b h=>by
  match j,h with
  | 0,h=>injection h with h;subst h;decide
  | 1,h=>injection h with h;subst h;decide
  | j+2,h=>simp at h)
theorem drop_at {α:Type} {L:List α} {i:Nat} {a:α} (h:L[i]? = some a):L.drop i=a::L.drop (i+1):=by
 have hlt:i<L.length:=(List.getElem?_eq_some_iff.1 h).1
 rw [List.drop_eq_getElem_cons hlt]
 rw [List.getElem?_eq_getElem hlt] at h
 injection h with h
 rw [h]
end Go.Proofs.YtphibahplgmgfaaGreatDoor
