/- trcref13: Levels, May. -/
import Derived.Test.YtjoneoobolnnbaaGreatDoorCB08
import Derived.Test.YtjoneoobolnnbaaGreatDoorCB09
import Derived.Lib.SplitLaws
import Derived.Lib.OwnBridge
import Derived.Test.YtjoneoobolnnbaaGreatDoorCB03
import Derived.Test.YtjoneoobolnnbaaGreatDoorCB04
set_option maxHeartbeats 8000000
set_option maxRecDepth 100000
namespace Go.Proofs.YtjoneoobolnnbaaGreatDoor
open VL
theorem Znq (t:Title):ContractN Tryz.prog 184 [t.pv] (.row 29 2 false ((Zi1 t).map Title.cs)):=
 Ze8 (vals:=[.agg #[.int .i64 t.space,.string t.name]]) (enc:=Zex) (by kernel_rfl) rfl Zfj (fun S w x cs h=>h) (fun x=>rfl) fun w hw=>Zll t w hw.1
theorem Zrv (t:Title):Zd Tryz.prog 133 [t.pv] (.sl ((ZR t).map Scope.cs)):=by
 have hlen:=ZlJ t
 refine ZbK mix Tryz.func133 (by kernel_rfl) rfl (by kernel_rfl) ?_
 repeat (first | (refine ZqK (Znq t) rfl rfl ?_) | (refine Zan rfl rfl rfl (by simp;omega) (by simp;omega) ?_) | refine Zaq rfl rfl (by omega) ?_ | refine Zam rfl rfl rfl (by omega) (by omega) ?_ | refine g_dec rfl rfl rfl (by omega) ?_ | refine Zan rfl rfl rfl (by omega) (by omega) ?_ | refine Zcu ?_ | refine ZM Tryz.underlying9 rfl rfl ?_)
 refine Zk (α:=Nat) (fun n _=>mkS [(1,.ptr 1 (1,1) 0),(3,.row 8 (1,8)),(4,.sl ((Zi1 t).map Title.cs)),(5,.int .i64 ((n:Int) - 1))]
   [(1,some ((1,1),.box t.cs)),(8,some ((1,8),.row 143 3 false ((⟨3,t⟩::((Zi1 t).drop n).reverse.map fun a=>(⟨3,a⟩:Scope)).map Scope.cs)))] 2)
  (fun n=>n≤(Zi1 t).length) (fun n=>n) (Zi1 t).length 2 (Nat.le_refl _)
  (Shift.trans (ZqZ 4 rfl rfl) (ZF [((1,1),_),((1,8),_)] ⟨rfl,rfl,rfl,?_,trivial⟩ ⟨⟨rfl,rfl⟩,⟨?_,rfl⟩,trivial⟩ rfl)) (fun n _ (hn:n≤(Zi1 t).length)=>?_)
 ·show some (PV.int .i64 (((Zi1 t).length:Int) - 1))=some (PV.int .i64 ((((Zi1 t).map Title.cs).length:Int) - 1))
  rw [List.length_map]
 ·rw [List.drop_length]
  rfl
 repeat (first | refine Zaq rfl rfl (by omega) ?_ | refine Zam rfl rfl rfl (by omega) (by omega) ?_ | refine g_dec rfl rfl rfl (by omega) ?_ | refine Zan rfl rfl rfl (by omega) (by omega) ?_ | refine Zcu ?_ | refine ZM Tryz.underlying9 rfl rfl ?_)
 by_cases hge:(0:Int)≤(n:Int) - 1
 ·refine ZaC (by (conv=>lhs;whnf);try rfl) (decide_eq_true hge) ?_
  obtain ⟨m,rfl⟩:∃ m,n=m+1:=⟨n - 1,by omega⟩
  have e1:(((m+1:Nat):Int) - 1)=(m:Int):=by omega
  obtain ⟨x,hx⟩:∃ x,(Zi1 t)[m]? = some x:=⟨_,List.getElem?_eq_getElem (by omega)⟩
  have hcs:((Zi1 t).map Title.cs)[m]? = some x.cs:=by rw [List.getElem?_map,hx];rfl
  repeat (first | (refine Zel rfl rfl (congrArg (PV.int .i64) e1) hcs rfl ?_) | (refine ZeH rfl rfl rfl rfl (by show (List.length _+1) * _≤_;simp;omega) (by show List.length _+1≤_;simp;omega) (by rfl) ?_) | refine Zaq rfl rfl (by omega) ?_ | refine Zam rfl rfl rfl (by omega) (by omega) ?_ | refine g_dec rfl rfl rfl (by omega) ?_ | refine Zan rfl rfl rfl (by omega) (by omega) ?_ | refine Zcu ?_ | refine ZM Tryz.underlying9 rfl rfl ?_)
  refine ZaL m 2 (by omega) (by omega) (ZF [((1,1),(1,1)),((1,8),_)] ⟨rfl,rfl,rfl,?_,trivial⟩ ⟨⟨rfl,rfl⟩,⟨?_,rfl⟩,trivial⟩ rfl)
  ·show some (PV.int .i64 ((m:Int) - 1))=some (PV.int .i64 (((m+1:Nat):Int) - 1 - 1))
   rw [e1]
  ·rw [ZuD hx,List.reverse_cons,List.map_append,← List.cons_append,List.map_append]
   rfl
 ·refine Zal (by (conv=>lhs;whnf);try rfl) (decide_eq_false hge) ?_
  obtain rfl:n=0:=by omega
  repeat (first | (refine ZeH rfl rfl rfl rfl (by show (List.length _+2) * _≤_;simp;omega) (by show List.length _+2≤_;simp;omega) (by rfl) ?_) | refine Zaq rfl rfl (by omega) ?_ | refine Zam rfl rfl rfl (by omega) (by omega) ?_ | refine g_dec rfl rfl rfl (by omega) ?_ | refine Zan rfl rfl rfl (by omega) (by omega) ?_ | refine Zcu ?_ | refine ZM Tryz.underlying9 rfl rfl ?_)
  refine Zc5 rfl rfl ?_
  unfold ZR
  rw [ZtR,List.drop_zero]
  simp only [List.map_append,List.map_cons,List.map_nil]
  rfl
theorem Zwd (p:Policy) (G:List ByteArray) (right:Int) (t:Title) (hR:p.rules.length≤1000000):Zd Tryz.prog 82 [p.pv,Zp3 G,.int .i64 right,t.pv] (.bool (ZiO p G right t)):=by
 have hcv:=ZnH t
 have hll:(ZR t).length≤103:=by unfold ZR;have:=ZlJ t;simp [Zh8];omega
 refine ZbK mix Tryz.func82 (by kernel_rfl) rfl (by kernel_rfl) ?_
 rcases Bool.eq_false_or_eq_true t.valid with hv | hv<;>rw [hv] at hcv
 ·repeat (first | (refine ZfX hcv rfl rfl ?_) | refine Zaq rfl rfl (by omega) ?_ | refine Zam rfl rfl rfl (by omega) (by omega) ?_ | refine g_dec rfl rfl rfl (by omega) ?_ | refine Zan rfl rfl rfl (by omega) (by omega) ?_ | refine Zcu ?_ | refine ZM Tryz.underlying9 rfl rfl ?_)
  by_cases h1:right<1
  ·rw [decide_eq_true h1]
   repeat (first | (refine Zi rfl ?_) | refine Zaq rfl rfl (by omega) ?_ | refine Zam rfl rfl rfl (by omega) (by omega) ?_ | refine g_dec rfl rfl rfl (by omega) ?_ | refine Zan rfl rfl rfl (by omega) (by omega) ?_ | refine Zcu ?_ | refine ZM Tryz.underlying9 rfl rfl ?_)
   refine ZaC (by (conv=>lhs;whnf);try rfl) rfl ?_
   repeat (first | refine Zaq rfl rfl (by omega) ?_ | refine Zam rfl rfl rfl (by omega) (by omega) ?_ | refine g_dec rfl rfl rfl (by omega) ?_ | refine Zan rfl rfl rfl (by omega) (by omega) ?_ | refine Zcu ?_ | refine ZM Tryz.underlying9 rfl rfl ?_)
   refine Zc5 rfl rfl ?_
   unfold ZiO
   rw [decide_eq_false (show ¬ 1≤right by omega)]
   simp
   rfl
  ·rw [decide_eq_false h1]
   repeat (first | refine Zaq rfl rfl (by omega) ?_ | refine Zam rfl rfl rfl (by omega) (by omega) ?_ | refine g_dec rfl rfl rfl (by omega) ?_ | refine Zan rfl rfl rfl (by omega) (by omega) ?_ | refine Zcu ?_ | refine ZM Tryz.underlying9 rfl rfl ?_)
   by_cases h5:5<right
   ·refine ZaC (by (conv=>lhs;whnf);try rfl) (decide_eq_true h5) ?_
    repeat (first | refine Zaq rfl rfl (by omega) ?_ | refine Zam rfl rfl rfl (by omega) (by omega) ?_ | refine g_dec rfl rfl rfl (by omega) ?_ | refine Zan rfl rfl rfl (by omega) (by omega) ?_ | refine Zcu ?_ | refine ZM Tryz.underlying9 rfl rfl ?_)
    refine Zc5 rfl rfl ?_
    unfold ZiO
    rw [decide_eq_false (show ¬ right≤5 by omega)]
    simp
    rfl
   ·refine Zal (by (conv=>lhs;whnf);try rfl) (decide_eq_false h5) ?_
    have hmay:ZiO p G right t=ZcZ p.rules G right (ZR t):=by
     unfold ZiO
     rw [hv,decide_eq_true (show 1≤right by omega),decide_eq_true (show right≤5 by omega)]
     rfl
    rw [hmay]
    repeat (first | (refine ZfX (Zrv t) rfl rfl ?_) | refine Zaq rfl rfl (by omega) ?_ | refine Zam rfl rfl rfl (by omega) (by omega) ?_ | refine g_dec rfl rfl rfl (by omega) ?_ | refine Zan rfl rfl rfl (by omega) (by omega) ?_ | refine Zcu ?_ | refine ZM Tryz.underlying9 rfl rfl ?_)
    refine Zk (α:=Nat) (fun i _=>mkS [(1,Zp3 G),(2,.int .i64 right),(4,.ptr 4 (1,4) 0),(9,.sl ((ZR t).map Scope.cs)),(10,.int .i64 ((i:Nat):Int))] [(4,some ((1,4),.box p.cs))] 2)
     (fun i=>i≤(ZR t).length∧ZcZ p.rules G right (ZR t)=ZcZ p.rules G right ((ZR t).drop i)) (fun i=>(ZR t).length - i) 0 2 ⟨Nat.zero_le _,rfl⟩
     (ZF [((1,4),_)] ⟨rfl,rfl,rfl,rfl,rfl,trivial⟩ ⟨⟨rfl,rfl⟩,trivial⟩ rfl) (fun i _ hJ=>?_)
    obtain ⟨(hi:i≤(ZR t).length),(hno:ZcZ p.rules G right (ZR t)=ZcZ p.rules G right ((ZR t).drop i))⟩:=hJ
    repeat (first | refine Zaq rfl rfl (by omega) ?_ | refine Zam rfl rfl rfl (by omega) (by omega) ?_ | refine g_dec rfl rfl rfl (by omega) ?_ | refine Zan rfl rfl rfl (by omega) (by omega) ?_ | refine Zcu ?_ | refine ZM Tryz.underlying9 rfl rfl ?_)
    by_cases hlt:(i:Int)<(((ZR t).map Scope.cs).length:Int)
    ·refine ZaC (by (conv=>lhs;whnf);try rfl) (decide_eq_true hlt) ?_
     have hlt':i<(ZR t).length:=by simpa using hlt
     obtain ⟨lv,hx⟩:∃ lv,(ZR t)[i]? = some lv:=⟨_,List.getElem?_eq_getElem hlt'⟩
     have hcs:((ZR t).map Scope.cs)[i]? = some lv.cs:=by rw [List.getElem?_map,hx];rfl
     rw [ZuD hx,ZcZ] at hno
     repeat (first | refine Zaq rfl rfl (by omega) ?_ | refine Zam rfl rfl rfl (by omega) (by omega) ?_ | refine g_dec rfl rfl rfl (by omega) ?_ | refine Zan rfl rfl rfl (by omega) (by omega) ?_ | refine Zcu ?_ | refine ZM Tryz.underlying9 rfl rfl ?_)
     refine Zk (α:=Nat) (fun k _=>mkS [(1,Zp3 G),(2,.int .i64 right),(4,.ptr 4 (1,4) 0),(9,.sl ((ZR t).map Scope.cs)),(10,.int .i64 (i:Int)),(11,.bool ((p.rules.take k).any (ZU G right lv))),(12,.bool ((p.rules.take k).all fun r=>!ZU G right lv r||r.allow)),(13,.int .i64 ((k:Nat):Int))] [(4,some ((1,4),.box p.cs))] 2)
      (fun k=>k≤p.rules.length) (fun k=>p.rules.length - k) 0 2 (Nat.zero_le _)
      (ZF [((1,4),(1,4))] ⟨rfl,rfl,rfl,rfl,rfl,rfl,rfl,rfl,trivial⟩ ⟨⟨rfl,rfl⟩,trivial⟩ rfl) (fun k _ (hk:k≤p.rules.length)=>?_)
     repeat (first | refine Zaq rfl rfl (by omega) ?_ | refine Zam rfl rfl rfl (by omega) (by omega) ?_ | refine g_dec rfl rfl rfl (by omega) ?_ | refine Zan rfl rfl rfl (by omega) (by omega) ?_ | refine Zcu ?_ | refine ZM Tryz.underlying9 rfl rfl ?_)
     by_cases hlk:(k:Int)<((p.rules.map Rule.cs).length:Int)
     ·refine ZaC (by (conv=>lhs;whnf);try rfl) (decide_eq_true hlk) ?_
      have hlk':k<p.rules.length:=by simpa using hlk
      obtain ⟨r,hr⟩:∃ r,p.rules[k]? = some r:=⟨_,List.getElem?_eq_getElem hlk'⟩
      have hcr:(p.rules.map Rule.cs)[k]? = some r.cs:=by rw [List.getElem?_map,hr];rfl
      have hany:(p.rules.take (k+1)).any (ZU G right lv)=((p.rules.take k).any (ZU G right lv)||ZU G right lv r):=ZrL hr
      have hall:(p.rules.take (k+1)).all (fun r=>!ZU G right lv r||r.allow)=((p.rules.take k).all (fun r=>!ZU G right lv r||r.allow)&&(!ZU G right lv r||r.allow)):=ZrM (f:=fun r=>!ZU G right lv r||r.allow) hr
      have hms:p.rules.length - (k+1)<p.rules.length - k:=by omega
      repeat (first | (refine Zel rfl rfl rfl hcr rfl ?_) | refine Zaq rfl rfl (by omega) ?_ | refine Zam rfl rfl rfl (by omega) (by omega) ?_ | refine g_dec rfl rfl rfl (by omega) ?_ | refine Zan rfl rfl rfl (by omega) (by omega) ?_ | refine Zcu ?_ | refine ZM Tryz.underlying9 rfl rfl ?_)
      by_cases e1:r.right=right
      ·rw [decide_eq_true e1]
       repeat (first | (refine ZfX (ZyU G _) rfl rfl ?_) | refine Zaq rfl rfl (by omega) ?_ | refine Zam rfl rfl rfl (by omega) (by omega) ?_ | refine g_dec rfl rfl rfl (by omega) ?_ | refine Zan rfl rfl rfl (by omega) (by omega) ?_ | refine Zcu ?_ | refine ZM Tryz.underlying9 rfl rfl ?_)
       rcases Bool.eq_false_or_eq_true (Zo3 G r.group) with e2 | e2
       ·rw [e2]
        repeat (first | (refine Zel rfl rfl rfl hcs rfl ?_) | (refine ZfX (ZpM r.scope lv) rfl rfl ?_) | refine Zaq rfl rfl (by omega) ?_ | refine Zam rfl rfl rfl (by omega) (by omega) ?_ | refine g_dec rfl rfl rfl (by omega) ?_ | refine Zan rfl rfl rfl (by omega) (by omega) ?_ | refine Zcu ?_ | refine ZM Tryz.underlying9 rfl rfl ?_)
        have hf:ZU G right lv r=ZeI r.scope lv:=by unfold ZU;rw [decide_eq_true e1,e2];rfl
        rcases Bool.eq_false_or_eq_true (ZeI r.scope lv) with e3 | e3
        ·refine ZaC (by (conv=>lhs;whnf);try rfl) e3 ?_
         rw [hf,e3] at hany hall
         simp only [Bool.or_true,Bool.not_true,Bool.false_or] at hany hall
         rcases Bool.eq_false_or_eq_true ((p.rules.take k).all fun r=>!ZU G right lv r||r.allow) with e4 | e4
         ·rw [e4]
          rw [e4,Bool.true_and] at hall
          repeat (first | refine Zaq rfl rfl (by omega) ?_ | refine Zam rfl rfl rfl (by omega) (by omega) ?_ | refine g_dec rfl rfl rfl (by omega) ?_ | refine Zan rfl rfl rfl (by omega) (by omega) ?_ | refine Zcu ?_ | refine ZM Tryz.underlying9 rfl rfl ?_)
          refine ZaL (k+1) 2 hlk' hms (ZF [((1,4),(1,4))] ⟨rfl,rfl,rfl,rfl,rfl,?_,?_,rfl,trivial⟩ ⟨⟨rfl,rfl⟩,trivial⟩ rfl)
          ·rw [hany];rfl
          ·rw [hall];rfl
         ·rw [e4]
          rw [e4,Bool.false_and] at hall
          repeat (first | (refine Zi rfl ?_) | refine Zaq rfl rfl (by omega) ?_ | refine Zam rfl rfl rfl (by omega) (by omega) ?_ | refine g_dec rfl rfl rfl (by omega) ?_ | refine Zan rfl rfl rfl (by omega) (by omega) ?_ | refine Zcu ?_ | refine ZM Tryz.underlying9 rfl rfl ?_)
          refine ZaL (k+1) 2 hlk' hms (ZF [((1,4),(1,4))] ⟨rfl,rfl,rfl,rfl,rfl,?_,?_,rfl,trivial⟩ ⟨⟨rfl,rfl⟩,trivial⟩ rfl)
          ·rw [hany];rfl
          ·rw [hall];rfl
        ·refine Zal (by (conv=>lhs;whnf);try rfl) e3 ?_
         rw [hf,e3] at hany hall
         simp only [Bool.or_false,Bool.not_false,Bool.true_or,Bool.and_true] at hany hall
         repeat (first | refine Zaq rfl rfl (by omega) ?_ | refine Zam rfl rfl rfl (by omega) (by omega) ?_ | refine g_dec rfl rfl rfl (by omega) ?_ | refine Zan rfl rfl rfl (by omega) (by omega) ?_ | refine Zcu ?_ | refine ZM Tryz.underlying9 rfl rfl ?_)
         refine ZaL (k+1) 2 hlk' hms (ZF [((1,4),(1,4))] ⟨rfl,rfl,rfl,rfl,rfl,?_,?_,rfl,trivial⟩ ⟨⟨rfl,rfl⟩,trivial⟩ rfl)
         ·rw [hany];rfl
         ·rw [hall];rfl
       ·rw [e2]
        have hf:ZU G right lv r=false:=by unfold ZU;rw [decide_eq_true e1,e2];rfl
        rw [hf] at hany hall
        simp only [Bool.or_false,Bool.not_false,Bool.true_or,Bool.and_true] at hany hall
        repeat (first | (refine Zi rfl ?_) | refine Zaq rfl rfl (by omega) ?_ | refine Zam rfl rfl rfl (by omega) (by omega) ?_ | refine g_dec rfl rfl rfl (by omega) ?_ | refine Zan rfl rfl rfl (by omega) (by omega) ?_ | refine Zcu ?_ | refine ZM Tryz.underlying9 rfl rfl ?_)
        refine Zal (by (conv=>lhs;whnf);try rfl) rfl ?_
        repeat (first | refine Zaq rfl rfl (by omega) ?_ | refine Zam rfl rfl rfl (by omega) (by omega) ?_ | refine g_dec rfl rfl rfl (by omega) ?_ | refine Zan rfl rfl rfl (by omega) (by omega) ?_ | refine Zcu ?_ | refine ZM Tryz.underlying9 rfl rfl ?_)
        refine ZaL (k+1) 2 hlk' hms (ZF [((1,4),(1,4))] ⟨rfl,rfl,rfl,rfl,rfl,?_,?_,rfl,trivial⟩ ⟨⟨rfl,rfl⟩,trivial⟩ rfl)
        ·rw [hany];rfl
        ·rw [hall];rfl
      ·rw [decide_eq_false e1]
       have hf:ZU G right lv r=false:=by unfold ZU;rw [decide_eq_false e1];rfl
       rw [hf] at hany hall
       simp only [Bool.or_false,Bool.not_false,Bool.true_or,Bool.and_true] at hany hall
       repeat (first | (refine Zi rfl ?_) | refine Zaq rfl rfl (by omega) ?_ | refine Zam rfl rfl rfl (by omega) (by omega) ?_ | refine g_dec rfl rfl rfl (by omega) ?_ | refine Zan rfl rfl rfl (by omega) (by omega) ?_ | refine Zcu ?_ | refine ZM Tryz.underlying9 rfl rfl ?_)
       refine Zal (by (conv=>lhs;whnf);try rfl) rfl ?_
       repeat (first | refine Zaq rfl rfl (by omega) ?_ | refine Zam rfl rfl rfl (by omega) (by omega) ?_ | refine g_dec rfl rfl rfl (by omega) ?_ | refine Zan rfl rfl rfl (by omega) (by omega) ?_ | refine Zcu ?_ | refine ZM Tryz.underlying9 rfl rfl ?_)
       refine ZaL (k+1) 2 hlk' hms (ZF [((1,4),(1,4))] ⟨rfl,rfl,rfl,rfl,rfl,?_,?_,rfl,trivial⟩ ⟨⟨rfl,rfl⟩,trivial⟩ rfl)
       ·rw [hany];rfl
       ·rw [hall];rfl
     ·refine Zal (by (conv=>lhs;whnf);try rfl) (decide_eq_false hlk) ?_
      obtain rfl:k=p.rules.length:=by simp at hlk;omega
      rw [List.take_length]
      repeat (first | refine Zaq rfl rfl (by omega) ?_ | refine Zam rfl rfl rfl (by omega) (by omega) ?_ | refine g_dec rfl rfl rfl (by omega) ?_ | refine Zan rfl rfl rfl (by omega) (by omega) ?_ | refine Zcu ?_ | refine ZM Tryz.underlying9 rfl rfl ?_)
      rcases Bool.eq_false_or_eq_true (p.rules.any (ZU G right lv)) with e5 | e5
      ·refine ZaC (by (conv=>lhs;whnf);try rfl) e5 ?_
       rw [if_pos e5] at hno
       repeat (first | refine Zaq rfl rfl (by omega) ?_ | refine Zam rfl rfl rfl (by omega) (by omega) ?_ | refine g_dec rfl rfl rfl (by omega) ?_ | refine Zan rfl rfl rfl (by omega) (by omega) ?_ | refine Zcu ?_ | refine ZM Tryz.underlying9 rfl rfl ?_)
       exact Zc5 rfl rfl (by rw [hno];rfl)
      ·refine Zal (by (conv=>lhs;whnf);try rfl) e5 ?_
       rw [if_neg (by rw [e5];simp)] at hno
       repeat (first | refine Zaq rfl rfl (by omega) ?_ | refine Zam rfl rfl rfl (by omega) (by omega) ?_ | refine g_dec rfl rfl rfl (by omega) ?_ | refine Zan rfl rfl rfl (by omega) (by omega) ?_ | refine Zcu ?_ | refine ZM Tryz.underlying9 rfl rfl ?_)
       exact ZaL (i+1) 2 ⟨hlt',hno⟩ (by show (ZR t).length - (i+1)<(ZR t).length - i;omega) (ZF [((1,4),(1,4))] ⟨rfl,rfl,rfl,rfl,rfl,trivial⟩ ⟨⟨rfl,rfl⟩,trivial⟩ rfl)
    ·refine Zal (by (conv=>lhs;whnf);try rfl) (decide_eq_false hlt) ?_
     obtain rfl:i=(ZR t).length:=by simp at hlt;omega
     rw [List.drop_length,ZcZ] at hno
     repeat (first | refine Zaq rfl rfl (by omega) ?_ | refine Zam rfl rfl rfl (by omega) (by omega) ?_ | refine g_dec rfl rfl rfl (by omega) ?_ | refine Zan rfl rfl rfl (by omega) (by omega) ?_ | refine Zcu ?_ | refine ZM Tryz.underlying9 rfl rfl ?_)
     exact Zc5 rfl rfl (by rw [hno];rfl)
 ·repeat (first | (refine ZfX hcv rfl rfl ?_) | (refine Zi rfl ?_) | refine Zaq rfl rfl (by omega) ?_ | refine Zam rfl rfl rfl (by omega) (by omega) ?_ | refine g_dec rfl rfl rfl (by omega) ?_ | refine Zan rfl rfl rfl (by omega) (by omega) ?_ | refine Zcu ?_ | refine ZM Tryz.underlying9 rfl rfl ?_)
  refine ZaC (by (conv=>lhs;whnf);try rfl) rfl ?_
  repeat (first | refine Zaq rfl rfl (by omega) ?_ | refine Zam rfl rfl rfl (by omega) (by omega) ?_ | refine g_dec rfl rfl rfl (by omega) ?_ | refine Zan rfl rfl rfl (by omega) (by omega) ?_ | refine Zcu ?_ | refine ZM Tryz.underlying9 rfl rfl ?_)
  refine Zc5 rfl rfl ?_
  unfold ZiO
  rw [hv]
  rfl
set_option linter.unusedVariables false
def Zn3 (p:Policy) (G:List ByteArray) (right:Int) (t:Title):Option Bool:=if p.rules.length≤1000000 then some (ZiO p G right t) else none
theorem Ztk (p:Policy) (G:List ByteArray) (right:Int) (t:Title) (r:Bool) (h:Zn3 p G right t=some r):Zd Tryz.prog 82 [p.pv,.sl (List.map csS G),.int .i64 right,t.pv] (.bool r):=by
 unfold Zn3 at h
 split at h
 ·cases h;exact Zwd p G right t (by assumption)
 ·cases h
def ZbY (p:Policy) (G:List ByteArray) (right:Int) (t:Title):Option Bool:=if p.rules.length≤1000000 then some (ZiO p G right t) else none
theorem ZkY (p:Policy) (G:List ByteArray) (right:Int) (t:Title) (r:Bool) (h:ZbY p G right t=some r):Zd Tryz.prog 59 [p.pv,.sl (List.map csS G),.int .i64 right,t.pv] (.bool r):=by
 unfold ZbY at h
 split at h
 ·cases h;exact ZzB p G right t (by assumption)
 ·cases h
end Go.Proofs.YtjoneoobolnnbaaGreatDoor
namespace Go.Proofs.YtjoneoobolnnbaaGreatDoor
open VL Go.RowKit
open Go.Lib (holds_of_ownsRow)
def Zr1 (s:ByteArray):Bool:=s.data.toList.all fun b=>decide (b.toNat<128)
theorem ZoM {s:ByteArray} (h:Zr1 s=true):Zww s:=fun j b hj=>by
 have:=List.all_eq_true.1 h b (List.mem_of_getElem? hj)
 simpa using this
def ZcL (s c:ByteArray):Option ByteArray:=if s.size≤9223372036854775807∧c=⟨#[32,9]⟩ then some (Zhg ZfL (ZfK ZfL s)) else none
theorem Zc8 (s c:ByteArray) (r:ByteArray) (h:ZcL s c=some r):Zd Tryz.prog 237 [.str s,.str c] (.str r):=by
 unfold ZcL at h
 split at h
 ·rename_i hc
  cases h
  rw [hc.2]
  exact Zyf s hc.1
 ·cases h
def Zdm (s c:ByteArray):Option Bool:=if (s.size<4294967281∧Zr1 s=true)∧c=⟨#[10,124]⟩ then some (Lib.containsAny s.data.toList [10,124]) else none
theorem Zh0 (s c:ByteArray) (r:Bool) (h:Zdm s c=some r):Zd Tryz.prog 249 [.str s,.str c] (.bool r):=by
 unfold Zdm at h
 split at h
 ·rename_i hc
  cases h
  rw [hc.2]
  exact ZoQ s hc.1.1 (ZoM hc.1.2)
 ·cases h
def ZeX (s c:ByteArray):Option Int:=if (s.size<4294967281∧Zr1 s=true)∧(c.size<4294967281∧Zr1 c=true) then some (Lib.indexAny s.data.toList c.data.toList) else none
theorem Zkc (s c:ByteArray) (r:Int) (h:ZeX s c=some r):Zd Tryz.prog 238 [.str s,.str c] (.int .i64 r):=by
 unfold ZeX at h
 split at h
 ·rename_i hc
  cases h
  exact Zay (vals:=[.string s,.string c]) (by kernel_rfl) rfl rfl (fun x=>.int _ _) fun w _=>Tryz.strings_IndexAny_laid s c w hc.1.1 hc.2.1 (ZoM hc.1.2) (ZoM hc.2.2)
 ·cases h
def strings_Cut (s c:ByteArray):Option (ByteArray×ByteArray×Bool):=if s.size<4294967281 then some (⟨(Lib.cut s.data.toList c.data.toList).1.toArray⟩,⟨(Lib.cut s.data.toList c.data.toList).2.1.toArray⟩,(Lib.cut s.data.toList c.data.toList).2.2) else none
theorem ZzP {x:Ctx} (a b:ByteArray) (c:Bool):Rep x (.tup [.str a,.str b,.bool c]) (.tuple #[.string a,.string b,.bool c]):=.tup _ _ rfl fun i p v hp hv=>by
 match i,hp,hv with
 | 0,hp,hv=>injection hp with hp;injection hv with hv;subst hp hv;exact .str _
 | 1,hp,hv=>injection hp with hp;injection hv with hv;subst hp hv;exact .str _
 | 2,hp,hv=>injection hp with hp;injection hv with hv;subst hp hv;exact .bool _
 | i+3,hp,_=>simp at hp
theorem ZoN (s c:ByteArray) (r:ByteArray×ByteArray×Bool) (h:strings_Cut s c=some r):Zd Tryz.prog 155 [.str s,.str c] (.tup [.str r.1,.str r.2.1,.bool r.2.2]):=by
 unfold strings_Cut at h
 split at h
 ·rename_i hc
  cases h
  exact Zay (vals:=[.string s,.string c]) (by kernel_rfl) rfl rfl (fun x=>ZzP _ _ _) fun w hw=>by
   obtain ⟨m,hm⟩:=hw.1
   refine (Tryz.strings_Cut s c m w hc hm).mono ?_
   rintro e w' ⟨rfl,n,rfl⟩
   exact ⟨rfl,Below.dn (Below.refl _ _) n⟩
 ·cases h
def strings_Split (s c:ByteArray):Option (List ByteArray):=if (s.size<4294967281∧1≤c.size)∧Lib.countB s c≤1000000 then some (Lib.splitB c 0 (Lib.countB s c) s) else none
theorem Zh1 (s c:ByteArray) (r:List ByteArray) (h:strings_Split s c=some r):ContractN Tryz.prog 100 [.str s,.str c] (.row 9 1 false (List.map csS r)):=by
 unfold strings_Split at h
 split at h
 ·rename_i hc
  injection h with h
  have hlen:r.length=Lib.countB s c+1:=by rw [← h];exact Lib.splitB_all c hc.1.2 0 _ s rfl
  refine Ze8 (α:=ByteArray) (vals:=[.string s,.string c]) (enc:=fun x=>[.string x]) (by kernel_rfl) rfl (fun x=>rfl) (fun S w x cs h=>h) (fun x=>rfl) fun w hw=>?_
  obtain ⟨m,hm⟩:=hw.1
  refine (Tryz.strings_Split s c m w hc.1.1 hm hc.1.2).mono ?_
  rintro e w' ⟨rfl,rfl⟩
  rw [h,← hlen]
  refine ⟨_,rfl,OwnL.of_row ⟨by simp,.inr ⟨w.heap.size,r.length,_,rfl,Nat.le_refl _,heap_alloc_new w _,Nat.le_refl _,?_,by simp,?_⟩⟩,Below.al (Below.refl _ _) _⟩
  ·unfold maxLen;omega
  ·rw [Nat.mul_one,List.take_of_length_le (by simp)]
 ·cases h
def leB (x y:ByteArray):Bool:=decide (x.data.toList≤y.data.toList)
def Zxu (x:ByteArray):List ByteArray→List ByteArray
 | []=>[x]
 | y::l=>if leB x y=true then x::y::l else y::Zxu x l
def ZpU:List ByteArray→List ByteArray
 | []=>[]
 | x::l=>Zxu x (ZpU l)
theorem ZpV (a b c:ByteArray) (h:leB a b=true) (k:leB b c=true):leB a c=true:=by
 unfold leB at *
 rw [decide_eq_true_eq] at *
 exact List.le_trans h k
theorem ZpW (a b:ByteArray):(leB a b||leB b a)=true:=by
 unfold leB
 rw [Bool.or_eq_true,decide_eq_true_eq,decide_eq_true_eq]
 exact List.le_total _ _
theorem Zv3 {a b:ByteArray} (h:leB a b=true) (k:leB b a=true):a=b:=by
 unfold leB at *
 rw [decide_eq_true_eq] at *
 obtain ⟨⟨a⟩⟩:=a
 obtain ⟨⟨b⟩⟩:=b
 exact congrArg (fun l:List UInt8=>(⟨⟨l⟩⟩:ByteArray)) (List.le_antisymm h k)
theorem ZmO (x:ByteArray):∀ l:List ByteArray,(Zxu x l).Perm (x::l)
 | []=>.refl _
 | y::l=>by
   unfold Zxu
   split
   ·exact .refl _
   ·exact ((ZmO x l).cons y).trans (.swap x y l)
theorem ZmP:∀ l:List ByteArray,(ZpU l).Perm l
 | []=>.refl _
 | x::l=>(ZmO x _).trans ((ZmP l).cons x)
theorem ZuA (x:ByteArray):∀ l:List ByteArray,l.Pairwise (fun a b=>leB a b=true)→(Zxu x l).Pairwise fun a b=>leB a b=true
 | [],_=>by simp [Zxu]
 | y::l,h=>by
   unfold Zxu
   have hy:=List.pairwise_cons.1 h
   split
   ·rename_i hx
    exact List.pairwise_cons.2 ⟨fun z hz=>by
     rcases List.mem_cons.1 hz with rfl | hz
     ·exact hx
     ·exact ZpV _ _ _ hx (hy.1 z hz),h⟩
   ·rename_i hx
    refine List.pairwise_cons.2 ⟨fun z hz=>?_,ZuA x l hy.2⟩
    rcases List.mem_cons.1 ((ZmO x l).mem_iff.1 hz) with rfl | hz
    ·have:=ZpW z y
     simp only [Bool.or_eq_true] at this
     exact this.resolve_left hx
    ·exact hy.1 z hz
theorem ZpX:∀ l:List ByteArray,(ZpU l).Pairwise fun a b=>leB a b=true
 | []=>.nil
 | x::l=>ZuA x _ (ZpX l)
theorem Zrh (l:List ByteArray):l.mergeSort leB=ZpU l:=
 List.Perm.eq_of_pairwise (fun _ _ _ _ h k=>Zv3 h k) (List.pairwise_mergeSort ZpV ZpW l) (ZpX l) ((List.mergeSort_perm l leB).trans (ZmP l).symm)
def slices_Sort_string (l:List ByteArray):Option (List ByteArray):=if 0<l.length∧l.length<1000000 then some (ZpU l) else none
theorem Zv4 (l:List ByteArray):(l.mergeSort leB).map (fun s=>s.data.toList)=(l.map (fun s=>s.data.toList)).mergeSort fun x y=>decide (x≤y):=by
 rw [List.map_mergeSort]
 intro a _ b _
 rfl
theorem Zy2 (l:List ByteArray):l.map Value.string=(l.map fun s=>s.data.toList).map encStr:=by
 rw [List.map_map]
 rfl
theorem ZiQ (l:List ByteArray) (r:List ByteArray) (h:slices_Sort_string l=some r):ContractM Tryz.prog 111 9 1 (List.map csS l) (List.map csS r):=by
 unfold slices_Sort_string at h
 split at h
 ·rename_i hl
  injection h with h
  rw [← Zrh] at h
  have hk:∀ x:ByteArray,[Value.string x].length=1:=fun _=>rfl
  have hpl:∀ l:List ByteArray,ZbL (l.map csS).flatten=some (l.flatMap fun x=>[Value.string x]):=Zem fun x=>rfl
  have hfm:∀ l:List ByteArray,(l.flatMap fun x=>[Value.string x])=(l.map fun s=>s.data.toList).map encStr:=fun l=>by rw [← Zy2,List.map_eq_flatMap]
  have hrl:r.length=l.length:=by rw [← h,List.length_mergeSort]
  refine ⟨by kernel_rfl,fun e he=>?_,fun e he p hp=>?_,by rw [hpl];rfl,fun W v vs hown hvs _=>?_⟩
  ·obtain ⟨x,_,rfl⟩:=List.mem_map.1 he
   rfl
  ·obtain ⟨x,_,rfl⟩:=List.mem_map.1 he
   simp at hp
   rw [hp]
   rfl
  ·rw [hpl] at hvs
   injection hvs with hvs
   subst hvs
   rw [List.length_map] at hown
   rcases hown.2 with ⟨hn,h0⟩ | ⟨g,cap,cur,hv,hB,hh,h1,h2,h3,ht⟩
   ·omega
   ·subst hv
    rw [hfm] at hown ht
    have hH:Sort.Holds encStr W g 0 (l.map fun s=>s.data.toList).toArray:=by
     obtain ⟨g',cap',e1,_,_,_,_,_,hH⟩:=holds_of_ownsRow hown (by simp)
     injection e1 with e1
     injection e1 with e1
     injection e1 with e1
     subst e1
     exact hH
    have:=Tryz.slices_Sort_string g 0 cap (l.map fun s=>s.data.toList) W hH (Array.getElem?_eq_some_iff.1 hh).1 (by simp;omega)
    rw [List.length_map,← Zv4,h] at this
    refine Calls.mono this ?_
    rintro e w' ⟨rfl,n,os,rfl⟩
    have hlt:g<W.heap.size:=(Array.getElem?_eq_some_iff.1 hh).1
    obtain ⟨q1,q2⟩:=Lib.ownsRow_putRow (q:=n) (ys:=r.map fun s=>s.data.toList) hown (by rw [List.length_map,hrl]) (Nat.le_refl _)
    rcases q2 with ⟨e0,_⟩ | ⟨g',cap',cur',e0,hb',hg',hn',hm',hs',ht'⟩
    ·cases e0
    ·injection e0 with e1 _ e3
     injection e1 with e1
     injection e1 with e1
     subst e1 e3
     refine ⟨_,rfl,hpl r,⟨by rw [hfm];simp,.inr ⟨g,cap,cur',by rw [List.length_map,hrl],hb',?_,by rw [List.length_map,hrl];exact hn',hm',hs',?_⟩⟩,rfl,rfl,rfl,by simp [Sort.grow,Sort.putRow,Sort.mapBlock,Sort.ahead],fun b hb hne=>?_⟩
     ·show ((Sort.putRow encStr (Sort.ahead W n) g 0 (r.map fun s=>s.data.toList).toArray).heap++os)[g]? = _
      rw [Array.getElem?_append_left (by simpa [Sort.putRow,Sort.mapBlock,Sort.ahead] using hlt)]
      exact hg'
     ·rw [List.length_map,hrl,ht',hfm,List.take_of_length_le (by simp [hrl])]
     ·have hgb:g≠b:=fun e=>hne (by rw [e];rfl)
      show ((Sort.putRow encStr (Sort.ahead W n) g 0 (r.map fun s=>s.data.toList).toArray).heap++os)[b]? = _
      rw [Array.getElem?_append_left (by simpa [Sort.putRow,Sort.mapBlock,Sort.ahead] using hb)]
      simp [Sort.putRow,Sort.mapBlock,Sort.ahead,Array.getElem?_modify,hgb]
 ·cases h
end Go.Proofs.YtjoneoobolnnbaaGreatDoor
namespace Go.Proofs.YtjoneoobolnnbaaGreatDoor
open VL
def Zes (p0:Int):Option Bool:=
 letk (fun (x1:Bool)=>
  (some x1:Option Bool)) fun k1=>
 if (decide (p0=32)) then
  k1 true
 else
 k1 (decide (p0=9))
theorem Zlk (p0:Int) (r:Bool) (h:Zes p0=some r):Zd Tryz.prog 240 [.int .i32 p0] (.bool r):=by
 refine cF (fun r=>.bool r) h mix Tryz.func240 fun r h=>?_
 unfold Zes at h
 refine Zh ?_
 refine rg ?_
 refine jL h (fun x1=>mkS [(2,.bool x1)] [] 2) (fun k1 h=>?_) fun x1 h=>?_
 ·refine rg ?_
  refine kS 5 h rfl (fun h=>?_) fun h=>?_
  ·iterate 2 refine Zi rfl (Zh ?_)
   exact jn true h (sR [])
  exact jn (decide (p0=9)) h (sR [])
 cases h
 exact rQ
def ZgS:Option (List ByteArray):=
 (some [(⟨#[114,101,97,100]⟩:ByteArray),(⟨#[101,100,105,116]⟩:ByteArray),(⟨#[109,111,118,101]⟩:ByteArray),(⟨#[100,101,108,101,116,101]⟩:ByteArray),(⟨#[114,101,118,105,101,119]⟩:ByteArray)]:Option (List ByteArray))
theorem Zma  (r:List ByteArray) (h:ZgS=some r):Zd Tryz.prog 241 [] (.sl (List.map csS r)):=by
 refine cF (fun r=>.sl (List.map csS r)) h mix Tryz.func241 fun r h=>?_
 unfold ZgS at h
 refine Zh ?_
 refine rg ?_
 refine rg ?_
 refine bM csS ([(⟨#[114,101,97,100]⟩:ByteArray),(⟨#[101,100,105,116]⟩:ByteArray),(⟨#[109,111,118,101]⟩:ByteArray),(⟨#[100,101,108,101,116,101]⟩:ByteArray),(⟨#[114,101,118,105,101,119]⟩:ByteArray)]:List ByteArray) ?_
 cases h
 exact rQ
def Zca (p0:List ByteArray) (p1:ByteArray):Option Int:=
 ZE Zaj (fun f2 (x10:Int)=>
  if (decide (x10<(p0.length:Int))) then
   (atI p0 x10).bind fun e14=>
   if (decide (p1=e14)) then
    (some x10:Option Int)
   else
   f2 (w64 (x10+1))
  else
  (some (-1):Option Int)) 0
theorem ZeB (p0:List ByteArray) (p1:ByteArray) (r:Int) (h:Zca p0 p1=some r):Zd Tryz.prog 164 [.sl (List.map csS p0),.str p1] (.int .i64 r):=by
 refine cF (fun r=>.int .i64 r) h mix Tryz.func164 fun r h=>?_
 unfold Zca at h
 refine Zh ?_
 refine rg ?_
 refine rg ?_
 refine lM csS p0 ?_
 refine bl ?_
 refine Zn h fun f2 mf2 hf2 h=>?_
 refine Zk (α:=Nat×Int) (fun a _=>mkS [(0,.sl (List.map csS p0)),(1,.str p1),(7,.int .i64 (p0.length:Int)),(8,.int .i64 a.2)] [] 2) (fun a=>ZE a.1 f2 a.2=some r) (fun a=>a.1) (mf2,0) 2 h (sR []) (fun a _ h=>?_)
 obtain ⟨mf2,x10⟩:=a
 obtain ⟨mf2,rfl,h⟩:=Zo hf2 h
 dsimp only at h ⊢
 refine Zh ?_
 refine rg ?_
 refine cS h rfl (fun h=>?_) fun h=>?_
 ·refine bl ?_
  refine rg ?_
  refine rg ?_
  refine aI csS h fun e14 h=>?_
  refine cS h rfl (fun h=>?_) fun h=>?_
  ·refine rg ?_
   cases h
   exact rQ
  refine rg ?_
  exact rn (mf2,(w64 (x10+1))) h (sR [])
 refine rg ?_
 cases h
 exact rQ
def ZgT:Option (List ByteArray):=
 (some [(⟨#[60,77,97,105,110,62]⟩:ByteArray),(⟨#[60,84,97,108,107,62]⟩:ByteArray),(⟨#[60,85,115,101,114,62]⟩:ByteArray),(⟨#[60,84,101,109,112,108,97,116,101,62]⟩:ByteArray),(⟨#[60,67,97,116,101,103,111,114,121,62]⟩:ByteArray),(⟨#[60,80,114,111,106,101,99,116,62]⟩:ByteArray)]:Option (List ByteArray))
theorem Zmb  (r:List ByteArray) (h:ZgT=some r):Zd Tryz.prog 242 [] (.sl (List.map csS r)):=by
 refine cF (fun r=>.sl (List.map csS r)) h mix Tryz.func242 fun r h=>?_
 unfold ZgT at h
 refine Zh ?_
 refine rg ?_
 refine rg ?_
 refine bM csS ([(⟨#[60,77,97,105,110,62]⟩:ByteArray),(⟨#[60,84,97,108,107,62]⟩:ByteArray),(⟨#[60,85,115,101,114,62]⟩:ByteArray),(⟨#[60,84,101,109,112,108,97,116,101,62]⟩:ByteArray),(⟨#[60,67,97,116,101,103,111,114,121,62]⟩:ByteArray),(⟨#[60,80,114,111,106,101,99,116,62]⟩:ByteArray)]:List ByteArray) ?_
 cases h
 exact rQ
def Zet (p0:ByteArray):Option Bool:=
 letk (fun (x1:Bool)=>
  (some x1:Option Bool)) fun k1=>
 if (decide (p0=(⟨#[97,108,108]⟩:ByteArray))) then
  k1 true
 else
 k1 (decide (p0=(⟨#[117,115,101,114,115]⟩:ByteArray)))
theorem Zhh (p0:ByteArray) (r:Bool) (h:Zet p0=some r):Zd Tryz.prog 244 [.str p0] (.bool r):=by
 refine cF (fun r=>.bool r) h mix Tryz.func244 fun r h=>?_
 unfold Zet at h
 refine Zh ?_
 refine rg ?_
 refine jL h (fun x1=>mkS [(2,.bool x1)] [] 2) (fun k1 h=>?_) fun x1 h=>?_
 ·refine rg ?_
  refine kS 5 h rfl (fun h=>?_) fun h=>?_
  ·iterate 2 refine Zi rfl (Zh ?_)
   exact jn true h (sR [])
  exact jn (decide (p0=(⟨#[117,115,101,114,115]⟩:ByteArray))) h (sR [])
 cases h
 exact rQ
def Zcb (p0:Group) (p1:Group):Option Bool:=
 (some (decide (p0.name=p1.name)):Option Bool)
theorem ZhD (p0:Group) (p1:Group) (r:Bool) (h:Zcb p0 p1=some r):Zd Tryz.prog 246 [p0.pv,.cel [.str p1.name,.sl (List.map csS p1.members)]] (.bool r):=by
 refine cF (fun r=>.bool r) h mix Tryz.func246 fun r h=>?_
 unfold Zcb at h
 refine Zh ?_
 refine rg ?_
 refine rg ?_
 cases h
 exact rQ
def Zcy (p0:List Group) (qf1:Group→Option Bool):Option Int:=
 ZE Zaj (fun f2 (x18:Int)=>
  if (decide (x18<(p0.length:Int))) then
   (atI p0 x18).bind fun e25=>
   (qf1 e25).bind fun r26=>
   if r26 then
    (some x18:Option Int)
   else
   f2 (w64 (x18+1))
  else
  (some (-1):Option Int)) 0
theorem Zgk (p0:List Group) (qf1:Group→Option Bool) (fv1:Nat) (Lv1:List (List PV)) (hq1:∀ (y0:Group) (r:Bool),qf1 y0=some r→Zd Tryz.prog fv1 ([y0.pv]++Lv1.map .cel) (.bool r)) (r:Int) (h:Zcy p0 qf1=some r):Zd Tryz.prog 278 [.sl (List.map Group.cs p0),.fn fv1 (Lv1.map .cel)] (.int .i64 r):=by
 refine cF (fun r=>.int .i64 r) h mix Tryz.func278 fun r h=>?_
 unfold Zcy at h
 refine Zh ?_
 refine rg ?_
 refine rg ?_
 refine lM Group.cs p0 ?_
 refine bl ?_
 refine Zn h fun f2 mf2 hf2 h=>?_
 refine Zk (α:=Nat×Int) (fun a _=>mkS [(0,.sl (List.map Group.cs p0)),(1,.fn fv1 (Lv1.map .cel)),(7,.int .i64 (p0.length:Int)),(8,.int .i64 a.2)] [] 2) (fun a=>ZE a.1 f2 a.2=some r) (fun a=>a.1) (mf2,0) 2 h (Zw [] ⟨rfl,Zkb _ _ _,rfl,rfl,trivial⟩ trivial rfl) (fun a _ h=>?_)
 obtain ⟨mf2,x18⟩:=a
 obtain ⟨mf2,rfl,h⟩:=Zo hf2 h
 dsimp only at h ⊢
 refine Zh ?_
 refine rg ?_
 refine cS h rfl (fun h=>?_) fun h=>?_
 ·refine bl ?_
  refine rg ?_
  refine rg ?_
  refine aI Group.cs h fun e25 h=>?_
  obtain ⟨r26,h24,h⟩:=bnd h
  refine ZgX (args1:=[e25.pv]) (hq1 e25 _ h24) rfl rfl rfl rfl (Zh ?_)
  refine cS h rfl (fun h=>?_) fun h=>?_
  ·refine rg ?_
   cases h
   exact rQ
  refine rg ?_
  exact rn (mf2,(w64 (x18+1))) h (Zw [] ⟨rfl,Zkb _ _ _,rfl,rfl,trivial⟩ trivial rfl)
 refine rg ?_
 cases h
 exact rQ
def Za1 (p0:List Group) (qf1:Group→Option Bool):Option Bool:=
 (Zcy p0 qf1).bind fun r1=>
 (some (decide (0≤r1)):Option Bool)
theorem ZcI (p0:List Group) (qf1:Group→Option Bool) (fv1:Nat) (Lv1:List (List PV)) (hq1:∀ (y0:Group) (r:Bool),qf1 y0=some r→Zd Tryz.prog fv1 ([y0.pv]++Lv1.map .cel) (.bool r)) (r:Bool) (h:Za1 p0 qf1=some r):Zd Tryz.prog 245 [.sl (List.map Group.cs p0),.fn fv1 (Lv1.map .cel)] (.bool r):=by
 refine cF (fun r=>.bool r) h mix Tryz.func245 fun r h=>?_
 unfold Za1 at h
 refine Zh ?_
 refine rg ?_
 refine rg ?_
 obtain ⟨r1,h1,h⟩:=bnd h
 refine Zt0 (pre:=[.sl (List.map Group.cs p0)]) (pre':=[.sl (List.map Group.cs p0)]) (Zgk _ qf1 fv1 Lv1 hq1 _ h1) rfl rfl rfl rfl (Zh ?_)
 cases h
 exact rQ
def ZdI (p0:Group) (p1:ByteArray):Option Bool:=
 (some (decide (p0.name=p1)):Option Bool)
theorem Zkt (p0:Group) (p1:ByteArray) (r:Bool) (h:ZdI p0 p1=some r):Zd Tryz.prog 280 [p0.pv,.cel [.str p1]] (.bool r):=by
 refine cF (fun r=>.bool r) h mix Tryz.func280 fun r h=>?_
 unfold ZdI at h
 refine Zh ?_
 refine rg ?_
 refine rg ?_
 cases h
 exact rQ
def ZdJ (p0:Policy) (p1:ByteArray):Option Bool:=
 letk (fun (x3:Bool)=>
  (some x3:Option Bool)) fun k1=>
 (Zet p1).bind fun r4=>
 if r4 then
  k1 true
 else
 (Za1 p0.groups (fun y0=>ZdI y0 p1)).bind fun r5=>
 k1 r5
theorem Zfs (p0:Policy) (p1:ByteArray) (r:Bool) (h:ZdJ p0 p1=some r):Zd Tryz.prog 248 [p0.pv,.str p1] (.bool r):=by
 refine cF (fun r=>.bool r) h mix Tryz.func248 fun r h=>?_
 unfold ZdJ at h
 refine Zh ?_
 refine rg ?_
 refine jL h (fun x3=>mkS [(4,.bool x3)] [] 2) (fun k1 h=>?_) fun x3 h=>?_
 ·refine rg ?_
  refine aC h (Zhh _) fun r4 h=>?_
  refine kS 7 h rfl (fun h=>?_) fun h=>?_
  ·iterate 4 refine Zi rfl (Zh ?_)
   exact jn true h (sR [])
  refine Zkx rfl rfl (Zh ?_)
  obtain ⟨r5,h4,h⟩:=bnd h
  refine ZjO (ZcI _ (fun y0=>ZdI y0 p1) 280 [[.str p1]] (fun y0 r h=>Zkt y0 p1 r h) _ h4) rfl rfl rfl (Zh ?_)
  exact jn r5 h (sR [])
 cases h
 exact rQ
def Zcc (p0:List ByteArray) (qf1:ByteArray→Option Bool):Option Int:=
 ZE Zaj (fun f2 (x18:Int)=>
  if (decide (x18<(p0.length:Int))) then
   (atI p0 x18).bind fun e25=>
   (qf1 e25).bind fun r26=>
   if r26 then
    (some x18:Option Int)
   else
   f2 (w64 (x18+1))
  else
  (some (-1):Option Int)) 0
theorem Zf7 (p0:List ByteArray) (qf1:ByteArray→Option Bool) (fv1:Nat) (Lv1:List (List PV)) (hq1:∀ (y0:ByteArray) (r:Bool),qf1 y0=some r→Zd Tryz.prog fv1 ([.str y0]++Lv1.map .cel) (.bool r)) (r:Int) (h:Zcc p0 qf1=some r):Zd Tryz.prog 165 [.sl (List.map csS p0),.fn fv1 (Lv1.map .cel)] (.int .i64 r):=by
 refine cF (fun r=>.int .i64 r) h mix Tryz.func165 fun r h=>?_
 unfold Zcc at h
 refine Zh ?_
 refine rg ?_
 refine rg ?_
 refine lM csS p0 ?_
 refine bl ?_
 refine Zn h fun f2 mf2 hf2 h=>?_
 refine Zk (α:=Nat×Int) (fun a _=>mkS [(0,.sl (List.map csS p0)),(1,.fn fv1 (Lv1.map .cel)),(7,.int .i64 (p0.length:Int)),(8,.int .i64 a.2)] [] 2) (fun a=>ZE a.1 f2 a.2=some r) (fun a=>a.1) (mf2,0) 2 h (Zw [] ⟨rfl,Zkb _ _ _,rfl,rfl,trivial⟩ trivial rfl) (fun a _ h=>?_)
 obtain ⟨mf2,x18⟩:=a
 obtain ⟨mf2,rfl,h⟩:=Zo hf2 h
 dsimp only at h ⊢
 refine Zh ?_
 refine rg ?_
 refine cS h rfl (fun h=>?_) fun h=>?_
 ·refine bl ?_
  refine rg ?_
  refine rg ?_
  refine aI csS h fun e25 h=>?_
  obtain ⟨r26,h24,h⟩:=bnd h
  refine ZgX (args1:=[.str e25]) (hq1 e25 _ h24) rfl rfl rfl rfl (Zh ?_)
  refine cS h rfl (fun h=>?_) fun h=>?_
  ·refine rg ?_
   cases h
   exact rQ
  refine rg ?_
  exact rn (mf2,(w64 (x18+1))) h (Zw [] ⟨rfl,Zkb _ _ _,rfl,rfl,trivial⟩ trivial rfl)
 refine rg ?_
 cases h
 exact rQ
def ZbF (p0:List ByteArray) (qf1:ByteArray→Option Bool):Option Bool:=
 (Zcc p0 qf1).bind fun r1=>
 (some (decide (0≤r1)):Option Bool)
theorem Ze2 (p0:List ByteArray) (qf1:ByteArray→Option Bool) (fv1:Nat) (Lv1:List (List PV)) (hq1:∀ (y0:ByteArray) (r:Bool),qf1 y0=some r→Zd Tryz.prog fv1 ([.str y0]++Lv1.map .cel) (.bool r)) (r:Bool) (h:ZbF p0 qf1=some r):Zd Tryz.prog 109 [.sl (List.map csS p0),.fn fv1 (Lv1.map .cel)] (.bool r):=by
 refine cF (fun r=>.bool r) h mix Tryz.func109 fun r h=>?_
 unfold ZbF at h
 refine Zh ?_
 refine rg ?_
 refine rg ?_
 obtain ⟨r1,h1,h⟩:=bnd h
 refine Zt0 (pre:=[.sl (List.map csS p0)]) (pre':=[.sl (List.map csS p0)]) (Zf7 _ qf1 fv1 Lv1 hq1 _ h1) rfl rfl rfl rfl (Zh ?_)
 cases h
 exact rQ
end Go.Proofs.YtjoneoobolnnbaaGreatDoor
namespace Go.Proofs.YtjoneoobolnnbaaGreatDoor
open VL Go.RowKit
def ZgN (s c:ByteArray):Option Int:=match c.data.toList with
 | [b]=>some (Lib.countByte s.data.toList b)
 | _=>none
theorem Zl1 (s c:ByteArray) (r:Int) (h:ZgN s c=some r):Zd Tryz.prog 197 [.str s,.str c] (.int .i64 r):=by
 unfold ZgN at h
 split at h
 ·rename_i b hb
  cases h
  obtain rfl:c=⟨#[b]⟩:=by
   obtain ⟨⟨l⟩⟩:=c
   exact congrArg (fun l:List UInt8=>(⟨⟨l⟩⟩:ByteArray)) hb
  exact Zay (vals:=[.string s,.string ⟨#[b]⟩]) (by kernel_rfl) rfl rfl (fun x=>.int _ _) fun w _=>(Tryz.strings_Count_one s b w).mono fun e w' ⟨e1,e2⟩=>⟨e1,e2 ▸ Below.refl _ _⟩
 ·cases h
def strings_Join (L:List ByteArray) (s:ByteArray):Option ByteArray:=
 if (0<L.length∧L.length≤140737488355328)∧(Lib.join (L.map (·.data.toList)) s.data.toList).length≤140737488355328 then some ⟨(Lib.join (L.map (·.data.toList)) s.data.toList).toArray⟩ else none
theorem Znb (L:List ByteArray) (s:ByteArray) (r:ByteArray) (h:strings_Join L s=some r):Zd Tryz.prog 291 [.sl (List.map csS L),.str s] (.str r):=by
 unfold strings_Join at h
 split at h
 ·rename_i hc
  cases h
  refine Zeu (by kernel_rfl) rfl (fun x=>.str _) fun x vs hp _=>?_
  obtain ⟨v,w,rfl,h1,h2⟩:=args2 hp
  obtain rfl:=ZoD h2
  obtain ⟨A,n,c,rfl,hS⟩:=Zjg hp.flt h1
  obtain ⟨q1,q2,q3,q4⟩:=hS
  obtain ⟨b,off,css,hA,_,hlt,hx⟩:=q4 (by omega)
  subst hA
  subst q1
  refine Tryz.strings_Join b off c L s x.W (fun j y hy=>?_) hlt hc.1.2 q2 hc.2
  obtain ⟨p1,p2⟩:=hx j y hy
  have e1:css j = [.string y]:=p1
  have:=p2 0 (.string y) (by rw [e1];rfl)
  rw [show off+j=off+j * Enc.k ByteArray+0 by show off+j=off+j * 1+0;omega]
  exact this
 ·cases h
def Znw (n:Nat):Bool:=decide ((n:Int)=32)||decide ((n:Int)=9)
def ZdE (s:ByteArray):Option (List ByteArray):=if s.size≤4294967296∧(Lib.goFieldsP Znw s).length≤9223372036854775807 then some (Lib.goFieldsP Znw s) else none
theorem Zve {f:FuncId} (h:VL.isGo Tryz.prog f=true) (args:Array Value) (w:World):(callFunc f args).run Tryz.prog w = .ok (.enter f args) w:=by
 unfold VL.isGo at h
 split at h
 ·rename_i fn hfn
  simp only [Bool.and_eq_true,bne_iff_ne,ne_eq] at h
  obtain ⟨h1,h2⟩:=h
  obtain ⟨b,hb⟩:=Option.isSome_iff_exists.1 h2
  simp [callFunc,hfn,h1,hb]
 ·cases h
theorem Zqt (w:World) (hI:∀ W,Below w.heap.size w W→WInv.I Tryz.prog W):PredGrows Tryz.prog 240 #[] Znw w:=fun W x hx hb=>by
 have hc:Zes (x:Int)=some (Znw x):=by
  unfold Zes letk Znw
  dsimp only
  by_cases h:(x:Int)=32
  ·rw [if_pos (decide_eq_true h),decide_eq_true h];rfl
  ·rw [if_neg (by simpa using h),decide_eq_false h];rfl
 refine Zgv (Zlk x _ hc) (vs:=#[encR x] ++ #[]) rfl (fun i p v hp hv=>?_) fun w' hw=>hI w' (hb.trans (hw.mono hb.size))
 match i,hp,hv with
 | 0,hp,hv=>injection hp with hp;injection hv with hv;subst hp hv;exact .int _ _
 | i+1,hp,_=>simp at hp
theorem ZiN (s:ByteArray) (r:List ByteArray) (h:ZdE s=some r):ContractN Tryz.prog 239 [.str s,.fn 240 []] (.row 9 1 false (List.map csS r)):=by
 unfold ZdE at h
 split at h
 ·rename_i hc
  injection h with h
  subst h
  refine Zi2 (α:=ByteArray) (vals:=[.string s,.func (.func 240) #[] #[]]) (enc:=fun x=>[.string x]) (by kernel_rfl) (fun x vs hp=>?_) (fun x=>rfl) (fun S w x cs h=>h) (fun x=>rfl) fun w hw=>?_
  ·obtain ⟨v,w,rfl,h1,h2⟩:=args2 hp
   obtain rfl:=ZoD h1
   cases h2 with
   | fn _ _ cs hl hh=>
     have:cs = #[]:=Array.eq_empty_of_size_eq_zero hl.symm
     rw [this]
  ·refine (Tryz.strings_FieldsFunc_grows 240 #[] (Zve (by kernel_rfl)) Znw s w hc.1 (Zqt w hw)).mono ?_
   rintro e w' ⟨A,rfl,hA,hown,hb⟩
   exact ⟨_,rfl,OwnL.of_row hown,hb⟩
 ·cases h
def Zhy (s:ByteArray):Option (Int×ByteArray×Bool):=if s.size<4294967281 then (match Zc0 s.data.toList with | some q=>some (q.1,⟨q.2.toArray⟩,true) | none=>some (0,⟨#[]⟩,false)) else none
theorem ZzN {x:Ctx} (a:Int) (b:ByteArray) (c:Bool):Rep x (.tup [.int .i64 a,.str b,.bool c]) (.tuple #[.int .i64 a,.string b,.bool c]):=.tup _ _ rfl fun i p v hp hv=>by
 match i,hp,hv with
 | 0,hp,hv=>injection hp with hp;injection hv with hv;subst hp hv;exact .int _ _
 | 1,hp,hv=>injection hp with hp;injection hv with hv;subst hp hv;exact .str _
 | 2,hp,hv=>injection hp with hp;injection hv with hv;subst hp hv;exact .bool _
 | i+3,hp,_=>simp at hp
theorem Znc (s:ByteArray) (r:Int×ByteArray×Bool) (h:Zhy s=some r):Zd Tryz.prog 101 [.str s] (.tup [.int .i64 r.1,.str r.2.1,.bool r.2.2]):=by
 unfold Zhy at h
 split at h
 ·rename_i hc
  have hv:ZkB s.data.toList = .tuple #[.int .i64 r.1,.string r.2.1,.bool r.2.2]:=by
   unfold ZkB
   cases hp:Zc0 s.data.toList with
   | none=>rw [hp] at h;injection h with h;subst h;rfl
   | some q=>rw [hp] at h;injection h with h;subst h;rfl
  exact Zay (vals:=[.string s]) (by kernel_rfl) rfl rfl (fun x=>ZzN _ _ _) fun w hw=>by
   rw [← hv]
   exact ZkC s w hc hw.1
 ·cases h
end Go.Proofs.YtjoneoobolnnbaaGreatDoor
