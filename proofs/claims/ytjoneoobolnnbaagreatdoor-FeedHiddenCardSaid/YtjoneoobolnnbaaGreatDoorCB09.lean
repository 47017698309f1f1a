/- access: levels, May. -/
import Derived.Test.YtjoneoobolnnbaaGreatDoorCB08
import Derived.Test.YtjoneoobolnnbaaGreatDoorCB03
import Derived.Test.YtjoneoobolnnbaaGreatDoorCB02
import Derived.Lib.AsciiSet
import Derived.Lib.IndexAny
set_option maxHeartbeats 8000000
set_option maxRecDepth 1000000
namespace Go.Proofs.YtjoneoobolnnbaaGreatDoor
open VL
theorem ZtR:∀ l:List Title,ZiF l=l.reverse.map fun a=>(⟨3,a⟩:Scope)
 | []=>rfl
 | a::r=>by simp [ZiF,ZtR r]
theorem ZvB (t:Title):Zd Tryz.prog 106 [t.pv] (.sl ((ZR t).map Scope.cs)):=by
 have hlen:=ZlJ t
 refine ZbK mix Tryz.func106 (by kernel_rfl) rfl (by kernel_rfl) ?_
 repeat (first | (refine ZqK (Zrk t) rfl rfl ?_) | (refine ZtG (ZuC _) rfl rfl rfl ?_) | refine Zaq rfl rfl (by omega) ?_ | refine Zam rfl rfl rfl (by omega) (by omega) ?_ | refine g_dec rfl rfl rfl (by omega) ?_ | refine Zan rfl rfl rfl (by omega) (by omega) ?_ | refine Zcu ?_ | refine ZM Tryz.underlying9 rfl rfl ?_)
 refine Zk (α:=Nat) (fun i _=>mkS [(1,.ptr 1 (1,1) 0),(3,.row 9 (1,9)),(14,.sl ((Zi1 t).reverse.map Title.cs)),(15,.int .i64 ((Zi1 t).length:Int)),(16,.int .i64 ((i:Nat):Int))]
   [(1,some ((1,1),.box t.cs)),(9,some ((1,9),.row 143 3 false ((⟨3,t⟩::((Zi1 t).reverse.take i).map fun a=>(⟨3,a⟩:Scope)).map Scope.cs)))] 2)
  (fun i=>i≤(Zi1 t).length) (fun i=>(Zi1 t).length - i) 0 2 (Nat.zero_le _)
  (Shift.trans (ZqZ 14 rfl rfl) (ZF [((1,1),_),((1,9),_)] ⟨rfl,rfl,rfl,?_,rfl,trivial⟩ ⟨⟨rfl,rfl⟩,⟨rfl,rfl⟩,trivial⟩ rfl)) (fun i _ (hi:i≤(Zi1 t).length)=>?_)
 ·show some (PV.int .i64 ((Zi1 t).length:Int))=some (PV.int .i64 (((Zi1 t).reverse.map Title.cs).length:Int))
  rw [List.length_map,List.length_reverse]
 repeat (first | refine Zaq rfl rfl (by omega) ?_ | refine Zam rfl rfl rfl (by omega) (by omega) ?_ | refine g_dec rfl rfl rfl (by omega) ?_ | refine Zan rfl rfl rfl (by omega) (by omega) ?_ | refine Zcu ?_ | refine ZM Tryz.underlying9 rfl rfl ?_)
 by_cases hlt:(i:Int)<((Zi1 t).length:Int)
 ·refine ZaC (by (conv=>lhs;whnf);try rfl) (decide_eq_true hlt) ?_
  have hlt':i<(Zi1 t).reverse.length:=by rw [List.length_reverse];omega
  obtain ⟨x,hx⟩:∃ x,(Zi1 t).reverse[i]? = some x:=⟨_,List.getElem?_eq_getElem hlt'⟩
  have hcs:((Zi1 t).reverse.map Title.cs)[i]? = some x.cs:=by rw [List.getElem?_map,hx];rfl
  repeat (first | (refine Zel rfl rfl rfl hcs rfl ?_) | (refine ZeH rfl rfl rfl rfl (by show (List.length _+1) * _≤_;simp;omega) (by show List.length _+1≤_;simp;omega) (by rfl) ?_) | refine Zaq rfl rfl (by omega) ?_ | refine Zam rfl rfl rfl (by omega) (by omega) ?_ | refine g_dec rfl rfl rfl (by omega) ?_ | refine Zan rfl rfl rfl (by omega) (by omega) ?_ | refine Zcu ?_ | refine ZM Tryz.underlying9 rfl rfl ?_)
  refine ZaL (i+1) 2 (by omega) (by show (Zi1 t).length - (i+1)<(Zi1 t).length - i;omega) (ZF [((1,1),(1,1)),((1,9),_)] ⟨rfl,rfl,rfl,rfl,rfl,trivial⟩ ⟨⟨rfl,rfl⟩,⟨?_,rfl⟩,trivial⟩ rfl)
  rw [List.take_add_one,hx]
  simp only [Option.toList_some,List.map_append,List.map_cons,List.map_nil]
  rfl
 ·refine Zal (by (conv=>lhs;whnf);try rfl) (decide_eq_false hlt) ?_
  repeat (first | (refine ZeH rfl rfl rfl rfl (by show (List.length _+2) * _≤_;simp;omega) (by show List.length _+2≤_;simp;omega) (by rfl) ?_) | refine Zaq rfl rfl (by omega) ?_ | refine Zam rfl rfl rfl (by omega) (by omega) ?_ | refine g_dec rfl rfl rfl (by omega) ?_ | refine Zan rfl rfl rfl (by omega) (by omega) ?_ | refine Zcu ?_ | refine ZM Tryz.underlying9 rfl rfl ?_)
  refine Zc5 rfl rfl ?_
  unfold ZR
  rw [ZtR,List.take_of_length_le (by simp;omega)]
  simp only [List.map_append,List.map_cons,List.map_nil]
  rfl
def ZU (G:List ByteArray) (right:Int) (lv:Scope) (r:Rule):Bool:=decide (r.right=right)&&Zo3 G r.group&&ZeI r.scope lv
def ZcZ (R:List Rule) (G:List ByteArray) (right:Int):List Scope→Bool
 | []=>false
 | lv::rest=>if R.any (ZU G right lv) then R.all (fun r=>!ZU G right lv r||r.allow) else ZcZ R G right rest
def ZiO (p:Policy) (G:List ByteArray) (right:Int) (t:Title):Bool:=t.valid&&decide (1≤right)&&decide (right≤5)&&ZcZ p.rules G right (ZR t)
theorem ZrL {α:Type} {R:List α} {f:α→Bool} {k:Nat} {r:α} (h:R[k]? = some r):(R.take (k+1)).any f=((R.take k).any f||f r):=by rw [List.take_add_one,h];simp
theorem ZrM {α:Type} {R:List α} {f:α→Bool} {k:Nat} {r:α} (h:R[k]? = some r):(R.take (k+1)).all f=((R.take k).all f&&f r):=by rw [List.take_add_one,h];simp
theorem ZzB (p:Policy) (G:List ByteArray) (right:Int) (t:Title) (hR:p.rules.length≤1000000):Zd Tryz.prog 59 [p.pv,Zp3 G,.int .i64 right,t.pv] (.bool (ZiO p G right t)):=by
 have hcv:=Zug t
 have hll:(ZR t).length≤103:=by unfold ZR;have:=ZlJ t;simp [Zh8];omega
 refine ZbK mix Tryz.func59 (by kernel_rfl) rfl (by kernel_rfl) ?_
 rcases Bool.eq_false_or_eq_true t.valid with hv | hv<;>rw [hv] at hcv
 ·repeat (first | (refine ZfX hcv rfl rfl ?_) | refine Zaq rfl rfl (by omega) ?_ | refine Zam rfl rfl rfl (by omega) (by omega) ?_ | refine g_dec rfl rfl rfl (by omega) ?_ | refine Zan rfl rfl rfl (by omega) (by omega) ?_ | refine Zcu ?_ | refine ZM Tryz.underlying9 rfl rfl ?_)
  by_cases h1:right<1
  ·rw [decide_eq_true h1]
   repeat (first | (refine Zi rfl ?_) | refine Zaq rfl rfl (by omega) ?_ | refine Zam rfl rfl rfl (by omega) (by omega) ?_ | refine g_dec rfl rfl rfl (by omega) ?_ | refine Zan rfl rfl rfl (by omega) (by omega) ?_ | refine Zcu ?_ | refine ZM Tryz.underlying9 rfl rfl ?_)
   refine ZaC (by (conv=>lhs;whnf);try rfl) rfl ?_
   repeat (first | refine Zaq rfl rfl (by omega) ?_ | refine Zam rfl rfl rfl (by omega) (by omega) ?_ | refine g_dec rfl rfl rfl (by omega) ?_ | refine Zan rfl rfl rfl (by omega) (by omega) ?_ | refine Zcu ?_ | refine ZM Tryz.underlying9 rfl rfl ?_)
   refine Zc5 rfl rfl ?_
   unfold ZiO
   rw [decide_eq_false (show ¬ 1≤right by omega)]
   simp
   rfl
  ·rw [decide_eq_false h1]
   repeat (first | refine Zaq rfl rfl (by omega) ?_ | refine Zam rfl rfl rfl (by omega) (by omega) ?_ | refine g_dec rfl rfl rfl (by omega) ?_ | refine Zan rfl rfl rfl (by omega) (by omega) ?_ | refine Zcu ?_ | refine ZM Tryz.underlying9 rfl rfl ?_)
   by_cases h5:5<right
   ·refine ZaC (by (conv=>lhs;whnf);try rfl) (decide_eq_true h5) ?_
    repeat (first | refine Zaq rfl rfl (by omega) ?_ | refine Zam rfl rfl rfl (by omega) (by omega) ?_ | refine g_dec rfl rfl rfl (by omega) ?_ | refine Zan rfl rfl rfl (by omega) (by omega) ?_ | refine Zcu ?_ | refine ZM Tryz.underlying9 rfl rfl ?_)
    refine Zc5 rfl rfl ?_
    unfold ZiO
    rw [decide_eq_false (show ¬ right≤5 by omega)]
    simp
    rfl
   ·refine Zal (by (conv=>lhs;whnf);try rfl) (decide_eq_false h5) ?_
    have hmay:ZiO p G right t=ZcZ p.rules G right (ZR t):=by
     unfold ZiO
     rw [hv,decide_eq_true (show 1≤right by omega),decide_eq_true (show right≤5 by omega)]
     rfl
    rw [hmay]
    repeat (first | (refine ZfX (ZvB t) rfl rfl ?_) | refine Zaq rfl rfl (by omega) ?_ | refine Zam rfl rfl rfl (by omega) (by omega) ?_ | refine g_dec rfl rfl rfl (by omega) ?_ | refine Zan rfl rfl rfl (by omega) (by omega) ?_ | refine Zcu ?_ | refine ZM Tryz.underlying9 rfl rfl ?_)
    refine Zk (α:=Nat) (fun i _=>mkS [(1,Zp3 G),(2,.int .i64 right),(4,.ptr 4 (1,4) 0),(27,.sl ((ZR t).map Scope.cs)),(28,.int .i64 ((ZR t).length:Int)),(29,.int .i64 ((i:Nat):Int))] [(4,some ((1,4),.box p.cs))] 2)
     (fun i=>i≤(ZR t).length∧ZcZ p.rules G right (ZR t)=ZcZ p.rules G right ((ZR t).drop i)) (fun i=>(ZR t).length - i) 0 2 ⟨Nat.zero_le _,rfl⟩
     (ZF [((1,4),(1,0))] ⟨rfl,rfl,rfl,rfl,?_,rfl,trivial⟩ ⟨⟨rfl,rfl⟩,trivial⟩ rfl) (fun i _ hJ=>?_)
    ·show some (PV.int .i64 ((ZR t).length:Int))=some (PV.int .i64 (((ZR t).map Scope.cs).length:Int))
     rw [List.length_map]
    obtain ⟨(hi:i≤(ZR t).length),(hno:ZcZ p.rules G right (ZR t)=ZcZ p.rules G right ((ZR t).drop i))⟩:=hJ
    repeat (first | refine Zaq rfl rfl (by omega) ?_ | refine Zam rfl rfl rfl (by omega) (by omega) ?_ | refine g_dec rfl rfl rfl (by omega) ?_ | refine Zan rfl rfl rfl (by omega) (by omega) ?_ | refine Zcu ?_ | refine ZM Tryz.underlying9 rfl rfl ?_)
    by_cases hlt:(i:Int)<((ZR t).length:Int)
    ·refine ZaC (by (conv=>lhs;whnf);try rfl) (decide_eq_true hlt) ?_
     have hlt':i<(ZR t).length:=by omega
     obtain ⟨lv,hx⟩:∃ lv,(ZR t)[i]? = some lv:=⟨_,List.getElem?_eq_getElem hlt'⟩
     have hcs:((ZR t).map Scope.cs)[i]? = some lv.cs:=by rw [List.getElem?_map,hx];rfl
     have hd:(ZR t).drop i=lv::(ZR t).drop (i+1):=by
      rw [List.drop_eq_getElem_cons hlt']
      rw [List.getElem?_eq_getElem hlt'] at hx
      injection hx with hx
      rw [hx]
     rw [hd,ZcZ] at hno
     repeat (first | (refine Zel rfl rfl rfl hcs rfl ?_) | refine Zaq rfl rfl (by omega) ?_ | refine Zam rfl rfl rfl (by omega) (by omega) ?_ | refine g_dec rfl rfl rfl (by omega) ?_ | refine Zan rfl rfl rfl (by omega) (by omega) ?_ | refine Zcu ?_ | refine ZM Tryz.underlying9 rfl rfl ?_)
     refine Zk (α:=Nat) (fun k _=>mkS [(1,Zp3 G),(2,.int .i64 right),(4,.ptr 4 (1,4) 0),(27,.sl ((ZR t).map Scope.cs)),(28,.int .i64 ((ZR t).length:Int)),(29,.int .i64 (i:Int)),(10,.ptr 10 (1,10) 0),(11,.bool ((p.rules.take k).any (ZU G right lv))),(12,.bool ((p.rules.take k).all fun r=>!ZU G right lv r||r.allow)),(34,.sl (p.rules.map Rule.cs)),(35,.int .i64 (p.rules.length:Int)),(36,.int .i64 ((k:Nat):Int))] [(4,some ((1,4),.box p.cs)),(10,some ((1,10),.box lv.cs))] 2)
      (fun k=>k≤p.rules.length) (fun k=>p.rules.length - k) 0 2 (Nat.zero_le _)
      (ZF [((1,4),(1,4)),((1,10),_)] ⟨rfl,rfl,rfl,rfl,rfl,rfl,rfl,rfl,rfl,rfl,?_,rfl,trivial⟩ ⟨⟨rfl,rfl⟩,⟨rfl,rfl⟩,trivial⟩ rfl) (fun k _ (hk:k≤p.rules.length)=>?_)
     ·show some (PV.int .i64 (p.rules.length:Int))=some (PV.int .i64 ((p.rules.map Rule.cs).length:Int))
      rw [List.length_map]
     repeat (first | refine Zaq rfl rfl (by omega) ?_ | refine Zam rfl rfl rfl (by omega) (by omega) ?_ | refine g_dec rfl rfl rfl (by omega) ?_ | refine Zan rfl rfl rfl (by omega) (by omega) ?_ | refine Zcu ?_ | refine ZM Tryz.underlying9 rfl rfl ?_)
     by_cases hlk:(k:Int)<(p.rules.length:Int)
     ·refine ZaC (by (conv=>lhs;whnf);try rfl) (decide_eq_true hlk) ?_
      have hlk':k<p.rules.length:=by omega
      obtain ⟨r,hr⟩:∃ r,p.rules[k]? = some r:=⟨_,List.getElem?_eq_getElem hlk'⟩
      have hcr:(p.rules.map Rule.cs)[k]? = some r.cs:=by rw [List.getElem?_map,hr];rfl
      have hany:(p.rules.take (k+1)).any (ZU G right lv)=((p.rules.take k).any (ZU G right lv)||ZU G right lv r):=ZrL hr
      have hall:(p.rules.take (k+1)).all (fun r=>!ZU G right lv r||r.allow)=((p.rules.take k).all (fun r=>!ZU G right lv r||r.allow)&&(!ZU G right lv r||r.allow)):=ZrM (f:=fun r=>!ZU G right lv r||r.allow) hr
      have hms:p.rules.length - (k+1)<p.rules.length - k:=by omega
      repeat (first | (refine Zel rfl rfl rfl hcr rfl ?_) | refine Zaq rfl rfl (by omega) ?_ | refine Zam rfl rfl rfl (by omega) (by omega) ?_ | refine g_dec rfl rfl rfl (by omega) ?_ | refine Zan rfl rfl rfl (by omega) (by omega) ?_ | refine Zcu ?_ | refine ZM Tryz.underlying9 rfl rfl ?_)
      by_cases e1:r.right=right
      ·rw [decide_eq_true e1]
       repeat (first | (refine ZfX (ZnI G _) rfl rfl ?_) | refine Zaq rfl rfl (by omega) ?_ | refine Zam rfl rfl rfl (by omega) (by omega) ?_ | refine g_dec rfl rfl rfl (by omega) ?_ | refine Zan rfl rfl rfl (by omega) (by omega) ?_ | refine Zcu ?_ | refine ZM Tryz.underlying9 rfl rfl ?_)
       rcases Bool.eq_false_or_eq_true (Zo3 G r.group) with e2 | e2
       ·rw [e2]
        repeat (first | (refine ZfX (ZvU r.scope lv) rfl rfl ?_) | refine Zaq rfl rfl (by omega) ?_ | refine Zam rfl rfl rfl (by omega) (by omega) ?_ | refine g_dec rfl rfl rfl (by omega) ?_ | refine Zan rfl rfl rfl (by omega) (by omega) ?_ | refine Zcu ?_ | refine ZM Tryz.underlying9 rfl rfl ?_)
        have hf:ZU G right lv r=ZeI r.scope lv:=by unfold ZU;rw [decide_eq_true e1,e2];rfl
        rcases Bool.eq_false_or_eq_true (ZeI r.scope lv) with e3 | e3
        ·refine ZaC (by (conv=>lhs;whnf);try rfl) e3 ?_
         rw [hf,e3] at hany hall
         simp only [Bool.or_true,Bool.not_true,Bool.false_or] at hany hall
         rcases Bool.eq_false_or_eq_true ((p.rules.take k).all fun r=>!ZU G right lv r||r.allow) with e4 | e4
         ·rw [e4]
          rw [e4,Bool.true_and] at hall
          repeat (first | refine Zaq rfl rfl (by omega) ?_ | refine Zam rfl rfl rfl (by omega) (by omega) ?_ | refine g_dec rfl rfl rfl (by omega) ?_ | refine Zan rfl rfl rfl (by omega) (by omega) ?_ | refine Zcu ?_ | refine ZM Tryz.underlying9 rfl rfl ?_)
          refine ZaL (k+1) 2 hlk' hms (ZF [((1,4),(1,4)),((1,10),(1,10))] ⟨rfl,rfl,rfl,rfl,rfl,rfl,rfl,?_,?_,rfl,rfl,rfl,trivial⟩ ⟨⟨rfl,rfl⟩,⟨rfl,rfl⟩,trivial⟩ rfl)
          ·rw [hany];rfl
          ·rw [hall];rfl
         ·rw [e4]
          rw [e4,Bool.false_and] at hall
          repeat (first | (refine Zi rfl ?_) | refine Zaq rfl rfl (by omega) ?_ | refine Zam rfl rfl rfl (by omega) (by omega) ?_ | refine g_dec rfl rfl rfl (by omega) ?_ | refine Zan rfl rfl rfl (by omega) (by omega) ?_ | refine Zcu ?_ | refine ZM Tryz.underlying9 rfl rfl ?_)
          refine ZaL (k+1) 2 hlk' hms (ZF [((1,4),(1,4)),((1,10),(1,10))] ⟨rfl,rfl,rfl,rfl,rfl,rfl,rfl,?_,?_,rfl,rfl,rfl,trivial⟩ ⟨⟨rfl,rfl⟩,⟨rfl,rfl⟩,trivial⟩ rfl)
          ·rw [hany];rfl
          ·rw [hall];rfl
        ·refine Zal (by (conv=>lhs;whnf);try rfl) e3 ?_
         rw [hf,e3] at hany hall
         simp only [Bool.or_false,Bool.not_false,Bool.true_or,Bool.and_true] at hany hall
         repeat (first | refine Zaq rfl rfl (by omega) ?_ | refine Zam rfl rfl rfl (by omega) (by omega) ?_ | refine g_dec rfl rfl rfl (by omega) ?_ | refine Zan rfl rfl rfl (by omega) (by omega) ?_ | refine Zcu ?_ | refine ZM Tryz.underlying9 rfl rfl ?_)
         refine ZaL (k+1) 2 hlk' hms (ZF [((1,4),(1,4)),((1,10),(1,10))] ⟨rfl,rfl,rfl,rfl,rfl,rfl,rfl,?_,?_,rfl,rfl,rfl,trivial⟩ ⟨⟨rfl,rfl⟩,⟨rfl,rfl⟩,trivial⟩ rfl)
         ·rw [hany];rfl
         ·rw [hall];rfl
       ·rw [e2]
        have hf:ZU G right lv r=false:=by unfold ZU;rw [decide_eq_true e1,e2];rfl
        rw [hf] at hany hall
        simp only [Bool.or_false,Bool.not_false,Bool.true_or,Bool.and_true] at hany hall
        repeat (first | (refine Zi rfl ?_) | refine Zaq rfl rfl (by omega) ?_ | refine Zam rfl rfl rfl (by omega) (by omega) ?_ | refine g_dec rfl rfl rfl (by omega) ?_ | refine Zan rfl rfl rfl (by omega) (by omega) ?_ | refine Zcu ?_ | refine ZM Tryz.underlying9 rfl rfl ?_)
        refine Zal (by (conv=>lhs;whnf);try rfl) rfl ?_
        repeat (first | refine Zaq rfl rfl (by omega) ?_ | refine Zam rfl rfl rfl (by omega) (by omega) ?_ | refine g_dec rfl rfl rfl (by omega) ?_ | refine Zan rfl rfl rfl (by omega) (by omega) ?_ | refine Zcu ?_ | refine ZM Tryz.underlying9 rfl rfl ?_)
        refine ZaL (k+1) 2 hlk' hms (ZF [((1,4),(1,4)),((1,10),(1,10))] ⟨rfl,rfl,rfl,rfl,rfl,rfl,rfl,?_,?_,rfl,rfl,rfl,trivial⟩ ⟨⟨rfl,rfl⟩,⟨rfl,rfl⟩,trivial⟩ rfl)
        ·rw [hany];rfl
        ·rw [hall];rfl
      ·rw [decide_eq_false e1]
       have hf:ZU G right lv r=false:=by unfold ZU;rw [decide_eq_false e1];rfl
       rw [hf] at hany hall
       simp only [Bool.or_false,Bool.not_false,Bool.true_or,Bool.and_true] at hany hall
       repeat (first | (refine Zi rfl ?_) | refine Zaq rfl rfl (by omega) ?_ | refine Zam rfl rfl rfl (by omega) (by omega) ?_ | refine g_dec rfl rfl rfl (by omega) ?_ | refine Zan rfl rfl rfl (by omega) (by omega) ?_ | refine Zcu ?_ | refine ZM Tryz.underlying9 rfl rfl ?_)
       refine Zal (by (conv=>lhs;whnf);try rfl) rfl ?_
       repeat (first | refine Zaq rfl rfl (by omega) ?_ | refine Zam rfl rfl rfl (by omega) (by omega) ?_ | refine g_dec rfl rfl rfl (by omega) ?_ | refine Zan rfl rfl rfl (by omega) (by omega) ?_ | refine Zcu ?_ | refine ZM Tryz.underlying9 rfl rfl ?_)
       refine ZaL (k+1) 2 hlk' hms (ZF [((1,4),(1,4)),((1,10),(1,10))] ⟨rfl,rfl,rfl,rfl,rfl,rfl,rfl,?_,?_,rfl,rfl,rfl,trivial⟩ ⟨⟨rfl,rfl⟩,⟨rfl,rfl⟩,trivial⟩ rfl)
       ·rw [hany];rfl
       ·rw [hall];rfl
     ·refine Zal (by (conv=>lhs;whnf);try rfl) (decide_eq_false hlk) ?_
      obtain rfl:k=p.rules.length:=by omega
      rw [List.take_length]
      repeat (first | refine Zaq rfl rfl (by omega) ?_ | refine Zam rfl rfl rfl (by omega) (by omega) ?_ | refine g_dec rfl rfl rfl (by omega) ?_ | refine Zan rfl rfl rfl (by omega) (by omega) ?_ | refine Zcu ?_ | refine ZM Tryz.underlying9 rfl rfl ?_)
      rcases Bool.eq_false_or_eq_true (p.rules.any (ZU G right lv)) with e5 | e5
      ·refine ZaC (by (conv=>lhs;whnf);try rfl) e5 ?_
       rw [if_pos e5] at hno
       repeat (first | refine Zaq rfl rfl (by omega) ?_ | refine Zam rfl rfl rfl (by omega) (by omega) ?_ | refine g_dec rfl rfl rfl (by omega) ?_ | refine Zan rfl rfl rfl (by omega) (by omega) ?_ | refine Zcu ?_ | refine ZM Tryz.underlying9 rfl rfl ?_)
       exact Zc5 rfl rfl (by rw [hno];rfl)
      ·refine Zal (by (conv=>lhs;whnf);try rfl) e5 ?_
       rw [if_neg (by rw [e5];simp)] at hno
       repeat (first | refine Zaq rfl rfl (by omega) ?_ | refine Zam rfl rfl rfl (by omega) (by omega) ?_ | refine g_dec rfl rfl rfl (by omega) ?_ | refine Zan rfl rfl rfl (by omega) (by omega) ?_ | refine Zcu ?_ | refine ZM Tryz.underlying9 rfl rfl ?_)
       exact ZaL (i+1) 2 ⟨hlt',hno⟩ (by show (ZR t).length - (i+1)<(ZR t).length - i;omega) (ZF [((1,4),(1,4))] ⟨rfl,rfl,rfl,rfl,rfl,rfl,trivial⟩ ⟨⟨rfl,rfl⟩,trivial⟩ rfl)
    ·refine Zal (by (conv=>lhs;whnf);try rfl) (decide_eq_false hlt) ?_
     obtain rfl:i=(ZR t).length:=by omega
     rw [List.drop_length,ZcZ] at hno
     repeat (first | refine Zaq rfl rfl (by omega) ?_ | refine Zam rfl rfl rfl (by omega) (by omega) ?_ | refine g_dec rfl rfl rfl (by omega) ?_ | refine Zan rfl rfl rfl (by omega) (by omega) ?_ | refine Zcu ?_ | refine ZM Tryz.underlying9 rfl rfl ?_)
     exact Zc5 rfl rfl (by rw [hno];rfl)
 ·repeat (first | (refine ZfX hcv rfl rfl ?_) | (refine Zi rfl ?_) | refine Zaq rfl rfl (by omega) ?_ | refine Zam rfl rfl rfl (by omega) (by omega) ?_ | refine g_dec rfl rfl rfl (by omega) ?_ | refine Zan rfl rfl rfl (by omega) (by omega) ?_ | refine Zcu ?_ | refine ZM Tryz.underlying9 rfl rfl ?_)
  refine ZaC (by (conv=>lhs;whnf);try rfl) rfl ?_
  repeat (first | refine Zaq rfl rfl (by omega) ?_ | refine Zam rfl rfl rfl (by omega) (by omega) ?_ | refine g_dec rfl rfl rfl (by omega) ?_ | refine Zan rfl rfl rfl (by omega) (by omega) ?_ | refine Zcu ?_ | refine ZM Tryz.underlying9 rfl rfl ?_)
  refine Zc5 rfl rfl ?_
  unfold ZiO
  rw [hv]
  rfl
end Go.Proofs.YtjoneoobolnnbaaGreatDoor
namespace Go.Proofs.YtjoneoobolnnbaaGreatDoor
open VL Go.RowKit
def Zyd (l:List UInt8):List Bool:=(List.range 256).map fun j=>l.contains (UInt8.ofNat j)
def Zlj (l:List UInt8):List PV:=(Zyd l).map PV.bool
theorem ZrE (l:List UInt8):(Zlj l).length=256:=by simp [Zlj,Zyd]
theorem ZwB (l:List UInt8) (x:UInt8):(Zlj l)[x.toNat]? = some (.bool (l.contains x)):=by
 have hx:x.toNat<256:=x.toNat_lt
 unfold Zlj Zyd
 rw [List.getElem?_map,List.getElem?_map,List.getElem?_range hx]
 simp
theorem Ztb (l:List UInt8) (x:UInt8):Zq1 false 1 ((Zlj l).drop (x.toNat * 1))=some (.bool (l.contains x)):=by
 show ((Zlj l).drop (x.toNat * 1))[0]? = _
 rw [List.getElem?_drop,Nat.mul_one,Nat.add_zero]
 exact ZwB l x
theorem Zye {f:Nat→Option (Gen×VObj)} {t:Nat} {g:Gen} {l:List UInt8} (h:Zb5 f t g=some (.box (Zlj l))) (s:ByteArray):ZiX (frz f) [.str s,.ptr t g 0]=some [.str s,.cel (Zlj l)]:=by
 have e:Zqi f (.ptr t g 0)=some (.cel (Zlj l)):=by
  simp only [Zqi,h,List.drop_zero]
  unfold Zlj
  rw [Zp0]
  rfl
 simp only [ZiX,frz,ZqJ,e]
instance:Ar Tryz.prog 275 256 1:=⟨by kernel_rfl⟩
instance:Ze Tryz.prog 275 (List.replicate 256 (.bool false)):=⟨by kernel_rfl⟩
instance:Ld Tryz.prog 275 true 256:=⟨by kernel_rfl⟩
theorem ZjD (l:List UInt8) (x:UInt8):Zd Tryz.prog 272 [.cel (Zlj l),.int .u8 (x.toNat:Int)] (.bool (l.contains x)):=by
 refine ZbK mix Tryz.func272 (by kernel_rfl) rfl (by kernel_rfl) ?_
 repeat (first | (refine Zr3 rfl rfl ?_) | (refine Zrl rfl rfl rfl x.toNat_lt ?_) | (refine ZnN rfl rfl (Ztb l x) ?_) | refine Zaq rfl rfl (by omega) ?_ | refine Zam rfl rfl rfl (by omega) (by omega) ?_ | refine g_dec rfl rfl rfl (by omega) ?_ | refine Zan rfl rfl rfl (by omega) (by omega) ?_ | refine Zcu ?_ | refine ZM Tryz.underlying9 rfl rfl ?_)
 exact Zc5 rfl rfl rfl
def Zhg (l:List UInt8) (s:ByteArray):ByteArray:=⟨(s.data.toList.dropWhile l.contains).toArray⟩
def ZfK (l:List UInt8) (s:ByteArray):ByteArray:=⟨(s.data.toList.reverse.dropWhile l.contains).reverse.toArray⟩
theorem Ztc {l:List UInt8} {s:ByteArray} (h:¬ 0<s.size):Zhg l s=s:=by
 obtain ⟨⟨d⟩⟩:=s
 cases d with
 | nil=>rfl
 | cons a r=>exact absurd (Nat.succ_pos _) h
theorem Zse {l:List UInt8} {s:ByteArray} (h:0<s.size) (h1:l.contains (s[0]'h)=false):Zhg l s=s:=by
 obtain ⟨⟨d⟩⟩:=s
 cases d with
 | nil=>exact absurd h (Nat.lt_irrefl 0)
 | cons a r=>
   have h2:l.contains a=false:=h1
   show (⟨(List.dropWhile l.contains (a::r)).toArray⟩:ByteArray)=⟨(a::r).toArray⟩
   rw [List.dropWhile_cons,if_neg (by rw [h2];simp)]
theorem Zsf {l:List UInt8} {s:ByteArray} (h:0<s.size) (h1:l.contains (s[0]'h)=true):Zhg l (s.extract 1 s.size)=Zhg l s:=by
 obtain ⟨⟨d⟩⟩:=s
 cases d with
 | nil=>exact absurd h (Nat.lt_irrefl 0)
 | cons a r=>
   have h2:l.contains a=true:=h1
   have e:(⟨(a::r).toArray⟩:ByteArray).extract 1 (a::r).length=⟨(((a::r).drop 1).take ((a::r).length - 1)).toArray⟩:=ByteArray.extract_mk (a::r) 1 (a::r).length
   show Zhg l ((⟨(a::r).toArray⟩:ByteArray).extract 1 (a::r).length)=_
   rw [e]
   show (⟨(List.dropWhile l.contains (((a::r).drop 1).take ((a::r).length - 1))).toArray⟩:ByteArray)=⟨(List.dropWhile l.contains (a::r)).toArray⟩
   rw [List.dropWhile_cons,if_pos h2]
   simp
theorem Ztd {l:List UInt8} {s:ByteArray} (h:¬ 0<s.size):ZfK l s=s:=by
 obtain ⟨⟨d⟩⟩:=s
 cases d with
 | nil=>rfl
 | cons a r=>exact absurd (Nat.succ_pos _) h
theorem Znu (s:ByteArray) (n:Nat) (hn:s.size=n+1):∃ r:List UInt8,s.data.toList=r ++ [s[n]'(by omega)]∧r.length=n∧s.extract 0 n=⟨r.toArray⟩:=by
 obtain ⟨⟨d⟩⟩:=s
 have hd:d.length=n+1:=hn
 refine ⟨d.take n,?_,by simp;omega,?_⟩
 ·show d=d.take n ++ [d[n]]
  rw [List.take_append_getElem]
  rw [List.take_of_length_le (by omega)]
 ·have e:(⟨d.toArray⟩:ByteArray).extract 0 n=⟨((d.drop 0).take (n - 0)).toArray⟩:=ByteArray.extract_mk d 0 n
  show (⟨d.toArray⟩:ByteArray).extract 0 n=_
  rw [e]
  simp
theorem Zsg {l:List UInt8} {s:ByteArray} {n:Nat} (hn:s.size=n+1) (h1:l.contains (s[n]'(by omega))=false):ZfK l s=s:=by
 obtain ⟨r,e1,_,_⟩:=Znu s n hn
 unfold ZfK
 rw [e1,List.reverse_append]
 simp only [List.reverse_cons,List.reverse_nil,List.nil_append,List.cons_append,List.dropWhile,h1]
 rw [List.reverse_reverse,← e1]
theorem Zsh {l:List UInt8} {s:ByteArray} {n:Nat} (hn:s.size=n+1) (h1:l.contains (s[n]'(by omega))=true):ZfK l (s.extract 0 n)=ZfK l s:=by
 obtain ⟨r,e1,_,e3⟩:=Znu s n hn
 unfold ZfK
 rw [e1,e3,List.reverse_append]
 simp only [List.reverse_cons,List.reverse_nil,List.nil_append,List.cons_append,List.dropWhile,h1]
theorem Zqk (l:List UInt8) (s:ByteArray):Zd Tryz.prog 266 [.str s,.cel (Zlj l)] (.str (Zhg l s)):=by
 refine ZbK mix Tryz.func266 (by kernel_rfl) rfl (by kernel_rfl) ?_
 repeat (first | refine Zaq rfl rfl (by omega) ?_ | refine Zam rfl rfl rfl (by omega) (by omega) ?_ | refine g_dec rfl rfl rfl (by omega) ?_ | refine Zan rfl rfl rfl (by omega) (by omega) ?_ | refine Zcu ?_ | refine ZM Tryz.underlying9 rfl rfl ?_)
 refine Zk (α:=ByteArray) (fun c _=>mkS [(0,.str c),(1,.cel (Zlj l))] [] 2) (fun c=>Zhg l c=Zhg l s) (fun c=>c.size) s 2 rfl (ZF [] ⟨rfl,rfl,trivial⟩ trivial rfl) (fun c _ (hno:Zhg l c=Zhg l s)=>?_)
 repeat (first | refine Zaq rfl rfl (by omega) ?_ | refine Zam rfl rfl rfl (by omega) (by omega) ?_ | refine g_dec rfl rfl rfl (by omega) ?_ | refine Zan rfl rfl rfl (by omega) (by omega) ?_ | refine Zcu ?_ | refine ZM Tryz.underlying9 rfl rfl ?_)
 by_cases hz:(0:Int)<(c.size:Int)
 ·refine ZaC (by (conv=>lhs;whnf);try rfl) (decide_eq_true hz) ?_
  have hz':0<c.size:=by omega
  have h0:c[0]? = some (c[0]'hz'):=getElem?_pos c 0 hz'
  repeat (first | (refine Zoh Tryz.underlying9 rfl rfl rfl h0 ?_) | (refine ZjO (ZjD l _) rfl rfl rfl ?_) | refine Zaq rfl rfl (by omega) ?_ | refine Zam rfl rfl rfl (by omega) (by omega) ?_ | refine g_dec rfl rfl rfl (by omega) ?_ | refine Zan rfl rfl rfl (by omega) (by omega) ?_ | refine Zcu ?_ | refine ZM Tryz.underlying9 rfl rfl ?_)
  rcases Bool.eq_false_or_eq_true (l.contains (c[0]'hz')) with hb | hb
  ·refine Zal (by (conv=>lhs;whnf);try rfl) (by rw [hb];rfl) ?_
   repeat (first | (refine Zoi Tryz.underlying9 rfl rfl rfl rfl (by omega) (by omega) rfl ?_) | refine Zaq rfl rfl (by omega) ?_ | refine Zam rfl rfl rfl (by omega) (by omega) ?_ | refine g_dec rfl rfl rfl (by omega) ?_ | refine Zan rfl rfl rfl (by omega) (by omega) ?_ | refine Zcu ?_ | refine ZM Tryz.underlying9 rfl rfl ?_)
   refine ZaL (c.extract 1 c.size) 2 ((Zsf hz' hb).trans hno) ?_ (ZF [] ⟨rfl,rfl,trivial⟩ trivial rfl)
   show (c.extract 1 c.size).size<c.size
   rw [ByteArray.size_extract]
   omega
  ·refine ZaC (by (conv=>lhs;whnf);try rfl) (by rw [hb];rfl) ?_
   repeat (first | refine Zaq rfl rfl (by omega) ?_ | refine Zam rfl rfl rfl (by omega) (by omega) ?_ | refine g_dec rfl rfl rfl (by omega) ?_ | refine Zan rfl rfl rfl (by omega) (by omega) ?_ | refine Zcu ?_ | refine ZM Tryz.underlying9 rfl rfl ?_)
   exact Zc5 rfl rfl (by rw [← hno,Zse hz' hb];rfl)
 ·refine Zal (by (conv=>lhs;whnf);try rfl) (decide_eq_false hz) ?_
  repeat (first | refine Zaq rfl rfl (by omega) ?_ | refine Zam rfl rfl rfl (by omega) (by omega) ?_ | refine g_dec rfl rfl rfl (by omega) ?_ | refine Zan rfl rfl rfl (by omega) (by omega) ?_ | refine Zcu ?_ | refine ZM Tryz.underlying9 rfl rfl ?_)
  exact Zc5 rfl rfl (by rw [← hno,Ztc (by omega)];rfl)
theorem Zpb (l:List UInt8) (s:ByteArray) (hs:s.size≤9223372036854775807):Zd Tryz.prog 267 [.str s,.cel (Zlj l)] (.str (ZfK l s)):=by
 refine ZbK mix Tryz.func267 (by kernel_rfl) rfl (by kernel_rfl) ?_
 repeat (first | refine Zaq rfl rfl (by omega) ?_ | refine Zam rfl rfl rfl (by omega) (by omega) ?_ | refine g_dec rfl rfl rfl (by omega) ?_ | refine Zan rfl rfl rfl (by omega) (by omega) ?_ | refine Zcu ?_ | refine ZM Tryz.underlying9 rfl rfl ?_)
 refine Zk (α:=ByteArray) (fun c _=>mkS [(0,.str c),(1,.cel (Zlj l))] [] 2) (fun c=>ZfK l c=ZfK l s∧c.size≤9223372036854775807) (fun c=>c.size) s 2 ⟨rfl,hs⟩ (ZF [] ⟨rfl,rfl,trivial⟩ trivial rfl) (fun c _ hJ=>?_)
 obtain ⟨(hno:ZfK l c=ZfK l s),(hcs:c.size≤9223372036854775807)⟩:=hJ
 repeat (first | refine Zaq rfl rfl (by omega) ?_ | refine Zam rfl rfl rfl (by omega) (by omega) ?_ | refine g_dec rfl rfl rfl (by omega) ?_ | refine Zan rfl rfl rfl (by omega) (by omega) ?_ | refine Zcu ?_ | refine ZM Tryz.underlying9 rfl rfl ?_)
 by_cases hz:(0:Int)<(c.size:Int)
 ·refine ZaC (by (conv=>lhs;whnf);try rfl) (decide_eq_true hz) ?_
  obtain ⟨n,hn⟩:∃ n,c.size=n+1:=⟨c.size - 1,by omega⟩
  have e1:(c.size:Int) - 1=(n:Int):=by omega
  have h0:c[n]? = some (c[n]'(by omega)):=getElem?_pos c n (by omega)
  have h2:toNat? (PV.int .i64 ((c.size:Int) - 1))=some n:=by rw [e1];exact ZiC
  repeat (first | (refine Zoh Tryz.underlying9 rfl rfl (congrArg (PV.int .i64) e1) h0 ?_) | (refine ZjO (ZjD l _) rfl rfl rfl ?_) | refine Zaq rfl rfl (by omega) ?_ | refine Zam rfl rfl rfl (by omega) (by omega) ?_ | refine g_dec rfl rfl rfl (by omega) ?_ | refine Zan rfl rfl rfl (by omega) (by omega) ?_ | refine Zcu ?_ | refine ZM Tryz.underlying9 rfl rfl ?_)
  rcases Bool.eq_false_or_eq_true (l.contains (c[n]'(by omega))) with hb | hb
  ·refine Zal (by (conv=>lhs;whnf);try rfl) (by rw [hb];rfl) ?_
   repeat (first | (refine Zoi Tryz.underlying9 rfl rfl rfl h2 (by omega) (by omega) rfl ?_) | refine Zaq rfl rfl (by omega) ?_ | refine Zam rfl rfl rfl (by omega) (by omega) ?_ | refine g_dec rfl rfl rfl (by omega) ?_ | refine Zan rfl rfl rfl (by omega) (by omega) ?_ | refine Zcu ?_ | refine ZM Tryz.underlying9 rfl rfl ?_)
   refine ZaL (c.extract 0 n) 2 ⟨(Zsh hn hb).trans hno,?_⟩ ?_ (ZF [] ⟨rfl,rfl,trivial⟩ trivial rfl)
   ·show (c.extract 0 n).size≤_
    rw [ByteArray.size_extract]
    omega
   ·show (c.extract 0 n).size<c.size
    rw [ByteArray.size_extract]
    omega
  ·refine ZaC (by (conv=>lhs;whnf);try rfl) (by rw [hb];rfl) ?_
   repeat (first | refine Zaq rfl rfl (by omega) ?_ | refine Zam rfl rfl rfl (by omega) (by omega) ?_ | refine g_dec rfl rfl rfl (by omega) ?_ | refine Zan rfl rfl rfl (by omega) (by omega) ?_ | refine Zcu ?_ | refine ZM Tryz.underlying9 rfl rfl ?_)
   exact Zc5 rfl rfl (by rw [← hno,Zsg hn hb];rfl)
 ·refine Zal (by (conv=>lhs;whnf);try rfl) (decide_eq_false hz) ?_
  repeat (first | refine Zaq rfl rfl (by omega) ?_ | refine Zam rfl rfl rfl (by omega) (by omega) ?_ | refine g_dec rfl rfl rfl (by omega) ?_ | refine Zan rfl rfl rfl (by omega) (by omega) ?_ | refine Zcu ?_ | refine ZM Tryz.underlying9 rfl rfl ?_)
  exact Zc5 rfl rfl (by rw [← hno,Ztd (by omega)];rfl)
theorem ZnY (l:List UInt8):(Lib.setCells l).toList=(Zyd l).map Value.bool:=by
 rw [Lib.setCells_eq]
 simp [Zyd]
theorem Zte (l:List UInt8) (hs:l.length<4294967281) (hl:∀ (j:Nat) b,l[j]? = some b→b.toNat<128):Zd Tryz.prog 265 [.str ⟨l.toArray⟩] (.tup [.agg (Zlj l),.bool true]):=
 Zay (vals:=[.string ⟨l.toArray⟩]) (v:=.tuple #[.agg (Lib.setCells l),.bool true]) (by kernel_rfl) rfl (by
   show (PV.dry2 (.agg (Zlj l))&&(PV.dry2 (.bool true)&&true))=true
   have:(Zlj l).all PV.dry1=true:=by
    rw [List.all_eq_true]
    intro p hp
    obtain ⟨b,_,rfl⟩:=List.mem_map.1 hp
    rfl
   show ((Zlj l).all PV.dry1&&_)=true
   rw [this]
   rfl)
  (fun x=>.tup _ _ rfl fun i p v hp hv=>by
   match i,hp,hv with
   | 0,hp,hv=>
     injection hp with hp
     injection hv with hv
     subst hp hv
     refine .agg _ _ (by rw [ZrE,Lib.setCells_size]) fun j q w hq hw=>?_
     rw [← Array.getElem?_toList,ZnY,List.getElem?_map,Option.map_eq_some_iff] at hw
     obtain ⟨b,hb,rfl⟩:=hw
     unfold Zlj at hq
     rw [List.getElem?_map,hb] at hq
     injection hq with hq
     subst hq
     exact .bool b
   | 1,hp,hv=>injection hp with hp;injection hv with hv;subst hp hv;exact .bool _
   | i+2,hp,_=>simp at hp)
  fun w _=>(Tryz.strings_makeASCIISet (fun w=>Tryz.zeroValue275 w) ⟨l.toArray⟩ w hs (fun j b h=>hl j b (by simpa using h))).mono fun e w' ⟨e1,e2⟩=>by
   have e3:(⟨l.toArray⟩:ByteArray).data.toList=l:=by simp
   rw [e3] at e1 e2
   exact ⟨e1,by rw [e2];exact Below.al (Below.refl _ _) _⟩
def ZfL:List UInt8:=[32,9]
theorem Zyf (s:ByteArray) (hs:s.size≤9223372036854775807):Zd Tryz.prog 237 [.str s,.str ⟨#[32,9]⟩] (.str (Zhg ZfL (ZfK ZfL s))):=by
 have hm:=Zte ZfL (by decide) (fun j b h=>by
  match j,h with
  | 0,h=>injection h with h;subst h;decide
  | 1,h=>injection h with h;subst h;decide
  | j+2,h=>simp [ZfL] at h)
 have hR:=Zpb ZfL s hs
 have hL:=Zqk ZfL (ZfK ZfL s)
 have ha:∀ {f:Nat→Option (Gen×VObj)} {t:Nat} {g:Gen},Zb5 f t g=some (.box (Zlj ZfL))→∀ s,ZiX (frz f) [.str s,.ptr t g 0]=some [.str s,.cel (Zlj ZfL)]:=fun h s=>Zye h s
 have hspc:(Zlj ZfL).all PV.cell=true:=by
  rw [List.all_eq_true]
  intro p hp
  obtain ⟨b,_,rfl⟩:=List.mem_map.1 hp
  rfl
 have hsl:(Zlj ZfL).length=256:=ZrE _
 have hrc:(List.replicate 256 (PV.bool false)).all PV.cell=true:=by
  rw [List.all_eq_true]
  intro p hp
  rw [List.eq_of_mem_replicate hp]
  rfl
 have hrl:(List.replicate 256 (PV.bool false)).length=256:=List.length_replicate
 generalize Zlj ZfL=sp at hm hR hL ha hspc hsl
 generalize hz:List.replicate 256 (PV.bool false)=zp at hrc hrl
 have zi:Ze Tryz.prog 275 zp:=hz ▸ inferInstance
 refine ZbK mix Tryz.func237 (by kernel_rfl) rfl (by kernel_rfl) ?_
 repeat (first | refine Zaq rfl rfl (by omega) ?_ | refine Zam rfl rfl rfl (by omega) (by omega) ?_ | refine g_dec rfl rfl rfl (by omega) ?_ | refine Zan rfl rfl rfl (by omega) (by omega) ?_ | refine Zcu ?_ | refine ZM Tryz.underlying9 rfl rfl ?_)
 by_cases h0:s=⟨#[]⟩
 ·rw [decide_eq_true h0]
  repeat (first | (refine Zi rfl ?_) | refine Zaq rfl rfl (by omega) ?_ | refine Zam rfl rfl rfl (by omega) (by omega) ?_ | refine g_dec rfl rfl rfl (by omega) ?_ | refine Zan rfl rfl rfl (by omega) (by omega) ?_ | refine Zcu ?_ | refine ZM Tryz.underlying9 rfl rfl ?_)
  refine ZaC (by (conv=>lhs;whnf);try rfl) rfl ?_
  repeat (first | refine Zaq rfl rfl (by omega) ?_ | refine Zam rfl rfl rfl (by omega) (by omega) ?_ | refine g_dec rfl rfl rfl (by omega) ?_ | refine Zan rfl rfl rfl (by omega) (by omega) ?_ | refine Zcu ?_ | refine ZM Tryz.underlying9 rfl rfl ?_)
  exact Zc5 rfl rfl (by rw [h0];rfl)
 rw [decide_eq_false h0]
 repeat (first | refine Zaq rfl rfl (by omega) ?_ | refine Zam rfl rfl rfl (by omega) (by omega) ?_ | refine g_dec rfl rfl rfl (by omega) ?_ | refine Zan rfl rfl rfl (by omega) (by omega) ?_ | refine Zcu ?_ | refine ZM Tryz.underlying9 rfl rfl ?_)
 refine Zal (by (conv=>lhs;whnf);try rfl) (by decide) ?_
 repeat (first | (refine Zi rfl ?_) | (refine Zal rfl rfl ?_) | (refine ZfX hm rfl rfl ?_) | (refine ZmB (z:=zp) rfl hrc ?_) | (refine ZmC (ps:=sp) (cs:=zp) (cs':=sp) rfl rfl rfl rfl rfl hsl hspc (show 0+256≤zp.length by omega) (ZsY (show zp.length=sp.length by omega)) ?_) | (refine ZaC rfl rfl ?_) | (refine ZjO hR rfl (ha rfl _) rfl ?_) | (refine ZjO hL rfl (ha rfl _) rfl ?_) | refine Zaq rfl rfl (by omega) ?_ | refine Zam rfl rfl rfl (by omega) (by omega) ?_ | refine g_dec rfl rfl rfl (by omega) ?_ | refine Zan rfl rfl rfl (by omega) (by omega) ?_ | refine Zcu ?_ | refine ZM Tryz.underlying9 rfl rfl ?_)
 exact Zc5 rfl rfl rfl
def Zww (s:ByteArray):Prop:=∀ (j:Nat) (b:UInt8),s.data.toList[j]? = some b→b.toNat<128
theorem ZoQ (s:ByteArray) (hs:s.size<4294967281) (ha:Zww s):Zd Tryz.prog 249 [.str s,.str ⟨#[10,124]⟩] (.bool (Lib.containsAny s.data.toList [10,124])):=
 Zay (vals:=[.string s,.string ⟨#[10,124]⟩]) (by kernel_rfl) rfl rfl (fun x=>.bool _) fun w _=>Tryz.strings_ContainsAny_laid s ⟨#[10,124]⟩ w hs (by decide) ha (fun j b h=>by
  match j,h with
  | 0,h=>injection h with h;subst h;decide
  | 1,h=>injection h with h;subst h;decide
  | j+2,h=>simp at h)
theorem ZuD {α:Type} {L:List α} {i:Nat} {a:α} (h:L[i]? = some a):L.drop i=a::L.drop (i+1):=by
 have hlt:i<L.length:=(List.getElem?_eq_some_iff.1 h).1
 rw [List.drop_eq_getElem_cons hlt]
 rw [List.getElem?_eq_getElem hlt] at h
 injection h with h
 rw [h]
end Go.Proofs.YtjoneoobolnnbaaGreatDoor
