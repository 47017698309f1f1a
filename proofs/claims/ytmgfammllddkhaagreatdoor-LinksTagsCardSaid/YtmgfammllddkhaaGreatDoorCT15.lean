/- The library's stable sorting at memberships: merging in place, whatever the lengths. | slices.SortStableFunc at memberships is the stable sorting. | slices.Compact and CompactFunc: runs of equals become one. | title.Parse answers at any bytes. | links.finder's literal answers at any bytes. | LinksTags: the law. | From a reading of an argument to the words of the walks: structs field by field, slices element by element. No program is named. | Readings of the wiki's types at this translation. Written by types.py. | Lists of integers; the invariant in all later worlds, where no rules of edit are laid. | LinksTags in worlds: whatever the lists and the numbers, the law returns true. -/
import Derived.Test.YtmgfammllddkhaaGreatDoorCT14
import Derived.Test.YtmgfammllddkhaaGreatDoorCT12
import Derived.Test.YtmgfammllddkhaaGreatDoorCT07
import Derived.Test.YtmgfammllddkhaaGreatDoorCT09
import Derived.Test.YtmgfammllddkhaaGreatDoorCT01
import Derived.ProofKit
import Derived.OpenShut
import Derived.Deep.Slices
import Derived.Deep.Strs
import Derived.Test.YtmgfammllddkhaaGreatDoorRows
import Derived.Test.YtmgfammllddkhaaGreatDoorCT03
import Derived.Test.YtmgfammllddkhaaGreatDoorCT02
import Derived.Test.YtmgfammllddkhaaGreatDoorCT04
import Derived.MakeChecks
import Derived.FnData
import Derived.ChangeSame
set_option maxRecDepth 100000
set_option linter.unusedVariables false
namespace Go.Proofs.YtmgfammllddkhaaGreatDoor
open VL
open Go.Sort
theorem Zhl {A B:List Memb} (h:Srt (A++B)):Srt A∧Srt B:=⟨(List.pairwise_append.1 h).1,(List.pairwise_append.1 h).2.1⟩
structure Part (U V A B C D:List Memb):Prop where
 u:U=A++B
 v:V=C++D
 l:∀ u ∈ A,∀ v ∈ D,leM u v=true
 r:∀ v ∈ C,∀ u ∈ B,leM u v=false
theorem ZsV {U V:List Memb} (hU:Srt U) (hV:Srt V) (i k:Nat) (hi:i≤U.length) (hk:k≤V.length) (h1:i=0∨k=V.length∨∃ u v,U[i - 1]? = some u∧V[k]? = some v∧leM u v=true) (h2:i=U.length∨k=0∨∃ u v,U[i]? = some u∧V[k - 1]? = some v∧leM u v=false) :
  Part U V (U.take i) (U.drop i) (V.take k) (V.drop k):=by
 refine ⟨(List.take_append_drop _ _).symm,(List.take_append_drop _ _).symm,fun u hu v hv=>?_,fun v hv u hu=>?_⟩
 ·rcases h1 with rfl | rfl | ⟨x,y,hx,hy,hxy⟩
  ·simp at hu
  ·simp at hv
  ·have e1:U.take i=U.take (i - 1) ++ [x]:=by
    have hlt:=(List.getElem?_eq_some_iff.1 hx).1
    cases i with
    | zero=>simp at hu
    | succ i=>
      rw [List.take_add_one]
      simp only [Nat.add_sub_cancel] at hx ⊢
      rw [hx]
      rfl
   have e2:V.drop k=y::V.drop (k+1):=by
    obtain ⟨hlt,he⟩:=List.getElem?_eq_some_iff.1 hy
    rw [List.drop_eq_getElem_cons hlt,he]
   have a1:leM u x=true∨u=x:=by
    rw [e1] at hu
    rcases List.mem_append.1 hu with hu | hu
    ·have s:=(Zhl (A:=U.take i) (B:=U.drop i) (by rw [List.take_append_drop];exact hU)).1
     rw [e1] at s
     exact .inl ((List.pairwise_append.1 s).2.2 u hu x (by simp))
    ·exact .inr (List.mem_singleton.1 hu)
   have a2:leM y v=true∨v=y:=by
    rw [e2] at hv
    rcases List.mem_cons.1 hv with hv | hv
    ·exact .inr hv
    ·have s:=(Zhl (A:=V.take k) (B:=V.drop k) (by rw [List.take_append_drop];exact hV)).2
     rw [e2] at s
     exact .inl ((List.pairwise_cons.1 s).1 v hv)
   have a3:leM u y=true:=by
    rcases a1 with a1 | rfl
    ·exact Zbq _ _ _ a1 hxy
    ·exact hxy
   rcases a2 with a2 | rfl
   ·exact Zbq _ _ _ a3 a2
   ·exact a3
 ·rcases h2 with rfl | rfl | ⟨x,y,hx,hy,hxy⟩
  ·simp at hu
  ·simp at hv
  ·have e1:U.drop i=x::U.drop (i+1):=by
    obtain ⟨hlt,he⟩:=List.getElem?_eq_some_iff.1 hx
    rw [List.drop_eq_getElem_cons hlt,he]
   have e2:V.take k=V.take (k - 1) ++ [y]:=by
    cases k with
    | zero=>simp at hv
    | succ k=>
      rw [List.take_add_one]
      simp only [Nat.add_sub_cancel] at hy ⊢
      rw [hy]
      rfl
   have a1:leM x u=true∨u=x:=by
    rw [e1] at hu
    rcases List.mem_cons.1 hu with hu | hu
    ·exact .inr hu
    ·have s:=(Zhl (A:=U.take i) (B:=U.drop i) (by rw [List.take_append_drop];exact hU)).2
     rw [e1] at s
     exact .inl ((List.pairwise_cons.1 s).1 u hu)
   have a2:leM v y=true∨v=y:=by
    rw [e2] at hv
    rcases List.mem_append.1 hv with hv | hv
    ·have s:=(Zhl (A:=V.take k) (B:=V.drop k) (by rw [List.take_append_drop];exact hV)).1
     rw [e2] at s
     exact .inl ((List.pairwise_append.1 s).2.2 v hv y (by simp))
    ·exact .inr (List.mem_singleton.1 hv)
   cases h:leM u v with
   | false=>rfl
   | true=>
     exfalso
     have b1:leM x v=true:=by
      rcases a1 with a1 | rfl
      ·exact Zbq _ _ _ a1 h
      ·exact h
     have b2:leM x y=true:=by
      rcases a2 with a2 | rfl
      ·exact Zbq _ _ _ b1 a2
      ·exact b1
     rw [hxy] at b2
     cases b2
theorem Zub {P U V S:List Memb} {i:Nat} {u:Memb} (h:U[i]? = some u):∃ A B,P++U++V++S=A++u::B∧A.length=P.length+i:=by
 obtain ⟨hl,he⟩:=List.getElem?_eq_some_iff.1 h
 refine ⟨P++U.take i,U.drop (i+1)++V++S,?_,by rw [List.length_append,List.length_take];omega⟩
 have:U=U.take i++u::U.drop (i+1):=by rw [← he,← List.drop_eq_getElem_cons hl,List.take_append_drop]
 conv=>lhs;rw [this]
 simp
theorem Zuc {P U V S:List Memb} {i:Nat} {v:Memb} (h:V[i]? = some v):∃ A B,P++U++V++S=A++v::B∧A.length=P.length+U.length+i:=by
 obtain ⟨hl,he⟩:=List.getElem?_eq_some_iff.1 h
 refine ⟨P++U++V.take i,V.drop (i+1)++S,?_,by rw [List.length_append,List.length_append,List.length_take];omega⟩
 have:V=V.take i++v::V.drop (i+1):=by rw [← he,← List.drop_eq_getElem_cons hl,List.take_append_drop]
 conv=>lhs;rw [this]
 simp
theorem Zrv:∀ (f:Nat) (P U V S:List Memb) (_:Srt U) (_:Srt V) (_:0<U.length) (_:0<V.length) (_:(P++U++V++S).length≤1000000) (_:U.length+V.length≤2 ^ f) (a m b:Int) (_:a=(P.length:Int)) (_:m=((P++U).length:Int)) (_:b=((P++U++V).length:Int)),
  Zl f (P++U++V++S) a m b=some (P++ZW leM U V++S)
 | 0,P,U,V,S,_,_,hU0,hV0,_,hf,_,_,_,_,_,_=>by simp at hf;omega
 | f+1,P,U,V,S,hU,hV,hU0,hV0,hL,hf,a,m,b,ha,hm,hb=>by
   by_cases hU1:U.length=1
   ·obtain ⟨x,rfl⟩:=List.length_eq_one_iff.1 hU1
    exact ZqJ f P V S x hV hL a m b ha hm hb
   by_cases hV1:V.length=1
   ·obtain ⟨y,rfl⟩:=List.length_eq_one_iff.1 hV1
    exact ZoZ f P U S y hU hU1 hL a m b ha hm hb
   simp only [List.length_append] at hL hm hb
   refine ZaQ ?_
   unfold Zl
   rw [show w64 (m - a)=(U.length:Int) by rw [Zd8 (by omega) (by omega) (by omega) (by omega)];omega,show w64 (b - m)=(V.length:Int) by rw [Zd8 (by omega) (by omega) (by omega) (by omega)];omega]
   refine Zq (fun h=>absurd h (by omega)) fun _=>Zq (fun h=>absurd h (by omega)) fun _=>?_
   rw [Zer (by omega) (by omega) (by omega) (by omega)]
   refine ZmU (by omega) (by omega) fun mid hmid hw=>?_
   rw [hw]
   have en:w64 (mid+m)=mid+m:=Zer (by omega) (by omega) (by omega) (by omega)
   rw [en]
   have tail:∀ (s:Int) (A B C D:List Memb),Part U V A B C D→s=(P.length:Int)+(A.length:Int)→mid+m - s=(P.length:Int)+(U.length:Int)+(C.length:Int)→Tot (letk (fun (x352:Bool)=>
     letk (fun (x354:List Memb)=>
      letk (fun (x355:Bool)=>
       letk (fun (x357:List Memb)=>
        letk (fun (x358:Bool)=>
         if x358 then
          (Zl f x357 mid (mid+m - s) b).bind fun r359=>
          (some r359:Option (List Memb))
         else
         (some x357:Option (List Memb))) fun k24=>
        if (decide (mid<mid+m - s)) then
         k24 (decide (mid+m - s<b))
        else
        k24 false) fun k23=>
       if x355 then
        (Zl f x354 a s mid).bind fun r360=>
        k23 r360
       else
       k23 x354) fun k22=>
      if (decide (a<s)) then
       k22 (decide (s<mid))
      else
      k22 false) fun k21=>
     if x352 then
      (ZI (P++U++V++S) s m (mid+m - s)).bind fun r361=>
      k21 r361
     else
     k21 (P++U++V++S)) fun k20=>
    if (decide (s<m)) then
     k20 (decide (m<mid+m - s))
    else
    k20 false) fun r=>r=P++ZW leM U V++S:=by
    intro s A B C D hp hs he
    have lU:U.length=A.length+B.length:=by rw [hp.u,List.length_append]
    have lV:V.length=C.length+D.length:=by rw [hp.v,List.length_append]
    have hsU:=Zhl (by rw [← hp.u];exact hU)
    have hsV:=Zhl (by rw [← hp.v];exact hV)
    have pw:(2:Nat) ^ (f+1)=2 * 2 ^ f:=by rw [Nat.pow_succ,Nat.mul_comm]
    have hfin:P++ZW leM U V++S=P++ZW leM A C++ZW leM B D++S:=by
     rw [hp.u,hp.v,Zca A B C D hp.l hp.r]
     simp
    rw [hfin]
    refine ZaM (fun q=>∀ t,(t=true→0<B.length∧0<C.length)→(t=false→B = []∨C = [])→Tot (q t) fun r=>r=P++ZW leM A C++ZW leM B D++S) (fun t ht1 ht2=>?_) fun q hq=>?_
    ·
     refine ZaM (fun q=>Tot (q (P++A++C++B++D++S)) fun r=>r=P++ZW leM A C++ZW leM B D++S) ?_ fun q hq=>?_
     ·refine ZaM (fun q=>∀ t,(t=true→0<A.length∧0<C.length)→(t=false→A = []∨C = [])→Tot (q t) fun r=>r=P++ZW leM A C++ZW leM B D++S) (fun t ht1 ht2=>?_) fun q hq=>?_
      ·
       refine ZaM (fun q=>Tot (q (P++ZW leM A C++B++D++S)) fun r=>r=P++ZW leM A C++ZW leM B D++S) ?_ fun q hq=>?_
       ·refine ZaM (fun q=>∀ t,(t=true→0<B.length∧0<D.length)→(t=false→B = []∨D = [])→Tot (q t) fun r=>r=P++ZW leM A C++ZW leM B D++S) (fun t ht1 ht2=>?_) fun q hq=>?_
        ·refine Zai (fun h=>?_) fun h=>?_
         ·obtain ⟨b1,b2⟩:=ht1 h
          have hl:=Zol (le:=leM) A C
          refine Zb (Zrv f (P++ZW leM A C) B D S hsU.2 hsV.2 b1 b2 (by simp only [List.length_append];omega) (by omega) mid (mid+m - s) b (by simp only [List.length_append];omega) (by simp only [List.length_append];omega) (by simp only [List.length_append];omega)) (Zh rfl)
         ·refine Zh ?_
          rcases ht2 h with rfl | rfl
          ·show _=P++ZW leM A C++D++S
           simp
          ·rw [ZbD];simp
        ·refine Zq (fun h=>?_) fun h=>?_
         ·by_cases h2:mid+m - s<b
          ·rw [decide_eq_true h2]
           exact hq true (fun _=>by omega) fun h=>by cases h
          ·rw [decide_eq_false h2]
           exact hq false (fun h=>by cases h) fun _=>.inr (List.eq_nil_of_length_eq_zero (by omega))
         ·exact hq false (fun h=>by cases h) fun _=>.inl (List.eq_nil_of_length_eq_zero (by omega))
       ·refine Zai (fun h=>?_) fun h=>?_
        ·obtain ⟨b1,b2⟩:=ht1 h
         have e:P++A++C++B++D++S=P++A++C++(B++D++S):=by simp
         rw [e]
         refine Zb (Zrv f P A C (B++D++S) hsU.1 hsV.1 b1 b2 (by simp only [List.length_append];omega) (by omega) a s mid ha (by simp only [List.length_append];omega) (by simp only [List.length_append];omega)) ?_
         have e2:P++ZW leM A C++(B++D++S)=P++ZW leM A C++B++D++S:=by simp
         rw [e2]
         exact hq
        ·have e:P++A++C++B++D++S=P++ZW leM A C++B++D++S:=by
          rcases ht2 h with rfl | rfl
          ·show _=P++C++B++D++S
           simp
          ·rw [ZbD];simp
         rw [e]
         exact hq
      ·refine Zq (fun h=>?_) fun h=>?_
       ·by_cases h2:s<mid
        ·rw [decide_eq_true h2]
         exact hq true (fun _=>by omega) fun h=>by cases h
        ·rw [decide_eq_false h2]
         exact hq false (fun h=>by cases h) fun _=>.inr (List.eq_nil_of_length_eq_zero (by omega))
       ·exact hq false (fun h=>by cases h) fun _=>.inl (List.eq_nil_of_length_eq_zero (by omega))
     ·refine Zai (fun h=>?_) fun h=>?_
      ·obtain ⟨b1,b2⟩:=ht1 h
       have e:P++U++V++S=(P++A)++B++C++(D++S):=by rw [hp.u,hp.v];simp
       rw [e]
       refine Zb (Zra (P++A) B C (D++S) b1 b2 (by simp only [List.length_append];omega) s m (mid+m - s) (by simp only [List.length_append];omega) (by simp only [List.length_append];omega) (by simp only [List.length_append];omega)) ?_
       have e2:(P++A)++C++B++(D++S)=P++A++C++B++D++S:=by simp
       rw [e2]
       exact hq
      ·have e:P++U++V++S=P++A++C++B++D++S:=by
        rw [hp.u,hp.v]
        rcases ht2 h with rfl | rfl<;>simp
       rw [e]
       exact hq
    ·refine Zq (fun h=>?_) fun h=>?_
     ·by_cases h2:m<mid+m - s
      ·rw [decide_eq_true h2]
       exact hq true (fun _=>by omega) fun h=>by cases h
      ·rw [decide_eq_false h2]
       exact hq false (fun h=>by cases h) fun _=>.inr (List.eq_nil_of_length_eq_zero (by omega))
     ·exact hq false (fun h=>by cases h) fun _=>.inl (List.eq_nil_of_length_eq_zero (by omega))
   refine ZaM (fun q=>∀ lo hi:Int,lo≤hi→a≤lo→hi≤m→hi≤mid∨hi=m→(lo=a∧m≤mid∧hi=m∨lo=mid+m - b∧mid<m∧hi=mid)→Tot (q lo hi) fun r=>r=P++ZW leM U V++S) (fun lo hi hlh hlo hhi hhm hcase=>?_) fun q hq=>?_
   ·refine Zar (fun x=>lo≤x.1∧x.1≤x.2∧x.2≤hi∧(x.1=lo∨∃ u v,U[(x.1 - 1 - a).toNat]? = some u∧V[(mid - x.1).toNat]? = some v∧leM u v=true)∧(x.2=hi∨∃ u v,U[(x.2 - a).toNat]? = some u∧V[(mid - 1 - x.2).toNat]? = some v∧leM u v=false)) (fun x=>(x.2 - x.1).toNat) ⟨Int.le_refl _,hlh,Int.le_refl _,.inl rfl,.inl rfl⟩ (by dsimp only;omega) ?_
    rintro ⟨st,r⟩ rec ⟨k1,k2,k3,k4,k5⟩ ih
    dsimp only at k1 k2 k3 k4 k5 ih ⊢
    refine Zq (fun hlt=>?_) fun hge=>?_
    ·rw [Zer (by omega) (by omega) (by omega) (by omega)]
     refine ZmU (by omega) (by omega) fun c hc hwc=>?_
     rw [hwc]
     have c1:(c - a).toNat<U.length:=by omega
     have c2:(mid - 1 - c).toNat<V.length:=by omega
     obtain ⟨A1,B1,d1,n1⟩:=Zub (P:=P) (U:=U) (V:=V) (S:=S) (List.getElem?_eq_getElem c1)
     obtain ⟨A2,B2,d2,n2⟩:=Zuc (P:=P) (U:=U) (V:=V) (S:=S) (List.getElem?_eq_getElem c2)
     rw [show w64 (mid+m - 1)=mid+m - 1 from Zd8 (by omega) (by omega) (by omega) (by omega),show w64 (mid+m - 1 - c)=mid+m - 1 - c from Zd8 (by omega) (by omega) (by omega) (by omega)]
     refine Zb (Zbk d2 (by omega)) (Zb (Zbk d1 (by omega)) (Zb (Zm5 _ _) ?_))
     by_cases hcm:Zfg V[(mid - 1 - c).toNat] U[(c - a).toNat]<0
     ·rw [decide_eq_true hcm]
      refine Zai (fun h=>by cases h) fun _=>?_
      exact ih _ ⟨k1,by dsimp only;omega,by dsimp only;omega,k4,.inr ⟨_,_,List.getElem?_eq_getElem c1,List.getElem?_eq_getElem c2,Zku hcm⟩⟩ (by dsimp only;omega)
     ·rw [decide_eq_false hcm]
      refine Zai (fun _=>?_) fun h=>by cases h
      rw [Zer (by omega) (by omega) (by omega) (by omega)]
      refine ih _ ⟨by dsimp only;omega,by dsimp only;omega,k3,.inr ⟨_,_,?_,?_,Zh3 hcm⟩,k5⟩ (by dsimp only;omega)
      ·dsimp only
       rw [show (c+1 - 1 - a).toNat=(c - a).toNat by omega]
       exact List.getElem?_eq_getElem c1
      ·dsimp only
       rw [show (mid - (c+1)).toNat=(mid - 1 - c).toNat by omega]
       exact List.getElem?_eq_getElem c2
    ·obtain rfl:st=r:=by omega
     have e2:w64 (mid+m - st)=mid+m - st:=Zd8 (by omega) (by omega) (by omega) (by omega)
     rw [e2]
     refine tail st _ _ _ _ (ZsV hU hV (st - a).toNat (mid - st).toNat (by omega) (by omega) ?_ ?_) ?_ ?_
     ·rcases k4 with rfl | ⟨u,v,q1,q2,q3⟩
      ·rcases hcase with h | h
       ·exact .inl (by omega)
       ·exact .inr (.inl (by omega))
      ·exact .inr (.inr ⟨u,v,by rw [show (st - a).toNat - 1=(st - 1 - a).toNat by omega];exact q1,q2,q3⟩)
     ·rcases k5 with rfl | ⟨u,v,q1,q2,q3⟩
      ·rcases hcase with h | h
       ·exact .inl (by omega)
       ·exact .inr (.inl (by omega))
      ·exact .inr (.inr ⟨u,v,q1,by rw [show (mid - st).toNat - 1=(mid - 1 - st).toNat by omega];exact q2,q3⟩)
     ·rw [List.length_take]
      omega
     ·rw [List.length_take]
      omega
   ·refine Zq (fun h=>?_) fun h=>?_
    ·rw [Zd8 (by omega) (by omega) (by omega) (by omega)]
     exact hq _ _ (by omega) (by omega) (by omega) (.inl (by omega)) (.inr ⟨rfl,h,rfl⟩)
    ·exact hq _ _ (by omega) (by omega) (by omega) (.inr rfl) (.inl ⟨rfl,by omega,rfl⟩)
def sbk (n:Nat) (L:List Memb):List Memb:=if _h:0<n∧n≤L.length then Zae leM (L.take n)++sbk n (L.drop n) else Zae leM L
 termination_by L.length
 decreasing_by rw [List.length_drop];omega
theorem Zhp {n:Nat} {L:List Memb} (h0:0<n) (h:n≤L.length):sbk n L=Zae leM (L.take n)++sbk n (L.drop n):=by
 rw [sbk,dif_pos ⟨h0,h⟩]
theorem Zgf {n:Nat} {L:List Memb} (h:L.length≤n):sbk n L=Zae leM L:=by
 rw [sbk]
 split
 ·rename_i h1
  have:n=L.length:=by omega
  rw [this,List.take_length,List.drop_length]
  rw [sbk,dif_neg (fun h=>by have h2:=h.1;have h3:=h.2;simp only [List.length_nil] at h3;omega)]
  exact List.append_nil _
 ·rfl
theorem Zp4 (n:Nat):∀ (k:Nat) (L:List Memb),L.length≤k→(sbk n L).length=L.length
 | 0,L,h=>by
   rw [Zgf (by omega),ZX]
 | k+1,L,h=>by
   by_cases h1:0<n∧n≤L.length
   ·rw [Zhp h1.1 h1.2,List.length_append,ZX,Zp4 n k (L.drop n) (by rw [List.length_drop];omega),List.length_take,List.length_drop]
    omega
   ·rw [sbk,dif_neg h1,ZX]
theorem isrt (L:List Memb):Srt (Zae leM L):=Zgx Zbq ZgC L
theorem ZlT (A B:List Memb):ZW leM (Zae leM A) (Zae leM B)=Zae leM (A++B):=(Ze5 Zbq ZgC A B).symm
theorem Zry (L:List Memb) (hL:L.length≤1000000):ZU L (L.length:Int)=some (Zae leM L):=by
 refine ZaQ ?_
 unfold ZU
 refine Zar (fun x=>∃ R E:List Memb,x.1=(R.length:Int)∧x.2.1=(R.length:Int)+20∧x.2.2=R++E∧R++sbk 20 E=sbk 20 L∧R.length+E.length=L.length) (fun x=>L.length - x.1.toNat) ⟨[],L,rfl,rfl,rfl,rfl,by simp⟩ (by dsimp only;omega) ?_
 rintro ⟨a,b,l⟩ rec ⟨R,E,ha,hb,hl,hR,hlen⟩ ih
 dsimp only at ha hb hl ih ⊢
 refine Zq (fun hle=>?_) fun hgt=>?_
 ·have h20:20≤E.length:=by omega
  have e:l=R++E.take 20++E.drop 20:=by rw [hl,List.append_assoc,List.take_append_drop]
  have ht:(E.take 20).length=20:=by rw [List.length_take];omega
  rw [e]
  refine Zb (ZtB R (E.take 20) (E.drop 20) (by rw [← e,hl,List.length_append];omega) a b ha (by rw [List.length_append];omega)) ?_
  rw [Zer (by omega) (by omega) (by omega) (by omega)]
  refine ih _ ⟨R++Zae leM (E.take 20),E.drop 20,by dsimp only;rw [List.length_append,ZX];omega,by dsimp only;rw [List.length_append,ZX];omega,rfl,?_,by rw [List.length_append,ZX,List.length_drop];omega⟩ (by dsimp only;omega)
  rw [← hR,Zhp (by decide) h20,List.append_assoc]
 ·have e:l=R++E ++ []:=by rw [hl,List.append_nil]
  rw [e]
  refine Zb (ZtB R E [] (by rw [← e,hl,List.length_append];omega) a _ ha (by rw [List.length_append];omega)) ?_
  rw [List.append_nil,← Zgf (n:=20) (L:=E) (by omega),hR]
  clear ih hR e hl ha hb hgt hlen rec
  refine Zar (fun x=>∃ n:Nat,0<n∧n≤2000000∧x.1=(n:Int)∧x.2=sbk n L) (fun x=>2000000 - x.1.toNat) ⟨20,by decide,by decide,rfl,rfl⟩ (by dsimp only;omega) ?_
  rintro ⟨bsz,l⟩ rec ⟨n,hn0,hn1,hbn,hl⟩ ih
  dsimp only at hbn hl ih ⊢
  refine Zq (fun hlt=>?_) fun hge=>?_
  ·have e2:w64 (2 * bsz)=2 * bsz:=Zbb (by omega) (by omega)
   rw [e2]
   refine Zar (fun x=>∃ R E:List Memb,x.1=(R.length:Int)∧x.2.1=(R.length:Int)+2 * (n:Int)∧x.2.2=R++sbk n E∧R++sbk (2 * n) E=sbk (2 * n) L∧R.length+E.length=L.length) (fun x=>L.length - x.1.toNat) ⟨[],L,rfl,by dsimp only;simp;omega,by rw [hl];rfl,rfl,by simp⟩ (by dsimp only;omega) ?_
   rintro ⟨a,b,l2⟩ rec2 ⟨R,E,ha,hb,hl2,hR,hlen⟩ ih2
   dsimp only at ha hb hl2 ih2 ⊢
   have eA:w64 (a+bsz)=a+bsz:=Zer (by omega) (by omega) (by omega) (by omega)
   refine Zq (fun hle=>?_) fun hgt=>?_
   ·have h2n:2 * n≤E.length:=by omega
    have t1:(E.take n).length=n:=by rw [List.length_take];omega
    have t2:((E.drop n).take n).length=n:=by rw [List.length_take,List.length_drop];omega
    have e:l2=R++Zae leM (E.take n)++Zae leM ((E.drop n).take n)++sbk n (E.drop (2 * n)):=by
     rw [hl2,Zhp hn0 (by omega),Zhp hn0 (by rw [List.length_drop];omega),List.drop_drop,show n+n=2 * n by omega]
     simp only [List.append_assoc]
    have hd:(sbk n (E.drop (2 * n))).length=E.length - 2 * n:=by rw [Zp4 n _ _ (Nat.le_refl _),List.length_drop]
    rw [eA,e]
    refine Zb (Zrv 64 R _ _ _ (isrt _) (isrt _) (by rw [ZX];omega) (by rw [ZX];omega) (by simp only [List.length_append,ZX];omega) (by rw [ZX,ZX];omega) a (a+bsz) b ha (by rw [List.length_append,ZX];omega) (by simp only [List.length_append,ZX];omega)) ?_
    have et:E.take n++(E.drop n).take n=E.take (2 * n):=by rw [show 2 * n=n+n by omega,List.take_add]
    rw [ZlT,et,show w64 (b+2 * bsz)=b+2 * bsz from Zbb (by omega) (by omega)]
    have t3:(E.take (2 * n)).length=2 * n:=by rw [List.length_take];omega
    refine ih2 _ ⟨R++Zae leM (E.take (2 * n)),E.drop (2 * n),by dsimp only;rw [List.length_append,ZX];omega,by dsimp only;rw [List.length_append,ZX];omega,rfl,?_,by rw [List.length_append,ZX,List.length_drop];omega⟩ (by dsimp only;omega)
    rw [← hR,Zhp (n:=2 * n) (by omega) h2n,List.append_assoc]
   ·have go:l2=R++sbk (2 * n) E→Tot (rec (w64 (bsz * 2),l2)) fun r=>r=Zae leM L:=fun h=>by
     rw [show w64 (bsz * 2)=bsz * 2 from Zbb (by omega) (by omega)]
     exact ih _ ⟨2 * n,by omega,by omega,by dsimp only;omega,by dsimp only;rw [h,hR]⟩ (by dsimp only;omega)
    refine ZaM (fun q=>∀ l3,l3=R++sbk (2 * n) E→Tot (q l3) fun r=>r=Zae leM L) (fun l3 h3=>?_) fun q hq=>?_
    ·rw [show w64 (bsz * 2)=bsz * 2 from Zbb (by omega) (by omega)]
     exact ih _ ⟨2 * n,by omega,by omega,by dsimp only;omega,by dsimp only;rw [h3,hR]⟩ (by dsimp only;omega)
    ·rw [eA]
     refine Zq (fun hlt2=>?_) fun hge2=>?_
     ·have t1:(E.take n).length=n:=by rw [List.length_take];omega
      have t2:(E.drop n).length=E.length - n:=List.length_drop
      have e:l2=R++Zae leM (E.take n)++Zae leM (E.drop n) ++ []:=by
       rw [hl2,Zhp hn0 (by omega),Zgf (n:=n) (L:=E.drop n) (by omega)]
       simp only [List.append_assoc,List.append_nil]
      rw [e]
      refine Zb (Zrv 64 R _ _ _ (isrt _) (isrt _) (by rw [ZX];omega) (by rw [ZX];omega) (by simp only [List.length_append,ZX,List.length_nil];omega) (by rw [ZX,ZX];omega) a (a+bsz) _ ha (by rw [List.length_append,ZX];omega) (by simp only [List.length_append,ZX];omega)) ?_
      refine hq _ ?_
      rw [ZlT,List.take_append_drop,List.append_nil,Zgf (n:=2 * n) (by omega)]
     ·refine hq _ ?_
      rw [hl2,Zgf (n:=n) (L:=E) (by omega),Zgf (n:=2 * n) (by omega)]
  ·refine Zh ?_
   rw [hl,Zgf (by omega)]
theorem ZhG (L:List Memb) (hL:L.length≤1000000):ZH L=some (Zae leM L):=by
 unfold ZH
 rw [Zry L hL]
 rfl
end Go.Proofs.YtmgfammllddkhaaGreatDoor
namespace Go.Proofs.YtmgfammllddkhaaGreatDoor
open VL
def ZhX {α:Type} (eq:α→α→Option Bool) (z:α) (p0:List α):Option (List α):=
 if (decide ((p0.length:Int)<2)) then
  (some p0:Option (List α))
 else
 Zbw Zec (fun f82 (x570:Int)=>
  if (decide (x570<(p0.length:Int))) then
   (atI p0 x570).bind fun e784=>
   (atI p0 (w64 (x570 - 1))).bind fun e785=>
   (eq e784 e785).bind fun r=>
   if r then
    (Zn9 p0 x570).bind fun _=>
    Zbw Zec (fun f97 ((x830,x831,x832):Int×Int×(List α))=>
     if (decide (x831<(Zs0 x832 x570))) then
      letk (fun (x847:Int) (x848:List α)=>
       f97 (x847,(w64 (x831+1)),x848)) fun k98=>
      (atQ x832 x570 x831).bind fun e849=>
      (atQ x832 x570 (w64 (x831 - 1))).bind fun e850=>
      (eq e849 e850).bind fun r=>
      if (!r) then
       (atQ x832 x570 x831).bind fun e851=>
       (atI x832 x830).bind fun _=>
       k98 (w64 (x830+1)) (ZeE x832 x830 e851)
      else
      k98 x830 x832
     else
     (Zn9 x832 x830).bind fun _=>
     (Zr3 (Zsd x832 x830 z) 0 x830).bind fun l854=>
     (some l854:Option (List α))) (x570,1,p0)
   else
   f82 (w64 (x570+1))
  else
  (some p0:Option (List α))) 1
def ZeZ {α:Type} (eq:α→α→Bool):α→List α→List α
 | _,[]=>[]
 | x,y::l=>if eq y x=true then ZeZ eq y l else y::ZeZ eq y l
def ZhN {α:Type} (eq:α→α→Bool):List α→List α
 | []=>[]
 | x::l=>x::ZeZ eq x l
theorem ZjB {α:Type} {eq:α→α→Bool} (y z:α):∀ (x:α) (A:List α),ZeZ eq x (A ++ [z] ++ [y])=ZeZ eq x (A ++ [z])++(if eq y z=true then [] else [y])
 | x,[]=>by
   show (if eq z x=true then ZeZ eq z [y] else z::ZeZ eq z [y])=(if eq z x=true then [] else [z])++_
   have:ZeZ eq z [y]=if eq y z=true then [] else [y]:=rfl
   rw [this]
   split<;>rfl
 | x,a::A=>by
   show (if eq a x=true then ZeZ eq a (A ++ [z] ++ [y]) else a::ZeZ eq a (A ++ [z] ++ [y]))=(if eq a x=true then ZeZ eq a (A ++ [z]) else a::ZeZ eq a (A ++ [z]))++_
   rw [ZjB y z a A]
   split<;>rfl
theorem Zfw {α:Type} {eq:α→α→Bool} (A:List α) (z y:α):ZhN eq (A ++ [z] ++ [y])=ZhN eq (A ++ [z])++(if eq y z=true then [] else [y]):=by
 cases A with
 | nil=>
   show z::ZeZ eq z [y] = [z]++_
   rfl
 | cons a A=>
   show a::ZeZ eq a (A ++ [z] ++ [y])=a::ZeZ eq a (A ++ [z])++_
   rw [ZjB]
   rfl
theorem Zme {α:Type} {l A B:List α} {x:α} {q i:Int} (h:l=A++x::B) (h0:0≤q) (h1:0≤i) (hn:q+i=(A.length:Int)):atQ l q i=some x:=by
 unfold atQ
 rw [if_pos ⟨h0,h1⟩]
 exact Zbk h hn
theorem Zk2 {α:Type} (eqM:α→α→Option Bool) (eq:α→α→Bool) (heq:∀ a b,eqM a b=some (eq a b)) (z0:α) (L:List α) (hL:L.length≤1000000):ZhX eqM z0 L=some (ZhN eq L):=by
 refine ZaQ ?_
 unfold ZhX
 refine Zq (fun h=>?_) fun h=>?_
 ·refine Zh ?_
  match L,h with
  | [],_=>rfl
  | [x],_=>rfl
  | x::y::l,h=>simp only [List.length_cons] at h;omega
 ·refine Zar (fun x=>∃ A z B,L=A++z::B∧x=(A.length:Int)+1∧ZhN eq (A ++ [z])=A ++ [z]) (fun x=>L.length - x.toNat) ?_ (by omega) ?_
  ·cases L with
   | nil=>simp only [List.length_nil] at h;omega
   | cons x l=>exact ⟨[],x,l,rfl,rfl,rfl⟩
  rintro k rec ⟨A,z,B,hd,hk,hc⟩ ih
  have lL:L.length=A.length+1+B.length:=by rw [hd];simp only [List.length_append,List.length_cons];omega
  refine Zq (fun hlt=>?_) fun hge=>?_
  ·obtain ⟨y,B,rfl⟩:∃ y B',B=y::B':=by
    cases B with
    | nil=>simp only [List.length_nil] at lL;omega
    | cons y B'=>exact ⟨y,B',rfl⟩
   simp only [List.length_cons] at lL
   have d1:L=(A ++ [z])++y::B:=by rw [hd];simp
   rw [Zd8 (by omega) (by omega) (by omega) (by omega)]
   refine Zb (Zbk d1 (by simp only [List.length_append,List.length_singleton];omega)) (Zb (Zbk hd (by omega)) (Zb (heq y z) (Zai (fun hyz=>?_) fun hyz=>?_)))
   ·have hs:Zn9 L k=some ():=by
     unfold Zn9
     rw [if_pos ⟨by omega,by omega⟩]
    refine Zb hs ?_
    refine Zar (fun x=>∃ K J L1 z B,x.2.2=K++J++z::B∧L=L1++z::B∧x.1=(K.length:Int)∧K.length+J.length=L1.length∧1≤x.2.1∧k+x.2.1=(L1.length:Int)+1∧ZhN eq (L1 ++ [z])=K) (fun x=>L.length - x.2.1.toNat)
     ⟨A ++ [z],[],A ++ [z],y,B,by dsimp only;rw [d1];simp,d1,by dsimp only;simp only [List.length_append,List.length_singleton];omega,by simp,by dsimp only;omega,by dsimp only;simp only [List.length_append,List.length_singleton];omega,by rw [Zfw,hc,if_pos hyz,List.append_nil]⟩ (by dsimp only;omega) ?_
    rintro ⟨kd,k2,l⟩ rec2 ⟨K,J,L1,u,C,hl,hLd,hkd,hlen,h1,hk2,hK⟩ ih2
    dsimp only at hl hkd h1 hk2 ih2 ⊢
    have lC:L.length=L1.length+1+C.length:=by rw [hLd];simp only [List.length_append,List.length_cons];omega
    have ll:l.length=L.length:=by rw [hl];simp only [List.length_append,List.length_cons];omega
    have hq:Zs0 l k=(L.length:Int) - k:=by unfold Zs0;rw [ll];omega
    rw [hq]
    refine Zq (fun hlt2=>?_) fun hge2=>?_
    ·obtain ⟨v,C,rfl⟩:∃ v C',C=v::C':=by
      cases C with
      | nil=>simp only [List.length_nil] at lC;omega
      | cons v C'=>exact ⟨v,C',rfl⟩
     simp only [List.length_cons] at lC
     have e1:l=(K++J ++ [u])++v::C:=by rw [hl];simp
     have n1:k+k2=((K++J ++ [u]).length:Int):=by simp only [List.length_append,List.length_singleton];omega
     have n2:k+(k2 - 1)=((K++J).length:Int):=by simp only [List.length_append];omega
     have hLd2:L=(L1 ++ [u])++v::C:=by rw [hLd];simp
     refine ZaU ?_
     rw [Zd8 (by omega) (by omega) (by omega) (by omega),Zer (a:=k2) (by omega) (by omega) (by omega) (by omega)]
     refine Zb (Zme e1 (by omega) (by omega) n1) (Zb (Zme hl (by omega) (by omega) n2) (Zb (heq v u) ?_))
     cases hvu:eq v u with
     | false=>
       refine Zai (fun _=>?_) fun h=>by cases h
       obtain ⟨w,J2,hJ⟩:∃ w J2,J ++ [u]=w::J2:=by
        cases J with
        | nil=>exact ⟨u,[],rfl⟩
        | cons w J2=>exact ⟨w,J2 ++ [u],rfl⟩
       have lJ:J.length+1=J2.length+1:=by have:=congrArg List.length hJ;simpa using this
       have e2:l=K++w::(J2++v::C):=by rw [e1,List.append_assoc K J [u],hJ];simp
       refine Zb (Zme e1 (by omega) (by omega) n1) (Zb (Zbk e2 hkd) ?_)
       dsimp only
       rw [Zer (by omega) (by omega) (by omega) (by omega)]
       refine ih2 _ ⟨K ++ [v],J2,L1 ++ [u],v,C,?_,hLd2,by dsimp only;simp only [List.length_append,List.length_singleton];omega,by simp only [List.length_append,List.length_singleton];omega,by dsimp only;omega,by dsimp only;simp only [List.length_append,List.length_singleton];omega,?_⟩ (by dsimp only;omega)
       ·dsimp only
        rw [ZeM e2 hkd]
        simp
       ·rw [Zfw,hK,hvu]
        rfl
     | true=>
       refine Zai (fun h=>by cases h) fun _=>?_
       dsimp only
       refine ih2 _ ⟨K,J ++ [u],L1 ++ [u],v,C,by dsimp only;rw [hl];simp,hLd2,hkd,by simp only [List.length_append,List.length_singleton];omega,by dsimp only;omega,by dsimp only;simp only [List.length_append,List.length_singleton];omega,?_⟩ (by dsimp only;omega)
       rw [Zfw,hK,hvu]
       exact List.append_nil _
    ·have hC:C = []:=List.eq_nil_of_length_eq_zero (by omega)
     subst hC
     have hs2:Zn9 l kd=some ():=by
      unfold Zn9
      rw [if_pos ⟨by omega,by omega⟩]
     refine Zb hs2 ?_
     have hcl:Zsd l kd z0=K++List.replicate (l.length - K.length) z0:=by
      unfold Zsd
      rw [hkd,Int.toNat_natCast,hl]
      congr 1
      rw [List.append_assoc,List.take_left]
     refine Zb (v:=K) ?_ (Zh ?_)
     ·rw [hcl]
      unfold Zr3
      rw [if_pos ⟨by omega,by omega,by rw [hkd,List.length_append];omega⟩,hkd]
      simp
     ·rw [← hK,hLd]
   ·rw [Zer (by omega) (by omega) (by omega) (by omega)]
    refine ih _ ⟨A ++ [z],y,B,d1,by simp only [List.length_append,List.length_singleton];omega,?_⟩ (by omega)
    rw [Zfw,hc,if_neg (by rw [hyz];decide)]
  ·have hB:B = []:=List.eq_nil_of_length_eq_zero (by omega)
   subst hB
   refine Zh ?_
   rw [hd,hc]
theorem Zkg:ZaJ=ZhX (fun a b=>some (decide (a=b))) ⟨0,⟨0,⟨#[]⟩⟩⟩:=rfl
theorem Zkh:ZP=ZhX ZdJ ⟨⟨0,⟨#[]⟩⟩,⟨#[]⟩⟩:=rfl
theorem Zgr (L:List Link) (hL:L.length≤1000000):ZaJ L=some (ZhN (fun a b=>decide (a=b)) L):=by
 rw [Zkg]
 exact Zk2 _ _ (fun _ _=>rfl) _ L hL
theorem Zgs (L:List Memb) (hL:L.length≤1000000):ZP L=some (ZhN (fun a b=>decide (a.category=b.category)) L):=by
 rw [Zkh]
 exact Zk2 _ _ (fun _ _=>rfl) _ L hL
set_option linter.unusedVariables false
theorem ZhA (o:List UInt8) (c:UInt8):∀ (k:Nat) (s:List UInt8),(Lib.replaceK o [c] k s).length≤s.length+k
 | 0,s=>by rw [Lib.replaceK];omega
 | k+1,s=>by
   rw [Lib.replaceK]
   split
   ·omega
   ·have:=ZhA o c k (s.drop ((Lib.index s o).toNat+o.length))
    simp only [List.length_append,List.length_take,List.length_drop,List.length_singleton] at this ⊢
    omega
theorem Zo6 (p:ByteArray) (h:p.size≤1000):Tot (Za9 p ⟨#[95]⟩ ⟨#[32]⟩) fun r=>r.size≤2000:=by
 have hc:Lib.countB p ⟨#[95]⟩≤p.size:=by
  have h:=Lib.countB_mul_le ⟨#[95]⟩ (by decide) p.size p (Nat.le_refl _)
  have e:(⟨#[95]⟩:ByteArray).size=1:=rfl
  rw [e] at h
  omega
 have e1:(⟨#[32]⟩:ByteArray).size=1:=rfl
 have e2:(⟨#[95]⟩:ByteArray).size=1:=rfl
 unfold Za9
 rw [if_pos ⟨⟨by omega,by omega⟩,by rw [e1];omega⟩]
 refine Zh ?_
 show (Lib.replaceAll p.data.toList [95] [32]).length≤2000
 have e3:Lib.replaceAll p.data.toList [95] [32]=Lib.replaceK [95] [32] (Lib.countB p ⟨#[95]⟩) p.data.toList:=rfl
 rw [e3]
 have:=ZhA [95] 32 (Lib.countB p ⟨#[95]⟩) p.data.toList
 have e4:p.data.toList.length=p.size:=rfl
 omega
theorem Ztq (a b:ByteArray) (h:a.size≤1000000):Tot (Zp a b) fun r=>r=true→b.size≤a.size:=by
 unfold Zp
 refine ZaU (Zq (fun hl=>?_) fun _=>Zh fun h=>by cases h)
 exact Zbf (by omega) (by omega) (by omega) fun m _ _=>Zh fun _=>by omega
theorem ZqU (a b:ByteArray) (h:a.size≤1000000):Tot (ZD a b) fun r=>r=true→b.size≤a.size:=by
 unfold ZD
 exact Zaj (Ztq a b h) fun r hr=>Zh hr
theorem Zlb (a b:ByteArray) (h:a.size≤1000000):Tot (ZaV a b) fun r=>r.size≤a.size:=by
 unfold ZaV Zan
 refine Zaj (Q:=fun r=>r.size≤a.size) (Zaj (Ztq a b h) fun r hr=>?_) fun r hr=>Zh hr
 refine Zai (fun e=>?_) fun _=>Zh (Nat.le_refl _)
 have:=hr e
 exact Zbf (by omega) (by omega) (by omega) fun m _ hm=>Zh (by omega)
theorem Zo7 (a b:ByteArray) (h:a.size≤1000000):Tot (strings_TrimSuffix a b) fun r=>r.size≤a.size:=by
 unfold strings_TrimSuffix Zam
 refine Zaj (Q:=fun r=>r.size≤a.size) (Zaj (Q:=fun r=>r=true→b.size≤a.size) ?_ fun r hr=>?_) fun r hr=>Zh hr
 ·unfold Zat
  refine ZaU (Zq (fun hl=>?_) fun _=>Zh fun h=>by cases h)
  rw [Zbb (by omega) (by omega)]
  exact Zbf (by omega) (by omega) (by omega) fun m _ _=>Zh fun _=>by omega
 ·refine Zai (fun e=>?_) fun _=>Zh (Nat.le_refl _)
  have:=hr e
  rw [Zbb (by omega) (by omega)]
  exact Zbf (by omega) (by omega) (by omega) fun m _ hm=>Zh (by omega)
theorem ZqV (p:ByteArray) (h:p.size≤2000):Tot (Zc1 p) fun r=>r.size≤2000:=by
 unfold Zc1
 refine Zb (v:=()) (by unfold ZqO;rw [if_pos ⟨by omega,by omega,by omega⟩]) ?_
 refine Zar (fun x=>0≤x.1∧x.1≤(p.size:Int)∧(x.2.length:Int)≤x.1) (fun x=>p.size - x.1.toNat) ⟨by simp,by simp,by simp⟩ (by omega) ?_
 rintro ⟨i,l⟩ rec ⟨h0,h1,h2⟩ ih
 dsimp only at h0 h1 h2 ih ⊢
 refine Zq (fun hlt=>?_) fun _=>?_
 ·refine ZaM (fun q=>∀ m:List Int,(m.length:Int)≤i+1→Tot (q m) (fun r=>r.size≤2000)) (fun m hm=>?_) fun k19 h19=>?_
  ·rw [Zbb (by omega) (by omega)]
   exact ih _ ⟨by dsimp only;omega,by dsimp only;omega,by dsimp only;omega⟩ (by dsimp only;omega)
  ·refine ZaM (fun q=>∀ b:Bool,Tot (q b) (fun r=>r.size≤2000)) (fun b=>?_) fun k20 h20=>?_
   ·refine Zai (fun _=>?_) fun _=>h19 _ (by omega)
    refine Zdz h0 hlt fun c _ _ _=>?_
    exact Zkd 3000 (by simp only [List.length_singleton];omega) (by omega) (by omega) (h19 _ (by simp only [List.length_append,List.length_singleton];omega))
   ·refine Zdz h0 hlt fun c _ _ _=>?_
    refine Zc3 (fun _=>h20 _) fun _=>Zq (fun hl=>?_) fun _=>h20 _
    rw [Zbb (by omega) (by omega)]
    exact ZfY (by omega) (by omega) fun e _ _=>h20 _
 ·have hz:(strOfNums l).size=l.length:=strOfNums_size l
  exact Zaj (Zo7 _ _ (by omega)) fun r hr=>Zh (by omega)
theorem Zsm (a:ByteArray) (c:Int) (h:a.size≤1000000):Tot (ZaX a c) fun r=>r.size≤a.size:=by
 unfold ZaX
 refine Zar (fun x=>x.size≤a.size) (fun x=>x.size) (Nat.le_refl _) (by omega) fun x rec hJ ih=>?_
 refine ZaM (fun q=>∀ b:Bool,(b=true→0<x.size)→Tot (q b) (fun r=>r.size≤a.size)) (fun b hb=>?_) fun k hk=>?_
 ·refine Zai (fun e=>?_) fun _=>Zh hJ
  have:=hb e
  exact Zbf (by omega) (by omega) (by omega) fun m _ hm=>ih _ (by omega) (by omega)
 ·refine Zq (fun hl=>?_) fun _=>hk _ fun h=>by cases h
  exact Zdz (by omega) (by omega) fun c _ _ _=>hk _ fun _=>by omega
theorem ZqW (a:ByteArray) (c:Int) (h:a.size≤1000000):Tot (ZaR a c) fun r=>r.size≤a.size:=by
 unfold ZaR
 refine Zar (fun x=>x.size≤a.size) (fun x=>x.size) (Nat.le_refl _) (by omega) fun x rec hJ ih=>?_
 refine ZaM (fun q=>∀ b:Bool,(b=true→0<x.size)→Tot (q b) (fun r=>r.size≤a.size)) (fun b hb=>?_) fun k hk=>?_
 ·refine Zai (fun e=>?_) fun _=>Zh hJ
  have:=hb e
  rw [Zbb (by omega) (by omega)]
  exact Zbf (by omega) (by omega) (by omega) fun m _ hm=>ih _ (by omega) (by omega)
 ·refine Zq (fun hl=>?_) fun _=>hk _ fun h=>by cases h
  rw [Zbb (by omega) (by omega)]
  exact Zdz (by omega) (by omega) fun c _ _ _=>hk _ fun _=>by omega
theorem Ztr (a:ByteArray) (h:a.size≤1000000):Tot (ZbE a ⟨#[32]⟩) fun r=>r.size≤a.size:=by
 unfold ZbE
 refine ZaM (fun q=>∀ b:Bool,Tot (q b) (fun r=>r.size≤a.size)) (fun b=>?_) fun k hk=>Zq (fun _=>hk _) fun _=>hk _
 refine Zai (fun _=>Zh (Nat.le_refl _)) fun _=>ZaU ?_
 refine Zq (fun _=>?_) fun h=>absurd rfl h
 refine Zb (v:=32) rfl ?_
 refine Zai (fun _=>?_) fun h=>by cases h
 exact Zb (v:=32) rfl (Zaj (Zsm a 32 h) fun r hr=>Zh hr)
theorem Zsn (a:ByteArray) (h:a.size≤1000000):Tot (Zbs a ⟨#[32]⟩) fun r=>r.size≤a.size:=by
 unfold Zbs
 refine ZaM (fun q=>∀ b:Bool,Tot (q b) (fun r=>r.size≤a.size)) (fun b=>?_) fun k hk=>Zq (fun _=>hk _) fun _=>hk _
 refine Zai (fun _=>Zh (Nat.le_refl _)) fun _=>ZaU ?_
 refine Zq (fun _=>?_) fun h=>absurd rfl h
 refine Zb (v:=32) rfl ?_
 refine Zai (fun _=>?_) fun h=>by cases h
 exact Zb (v:=32) rfl (Zaj (ZqW a 32 h) fun r hr=>Zh hr)
theorem Zo8 (n:Nat):∀ (l:List ByteArray),(∀ a ∈ l,a.size≤n)→Lib.lens (l.map (·.data.toList))≤n * l.length
 | [],_=>Nat.zero_le _
 | a::l,h=>by
   have h1:=Zo8 n l fun b hb=>h b (List.mem_cons_of_mem _ hb)
   have h2:=h a List.mem_cons_self
   have e:Lib.lens ((a::l).map (·.data.toList))=a.size+Lib.lens (l.map (·.data.toList)):=by simp [Lib.lens]
   rw [e,List.length_cons,Nat.mul_succ]
   omega
theorem Zo9 (p:ByteArray) (h:p.size≤2000):Tot (Zcs p) fun r=>r.size≤10000000:=by
 have hc:=ZlM p
 unfold Zcs strings_Split
 rw [if_pos ⟨⟨by omega,by decide⟩,by omega⟩]
 have hl:=Lib.splitB_all ⟨#[47]⟩ (by decide) 0 _ p rfl
 have hs:=Zgb ⟨#[47]⟩ (Lib.countB p ⟨#[47]⟩) p
 generalize Lib.splitB ⟨#[47]⟩ 0 (Lib.countB p ⟨#[47]⟩) p=L at hl hs ⊢
 refine Zb rfl ?_
 refine Zar (fun x=>0≤x.1∧x.2.length=L.length∧∀ a ∈ x.2,a.size≤2000) (fun x=>L.length - x.1.toNat) ⟨by simp,rfl,fun a ha=>Nat.le_trans (hs a ha) h⟩ (by dsimp only;omega) ?_
 rintro ⟨i,l⟩ rec ⟨h0,h1,h2⟩ ih
 dsimp only at h0 h1 h2 ih ⊢
 refine Zq (fun hlt=>?_) fun _=>?_
 ·refine ZaM (fun q=>∀ m:List ByteArray,m.length=L.length→(∀ a ∈ m,a.size≤2000)→Tot (q m) (fun r=>r.size≤10000000)) (fun m hm hm2=>?_) fun k15 h15=>?_
  ·rw [Zbb (by omega) (by omega)]
   exact ih _ ⟨by dsimp only;omega,hm,hm2⟩ (by dsimp only;omega)
  ·refine ZaM (fun q=>∀ m:List ByteArray,m.length=L.length→(∀ a ∈ m,a.size≤2000)→Tot (q m) (fun r=>r.size≤10000000)) (fun m hm hm2=>?_) fun k16 h16=>?_
   ·rw [Zbb (by omega) (by omega)]
    refine Zq (fun _=>?_) fun _=>h15 _ hm hm2
    refine ZfY h0 (by omega) fun e he hi=>Zaj (Zsn e (by have:=hm2 e he;omega)) fun r hr=>ZfY h0 (by omega) fun _ _ _=>h15 _ ?_ ?_
    ·unfold ZeE
     rw [List.length_set];exact hm
    ·intro a ha
     rcases List.mem_or_eq_of_mem_set ha with ha | rfl
     ·exact hm2 a ha
     ·exact Nat.le_trans hr (hm2 e he)
   ·refine Zq (fun _=>?_) fun _=>h16 _ h1 h2
    refine ZfY h0 (by omega) fun e he hi=>Zaj (Ztr e (by have:=h2 e he;omega)) fun r hr=>ZfY h0 (by omega) fun _ _ _=>h16 _ ?_ ?_
    ·unfold ZeE
     rw [List.length_set];exact h1
    ·intro a ha
     rcases List.mem_or_eq_of_mem_set ha with ha | rfl
     ·exact h2 a ha
     ·exact Nat.le_trans hr (h2 e he)
 ·have hz:(Lib.join (l.map (·.data.toList)) [47]).length≤10000000:=by
   have j2:=Zo8 2000 l h2
   cases l with
   | nil=>exact Nat.zero_le _
   | cons a l=>
     rw [List.map_cons] at j2 ⊢
     rw [Lib.join_length,List.length_map]
     simp only [List.length_cons,List.length_nil] at *
     omega
  unfold strings_Join
  rw [if_pos ⟨⟨by omega,by omega⟩,by exact Nat.le_trans hz (by omega)⟩]
  exact Zb rfl (Zh hz)
theorem Zml {s:List UInt8} {n:Int} {r:List UInt8} (h:ZcJ s=some (n,r)):r.length≤s.length:=by
 unfold ZcJ at h
 split at h
 ·have e:=(Prod.mk.inj (Option.some.inj h)).2
  rw [← e]
  unfold Lib.cut
  split
  ·simp only [List.length_drop];omega
  ·simp
 ·cases h
theorem ZrP {a:ByteArray} (h:a≠⟨#[]⟩):0<a.size:=by
 refine Nat.pos_of_ne_zero fun h0=>h ?_
 obtain ⟨⟨l⟩⟩:=a
 have:l = []:=List.eq_nil_of_length_eq_zero h0
 rw [this]
theorem Zso (p:ByteArray) (h:p.size≤1000):Tot (ZdN p) fun _=>True:=by
 unfold ZdN
 refine Zaj (Zo6 p h) fun r1 h1=>Zaj (ZqV r1 h1) fun r2 h2=>Zaj (ZqU r2 _ (by omega)) fun r3 h3=>?_
 refine ZaM (fun q=>∀ x:ByteArray,x.size≤2000→Tot (q x) (fun _=>True)) (fun x hx=>?_) fun k1 hk1=>?_
 ·refine Zaj (Q:=fun r=>r.2.1.size≤2000) ?_ fun r7 h7=>?_
  ·unfold ZdV
   rw [if_pos (by omega)]
   cases hp:ZcJ x.data.toList with
   | none=>exact Zh (by show 0≤2000;omega)
   | some q=>exact Zh (by have:=Zml hp;have e:x.data.toList.length=x.size:=rfl;show q.2.length≤2000;omega)
  ·refine ZaM (fun q=>∀ (y:ByteArray) (n:Int),y.size≤2000→Tot (q y n) (fun _=>True)) (fun y n hy=>?_) fun k2 hk2=>?_
   ·refine Zaj (Zo9 y hy) fun r11 h11=>?_
    refine ZaM (fun q=>∀ b:Bool,(b=true→r11≠⟨#[]⟩)→Tot (q b) (fun _=>True)) (fun b hb=>?_) fun k3 hk3=>?_
    ·refine ZaM (fun q=>∀ z:ByteArray,Tot (q z) (fun _=>True)) (fun z=>?_) fun k4 hk4=>?_
     ·refine Zq (fun _=>Zh trivial) fun _=>?_
      exact Zb rfl (Zai (fun _=>Zh trivial) fun _=>Zh trivial)
     ·refine Zai (fun e=>?_) fun _=>hk4 _
      have hn:=ZrP (hb e)
      refine Zdz (by omega) (by omega) fun c _ _ _=>?_
      refine Zbf (by omega) (by omega) (by omega) fun m _ hm=>?_
      exact ZqA (by rw [strOfNums_size];simp only [List.length_singleton];omega) fun _=>hk4 _
    ·refine Zc3 (fun hne=>?_) fun _=>hk3 _ fun h=>by cases h
     have hn:=ZrP hne
     refine Zdz (by omega) (by omega) fun c _ _ _=>?_
     refine Zq (fun _=>?_) fun _=>hk3 _ fun h=>by cases h
     exact Zdz (by omega) (by omega) fun c _ _ _=>hk3 _ fun _=>hne
   ·refine Zai (fun _=>?_) fun _=>hk2 _ _ hx
    exact Zaj (Zlb _ _ (by omega)) fun r hr=>hk2 _ _ (by omega)
 ·refine Zai (fun e=>?_) fun _=>hk1 _ h2
  have hz:=h3 e
  have e1:(⟨#[58]⟩:ByteArray).size=1:=rfl
  refine Zbf (by omega) (by omega) (by omega) fun m _ hm=>?_
  exact Zaj (Zlb _ _ (by omega)) fun r hr=>hk1 _ (by omega)
theorem ZsK (p:ByteArray) (h:p.size≤1000000):Tot (Zek p) fun r=>r = -1∨(0≤r∧r<(p.size:Int)):=by
 unfold Zek
 refine Zar (fun i=>0≤i) (fun i=>p.size - i.toNat) (by omega) (by omega) fun i rec h0 ih=>?_
 refine Zq (fun hlt=>?_) fun _=>Zh (.inl rfl)
 refine ZaM (fun q=>∀ b:Bool,Tot (q b) (fun r=>r = -1∨(0≤r∧r<(p.size:Int)))) (fun b=>?_) fun k hk=>?_
 ·refine Zai (fun _=>Zh (.inr ⟨h0,hlt⟩)) fun _=>?_
  rw [Zbb (by omega) (by omega)]
  exact ih _ (by omega) (by omega)
 ·refine Zdz h0 hlt fun c _ _ _=>Zq (fun _=>hk _) fun _=>?_
  refine Zdz h0 hlt fun c _ _ _=>Zq (fun _=>?_) fun _=>hk _
  rw [Zbb (by omega) (by omega)]
  refine Zq (fun h1=>?_) fun _=>hk _
  exact Zdz (by omega) h1 fun c _ _ _=>hk _
theorem ZtC (p c:ByteArray) (h:p.size≤1000000):Tot (strings_Cut p c) fun r=>r.1.size≤p.size:=by
 unfold strings_Cut
 rw [if_pos (by omega)]
 refine Zh ?_
 show (Lib.cut p.data.toList c.data.toList).1.length≤p.size
 have e:p.data.toList.length=p.size:=rfl
 unfold Lib.cut
 split
 ·show (List.take _ _).length≤_
  rw [List.length_take];omega
 ·exact Nat.le_of_eq e
theorem ZtD (p:ByteArray) (h:p.size≤1000):Tot (ZcF p) fun _=>True:=by
 unfold ZcF
 exact Zaj (ZtC p _ (by omega)) fun r1 h1=>Zaj (Zso r1.1 (by omega)) fun r2 _=>Zh trivial
theorem ZpB (p:ByteArray) (h:p.size≤1000000) (h0:0<p.size):Tot (Zcl p) fun _=>True:=by
 unfold Zcl
 refine Zdz (by omega) (by omega) fun c _ _ _=>Zc3 (fun _=>Zh trivial) fun _=>?_
 refine Zbf (by omega) (by omega) (by omega) fun m _ hm=>Zaj (ZtC m _ (by omega)) fun r3 h3=>Zai (fun _=>Zh trivial) fun _=>?_
 refine Zaj (Q:=fun _=>True) ?_ fun r _=>Zh trivial
 unfold ZcX Zde
 rw [if_pos ⟨by omega,rfl⟩]
 exact Zb rfl (Zh trivial)
theorem Zrc (a b:ByteArray):Tot (ZD a b) fun _=>True:=by
 unfold ZD Zp
 refine Zaj (Q:=fun _=>True) ?_ fun r _=>Zh trivial
 exact ZaU (Zq (fun hl=>Zbf (by omega) (by omega) (by omega) fun m _ _=>Zh trivial) fun _=>Zh trivial)
theorem ZtE (a b:ByteArray) (h:a.size≤1000000):Tot (strings_Contains a b) fun _=>True:=by
 unfold strings_Contains
 rw [if_pos (by omega)]
 exact Zh trivial
def ZtY (c d:Nat) (f:Finder):Prop:=f.links.length≤c∧f.members.length≤d
theorem Zua (f:Finder) (s:ByteArray) (h:s.size≤1000) (hl:f.links.length≤100000) (hm:f.members.length≤100000):Tot (ZaE f s) (ZtY (f.links.length+s.size) (f.members.length+s.size)):=by
 unfold ZaE
 refine Zar (fun x=>x.1.size≤s.size∧x.2.1.length+x.1.size≤f.links.length+s.size∧x.2.2.length+x.1.size≤f.members.length+s.size) (fun x=>x.1.size) ⟨Nat.le_refl _,Nat.le_refl _,Nat.le_refl _⟩ (by dsimp only;omega) ?_
 rintro ⟨x,L,M⟩ rec ⟨h1,h2,h3⟩ ih
 dsimp only at h1 h2 h3 ih ⊢
 have e:x.data.toList.length=x.size:=rfl
 refine Zb (v:=Lib.index x.data.toList [91,91]) (by unfold strings_Index;rw [if_pos (by omega)]) ?_
 have r1:=Lib.index_room x.data.toList [91,91]
 simp only [List.length_cons,List.length_nil] at r1
 generalize Lib.index x.data.toList [91,91]=r44 at r1 ⊢
 refine Zq (fun _=>Zh ⟨by dsimp only;omega,by dsimp only;omega⟩) fun hr=>?_
 have r2:=r1 (by omega)
 rw [Zbb (by omega) (by omega),Zbb (by omega) (by omega)]
 refine Zbf (by omega) (by omega) (by omega) fun l45 _ h45=>Zbf (by omega) (by omega) (by omega) fun l46 _ h46=>?_
 refine Zaj (ZsK l45 (by omega)) fun r47 h47=>?_
 refine Zq (fun _=>Zh ⟨by dsimp only;omega,by dsimp only;omega⟩) fun hr47=>?_
 refine Zbf (by omega) (by omega) (by omega) fun l48 _ h48=>?_
 have next:∀ (L':List Link) (M':List Memb),L'.length≤L.length+1→M'.length≤M.length+1→Tot (rec (l46,L',M')) (ZtY (f.links.length+s.size) (f.members.length+s.size)):=fun L' M' hL hM=>ih _ ⟨by dsimp only;omega,by dsimp only;omega,by dsimp only;omega⟩ (by dsimp only;omega)
 refine ZaM (fun q=>∀ b:Bool,Tot (q b) (ZtY (f.links.length+s.size) (f.members.length+s.size))) (fun b=>?_) fun k6 hk6=>?_
 ·refine Zai (fun _=>next _ _ (by omega) (by omega)) fun _=>?_
  refine Zaj (ZtD l48 (by omega)) fun r52 _=>Zc3 (fun _=>next _ _ (by omega) (by omega)) fun _=>?_
  refine ZaM (fun q=>∀ b:Bool,Tot (q b) (ZtY (f.links.length+s.size) (f.members.length+s.size))) (fun b=>?_) fun k7 hk7=>?_
  ·refine Zai (fun _=>?_) fun _=>?_
   ·refine Zbf (by omega) (by omega) (by omega) fun l56 _ h56=>Zaj (ZpB l56 (by omega) (by omega)) fun r57 _=>?_
    exact Zkd 200000 (by simp only [List.length_singleton];omega) (by omega) (by omega) (next _ _ (by omega) (by simp))
   ·exact Zkd 200000 (by simp only [List.length_singleton];omega) (by omega) (by omega) (next _ _ (by simp) (by omega))
  ·refine Zq (fun _=>?_) fun _=>hk7 _
   refine Zb (v:=ZcZ Zpo l48) (by unfold Zbo;rw [if_neg (by decide),if_pos rfl]) ?_
   exact Zaj (Zrc _ _) fun r61 _=>hk7 _
 ·refine Zaj (ZtE l48 _ (by omega)) fun r62 _=>Zai (fun _=>hk6 _) fun _=>?_
  exact Zaj (ZtE l48 _ (by omega)) fun r63 _=>hk6 _
theorem ZrQ (s:List UInt8):∀ n ∈ ZmF s,Zug n:=fun n hn=>by
 unfold ZmF at hn
 split at hn
 ·cases hn
 ·rw [List.mem_singleton.1 hn]
  exact ⟨rfl,rfl,rfl⟩
theorem Zkm (s:List UInt8):(ZmF s).length≤1:=by
 unfold ZmF
 split<;>simp
theorem Zpc (s:List UInt8):Za0 (txt s)=some (ZmF s):=by
 rw [Zoc]
 exact ZiG _
theorem Zsp (s:List UInt8) (hs:s.length≤1000):∃ f,f.links.length≤1000∧f.members.length≤1000∧∀ m,ZT (m+1) ⟨[],[]⟩ (ZmF s)=some f:=by
 by_cases h:s = []
 ·subst h
  exact ⟨⟨[],[]⟩,by simp,by simp,fun m=>Zkq m _ _ (by simp [ZmF])⟩
 ·obtain ⟨f,h1,h2,h3⟩:=Zua ⟨[],[]⟩ (bs s) hs (by simp) (by simp)
  have z:(bs s).size=s.length:=rfl
  rw [z] at h2 h3
  simp only [List.length_nil,Nat.zero_add] at h2 h3
  refine ⟨f,by omega,by omega,fun m=>?_⟩
  rw [Zkq m _ _ (by have:=Zkm s;omega)]
  unfold ZmF
  rw [if_neg h]
  show ((Zg9 m ⟨[],[]⟩ ⟨1,0,bs s,[],[]⟩).bind fun c'=>some c')=_
  unfold Zg9
  rw [if_pos rfl,h1]
  rfl
theorem Zsq (t:Int) (h2:¬ t=2) {s:List UInt8} {f:Finder} (h:∀ m,ZT (m+1) ⟨[],[]⟩ (ZmF s)=some f):ZT 64 ⟨[],[]⟩ [⟨6,t,⟨#[]⟩,txt s,[]⟩]=some f:=by
 rw [Zkq 63 _ _ (by simp)]
 show ((Zg9 63 ⟨[],[]⟩ ⟨6,t,⟨#[]⟩,txt s,[]⟩).bind fun c'=>some c')=_
 unfold Zg9
 rw [if_neg (show ¬ (6:Int)=1 by decide),if_pos ⟨rfl,h2⟩,Zpc]
 show ((ZT 63 ⟨[],[]⟩ (ZmF s)).bind fun c'=>some c')=_
 rw [h 62]
 rfl
theorem ZqX (t:Int) (s:List UInt8) (f:Finder):Zj 64 f [⟨6,t,⟨#[]⟩,txt s,[]⟩]=some f:=by
 refine Zmo (m:=63) (by simp) (Zf3 fun n hn=>?_)
 rw [List.mem_singleton.1 hn]
 unfold ZfA
 split
 ·rfl
 ·unfold ZhZ
  rw [if_neg (show ¬ (6:Int)=4 by decide),Zpc]
  show ((Zj 63 f (ZmF s)).bind fun f=>(ZiF []).bind fun l=>if l.length≤4611686018427387900 then Zgz (Zha 63) l f else none)=_
  rw [Zk7 (m:=61) (by have:=Zkm s;omega) (ZrQ s)]
  rfl
theorem Zts (s:List UInt8) (h:Lib.occAt s [35,82,69,68,73,82,69,67,84] 0=false):Za4 (bs s)=some (⟨0,⟨#[]⟩⟩,false):=by
 refine ZaQ ?_
 unfold Za4 Za7 ZY
 have hp:Zp (bs s) ⟨#[35,82,69,68,73,82,69,67,84]⟩=some false:=by
  have:=Zfl s [35,82,69,68,73,82,69,67,84]
  rw [show ([35,82,69,68,73,82,69,67,84]:List UInt8).isPrefixOf s=false from h] at this
  exact this
 rw [hp]
 exact Zb (v:=(bs s,false)) rfl (Zai (fun _=>Zh rfl) fun h=>by cases h)
theorem Ztt (L:List Link) (h:L.length≤1000000):Zb0 L L=some true:=by
 refine ZaQ ?_
 unfold Zb0
 refine Zc3 (fun h=>absurd rfl h) fun _=>?_
 refine Zar (fun i=>0≤i) (fun i=>L.length - i.toNat) (by omega) (by omega) fun i rec h0 ih=>?_
 refine Zq (fun hlt=>?_) fun _=>Zh rfl
 refine ZfY h0 hlt fun e _ he=>Zb (v:=e) ?_ (Zc3 (fun h=>absurd rfl h) fun _=>?_)
 ·unfold atI
  rw [if_pos h0]
  exact he
 ·rw [Zbb (by omega) (by omega)]
  exact ih _ (by omega) (by omega)
theorem Ztu (L:List Memb) (h:L.length≤1000000):Zbt L L=some true:=by
 refine ZaQ ?_
 unfold Zbt
 refine Zc3 (fun h=>absurd rfl h) fun _=>?_
 refine Zar (fun i=>0≤i) (fun i=>L.length - i.toNat) (by omega) (by omega) fun i rec h0 ih=>?_
 refine Zq (fun hlt=>?_) fun _=>Zh rfl
 refine ZfY h0 hlt fun e _ he=>Zb (v:=e) ?_ (Zc3 (fun h=>absurd rfl h) fun _=>?_)
 ·unfold atI
  rw [if_pos h0]
  exact he
 ·rw [Zbb (by omega) (by omega)]
  exact ih _ (by omega) (by omega)
theorem Zle {α:Type} (eq:α→α→Bool):∀ l:List α,(ZhN eq l).length≤l.length:=by
 have h:∀ (l:List α) (x:α),(ZeZ eq x l).length≤l.length:=by
  intro l
  induction l with
  | nil=>intro x;exact Nat.le_refl _
  | cons y l ih=>
    intro x
    show (if eq y x=true then ZeZ eq y l else y::ZeZ eq y l).length≤_
    split
    ·exact Nat.le_succ_of_le (ih y)
    ·exact Nat.succ_le_succ (ih y)
 intro l
 cases l with
 | nil=>exact Nat.le_refl _
 | cons x l=>exact Nat.succ_le_succ (h l x)
theorem ZnF (s c:ByteArray) (h:s.size≤1000000):strings_Contains s c=some (Lib.contains s.data.toList c.data.toList):=by
 unfold strings_Contains
 rw [if_pos (by omega)]
theorem Zsr (n:Int):ZnP .and .i64 n 1=0∨ZnP .and .i64 n 1=1:=by
 show IntKind.i64.wrap ((BitVec.ofInt 64 n &&& BitVec.ofInt 64 1).toNat:Int)=0∨IntKind.i64.wrap ((BitVec.ofInt 64 n &&& BitVec.ofInt 64 1).toNat:Int)=1
 have e:(BitVec.ofInt 64 n &&& BitVec.ofInt 64 1).toNat=(BitVec.ofInt 64 n).toNat % 2:=by
  rw [BitVec.toNat_and]
  exact Nat.and_one_is_mod _
 rw [e]
 rcases Nat.mod_two_eq_zero_or_one (BitVec.ofInt 64 n).toNat with h | h<;>rw [h]
 ·exact .inl (by decide)
 ·exact .inr (by decide)
theorem ZqY (p:ByteArray) (n:Int):Zdj p n=some true:=by
 have hp:p=bs p.data.toList:=rfl
 generalize hs:p.data.toList=s at hp
 have hz:p.size=s.length:=by rw [hp];rfl
 refine ZaQ ?_
 unfold Zdj
 refine ZaM (fun q=>Tot (q true) (fun r=>r=true)∧(s.length≤400→ZmE s→Lib.occAt s [35,82,69,68,73,82,69,67,84] 0=false→Tot (q false) (fun r=>r=true))) ⟨?_,fun h400 hpl hnr=>?_⟩ fun q hq=>?_
 ·exact Zai (fun _=>Zb ZoE (Zh rfl)) fun h=>by cases h
 ·refine Zai (fun h=>by cases h) fun _=>?_
  obtain ⟨t,ht,h2,hat⟩:∃ t:Int,(t=1∨t=2∨t=3)∧(¬ t=2)∧atI [(⟨#[110,111,105,110,99,108,117,100,101,62]⟩:ByteArray),(⟨#[111,110,108,121,105,110,99,108,117,100,101,62]⟩:ByteArray)] (ZnP .and .i64 n 1)=some (bs (Zoa t ++ [62])):=by
   have hb:ZnP .and .i64 n 1=0∨ZnP .and .i64 n 1=1:=Zsr n
   rcases hb with e | e
   ·exact ⟨1,.inl rfl,by decide,by rw [e];rfl⟩
   ·exact ⟨3,.inr (.inr rfl),by decide,by rw [e];rfl⟩
  obtain ⟨f,f1,f2,hf⟩:=Zsp s (by omega)
  have hSL:=ZX (le:=leC Zd6) f.links
  have hSM:=ZX (le:=leM) f.members
  have o1:Zck (bs s)=some (ZhN (fun a b=>decide (a=b)) (Zae (leC Zd6) f.links),ZhN (fun a b=>decide (a.category=b.category)) (Zae leM f.members),0):=
   ZrN (ZlZ s hpl (by omega)) (hf 63) (Zk7 (m:=62) (by have:=Zkm s;omega) (ZrQ s)) (Zts s hnr)
    (by unfold ZaF;rw [if_pos (by omega)]) (ZhG _ (by omega)) (Zgs _ (by omega)) (Zgr _ (by omega))
  have o2:Zck (bs (tO t++(s++tC t)))=some (ZhN (fun a b=>decide (a=b)) (Zae (leC Zd6) f.links),ZhN (fun a b=>decide (a.category=b.category)) (Zae leM f.members),0):=
   ZrN (Zod t ht s hpl (by omega)) (Zsq t h2 hf) (ZqX t s f) (Zt7 60 _ (by decide))
    (by unfold ZaF;rw [if_pos (by omega)]) (ZhG _ (by omega)) (Zgs _ (by omega)) (Zgr _ (by omega))
  have c1:=Zle (fun a b=>decide (a=b)) (Zae (leC Zd6) f.links)
  have c2:=Zle (fun a b:Memb=>decide (a.category=b.category)) (Zae leM f.members)
  have hn:(Zoa t).length≤20:=by rcases ht with rfl | rfl | rfl<;>decide
  refine Zb hat ?_
  rw [hp]
  refine Zb o1 ?_
  refine Zb (v:=bs ([60]++(Zoa t ++ [62]))) (Zd9 [60] _ (by simp only [List.length_append,List.length_singleton];omega)) ?_
  refine Zb (Zd9 ([60]++(Zoa t ++ [62])) s (by simp only [List.length_append,List.length_singleton];omega)) ?_
  refine Zb (v:=bs ([60]++(Zoa t ++ [62])++s ++ [60,47])) (Zd9 _ [60,47] (by simp only [List.length_append,List.length_cons,List.length_nil];omega)) ?_
  refine Zb (Zd9 _ _ (by simp only [List.length_append,List.length_cons,List.length_nil];omega)) ?_
  have e5 : [60]++(Zoa t ++ [62])++s ++ [60,47]++(Zoa t ++ [62])=tO t++(s++tC t):=by unfold tO tC;simp only [List.append_assoc]
  rw [e5]
  refine Zb o2 (ZaU ?_)
  refine Zq (fun _=>?_) fun h=>absurd rfl h
  refine Zq (fun _=>?_) fun h=>absurd rfl h
  refine Zb (Ztt _ (by dsimp only;omega)) (Zai (fun _=>?_) fun h=>by cases h)
  refine Zb (Ztu _ (by dsimp only;omega)) (Zai (fun _=>?_) fun h=>by cases h)
  exact Zb ZoE (Zh rfl)
 ·refine Zq (fun _=>hq.1) fun h4=>?_
  have h400:s.length≤400:=by omega
  refine Zb (v:=Lib.containsAny s [60,123,125]) ?_ (Zai (fun _=>hq.1) fun ha=>?_)
  ·unfold Zbx
   rw [if_pos ⟨by omega,.inr rfl⟩,hs]
  have hpl:ZmE s:=fun c hc=>by
   have h1:=ZrJ ha c hc
   refine ⟨fun e=>?_,fun e=>?_,fun e=>?_⟩<;>(subst e;cases h1)
  refine Zb (ZnF p _ (by omega)) (Zai (fun _=>hq.1) fun h1=>?_)
  rw [hs] at h1
  have h0:=Zmb h1 0 (by omega)
  refine Zb (v:=(Lib.countB p ⟨#[91,91]⟩:Int)) (by unfold ZcQ;rw [if_pos ⟨by omega,by decide⟩]) ?_
  cases decide (15<(Lib.countB p ⟨#[91,91]⟩:Int)) with
  | true=>exact hq.1
  | false=>exact hq.2 h400 hpl h0
end Go.Proofs.YtmgfammllddkhaaGreatDoor
namespace Go.Proofs.YtmgfammllddkhaaGreatDoor
open Go.RowKit Go.ChangeShapes Go.WideShapes Go.Deep
end Go.Proofs.YtmgfammllddkhaaGreatDoor

namespace Go.Proofs.YtmgfammllddkhaaGreatDoor
open VL Go.RowKit Go.ChangeShapes Go.WideShapes
theorem ZtW {W:World} (hG:Zs1 W) (W':World) (hb:Below W.heap.size W W'):WInv.I Tryz.prog W':=
 ⟨hG.imp fun _ hm=>re1 hb (ZcO hm) hm,trivial⟩
end Go.Proofs.YtmgfammllddkhaaGreatDoor
namespace Go.Proofs.YtmgfammllddkhaaGreatDoor
open VL Go.RowKit
theorem Zt3 {x:Ctx} (i:Nat) (p:PV) (v:Value) (hp:([]:List PV)[i]? = some p) (hv:([]:List Value)[i]? = some v):Rep x p v:=by simp at hp
theorem Ztf {x:Ctx} {p:PV} {v:Value} {ps:List PV} {vs:List Value} (h:Rep x p v) (r:∀ (i:Nat) (p:PV) (v:Value),ps[i]? = some p→vs[i]? = some v→Rep x p v) (i:Nat) (q:PV) (w:Value) (hp:(p::ps)[i]? = some q) (hv:(v::vs)[i]? = some w):Rep x q w:=by
 cases i with
 | zero=>injection hp with hp;injection hv with hv;subst hp hv;exact h
 | succ i=>exact r i q w (by simpa using hp) (by simpa using hv)
theorem Zt4 {x:Ctx} {ps:List PV} {vs:List Value} (r:∀ (i:Nat) (p:PV) (v:Value),ps[i]? = some p→vs[i]? = some v→Rep x p v) (i:Nat) (p:PV) (v:Value) (hp:ps[i]? = some p) (hv:vs.toArray[i]? = some v):Rep x p v:=r i p v hp (by simpa using hv)
theorem Zj5 (i0:ByteArray) (i1:Int) (W:World)  (hI:∀ W',Below W.heap.size W W'→WInv.I Tryz.prog W') :
  Calls Tryz.prog 8 #[.string i0,.int .i64 i1] W fun e w'=>e = .returned (.bool true)∧Below W.heap.size W w':=
 Znp (ZiQ i0 i1 true (ZqY i0 i1 )) rfl (fun i p v hp hv=>Zt4 (vs:=[.string i0,.int .i64 i1]) (Ztf (.str _) (Ztf (.int _ _) Zt3)) i p v hp hv) hI
end Go.Proofs.YtmgfammllddkhaaGreatDoor
