/- The library's stable sorting at memberships: merging in place, whatever the lengths. | slices.SortStableFunc at memberships is the stable sorting. | slices.Compact and CompactFunc: runs of equals become one. | The reference's way to put an element into a sorted list. | Sorted and compacted lists: what is in them, and the first of each kind. | The groups of a user: the reference's Groups ends. | The tape's views: they are made; their texts are not long. | Arrays of six strings. | Functions of the program as Lean functions. Written by fxgen.py. | strings.Join, as the others are written: of no strings too. | Functions of the program as Lean functions. Written by fxgen.py. | title.Parse answers at any bytes. | links.finder's literal answers at any bytes. | links.finder's own and templates as folds over the nodes. | The scanner on lists of bytes: the first token, all tokens. | All tokens of a text. | Weights of nodes and of the parser's stack: nothing grows by more than the texts that are taken. | The parser's steps return, and what they return is of bounded weight. | The parser returns: the braces, a token, all tokens. | The parser returns a tree for every text of at most 8192 bytes. | What links.finder finds is good: titles that are valid, kinds, spaces. | Members of categories in a view: what the program finds is what the law counts. -/
import Derived.Test.YtpffimahajgiaaaGreatDoorVM11
import Derived.Test.YtpffimahajgiaaaGreatDoorVM09
import Derived.Test.YtpffimahajgiaaaGreatDoorVM04
import Derived.Test.YtpffimahajgiaaaGreatDoorVM10
import Derived.Test.YtpffimahajgiaaaGreatDoorVM05
import Derived.Test.YtpffimahajgiaaaGreatDoorVM06
import Derived.Test.YtpffimahajgiaaaGreatDoorVM07
import Derived.Test.YtpffimahajgiaaaGreatDoorVM08
import Derived.Test.YtpffimahajgiaaaGreatDoorVM03
set_option maxRecDepth 100000
namespace Go.Proofs.YtpffimahajgiaaaGreatDoor
open VL
open Go.Sort
theorem ZhQ {A B:List Memb} (h:Srt (A++B)):Srt A/\Srt B:=⟨(List.pairwise_append.1 h).1,(List.pairwise_append.1 h).2.1⟩
structure Part (U V A B C D:List Memb):Prop where
 u:U=A++B
 v:V=C++D
 l:∀ u ∈ A,∀ v ∈ D,leM u v=true
 r:∀ v ∈ C,∀ u ∈ B,leM u v=false
theorem ZuC {U V:List Memb} (hU:Srt U) (hV:Srt V) (i k:Nat) (hi:i<=U.length) (hk:k<=V.length) (h1:i=0\/k=V.length\/∃ u v,U[i-1]? = some u/\V[k]? = some v/\leM u v=true) (h2:i=U.length\/k=0\/∃ u v,U[i]? = some u/\V[k-1]? = some v/\leM u v=false) :
  Part U V (U.take i) (U.drop i) (V.take k) (V.drop k):=by{
refine ⟨(List.take_append_drop _ _).symm,(List.take_append_drop _ _).symm,fun u hu v hv=>?_,fun v hv u hu=>?_⟩
rcases h1 with rfl | rfl | ⟨x,y,hx,hy,hxy⟩
simp at hu
simp at hv
have e1:U.take i=U.take (i-1) ++ [x]:=by
 have hlt:=(List.getElem?_eq_some_iff.1 hx).1
 cases i with
 | zero=>simp at hu
 | succ i=>
   rw [List.take_add_one]
   simp only [Nat.add_sub_cancel] at hx ⊢
   rw [hx]
   rfl
have e2:V.drop k=y::V.drop (k+1):=by
 obtain ⟨hlt,he⟩:=List.getElem?_eq_some_iff.1 hy
 rw [List.drop_eq_getElem_cons hlt,he]
have a1:leM u x=true\/u=x:=by
 rw [e1] at hu
 rcases List.mem_append.1 hu with hu | hu
 have s:=(ZhQ (A:=U.take i) (B:=U.drop i) (by rw [List.take_append_drop];exact hU)).1
 rw [e1] at s
 exact .inl ((List.pairwise_append.1 s).2.2 u hu x (by simp))
 exact .inr (List.mem_singleton.1 hu)
have a2:leM y v=true\/v=y:=by
 rw [e2] at hv
 rcases List.mem_cons.1 hv with hv | hv
 exact .inr hv
 have s:=(ZhQ (A:=V.take k) (B:=V.drop k) (by rw [List.take_append_drop];exact hV)).2
 rw [e2] at s
 exact .inl ((List.pairwise_cons.1 s).1 v hv)
have a3:leM u y=true:=by
 rcases a1 with a1 | rfl
 exact Zbw _ _ _ a1 hxy
 exact hxy
rcases a2 with a2 | rfl
exact Zbw _ _ _ a3 a2
exact a3
rcases h2 with rfl | rfl | ⟨x,y,hx,hy,hxy⟩
simp at hu
simp at hv
have e1:U.drop i=x::U.drop (i+1):=by
 obtain ⟨hlt,he⟩:=List.getElem?_eq_some_iff.1 hx
 rw [List.drop_eq_getElem_cons hlt,he]
have e2:V.take k=V.take (k-1) ++ [y]:=by
 cases k with
 | zero=>simp at hv
 | succ k=>
   rw [List.take_add_one]
   simp only [Nat.add_sub_cancel] at hy ⊢
   rw [hy]
   rfl
have a1:leM x u=true\/u=x:=by
 rw [e1] at hu
 rcases List.mem_cons.1 hu with hu | hu
 exact .inr hu
 have s:=(ZhQ (A:=U.take i) (B:=U.drop i) (by rw [List.take_append_drop];exact hU)).2
 rw [e1] at s
 exact .inl ((List.pairwise_cons.1 s).1 u hu)
have a2:leM v y=true\/v=y:=by
 rw [e2] at hv
 rcases List.mem_append.1 hv with hv | hv
 have s:=(ZhQ (A:=V.take k) (B:=V.drop k) (by rw [List.take_append_drop];exact hV)).1
 rw [e2] at s
 exact .inl ((List.pairwise_append.1 s).2.2 v hv y (by simp))
 exact .inr (List.mem_singleton.1 hv)
cases h:leM u v with
| false=>rfl
| true=>
  exfalso
  have b1:leM x v=true:=by
   rcases a1 with a1 | rfl
   exact Zbw _ _ _ a1 h
   exact h
  have b2:leM x y=true:=by
   rcases a2 with a2 | rfl
   exact Zbw _ _ _ b1 a2
   exact b1
  rw [hxy] at b2
  cases b2}
theorem ZwF {P U V S:List Memb} {i:Nat} {u:Memb} (h:U[i]? = some u):∃ A B,P++U++V++S=A++u::B/\A.length=P.length+i:=by{
obtain ⟨hl,he⟩:=List.getElem?_eq_some_iff.1 h
refine ⟨P++U.take i,U.drop (i+1)++V++S,?_,by rw [List.length_append,List.length_take];omega⟩
have:U=U.take i++u::U.drop (i+1):=by rw [<- he,<- List.drop_eq_getElem_cons hl,List.take_append_drop]
conv=>lhs;rw [this]
simp}
theorem ZwG {P U V S:List Memb} {i:Nat} {v:Memb} (h:V[i]? = some v):∃ A B,P++U++V++S=A++v::B/\A.length=P.length+U.length+i:=by{
obtain ⟨hl,he⟩:=List.getElem?_eq_some_iff.1 h
refine ⟨P++U++V.take i,V.drop (i+1)++S,?_,by rw [List.length_append,List.length_append,List.length_take];omega⟩
have:V=V.take i++v::V.drop (i+1):=by rw [<- he,<- List.drop_eq_getElem_cons hl,List.take_append_drop]
conv=>lhs;rw [this]
simp}
theorem Zsz:∀ (f:Nat) (P U V S:List Memb) (_:Srt U) (_:Srt V) (_:0<U.length) (_:0<V.length) (_:(P++U++V++S).length<=1000000) (_:U.length+V.length<=2 ^ f) (a m b:Int) (_:a=(P.length:Int)) (_:m=((P++U).length:Int)) (_:b=((P++U++V).length:Int)),
  Zp f (P++U++V++S) a m b=some (P++Zal leM U V++S)
 | 0,P,U,V,S,_,_,hU0,hV0,_,hf,_,_,_,_,_,_=>by simp at hf;omega
 | f+1,P,U,V,S,hU,hV,hU0,hV0,hL,hf,a,m,b,ha,hm,hb=>by
   by_cases hU1:U.length=1
   ·obtain ⟨x,rfl⟩:=List.length_eq_one_iff.1 hU1
    exact Zsu f P V S x hV hL a m b ha hm hb
   by_cases hV1:V.length=1
   ·obtain ⟨y,rfl⟩:=List.length_eq_one_iff.1 hV1
    exact Zqe f P U S y hU hU1 hL a m b ha hm hb
   simp only [List.length_append] at hL hm hb
   refine ZaI ?_
   unfold Zp
   rw [show w64 (m-a)=(U.length:Int) by rw [ZeR (by omega) (by omega) (by omega) (by omega)];omega,show w64 (b-m)=(V.length:Int) by rw [ZeR (by omega) (by omega) (by omega) (by omega)];omega]
   refine Zh (fun h=>absurd h (by omega)) fun _=>Zh (fun h=>absurd h (by omega)) fun _=>?_
   rw [ZdT (by omega) (by omega) (by omega) (by omega)]
   refine Zoi (by omega) (by omega) fun mid hmid hw=>?_
   rw [hw]
   have en:w64 (mid+m)=mid+m:=ZdT (by omega) (by omega) (by omega) (by omega)
   rw [en]
   have tail:∀ (s:Int) (A B C D:List Memb),Part U V A B C D->s=(P.length:Int)+(A.length:Int)->mid+m-s=(P.length:Int)+(U.length:Int)+(C.length:Int)->Tot (letk (fun (x352:Bool)=>
     letk (fun (x354:List Memb)=>
      letk (fun (x355:Bool)=>
       letk (fun (x357:List Memb)=>
        letk (fun (x358:Bool)=>
         if x358 then
          (Zp f x357 mid (mid+m-s) b).bind fun r359=>
          (some r359:Option (List Memb))
         else
         (some x357:Option (List Memb))) fun k24=>
        if (decide (mid<mid+m-s)) then
         k24 (decide (mid+m-s<b))
        else
        k24 false) fun k23=>
       if x355 then
        (Zp f x354 a s mid).bind fun r360=>
        k23 r360
       else
       k23 x354) fun k22=>
      if (decide (a<s)) then
       k22 (decide (s<mid))
      else
      k22 false) fun k21=>
     if x352 then
      (ZW (P++U++V++S) s m (mid+m-s)).bind fun r361=>
      k21 r361
     else
     k21 (P++U++V++S)) fun k20=>
    if (decide (s<m)) then
     k20 (decide (m<mid+m-s))
    else
    k20 false) fun r=>r=P++Zal leM U V++S:=by
    intro s A B C D hp hs he
    have lU:U.length=A.length+B.length:=by rw [hp.u,List.length_append]
    have lV:V.length=C.length+D.length:=by rw [hp.v,List.length_append]
    have hsU:=ZhQ (by rw [<- hp.u];exact hU)
    have hsV:=ZhQ (by rw [<- hp.v];exact hV)
    have pw:(2:Nat) ^ (f+1)=2 * 2 ^ f:=by rw [Nat.pow_succ,Nat.mul_comm]
    have hfin:P++Zal leM U V++S=P++Zal leM A C++Zal leM B D++S:=by
     rw [hp.u,hp.v,Zcz A B C D hp.l hp.r]
     simp
    rw [hfin]
    refine ZZ (fun q=>∀ t,(t=true->0<B.length/\0<C.length)->(t=false->B = []\/C = [])->Tot (q t) fun r=>r=P++Zal leM A C++Zal leM B D++S) (fun t ht1 ht2=>?_) fun q hq=>?_
    ·
     refine ZZ (fun q=>Tot (q (P++A++C++B++D++S)) fun r=>r=P++Zal leM A C++Zal leM B D++S) ?_ fun q hq=>?_
     ·refine ZZ (fun q=>∀ t,(t=true->0<A.length/\0<C.length)->(t=false->A = []\/C = [])->Tot (q t) fun r=>r=P++Zal leM A C++Zal leM B D++S) (fun t ht1 ht2=>?_) fun q hq=>?_
      ·
       refine ZZ (fun q=>Tot (q (P++Zal leM A C++B++D++S)) fun r=>r=P++Zal leM A C++Zal leM B D++S) ?_ fun q hq=>?_
       ·refine ZZ (fun q=>∀ t,(t=true->0<B.length/\0<D.length)->(t=false->B = []\/D = [])->Tot (q t) fun r=>r=P++Zal leM A C++Zal leM B D++S) (fun t ht1 ht2=>?_) fun q hq=>?_
        ·refine ZN (fun h=>?_) fun h=>?_
         ·obtain ⟨b1,b2⟩:=ht1 h
          have hl:=ZrG (le:=leM) A C
          refine Zb (Zsz f (P++Zal leM A C) B D S hsU.2 hsV.2 b1 b2 (by simp only [List.length_append];omega) (by omega) mid (mid+m-s) b (by simp only [List.length_append];omega) (by simp only [List.length_append];omega) (by simp only [List.length_append];omega)) (Zc rfl)
         ·refine Zc ?_
          rcases ht2 h with rfl | rfl
          ·show _=P++Zal leM A C++D++S
           simp
          ·rw [ZbY];simp
        ·refine Zh (fun h=>?_) fun h=>?_
         ·by_cases h2:mid+m-s<b
          ·rw [decide_eq_true h2]
           exact hq true (fun _=>by omega) fun h=>by cases h
          ·rw [decide_eq_false h2]
           exact hq false (fun h=>by cases h) fun _=>.inr (List.eq_nil_of_length_eq_zero (by omega))
         ·exact hq false (fun h=>by cases h) fun _=>.inl (List.eq_nil_of_length_eq_zero (by omega))
       ·refine ZN (fun h=>?_) fun h=>?_
        ·obtain ⟨b1,b2⟩:=ht1 h
         have e:P++A++C++B++D++S=P++A++C++(B++D++S):=by simp
         rw [e]
         refine Zb (Zsz f P A C (B++D++S) hsU.1 hsV.1 b1 b2 (by simp only [List.length_append];omega) (by omega) a s mid ha (by simp only [List.length_append];omega) (by simp only [List.length_append];omega)) ?_
         have e2:P++Zal leM A C++(B++D++S)=P++Zal leM A C++B++D++S:=by simp
         rw [e2]
         exact hq
        ·have e:P++A++C++B++D++S=P++Zal leM A C++B++D++S:=by
          rcases ht2 h with rfl | rfl
          ·show _=P++C++B++D++S
           simp
          ·rw [ZbY];simp
         rw [e]
         exact hq
      ·refine Zh (fun h=>?_) fun h=>?_
       ·by_cases h2:s<mid
        ·rw [decide_eq_true h2]
         exact hq true (fun _=>by omega) fun h=>by cases h
        ·rw [decide_eq_false h2]
         exact hq false (fun h=>by cases h) fun _=>.inr (List.eq_nil_of_length_eq_zero (by omega))
       ·exact hq false (fun h=>by cases h) fun _=>.inl (List.eq_nil_of_length_eq_zero (by omega))
     ·refine ZN (fun h=>?_) fun h=>?_
      ·obtain ⟨b1,b2⟩:=ht1 h
       have e:P++U++V++S=(P++A)++B++C++(D++S):=by rw [hp.u,hp.v];simp
       rw [e]
       refine Zb (Zsq (P++A) B C (D++S) b1 b2 (by simp only [List.length_append];omega) s m (mid+m-s) (by simp only [List.length_append];omega) (by simp only [List.length_append];omega) (by simp only [List.length_append];omega)) ?_
       have e2:(P++A)++C++B++(D++S)=P++A++C++B++D++S:=by simp
       rw [e2]
       exact hq
      ·have e:P++U++V++S=P++A++C++B++D++S:=by
        rw [hp.u,hp.v]
        rcases ht2 h with rfl | rfl<;>simp
       rw [e]
       exact hq
    ·refine Zh (fun h=>?_) fun h=>?_
     ·by_cases h2:m<mid+m-s
      ·rw [decide_eq_true h2]
       exact hq true (fun _=>by omega) fun h=>by cases h
      ·rw [decide_eq_false h2]
       exact hq false (fun h=>by cases h) fun _=>.inr (List.eq_nil_of_length_eq_zero (by omega))
     ·exact hq false (fun h=>by cases h) fun _=>.inl (List.eq_nil_of_length_eq_zero (by omega))
   refine ZZ (fun q=>∀ lo hi:Int,lo<=hi->a<=lo->hi<=m->hi<=mid\/hi=m->(lo=a/\m<=mid/\hi=m\/lo=mid+m-b/\mid<m/\hi=mid)->Tot (q lo hi) fun r=>r=P++Zal leM U V++S) (fun lo hi hlh hlo hhi hhm hcase=>?_) fun q hq=>?_
   ·refine ZS (fun x=>lo<=x.1/\x.1<=x.2/\x.2<=hi/\(x.1=lo\/∃ u v,U[(x.1-1-a).toNat]? = some u/\V[(mid-x.1).toNat]? = some v/\leM u v=true)/\(x.2=hi\/∃ u v,U[(x.2-a).toNat]? = some u/\V[(mid-1-x.2).toNat]? = some v/\leM u v=false)) (fun x=>(x.2-x.1).toNat) ⟨Int.le_refl _,hlh,Int.le_refl _,.inl rfl,.inl rfl⟩ (by dsimp only;omega) ?_
    rintro ⟨st,r⟩ rec ⟨k1,k2,k3,k4,k5⟩ ih
    dsimp only at k1 k2 k3 k4 k5 ih ⊢
    refine Zh (fun hlt=>?_) fun hge=>?_
    ·rw [ZdT (by omega) (by omega) (by omega) (by omega)]
     refine Zoi (by omega) (by omega) fun c hc hwc=>?_
     rw [hwc]
     have c1:(c-a).toNat<U.length:=by omega
     have c2:(mid-1-c).toNat<V.length:=by omega
     obtain ⟨A1,B1,d1,n1⟩:=ZwF (P:=P) (U:=U) (V:=V) (S:=S) (List.getElem?_eq_getElem c1)
     obtain ⟨A2,B2,d2,n2⟩:=ZwG (P:=P) (U:=U) (V:=V) (S:=S) (List.getElem?_eq_getElem c2)
     rw [show w64 (mid+m-1)=mid+m-1 from ZeR (by omega) (by omega) (by omega) (by omega),show w64 (mid+m-1-c)=mid+m-1-c from ZeR (by omega) (by omega) (by omega) (by omega)]
     refine Zb (Zbc d2 (by omega)) (Zb (Zbc d1 (by omega)) (Zb (ZoS _ _) ?_))
     by_cases hcm:ZeH V[(mid-1-c).toNat] U[(c-a).toNat]<0
     ·rw [decide_eq_true hcm]
      refine ZN (fun h=>by cases h) fun _=>?_
      exact ih _ ⟨k1,by dsimp only;omega,by dsimp only;omega,k4,.inr ⟨_,_,List.getElem?_eq_getElem c1,List.getElem?_eq_getElem c2,Zl2 hcm⟩⟩ (by dsimp only;omega)
     ·rw [decide_eq_false hcm]
      refine ZN (fun _=>?_) fun h=>by cases h
      rw [ZdT (by omega) (by omega) (by omega) (by omega)]
      refine ih _ ⟨by dsimp only;omega,by dsimp only;omega,k3,.inr ⟨_,_,?_,?_,Zi6 hcm⟩,k5⟩ (by dsimp only;omega)
      ·dsimp only
       rw [show (c+1-1-a).toNat=(c-a).toNat by omega]
       exact List.getElem?_eq_getElem c1
      ·dsimp only
       rw [show (mid-(c+1)).toNat=(mid-1-c).toNat by omega]
       exact List.getElem?_eq_getElem c2
    ·obtain rfl:st=r:=by omega
     have e2:w64 (mid+m-st)=mid+m-st:=ZeR (by omega) (by omega) (by omega) (by omega)
     rw [e2]
     refine tail st _ _ _ _ (ZuC hU hV (st-a).toNat (mid-st).toNat (by omega) (by omega) ?_ ?_) ?_ ?_
     ·rcases k4 with rfl | ⟨u,v,q1,q2,q3⟩
      ·rcases hcase with h | h
       ·exact .inl (by omega)
       ·exact .inr (.inl (by omega))
      ·exact .inr (.inr ⟨u,v,by rw [show (st-a).toNat-1=(st-1-a).toNat by omega];exact q1,q2,q3⟩)
     ·rcases k5 with rfl | ⟨u,v,q1,q2,q3⟩
      ·rcases hcase with h | h
       ·exact .inl (by omega)
       ·exact .inr (.inl (by omega))
      ·exact .inr (.inr ⟨u,v,q1,by rw [show (mid-st).toNat-1=(mid-1-st).toNat by omega];exact q2,q3⟩)
     ·rw [List.length_take]
      omega
     ·rw [List.length_take]
      omega
   ·refine Zh (fun h=>?_) fun h=>?_
    ·rw [ZeR (by omega) (by omega) (by omega) (by omega)]
     exact hq _ _ (by omega) (by omega) (by omega) (.inl (by omega)) (.inr ⟨rfl,h,rfl⟩)
    ·exact hq _ _ (by omega) (by omega) (by omega) (.inr rfl) (.inl ⟨rfl,by omega,rfl⟩)
def sbk (n:Nat) (L:List Memb):List Memb:=if _h:0<n/\n<=L.length then Zar leM (L.take n)++sbk n (L.drop n) else Zar leM L
 termination_by L.length
 decreasing_by rw [List.length_drop];omega
theorem Zh5 {n:Nat} {L:List Memb} (h0:0<n) (h:n<=L.length):sbk n L=Zar leM (L.take n)++sbk n (L.drop n):=by
 rw [sbk,dif_pos ⟨h0,h⟩]
theorem ZgU {n:Nat} {L:List Memb} (h:L.length<=n):sbk n L=Zar leM L:=by{
rw [sbk]
split
rename_i h1
have:n=L.length:=by omega
rw [this,List.take_length,List.drop_length]
rw [sbk,dif_neg (fun h=>by have h2:=h.1;have h3:=h.2;simp only [List.length_nil] at h3;omega)]
exact List.append_nil _
rfl}
theorem ZqU (n:Nat):∀ (k:Nat) (L:List Memb),L.length<=k->(sbk n L).length=L.length
 | 0,L,h=>by
   rw [ZgU (by omega),Zah]
 | k+1,L,h=>by
   by_cases h1:0<n/\n<=L.length
   rw [Zh5 h1.1 h1.2,List.length_append,Zah,ZqU n k (L.drop n) (by rw [List.length_drop];omega),List.length_take,List.length_drop]
   omega
   rw [sbk,dif_neg h1,Zah]
theorem isrt (L:List Memb):Srt (Zar leM L):=ZfQ Zbw Zge L
theorem ZmL (A B:List Memb):Zal leM (Zar leM A) (Zar leM B)=Zar leM (A++B):=(Zgc Zbw Zge A B).symm
theorem Zs9 (L:List Memb) (hL:L.length<=1000000):Zag L (L.length:Int)=some (Zar leM L):=by{
refine ZaI ?_
unfold Zag
refine ZS (fun x=>∃ R E:List Memb,x.1=(R.length:Int)/\x.2.1=(R.length:Int)+20/\x.2.2=R++E/\R++sbk 20 E=sbk 20 L/\R.length+E.length=L.length) (fun x=>L.length-x.1.toNat) ⟨[],L,rfl,rfl,rfl,rfl,by simp⟩ (by dsimp only;omega) ?_
rintro ⟨a,b,l⟩ rec ⟨R,E,ha,hb,hl,hR,hlen⟩ ih
dsimp only at ha hb hl ih ⊢
refine Zh (fun hle=>?_) fun hgt=>?_
have h20:20<=E.length:=by omega
have e:l=R++E.take 20++E.drop 20:=by rw [hl,List.append_assoc,List.take_append_drop]
have ht:(E.take 20).length=20:=by rw [List.length_take];omega
rw [e]
refine Zb (Zwz R (E.take 20) (E.drop 20) (by rw [<- e,hl,List.length_append];omega) a b ha (by rw [List.length_append];omega)) ?_
rw [ZdT (by omega) (by omega) (by omega) (by omega)]
refine ih _ ⟨R++Zar leM (E.take 20),E.drop 20,by dsimp only;rw [List.length_append,Zah];omega,by dsimp only;rw [List.length_append,Zah];omega,rfl,?_,by rw [List.length_append,Zah,List.length_drop];omega⟩ (by dsimp only;omega)
rw [<- hR,Zh5 (by decide) h20,List.append_assoc]
have e:l=R++E ++ []:=by rw [hl,List.append_nil]
rw [e]
refine Zb (Zwz R E [] (by rw [<- e,hl,List.length_append];omega) a _ ha (by rw [List.length_append];omega)) ?_
rw [List.append_nil,<- ZgU (n:=20) (L:=E) (by omega),hR]
clear ih hR e hl ha hb hgt hlen rec
refine ZS (fun x=>∃ n:Nat,0<n/\n<=2000000/\x.1=(n:Int)/\x.2=sbk n L) (fun x=>2000000-x.1.toNat) ⟨20,by decide,by decide,rfl,rfl⟩ (by dsimp only;omega) ?_
rintro ⟨bsz,l⟩ rec ⟨n,hn0,hn1,hbn,hl⟩ ih
dsimp only at hbn hl ih ⊢
refine Zh (fun hlt=>?_) fun hge=>?_
have e2:w64 (2 * bsz)=2 * bsz:=ZaH
rw [e2]
refine ZS (fun x=>∃ R E:List Memb,x.1=(R.length:Int)/\x.2.1=(R.length:Int)+2 * (n:Int)/\x.2.2=R++sbk n E/\R++sbk (2 * n) E=sbk (2 * n) L/\R.length+E.length=L.length) (fun x=>L.length-x.1.toNat) ⟨[],L,rfl,by dsimp only;simp;omega,by rw [hl];rfl,rfl,by simp⟩ (by dsimp only;omega) ?_
rintro ⟨a,b,l2⟩ rec2 ⟨R,E,ha,hb,hl2,hR,hlen⟩ ih2
dsimp only at ha hb hl2 ih2 ⊢
have eA:w64 (a+bsz)=a+bsz:=ZdT (by omega) (by omega) (by omega) (by omega)
refine Zh (fun hle=>?_) fun hgt=>?_
have h2n:2 * n<=E.length:=by omega
have t1:(E.take n).length=n:=by rw [List.length_take];omega
have t2:((E.drop n).take n).length=n:=by rw [List.length_take,List.length_drop];omega
have e:l2=R++Zar leM (E.take n)++Zar leM ((E.drop n).take n)++sbk n (E.drop (2 * n)):=by
 rw [hl2,Zh5 hn0 (by omega),Zh5 hn0 (by rw [List.length_drop];omega),List.drop_drop,show n+n=2 * n by omega]
 simp only [List.append_assoc]
have hd:(sbk n (E.drop (2 * n))).length=E.length-2 * n:=by rw [ZqU n _ _ (Nat.le_refl _),List.length_drop]
rw [eA,e]
refine Zb (Zsz 64 R _ _ _ (isrt _) (isrt _) (by rw [Zah];omega) (by rw [Zah];omega) (by simp only [List.length_append,Zah];omega) (by rw [Zah,Zah];omega) a (a+bsz) b ha (by rw [List.length_append,Zah];omega) (by simp only [List.length_append,Zah];omega)) ?_
have et:E.take n++(E.drop n).take n=E.take (2 * n):=by rw [show 2 * n=n+n by omega,List.take_add]
rw [ZmL,et,show w64 (b+2 * bsz)=b+2 * bsz from ZaH]
have t3:(E.take (2 * n)).length=2 * n:=by rw [List.length_take];omega
refine ih2 _ ⟨R++Zar leM (E.take (2 * n)),E.drop (2 * n),by dsimp only;rw [List.length_append,Zah];omega,by dsimp only;rw [List.length_append,Zah];omega,rfl,?_,by rw [List.length_append,Zah,List.length_drop];omega⟩ (by dsimp only;omega)
rw [<- hR,Zh5 (n:=2 * n) (by omega) h2n,List.append_assoc]
have go:l2=R++sbk (2 * n) E->Tot (rec (w64 (bsz * 2),l2)) fun r=>r=Zar leM L:=fun h=>by
 rw [show w64 (bsz * 2)=bsz * 2 from ZaH]
 exact ih _ ⟨2 * n,by omega,by omega,by dsimp only;omega,by dsimp only;rw [h,hR]⟩ (by dsimp only;omega)
refine ZZ (fun q=>∀ l3,l3=R++sbk (2 * n) E->Tot (q l3) fun r=>r=Zar leM L) (fun l3 h3=>?_) fun q hq=>?_
rw [show w64 (bsz * 2)=bsz * 2 from ZaH]
exact ih _ ⟨2 * n,by omega,by omega,by dsimp only;omega,by dsimp only;rw [h3,hR]⟩ (by dsimp only;omega)
rw [eA]
refine Zh (fun hlt2=>?_) fun hge2=>?_
have t1:(E.take n).length=n:=by rw [List.length_take];omega
have t2:(E.drop n).length=E.length-n:=List.length_drop
have e:l2=R++Zar leM (E.take n)++Zar leM (E.drop n) ++ []:=by
 rw [hl2,Zh5 hn0 (by omega),ZgU (n:=n) (L:=E.drop n) (by omega)]
 simp only [List.append_assoc,List.append_nil]
rw [e]
refine Zb (Zsz 64 R _ _ _ (isrt _) (isrt _) (by rw [Zah];omega) (by rw [Zah];omega) (by simp only [List.length_append,Zah,List.length_nil];omega) (by rw [Zah,Zah];omega) a (a+bsz) _ ha (by rw [List.length_append,Zah];omega) (by simp only [List.length_append,Zah];omega)) ?_
refine hq _ ?_
rw [ZmL,List.take_append_drop,List.append_nil,ZgU (n:=2 * n) (by omega)]
refine hq _ ?_
rw [hl2,ZgU (n:=n) (L:=E) (by omega),ZgU (n:=2 * n) (by omega)]
refine Zc ?_
rw [hl,ZgU (by omega)]}
theorem ZmM (L:List Memb) (hL:L.length<=1000000):ZU L=some (Zar leM L):=by
 unfold ZU
 rw [Zs9 L hL]
 rfl
end Go.Proofs.YtpffimahajgiaaaGreatDoor
namespace Go.Proofs.YtpffimahajgiaaaGreatDoor
open VL
def Zi5 {α:Type} (eq:α->α->Option Bool) (z:α) (p0:List α):Option (List α):=if (decide ((p0.length:Int)<2)) then (some p0:Option (List α)) else ZaF Zcp (fun f82 (x570:Int)=>if (decide (x570<(p0.length:Int))) then (atI p0 x570).bind fun e784=>(atI p0 (w64 (x570-1))).bind fun e785=>(eq e784 e785).bind fun r=>if r then (ZpR p0 x570).bind fun _=>ZaF Zcp (fun f97 ((x830,x831,x832):Int×Int×(List α))=>if (decide (x831<(Zvz x832 x570))) then letk (fun (x847:Int) (x848:List α)=>f97 (x847,(w64 (x831+1)),x848)) fun k98=>(atQ x832 x570 x831).bind fun e849=>(atQ x832 x570 (w64 (x831-1))).bind fun e850=>(eq e849 e850).bind fun r=>if (!r) then (atQ x832 x570 x831).bind fun e851=>(atI x832 x830).bind fun _=>k98 (w64 (x830+1)) (Zfo x832 x830 e851) else k98 x830 x832 else (ZpR x832 x830).bind fun _=>(Zkf (ZuS x832 x830 z) 0 x830).bind fun l854=>(some l854:Option (List α))) (x570,1,p0) else f82 (w64 (x570+1)) else (some p0:Option (List α))) 1
def Zd2 {α:Type} (eq:α->α->Bool):α->List α->List α | _,[]=>[] | x,y::l=>if eq y x=true then Zd2 eq y l else y::Zd2 eq y l
def Zj7 {α:Type} (eq:α->α->Bool):List α->List α | []=>[] | x::l=>x::Zd2 eq x l
theorem Zld {α:Type} {eq:α->α->Bool} (y z:α):∀ (x:α) (A:List α),Zd2 eq x (A ++ [z] ++ [y])=Zd2 eq x (A ++ [z])++(if eq y z=true then [] else [y])
 | x,[]=>by
   show (if eq z x=true then Zd2 eq z [y] else z::Zd2 eq z [y])=(if eq z x=true then [] else [z])++_
   have:Zd2 eq z [y]=if eq y z=true then [] else [y]:=rfl
   rw [this]
   split<;>rfl
 | x,a::A=>by
   show (if eq a x=true then Zd2 eq a (A ++ [z] ++ [y]) else a::Zd2 eq a (A ++ [z] ++ [y]))=(if eq a x=true then Zd2 eq a (A ++ [z]) else a::Zd2 eq a (A ++ [z]))++_
   rw [Zld y z a A]
   split<;>rfl
theorem Zgw {α:Type} {eq:α->α->Bool} (A:List α) (z y:α):Zj7 eq (A ++ [z] ++ [y])=Zj7 eq (A ++ [z])++(if eq y z=true then [] else [y]):=by{
cases A with
| nil=>
  show z::Zd2 eq z [y] = [z]++_
  rfl
| cons a A=>
  show a::Zd2 eq a (A ++ [z] ++ [y])=a::Zd2 eq a (A ++ [z])++_
  rw [Zld]
  rfl}
theorem Zn0 {α:Type} {l A B:List α} {x:α} {q i:Int} (h:l=A++x::B) (h0:0<=q) (h1:0<=i) (hn:q+i=(A.length:Int)):atQ l q i=some x:=by
 unfold atQ
 rw [if_pos ⟨h0,h1⟩]
 exact Zbc h hn
theorem Zm9 {α:Type} (eqM:α->α->Option Bool) (eq:α->α->Bool) (heq:∀ a b,eqM a b=some (eq a b)) (z0:α) (L:List α) (hL:L.length<=1000000):Zi5 eqM z0 L=some (Zj7 eq L):=by{
refine ZaI ?_
unfold Zi5
refine Zh (fun h=>?_) fun h=>?_
refine Zc ?_
match L,h with
| [],_=>rfl
| [x],_=>rfl
| x::y::l,h=>simp only [List.length_cons] at h;omega
refine ZS (fun x=>∃ A z B,L=A++z::B/\x=(A.length:Int)+1/\Zj7 eq (A ++ [z])=A ++ [z]) (fun x=>L.length-x.toNat) ?_ (by omega) ?_
cases L with
| nil=>simp only [List.length_nil] at h;omega
| cons x l=>exact ⟨[],x,l,rfl,rfl,rfl⟩
rintro k rec ⟨A,z,B,hd,hk,hc⟩ ih
have lL:L.length=A.length+1+B.length:=by rw [hd];simp only [List.length_append,List.length_cons];omega
refine Zh (fun hlt=>?_) fun hge=>?_
obtain ⟨y,B,rfl⟩:∃ y B',B=y::B':=by
 cases B with
 | nil=>simp only [List.length_nil] at lL;omega
 | cons y B'=>exact ⟨y,B',rfl⟩
simp only [List.length_cons] at lL
have d1:L=(A ++ [z])++y::B:=by rw [hd];simp
rw [ZeR (by omega) (by omega) (by omega) (by omega)]
refine Zb (Zbc d1 (by simp only [List.length_append,List.length_singleton];omega)) (Zb (Zbc hd (by omega)) (Zb (heq y z) (ZN (fun hyz=>?_) fun hyz=>?_)))
have hs:ZpR L k=some ():=by
 unfold ZpR
 rw [if_pos ⟨by omega,by omega⟩]
refine Zb hs ?_
refine ZS (fun x=>∃ K J L1 z B,x.2.2=K++J++z::B/\L=L1++z::B/\x.1=(K.length:Int)/\K.length+J.length=L1.length/\1<=x.2.1/\k+x.2.1=(L1.length:Int)+1/\Zj7 eq (L1 ++ [z])=K) (fun x=>L.length-x.2.1.toNat)
 ⟨A ++ [z],[],A ++ [z],y,B,by dsimp only;rw [d1];simp,d1,by dsimp only;simp only [List.length_append,List.length_singleton];omega,by simp,by dsimp only;omega,by dsimp only;simp only [List.length_append,List.length_singleton];omega,by rw [Zgw,hc,if_pos hyz,List.append_nil]⟩ (by dsimp only;omega) ?_
rintro ⟨kd,k2,l⟩ rec2 ⟨K,J,L1,u,C,hl,hLd,hkd,hlen,h1,hk2,hK⟩ ih2
dsimp only at hl hkd h1 hk2 ih2 ⊢
have lC:L.length=L1.length+1+C.length:=by rw [hLd];simp only [List.length_append,List.length_cons];omega
have ll:l.length=L.length:=by rw [hl];simp only [List.length_append,List.length_cons];omega
have hq:Zvz l k=(L.length:Int)-k:=by unfold Zvz;rw [ll];omega
rw [hq]
refine Zh (fun hlt2=>?_) fun hge2=>?_
obtain ⟨v,C,rfl⟩:∃ v C',C=v::C':=by
 cases C with
 | nil=>simp only [List.length_nil] at lC;omega
 | cons v C'=>exact ⟨v,C',rfl⟩
simp only [List.length_cons] at lC
have e1:l=(K++J ++ [u])++v::C:=by rw [hl];simp
have n1:k+k2=((K++J ++ [u]).length:Int):=by simp only [List.length_append,List.length_singleton];omega
have n2:k+(k2-1)=((K++J).length:Int):=by simp only [List.length_append];omega
have hLd2:L=(L1 ++ [u])++v::C:=by rw [hLd];simp
refine ZaM ?_
rw [ZeR (by omega) (by omega) (by omega) (by omega),ZdT (a:=k2) (by omega) (by omega) (by omega) (by omega)]
refine Zb (Zn0 e1 (by omega) (by omega) n1) (Zb (Zn0 hl (by omega) (by omega) n2) (Zb (heq v u) ?_))
cases hvu:eq v u with
| false=>
  refine ZN (fun _=>?_) fun h=>by cases h
  obtain ⟨w,J2,hJ⟩:∃ w J2,J ++ [u]=w::J2:=by
   cases J with
   | nil=>exact ⟨u,[],rfl⟩
   | cons w J2=>exact ⟨w,J2 ++ [u],rfl⟩
  have lJ:J.length+1=J2.length+1:=by have:=congrArg List.length hJ;simpa using this
  have e2:l=K++w::(J2++v::C):=by rw [e1,List.append_assoc K J [u],hJ];simp
  refine Zb (Zn0 e1 (by omega) (by omega) n1) (Zb (Zbc e2 hkd) ?_)
  dsimp only
  rw [ZdT (by omega) (by omega) (by omega) (by omega)]
  refine ih2 _ ⟨K ++ [v],J2,L1 ++ [u],v,C,?_,hLd2,by dsimp only;simp only [List.length_append,List.length_singleton];omega,by simp only [List.length_append,List.length_singleton];omega,by dsimp only;omega,by dsimp only;simp only [List.length_append,List.length_singleton];omega,?_⟩ (by dsimp only;omega)
  dsimp only
  rw [Zfm e2 hkd]
  simp
  rw [Zgw,hK,hvu]
  rfl
| true=>
  refine ZN (fun h=>by cases h) fun _=>?_
  dsimp only
  refine ih2 _ ⟨K,J ++ [u],L1 ++ [u],v,C,by dsimp only;rw [hl];simp,hLd2,hkd,by simp only [List.length_append,List.length_singleton];omega,by dsimp only;omega,by dsimp only;simp only [List.length_append,List.length_singleton];omega,?_⟩ (by dsimp only;omega)
  rw [Zgw,hK,hvu]
  exact List.append_nil _
have hC:C = []:=List.eq_nil_of_length_eq_zero (by omega)
subst hC
have hs2:ZpR l kd=some ():=by
 unfold ZpR
 rw [if_pos ⟨by omega,by omega⟩]
refine Zb hs2 ?_
have hcl:ZuS l kd z0=K++List.replicate (l.length-K.length) z0:=by
 unfold ZuS
 rw [hkd,Int.toNat_natCast,hl]
 congr 1
 rw [List.append_assoc,List.take_left]
refine Zb (v:=K) ?_ (Zc ?_)
rw [hcl]
unfold Zkf
rw [if_pos ⟨by omega,by omega,by rw [hkd,List.length_append];omega⟩,hkd]
simp
rw [<- hK,hLd]
rw [ZdT (by omega) (by omega) (by omega) (by omega)]
refine ih _ ⟨A ++ [z],y,B,d1,by simp only [List.length_append,List.length_singleton];omega,?_⟩ (by omega)
rw [Zgw,hc,if_neg (by rw [hyz];decide)]
have hB:B = []:=List.eq_nil_of_length_eq_zero (by omega)
subst hB
refine Zc ?_
rw [hd,hc]}
theorem ZlW:ZaX=Zi5 (fun a b=>some (decide (a=b))) ⟨0,⟨0,⟨#[]⟩⟩⟩:=rfl
theorem ZlX:Zaf=Zi5 Zeg ⟨⟨0,⟨#[]⟩⟩,⟨#[]⟩⟩:=rfl
theorem ZlY (L:List Link) (hL:L.length<=1000000):ZaX L=some (Zj7 (fun a b=>decide (a=b)) L):=by
 rw [ZlW]
 exact Zm9 _ _ (fun _ _=>rfl) _ L hL
theorem ZlZ (L:List Memb) (hL:L.length<=1000000):Zaf L=some (Zj7 (fun a b=>decide (a.category=b.category)) L):=by
 rw [ZlX]
 exact Zm9 _ _ (fun _ _=>rfl) _ L hL
set_option linter.unusedVariables false
def Zvx {α:Type} (w:Nat) (bf:α->α->Option Bool) (eq:α->α->Bool) (p0:List α) (p1:α):Option (List α):=ZaF Zcp (fun f7 (x22:Int)=>letk (fun (x30:Bool)=>if x30 then f7 (w64 (x22+1)) else letk (fun (x32:Bool)=>if x32 then (some p0:Option (List α)) else (Zkf p0 0 x22).bind fun l33=>(ZeI w [] l33).bind fun l34=>(ZeI w l34 [p1]).bind fun l35=>(Zkf p0 x22 (p0.length:Int)).bind fun l36=>(ZeI w l35 l36).bind fun l37=>(some l37:Option (List α))) fun k9=>if (decide (x22<(p0.length:Int))) then (atI p0 x22).bind fun e38=>k9 (eq e38 p1) else k9 false) fun k8=>if (decide (x22<(p0.length:Int))) then (atI p0 x22).bind fun e39=>(bf e39 p1).bind fun r40=>k8 r40 else k8 false) 0
theorem Zqm {α:Type} {A B:List α} {y:α} {n:Nat} (h:A.length=n):atI (A++y::B) (n:Int)=some y:=by
 unfold atI
 rw [if_pos (by omega),Int.toNat_natCast,List.getElem?_append_right (by omega),h,Nat.sub_self]
 rfl
theorem ZtS {α κ:Type} [DecidableEq κ] {c:κ->κ->Int} {key:α->κ} (w:Nat) {bf:α->α->Option Bool} {eq:α->α->Bool} (hb:∀ a b,bf a b=some (decide (c (key a) (key b)<0))) (he:∀ a b,eq a b=decide (key a=key b)) (hw:w<=80) (l:List α) (x:α) (h:l.length<=1000000):Zvx w bf eq l x=some (ZoF c key l x):=by{
obtain ⟨A,B,rfl,hA,_,hcase⟩:=Zf2 c key l x
rw [List.length_append] at h
refine ZaI ?_
unfold Zvx
refine ZS (fun i=>∃ n:Nat,i=(n:Int)/\n<=A.length) (fun i=>A.length-i.toNat) ⟨0,rfl,Nat.zero_le _⟩ (by omega) ?_
rintro i rec ⟨n,rfl,hn⟩ ih
have hlen:((A++B).length:Int)=(A.length:Int)+(B.length:Int):=by rw [List.length_append];omega
refine ZZ (fun q=>(n<A.length->Tot (q true) fun z=>z=ZoF c key (A++B) x)/\(n=A.length->Tot (q false) fun z=>z=ZoF c key (A++B) x)) ⟨fun hlt=>ZN (fun _=>?_) (fun h=>by cases h),fun hl=>ZN (fun h=>by cases h) fun _=>?_⟩ fun k8 hk8=>?_
rw [ZaH]
exact ih _ ⟨n+1,by omega,hlt⟩ (by omega)
subst hl
refine ZZ (fun q=>((∃ y b,B=y::b/\key y=key x)->Tot (q true) fun z=>z=ZoF c key (A++B) x)/\((∀ y b,B=y::b->¬ key y=key x)->Tot (q false) fun z=>z=ZoF c key (A++B) x)) ⟨fun ⟨y,b,h1,h2⟩=>ZN (fun _=>Zc ?_) (fun h=>by cases h),fun hno=>ZN (fun h=>by cases h) fun _=>?_⟩ fun k9 hk9=>?_
rcases hcase with ⟨rfl,_⟩ | ⟨y',b',rfl,_,⟨_,e⟩ | ⟨hk,_⟩⟩
cases h1
exact e.symm
injection h1 with h3 h4
subst h3
exact absurd h2 hk
have e:A++x::B=ZoF c key (A++B) x:=by
 rcases hcase with ⟨rfl,e⟩ | ⟨y',b',rfl,_,⟨hk,_⟩ | ⟨_,e⟩⟩
 rw [e,List.append_nil]
 exact absurd hk (hno y' b' rfl)
 exact e.symm
have s1:Zkf (A++B) 0 (A.length:Int)=some A:=by
 unfold Zkf
 rw [if_pos ⟨by omega,by omega,by omega⟩]
 simp
have s2:Zkf (A++B) (A.length:Int) ((A++B).length:Int)=some B:=by
 unfold Zkf
 rw [if_pos ⟨by omega,by omega,by omega⟩,Int.toNat_natCast,Int.toNat_natCast,List.drop_left,List.take_of_length_le (by rw [List.length_append];omega)]
have cap:∀ u v:List α,u.length+v.length<=1000001->ZeI w u v=some (u++v):=fun u v h=>Zl3 1000001 h (Nat.le_trans (Nat.mul_le_mul_left _ hw) (by decide)) (by decide)
refine Zb s1 (Zb (cap _ _ (by simp;omega)) (Zb (cap _ _ (by simp;omega)) (Zb s2 (Zb (cap _ _ (by simp;omega)) (Zc ?_)))))
rw [<- e]
simp
cases B with
| nil=>exact Zh (fun h=>absurd h (by simp)) fun _=>hk9.2 fun y b h=>by cases h
| cons y b=>
  refine Zh (fun _=>Zb (Zqm rfl) ?_) fun h=>absurd (by rw [hlen,List.length_cons];omega) h
  rw [he]
  by_cases hk:key y=key x
  rw [decide_eq_true hk]
  exact hk9.1 ⟨y,b,rfl,hk⟩
  rw [decide_eq_false hk]
  refine hk9.2 fun y' b' h=>?_
  injection h with h1 h2
  rw [<- h1]
  exact hk
by_cases hlt:n<A.length
obtain ⟨A1,y,A2,e,h1⟩:∃ A1 y A2,A=A1++y::A2/\A1.length=n:=⟨A.take n,A[n],A.drop (n+1),by rw [<- List.drop_eq_getElem_cons hlt,List.take_append_drop],by rw [List.length_take];omega⟩
refine Zh (fun _=>Zb (v:=y) (by rw [e,List.append_assoc];exact Zqm h1) (Zb (hb y x) ?_)) fun h=>absurd (by rw [hlen];omega) h
rw [decide_eq_true (hA y (by rw [e];simp))]
exact hk8.1 hlt
have hn2:n=A.length:=by omega
cases B with
| nil=>exact Zh (fun h=>absurd h (by rw [hlen];simp;omega)) fun _=>hk8.2 hn2
| cons y b=>
  refine Zh (fun _=>Zb (Zqm hn2.symm) (Zb (hb y x) ?_)) fun h=>absurd (by rw [hlen,List.length_cons];omega) h
  rcases hcase with ⟨h,_⟩ | ⟨y',b',h,hy,_⟩
  cases h
  injection h with h3 h4
  subst h3
  rw [decide_eq_false hy]
  exact hk8.2 hn2}
theorem Zi9 {α:Type} {eq:α->α->Bool}:∀ (l:List α) (x e:α),e ∈ Zd2 eq x l->e ∈ l
 | [],x,e,h=>by cases h
 | y::l,x,e,h=>by
   have h:e ∈ (if eq y x=true then Zd2 eq y l else y::Zd2 eq y l):=h
   split at h
   exact List.mem_cons_of_mem _ (Zi9 l y e h)
   rcases List.mem_cons.1 h with rfl | h
   exact List.mem_cons_self
   exact List.mem_cons_of_mem _ (Zi9 l y e h)
theorem Zn9 {α κ:Type} [DecidableEq κ] {le:α->α->Bool} (key:α->κ) (ha:∀ a b,le a b=true->le b a=true->key a=key b) (hk:∀ a b,key a=key b->∀ c,le c a=le c b/\le a c=le b c) :
  ∀ (l:List α) (x:α),(x::l).Pairwise (fun a b=>le a b=true)->(x::Zd2 (fun a b=>decide (key a=key b)) x l).Pairwise fun a b=>¬ key a=key b
 | [],x,_=>List.pairwise_singleton _ _
 | y::l,x,h=>by
   obtain ⟨h1,h2⟩:=List.pairwise_cons.1 h
   have ih:=Zn9 key ha hk l y h2
   show (x::(if decide (key y=key x)=true then Zd2 (fun a b=>decide (key a=key b)) y l else y::Zd2 (fun a b=>decide (key a=key b)) y l)).Pairwise _
   obtain ⟨i1,i2⟩:=List.pairwise_cons.1 ih
   by_cases hy:key y=key x
   rw [if_pos (decide_eq_true hy)]
   exact List.pairwise_cons.2 ⟨fun e he=>by rw [<- hy];exact i1 e he,i2⟩
   rw [if_neg (by rw [decide_eq_false hy];decide)]
   refine List.pairwise_cons.2 ⟨fun e he=>?_,ih⟩
   rcases List.mem_cons.1 he with rfl | he
   exact fun h=>hy h.symm
   intro hxe
   have hle:=(List.pairwise_cons.1 h2).1 e (Zi9 l y e he)
   have hxy:=h1 y List.mem_cons_self
   rw [<- ((hk x e hxe y).1)] at hle
   exact hy (ha y x hle hxy)
theorem Zse {α κ:Type} [DecidableEq κ] {le:α->α->Bool} (key:α->κ) (ha:∀ a b,le a b=true->le b a=true->key a=key b) (hk:∀ a b,key a=key b->∀ c,le c a=le c b/\le a c=le b c) (l:List α) (h:l.Pairwise (fun a b=>le a b=true)):(Zj7 (fun a b=>decide (key a=key b)) l).Pairwise fun a b=>¬ key a=key b:=by
 cases l with
 | nil=>exact .nil
 | cons x l=>exact Zn9 key ha hk l x h
theorem Zoa {κ:Type} [DecidableEq κ]:∀ (l r:List κ),l.Nodup->(∀ x ∈ l,x ∈ r)->l.length<=r.length
 | [],r,_,_=>Nat.zero_le _
 | x::l,r,hn,h=>by
   obtain ⟨h1,h2⟩:=List.nodup_cons.1 hn
   have hx:=h x List.mem_cons_self
   have:=Zoa l (r.erase x) h2 fun y hy=>(List.mem_erase_of_ne (fun e=>h1 (by rw [<- e];exact hy))).2 (h y (List.mem_cons_of_mem _ hy))
   rw [List.length_erase_of_mem hx] at this
   have:=List.length_pos_of_mem hx
   rw [List.length_cons]
   omega
abbrev cB (a b:ByteArray):Int:=Lib.compareBytes a.data.toList b.data.toList
theorem Zvl (a b:ByteArray):ltS a b=decide (cB a b<0):=by{
unfold ltS cB
rw [ByteArray.toList_eq,ByteArray.toList_eq,ZnM]
by_cases h:Op.bytesLess a.data.toList b.data.toList=true
rw [if_pos h,h];rfl
rw [if_neg h,Bool.eq_false_iff.2 h]
by_cases e:a.data.toList=b.data.toList
rw [if_pos e];rfl
rw [if_neg e];rfl}
theorem Zvm:Zg0=Zvx 16 (fun a b=>some (ltS a b)) (fun e x=>decide (e=x)):=by
 funext p0 p1
 unfold Zg0 Zvx
 simp only [Option.bind_some]
theorem ZrJ (l:List ByteArray) (t:ByteArray) (h:l.length<=1000000) (hl:Asc cB (fun x=>x) l):Tot (Zg0 l t) fun r=>(Asc cB (fun x=>x) r/\l.length<=r.length)/\∀ x ∈ r,x ∈ l\/x=t:=by{
refine ⟨ZoF cB (fun x=>x) l t,?_,⟨Zu6 ZgQ hl t,?_⟩,?_⟩
rw [Zvm]
exact ZtS (key:=fun x:ByteArray=>x) 16 (fun a b=>congrArg some (Zvl a b)) (fun _ _=>rfl) (by decide) l t h
all_goals
 obtain ⟨A,B,hl,_,_,hc⟩:=Zf2 cB (fun x=>x) l t
rcases hc with ⟨_,e⟩ | ⟨y,b,hB,_,⟨_,e⟩ | ⟨_,e⟩⟩
rw [e];simp
rw [e];exact Nat.le_refl _
rw [e,hl,hB];simp
intro x hx
rcases hc with ⟨_,e⟩ | ⟨y,b,hB,_,⟨_,e⟩ | ⟨_,e⟩⟩
rw [e] at hx
simpa using hx
rw [e] at hx
exact .inl hx
rw [e] at hx
rw [hl,hB]
simp only [List.mem_append,List.mem_cons] at hx ⊢
rcases hx with h | h | h | h
exact .inl (.inl h)
exact .inr h
exact .inl (.inr (.inl h))
exact .inl (.inr (.inr h))}
theorem ZrK (g:Group) (u:ByteArray) (L:List ByteArray) (hu:u.size<=4611686018427387904) (hm:g.members.length<=1000000):Tot (Zet g u L) fun _=>True:=by{
unfold Zet
refine ZS (fun i=>0<=i/\i<=(g.members.length:Int)) (fun i=>g.members.length-i.toNat) ⟨by omega,by omega⟩ (by omega) ?_
rintro i rec ⟨h0,h1⟩ ih
refine Zh (fun hlt=>?_) fun _=>Zc trivial
refine Zcb h0 hlt fun e _ _=>?_
refine ZZ (fun q=>∀ b,Tot (q b) fun _=>True) (fun b=>ZN (fun _=>Zc trivial) fun _=>?_) fun k hk=>?_
rw [ZaH]
exact ih _ ⟨by omega,by omega⟩ (by omega)
have hn:Zfc u=some (ZcI u):=if_pos hu
have ha:Tot (if (decide (0<(e.size:Int)))=true then (atS e 0).bind fun c=>if (decide (c=64))=true then (ZfI e 1 (e.size:Int)).bind fun l=>(ZlH L l).bind fun r=>k r else k false else k false) fun _=>True:=by
 refine Zh (fun hp=>ZdN (by omega) hp fun c _ _ _=>?_) fun _=>hk _
 refine Zh (fun _=>ZaT (by omega) (by omega) (by omega) fun m _ _=>?_) fun _=>hk _
 exact Zb (v:=ZqI L m) rfl (hk _)
refine Zb hn (ZN (fun _=>Zh (fun _=>hk _) fun _=>ha) fun _=>ha)}
theorem ZpI (P:Policy) (u:ByteArray) (hu:u.size<=4611686018427387904) (hg:P.groups.length<=100000) (hm:∀ g ∈ P.groups,g.members.length<=1000000):Tot (Zfb P u) fun _=>True:=by{
have key:∀ l:List ByteArray,Asc cB (fun x=>x) l->(∀ x ∈ l,x ∈ (⟨#[97,108,108]⟩:ByteArray)::⟨#[117,115,101,114,115]⟩::P.groups.map Group.name)->l.length<=P.groups.length+2:=fun l h1 h2=>by
 have h:=Zoa l _ (h1.imp fun h=>Zwh ZgQ h) h2
 simpa using h
have hA:Asc cB (fun x=>x) [(⟨#[97,108,108]⟩:ByteArray)]:=List.pairwise_singleton _ _
unfold Zfb
refine Zb (if_pos hu) ?_
refine ZZ (fun q=>∀ x,Asc cB (fun x=>x) x->(∀ y ∈ x,y ∈ (⟨#[97,108,108]⟩:ByteArray)::⟨#[117,115,101,114,115]⟩::P.groups.map Group.name)->Tot (q x) fun _=>True) (fun x a1 a2=>?_) fun k hk=>ZN (fun _=>Zi (ZrJ _ _ (by simp) hA) fun r hr=>?_) fun _=>?_
refine ZS (fun s=>(Asc cB (fun x=>x) s.1/\(∀ y ∈ s.1,y ∈ (⟨#[97,108,108]⟩:ByteArray)::⟨#[117,115,101,114,115]⟩::P.groups.map Group.name))/\-1<=s.2/\s.2<=(s.1.length:Int)) (fun s=>P.groups.length+3-(s.2+1).toNat) ⟨⟨a1,a2⟩,by dsimp only;omega,by dsimp only;omega⟩ (by dsimp only;omega) ?_
rintro ⟨x,n⟩ rec ⟨⟨b1,b2⟩,b3,b4⟩ ih
dsimp only at b1 b2 b3 b4 ih ⊢
have hx:=key x b1 b2
refine Zh (fun hlt=>?_) fun _=>Zc trivial
refine ZS (fun s=>(Asc cB (fun x=>x) s.1/\(∀ y ∈ s.1,y ∈ (⟨#[97,108,108]⟩:ByteArray)::⟨#[117,115,101,114,115]⟩::P.groups.map Group.name))/\x.length<=s.1.length/\0<=s.2/\s.2<=(P.groups.length:Int)) (fun s=>P.groups.length-s.2.toNat) ⟨⟨b1,b2⟩,Nat.le_refl _,by dsimp only;omega,by dsimp only;omega⟩ (by dsimp only;omega) ?_
rintro ⟨y,j⟩ rec2 ⟨⟨d1,d2⟩,d3,d4,d5⟩ ih2
dsimp only at d1 d2 d3 d4 d5 ih2 ⊢
have hy:=key y d1 d2
refine Zh (fun hj=>?_) fun _=>ih _ ⟨⟨d1,d2⟩,by dsimp only;omega,by dsimp only;omega⟩ (by dsimp only;omega)
refine ZZ (fun q=>∀ z,Asc cB (fun x=>x) z->(∀ a ∈ z,a ∈ (⟨#[97,108,108]⟩:ByteArray)::⟨#[117,115,101,114,115]⟩::P.groups.map Group.name)->x.length<=z.length->Tot (q z) fun _=>True) (fun z z1 z2 z3=>?_) fun k2 hk2=>?_
rw [ZaH]
exact ih2 _ ⟨⟨z1,z2⟩,z3,by dsimp only;omega,by dsimp only;omega⟩ (by dsimp only;omega)
refine Zcb d4 hj fun e he hee=>Zi (ZrK e u y hu (hm e he)) fun r _=>ZN (fun _=>?_) fun _=>hk2 _ d1 d2 d3
refine Zcb d4 hj fun e2 he2 _=>Zi (ZrJ y e2.name (by omega) d1) fun r hr=>hk2 _ hr.1.1 (fun a ha=>?_) (by omega)
rcases hr.2 a ha with h | h
exact d2 a h
rw [h]
exact List.mem_cons_of_mem _ (List.mem_cons_of_mem _ (List.mem_map.2 ⟨e2,he2,rfl⟩))
refine hk _ hr.1.1 fun y hy=>?_
rcases hr.2 y hy with h | h
rw [List.mem_singleton.1 h];exact List.mem_cons_self ..
rw [h];exact List.mem_cons_of_mem _ (List.mem_cons_self ..)
exact hk _ hA fun y hy=>by rw [List.mem_singleton.1 hy];exact List.mem_cons_self ..}
theorem Zup (s:TapeF) (L:List ByteArray) (hs:s.ok) (h:(decide (0<L.length)&&L.all fun x=>decide (x.size<=18))=true):Tot (Zy s L) fun r=>r.1.size<=18/\r.2.ok:=by
 rw [Bool.and_eq_true] at h
 exact Zu4 s L hs (of_decide_eq_true h.1) fun x hx=>of_decide_eq_true (List.all_eq_true.1 h.2 x hx)
theorem Zsr (s:TapeF) (L:List ByteArray) (hs:s.ok) (h0:0<L.length):Tot (Zy s L) fun r=>r.2.ok:=by
 unfold Zy
 refine Zi (Zad s _ hs (by omega)) fun r hr=>?_
 exact Zcb hr.1.1 hr.1.2 fun e he _=>Zc hr.2
def PCm:Nat->Nat | 0=>10 | n+1=>100+3 * PCm n
set_option maxHeartbeats 4000000 in
theorem Zof:∀ (m:Nat) (s:TapeF) (d:Nat),d<m->d<=2->s.ok->Tot (ZP m s (d:Int)) fun r=>r.1.size<=PCm d/\r.2.ok
 | 0,_,_,h,_,_=>absurd h (Nat.not_lt_zero _)
 | m+1,s,0,_,_,hs=>by
   unfold ZP
   refine Zh (fun _=>?_) fun h=>absurd (by decide) h
   exact Zi (Zt3 s hs) fun r hr=>Zc hr
 | m+1,s,d+1,hm,hd,hs=>by
   have ih:∀ s:TapeF,s.ok->Tot (ZP m s (d:Int)) fun r=>r.1.size<=PCm d/\r.2.ok:=fun s hs=>Zof m s d (by omega) (by omega) hs
   have hw:w64 (((d+1:Nat):Int)-1)=(d:Int):=by rw [ZaH];omega
   have hB:10<=PCm d/\PCm d<=10000:=by
    have:d=0\/d=1:=by omega
    rcases this with rfl | rfl<;>decide
   have hP:PCm (d+1)=100+3 * PCm d:=rfl
   rw [hP]
   generalize PCm d=B at ih hB
   unfold ZP
   refine Zh (fun h=>absurd h (by omega)) fun _=>?_
   simp only [hw]
   refine Zi (Zad s 24 hs (by decide)) fun r3 h3=>?_
   obtain ⟨_,h3⟩:=h3
   repeat' (refine Zh (fun _=>?_) fun _=>?_)
   all_goals (repeat (first
    | (refine Zw4 (by first | assumption | exact (show _<=14 by decide)) (by first | assumption | exact (show _<=14 by decide)) (by omega) fun _=>?_)
    | (refine Zi (ih _ (by assumption)) fun r hr=>?_;obtain ⟨_,_⟩:=hr)
    | (refine Zi (Zup _ _ (by assumption) (by decide)) fun r hr=>?_;obtain ⟨_,_⟩:=hr)
    | (refine Zi (Zt3 _ (by assumption)) fun r hr=>?_;obtain ⟨_,_⟩:=hr)
    | (refine Zi (Zu4 (n:=60) _ _ (by assumption) (by simp) fun x hx=>by
      simp only [List.mem_cons,List.not_mem_nil,or_false] at hx
      rcases hx with rfl | rfl | rfl | rfl | rfl | rfl | rfl | rfl | rfl | rfl<;>first | decide | omega) fun r hr=>?_;obtain ⟨_,_⟩:=hr)))
   all_goals exact Zc ⟨by dsimp only;omega,by assumption⟩
theorem Zuq (s:TapeF) (hs:s.ok):Tot (ZdG s 2) fun r=>r.1.size<=1500/\r.2.ok:=by{
unfold ZdG
have hB:PCm 2=490:=rfl
refine Zi (Zpq _ _ hs (by decide)) fun r1 h1=>?_
obtain ⟨h1,h2⟩:=h1
refine ZS (fun x=>(0<=x.2.1/\x.2.1<=3)/\(x.1.size:Int)<=30+490 * x.2.1/\TapeF.ok ⟨x.2.2.1,x.2.2.2⟩) (fun x=>4-x.2.1.toNat) ⟨⟨by simp,by simp⟩,by simp;omega,h2⟩ (by dsimp only;omega) ?_
rintro ⟨t,i,l,p⟩ rec ⟨⟨g0,g1⟩,g2,g3⟩ ih
dsimp only at g0 g1 g2 g3 ih ⊢
refine Zi (Zad _ 3 g3 (by decide)) fun r35 h35=>?_
obtain ⟨⟨k0,k1⟩,k2⟩:=h35
refine Zh (fun hle=>?_) fun _=>Zc ⟨by dsimp only;omega,k2⟩
refine Zi (Zof 8 r35.2 2 (by decide) (by decide) k2) fun r38 h38=>?_
obtain ⟨q1,q2⟩:=h38
refine Zcy (by omega) fun hz=>?_
rw [ZaH]
exact ih _ ⟨⟨by dsimp only;omega,by dsimp only;omega⟩,by dsimp only;omega,q2⟩ (by dsimp only;omega)}
theorem Zur (s:TapeF) (hs:s.ok):Tot (ZdH s 2) fun r=>r.1.size<=8192/\r.2.ok:=by{
unfold ZdH
refine Zi (Zpq _ _ hs (by decide)) fun r1 h1=>?_
obtain ⟨h1,h2⟩:=h1
refine Zi (Zad _ 5 h2 (by decide)) fun r2 h2=>?_
obtain ⟨⟨k0,k1⟩,k2⟩:=h2
refine ZS (fun x=>(0<=x.2.1/\x.2.1<=5)/\(x.1.size:Int)<=30+1600 * x.2.1/\TapeF.ok ⟨x.2.2.1,x.2.2.2⟩) (fun x=>6-x.2.1.toNat) ⟨⟨by simp,by simp⟩,by simp;omega,k2⟩ (by dsimp only;omega) ?_
rintro ⟨t,i,l,p⟩ rec ⟨⟨g0,g1⟩,g2,g3⟩ ih
dsimp only at g0 g1 g2 g3 ih ⊢
refine Zh (fun hle=>?_) fun _=>Zc ⟨by dsimp only;omega,g3⟩
refine ZZ (fun q=>∀ x:ByteArray,(x.size:Int)<=40+1600 * i->Tot (q x) (fun r=>r.1.size<=8192/\r.2.ok)) (fun x hx=>?_) fun k21 hk21=>?_
refine Zi (Zad _ 4 g3 (by decide)) fun r232 h232=>?_
obtain ⟨_,k3⟩:=h232
refine ZZ (fun q=>∀ (y:ByteArray) (l:List Int) (p:Int),(y.size:Int)<=100+1600 * i->TapeF.ok ⟨l,p⟩->Tot (q y l p) (fun r=>r.1.size<=8192/\r.2.ok)) (fun y l p hy hlp=>?_) fun k22 hk22=>?_
refine Zi (Zuq _ hlp) fun r242 h242=>?_
obtain ⟨z1,z2⟩:=h242
refine Zcy (by omega) fun hz=>?_
rw [ZaH]
exact ih _ ⟨⟨by dsimp only;omega,by dsimp only;omega⟩,by dsimp only;omega,z2⟩ (by dsimp only;omega)
refine Zh (fun _=>?_) fun _=>hk22 _ _ _ (by omega) k3
refine Zi (Zup _ _ k3 (by decide)) fun r244 h244=>?_
obtain ⟨z1,z2⟩:=h244
refine Zcy (by omega) fun hz=>?_
refine Zi (Zup _ _ z2 (by decide)) fun r246 h246=>?_
obtain ⟨z3,z4⟩:=h246
refine Zcy (by omega) fun hz2=>Zcy (by omega) fun hz3=>?_
have e1:(⟨#[10]⟩:ByteArray).size=1:=rfl
refine Zcy (by omega) fun hz4=>?_
exact hk22 _ _ _ (by omega) z4
have e1:(⟨#[10]⟩:ByteArray).size=1:=rfl
refine Zh (fun _=>?_) fun _=>hk21 _ (by omega)
exact Zcy (by omega) fun hz=>hk21 _ (by omega)}
theorem Zog (s:TapeF) (hs:s.ok):Tot (Zcg s) fun r=>r.2.ok:=by
 unfold Zcg
 refine Zi (Zad _ 6 hs (by decide)) fun r hr=>Zi (Zsr _ _ hr.2 (by simp)) fun r2 hr2=>Zc hr2
theorem Zus (s:TapeF) (hs:s.ok):Tot (ZbE s) fun r=>(r.1.space=0/\r.1.name.size<=30)/\r.2.ok:=by
 unfold ZbE
 refine Zi (Zpq _ _ hs (by decide)) fun r hr=>Zc ⟨⟨rfl,hr.1⟩,hr.2⟩
theorem Zut (s:TapeF) (hs:s.ok):Tot (Zdx s) fun r=>r.1.size<=30/\r.2.ok:=by
 unfold Zdx
 exact Zi (Zpq _ _ hs (by decide)) fun r hr=>Zc hr
theorem Zuu (s:TapeF) (hs:s.ok):Tot (Zdy s) fun r=>r.1.size<=30/\r.2.ok:=by
 unfold Zdy
 exact Zi (Zpq _ _ hs (by decide)) fun r hr=>Zc hr
abbrev Zss (r:Policy×TapeF):Prop:=(r.1.groups.length<=3/\∀ g ∈ r.1.groups,g.members.length<=3)/\r.2.ok
theorem Zp7 (s:TapeF) (hs:s.ok):Tot (Zct s) Zss:=by{
unfold Zct
refine Zi (Zad _ 4 hs (by decide)) fun r1 h1=>?_
obtain ⟨⟨n0,n1⟩,k1⟩:=h1
refine ZS (fun x=>((0<=x.1/\x.1<=r1.1)/\TapeF.ok ⟨x.2.1,x.2.2.1⟩)/\(x.2.2.2.length:Int)<=x.1/\∀ g ∈ x.2.2.2,g.members.length<=3) (fun x=>4-x.1.toNat) ⟨⟨⟨by simp,by dsimp only;omega⟩,k1⟩,by simp,by simp⟩ (by dsimp only;omega) ?_
rintro ⟨i,l,p,G⟩ rec ⟨⟨⟨g0,g1⟩,g2⟩,g3,g4⟩ ih
dsimp only at g0 g1 g2 g3 g4 ih ⊢
refine Zh (fun hlt=>?_) fun hge=>?_
refine Zcb (by omega) (by simp only [List.length_cons,List.length_nil];omega) fun e _ _=>?_
refine ZS (fun x=>((0<=x.1/\x.1<=3)/\TapeF.ok ⟨x.2.1,x.2.2.1⟩)/\(x.2.2.2.length:Int)<=x.1) (fun x=>4-x.1.toNat) ⟨⟨⟨by simp,by simp⟩,g2⟩,by simp⟩ (by dsimp only;omega) ?_
rintro ⟨j,l2,p2,M⟩ rec2 ⟨⟨⟨q0,q1⟩,q2⟩,q3⟩ ih2
dsimp only at q0 q1 q2 q3 ih2 ⊢
refine Zi (Zad _ 3 q2 (by decide)) fun r2 h2=>?_
obtain ⟨⟨a0,a1⟩,a2⟩:=h2
refine Zh (fun hlt2=>?_) fun hge2=>?_
refine Zi (Zut _ a2) fun r3 h3=>Zi (Zad _ 3 h3.2 (by decide)) fun r4 h4=>?_
refine ZZ (fun q=>∀ (b:ByteArray) (l:List Int) (p:Int),TapeF.ok ⟨l,p⟩->Tot (q b l p) Zss) (fun b l p hlp=>?_) fun k hk=>?_
refine Zi (Zad _ 9 hlp (by decide)) fun r5 h5=>?_
refine ZZ (fun q=>∀ (b:ByteArray),Tot (q b) Zss) (fun b=>?_) fun k2 hk2=>?_
refine ZbC 100 (by simp only [List.length_nil];omega) (by omega) (by omega) ?_
refine ZbC 100 (by simp only [List.nil_append,List.length_singleton];omega) (by omega) (by omega) ?_
rw [ZaH]
exact ih2 _ ⟨⟨⟨by dsimp only;omega,by dsimp only;omega⟩,h5.2⟩,by dsimp only;simp only [List.nil_append,List.length_append,List.length_singleton];omega⟩ (by dsimp only;omega)
exact Zh (fun _=>hk2 _) fun _=>hk2 _
refine Zh (fun _=>?_) fun _=>hk _ _ _ h4.2
refine Zi (Zad _ r1.1 h4.2 (by omega)) fun r6 h6=>?_
refine Zcb h6.1.1 (by simp only [List.length_cons,List.length_nil];omega) fun e2 he2 _=>?_
have hsz:e2.size<=30:=by
 simp only [List.mem_cons,List.not_mem_nil,or_false] at he2
 rcases he2 with rfl | rfl | rfl<;>decide
have e1:(⟨#[64]⟩:ByteArray).size=1:=rfl
exact Zcy (by omega) fun _=>hk _ _ _ h6.2
refine ZbC 100 (by simp only [List.length_nil];omega) (by omega) (by omega) ?_
refine ZbC 100 (by simp only [List.nil_append,List.length_singleton];omega) (by omega) (by omega) ?_
rw [ZaH]
refine ih _ ⟨⟨⟨by dsimp only;omega,by dsimp only;omega⟩,a2⟩,by dsimp only;simp only [List.nil_append,List.length_append,List.length_singleton];omega,fun g hg=>?_⟩ (by dsimp only;omega)
rcases List.mem_append.1 hg with hg | hg
exact g4 g (by simpa using hg)
rw [List.mem_singleton.1 hg];dsimp only;omega
refine ZsS (by omega) n0 (by simp only [List.length_cons,List.length_nil];omega) fun m hm hml=>?_
refine ZbC 100 (by simp only [List.length_cons,List.length_nil];omega) (by omega) (by omega) ?_
generalize hK : [(⟨#[97,108,108]⟩:ByteArray),(⟨#[117,115,101,114,115]⟩:ByteArray)]++m=K
have hK0:0<K.length:=by rw [<- hK];simp
refine ZS (fun x=>((0<=x.1/\x.1<=7)/\TapeF.ok ⟨x.2.1,x.2.2.1⟩)/\(x.2.2.2.length:Int)<=1+x.1) (fun x=>8-x.1.toNat) ⟨⟨⟨by simp,by simp⟩,g2⟩,by simp⟩ (by dsimp only;omega) ?_
rintro ⟨j,l2,p2,R⟩ rec2 ⟨⟨⟨q0,q1⟩,q2⟩,q3⟩ ih2
dsimp only at q0 q1 q2 q3 ih2 ⊢
refine Zi (Zad _ 7 q2 (by decide)) fun r2 h2=>?_
obtain ⟨⟨a0,a1⟩,a2⟩:=h2
refine Zh (fun hlt2=>?_) fun hge2=>?_
refine Zi (Zad _ 3 a2 (by decide)) fun r3 h3=>Zi (Zad _ 5 h3.2 (by decide)) fun r4 h4=>Zi (Zsr _ _ h4.2 hK0) fun r5 h5=>Zi (Zad _ 3 h5 (by decide)) fun r6 h6=>?_
refine ZZ (fun q=>∀ (l:List Int) (p a b:Int) (c:ByteArray),TapeF.ok ⟨l,p⟩->Tot (q l p a b c) Zss) (fun l p a b c hlp=>?_) fun k hk=>?_
refine ZbC 100 (by simp only [List.length_nil];omega) (by omega) (by omega) ?_
refine ZbC 100 (by simp only [List.nil_append,List.length_singleton];omega) (by omega) (by omega) ?_
rw [ZaH (n:=j+1)]
exact ih2 _ ⟨⟨⟨by dsimp only;omega,by dsimp only;omega⟩,hlp⟩,by dsimp only;simp only [List.nil_append,List.length_append,List.length_singleton];omega⟩ (by dsimp only;omega)
refine Zh (fun _=>hk _ _ _ _ _ h6.2) fun _=>Zh (fun _=>?_) fun _=>?_
exact Zi (Zad _ 6 h6.2 (by decide)) fun r7 h7=>hk _ _ _ _ _ h7.2
exact Zi (Zog _ h6.2) fun r7 h7=>hk _ _ _ _ _ h7
refine ZS (fun x=>((0<=x.1/\x.1<=4)/\TapeF.ok ⟨x.2.1,x.2.2.1⟩)/\(x.2.2.2.length:Int)<=x.1) (fun x=>5-x.1.toNat) ⟨⟨⟨by simp,by simp⟩,a2⟩,by simp⟩ (by dsimp only;omega) ?_
rintro ⟨j3,l3,p3,U⟩ rec3 ⟨⟨⟨u0,u1⟩,u2⟩,u3⟩ ih3
dsimp only at u0 u1 u2 u3 ih3 ⊢
refine Zi (Zad _ 4 u2 (by decide)) fun r3 h3=>?_
obtain ⟨⟨b0,b1⟩,b2⟩:=h3
refine Zh (fun hlt3=>?_) fun hge3=>Zc ⟨⟨by dsimp only;omega,g4⟩,b2⟩
refine Zi (Zad _ 3 b2 (by decide)) fun r4 h4=>Zi (Zsr _ _ h4.2 hK0) fun r5 h5=>Zi (Zog _ h5) fun r6 h6=>Zi (Zsr _ _ h6 (by simp)) fun r7 h7=>?_
refine ZbC 100 (by simp only [List.length_nil];omega) (by omega) (by omega) ?_
refine ZbC 100 (by simp only [List.nil_append,List.length_singleton];omega) (by omega) (by omega) ?_
rw [ZaH]
exact ih3 _ ⟨⟨⟨by dsimp only;omega,by dsimp only;omega⟩,h7⟩,by dsimp only;simp only [List.nil_append,List.length_append,List.length_singleton];omega⟩ (by dsimp only;omega)}
theorem Zuv:ZhP=Zvx 24 (fun a b=>(ZhR a b).bind fun x=>some (decide (x<0))) (fun e x=>decide (e=x)):=by
 funext p0 p1
 unfold ZhP Zvx
 simp only [Option.bind_assoc,Option.bind_some]
theorem Zuw (l:List Title) (t:Title) (h:l.length<=1000000):Tot (ZhP l t) fun r=>r.length<=l.length+1/\∀ x ∈ r,x ∈ l\/x=t:=by{
refine ⟨ZoF Title.cmp (fun x=>x) l t,?_,?_,?_⟩
rw [Zuv]
exact ZtS (key:=fun x:Title=>x) 24 (fun a b=>rfl) (fun _ _=>rfl) (by decide) l t h
exact Zu7 l t
obtain ⟨A,B,hl,_,_,hc⟩:=Zf2 Title.cmp (fun x=>x) l t
intro x hx
rcases hc with ⟨_,e⟩ | ⟨y,b,hB,_,⟨_,e⟩ | ⟨_,e⟩⟩
rw [e] at hx
simpa using hx
rw [e] at hx
exact .inl hx
rw [e] at hx
rw [hl,hB]
simp only [List.mem_append,List.mem_cons] at hx ⊢
rcases hx with h | h | h | h
exact .inl (.inl h)
exact .inr h
exact .inl (.inr (.inl h))
exact .inl (.inr (.inr h))}
structure ViewOk (v:View):Prop where
 fixed:v.fixed = []
 len:v.pages.length<=6
 page:∀ p ∈ v.pages,p.text.size<=8192/\p.title.name.size<=30
abbrev Zp8 (r:View×TapeF):Prop:=ViewOk r.1/\r.2.ok
theorem Zux (s:TapeF) (hs:s.ok):Tot (Zdz s 2) Zp8:=by{
unfold Zdz
refine Zi (Zp7 s hs) fun r1 h1=>Zi (Zad _ 600000 h1.2 (by decide)) fun r2 h2=>Zi (Zuu _ h2.2) fun r3 h3=>?_
refine Zi (ZpI _ _ (by have:=h3.1;omega) (by have:=h1.1.1;omega) (fun g hg=>by have:=h1.1.2 g hg;omega)) fun r4 _=>?_
refine Zi (Zad _ 6 h3.2 (by decide)) fun r5 h5=>?_
obtain ⟨⟨n0,n1⟩,k5⟩:=h5
refine ZS (fun x=>((0<=x.2.1/\x.2.1<=r5.1)/\TapeF.ok ⟨x.2.2.1,x.2.2.2⟩)/\(x.1.length:Int)<=x.2.1/\∀ t ∈ x.1,t.name.size<=30) (fun x=>7-x.2.1.toNat) ⟨⟨⟨by simp,by dsimp only;omega⟩,k5⟩,by simp,by simp⟩ (by dsimp only;omega) ?_
rintro ⟨T,i,l,p⟩ rec ⟨⟨⟨g0,g1⟩,g2⟩,g3,g4⟩ ih
dsimp only at g0 g1 g2 g3 g4 ih ⊢
refine Zh (fun hlt=>?_) fun hge=>?_
refine Zi (Zus _ g2) fun r6 h6=>Zi (Zad _ 3 h6.2 (by decide)) fun r7 h7=>?_
refine ZZ (fun q=>∀ (l:List Int) (p a:Int) (b:ByteArray),TapeF.ok ⟨l,p⟩->b.size<=30->Tot (q l p a b) Zp8) (fun l p a b hlp hb=>?_) fun k hk=>?_
refine Zi (Zuw _ _ (by omega)) fun r8 h8=>?_
rw [ZaH]
refine ih _ ⟨⟨⟨by dsimp only;omega,by dsimp only;omega⟩,hlp⟩,by dsimp only;have:=h8.1;omega,fun t ht=>?_⟩ (by dsimp only;omega)
rcases h8.2 t ht with h | h
exact g4 t h
rw [h];exact hb
exact Zh (fun _=>Zi (Zpq _ _ h7.2 (by decide)) fun r8 h8=>hk _ _ _ _ h8.2 h8.1) fun _=>hk _ _ _ _ h7.2 h6.1.2
refine ZS (fun x=>((0<=x.1/\x.1<=(T.length:Int))/\TapeF.ok ⟨x.2.1,x.2.2.1⟩)/\(x.2.2.2.length:Int)<=x.1/\∀ p ∈ x.2.2.2,p.text.size<=8192/\p.title.name.size<=30) (fun x=>T.length-x.1.toNat) ⟨⟨⟨by simp,by simp⟩,g2⟩,by simp,by simp⟩ (by dsimp only;omega) ?_
rintro ⟨j,l2,p2,L⟩ rec2 ⟨⟨⟨q0,q1⟩,q2⟩,q3,q4⟩ ih2
dsimp only at q0 q1 q2 q3 q4 ih2 ⊢
refine Zh (fun hlt2=>?_) fun hge2=>Zc ⟨⟨rfl,by dsimp only;omega,q4⟩,q2⟩
refine Zcb q0 hlt2 fun e he _=>Zi (Zur _ q2) fun r6 h6=>Zi (Zad _ 9 h6.2 (by decide)) fun r7 h7=>?_
refine ZbC 100 (by simp only [List.length_singleton];omega) (by omega) (by omega) ?_
rw [ZaH (n:=j+1)]
refine ih2 _ ⟨⟨⟨by dsimp only;omega,by dsimp only;omega⟩,h7.2⟩,by dsimp only;simp only [List.length_append,List.length_singleton];omega,fun p hp=>?_⟩ (by dsimp only;omega)
rcases List.mem_append.1 hp with h | h
exact q4 p h
rw [List.mem_singleton.1 h];exact ⟨h6.1,g4 e he⟩}
structure Str6 where
 a:ByteArray
 b:ByteArray
 c:ByteArray
 d:ByteArray
 e:ByteArray
 f:ByteArray
def Str6.cs (x:Str6):List PV:=[.str x.a,.str x.b,.str x.c,.str x.d,.str x.e,.str x.f]
def Str6.pv (x:Str6):PV:=.agg x.cs
set_option maxHeartbeats 4000000
def ZhF (p0:List ByteArray) (p1:ByteArray):Option ByteArray:=if (decide ((p0.length:Int)=0)) then (some (⟨#[]⟩:ByteArray):Option ByteArray) else if (decide ((p0.length:Int)=1)) then (atI p0 0).bind fun e2=>(some e2:Option ByteArray) else letk (fun (x4:Int)=>ZaF Zcp (fun f3 ((x15,x16):Int×Int)=>if (decide (x16<(p0.length:Int))) then (atI p0 x16).bind fun e20=>if (decide ((w64 (9223372036854775807-x15))<(e20.size:Int))) then (none:Option ByteArray) else f3 ((w64 (x15+(e20.size:Int))),(w64 (x16+1))) else (none:Option ByteArray)) (x4,0)) fun k1=>if (decide (0<(p1.size:Int))) then (ZwJ .i64 9223372036854775807 (w64 ((p0.length:Int)-1))).bind fun q21=>if (decide (q21<=(p1.size:Int))) then (none:Option ByteArray) else k1 (w64 (0+(w64 ((p1.size:Int) * (w64 ((p0.length:Int)-1)))))) else k1 0
theorem Zke (p0:List ByteArray) (p1:ByteArray) (r:ByteArray) (h:ZhF p0 p1=some r):Zg Tryz.prog 19 [.sl (List.map csS p0),.str p1] (.str r):=by{
refine cF (fun r=>.str r) h mix Tryz.func19 fun r h=>?_
unfold ZhF at h
refine Zn ?_
refine rg ?_
refine rg ?_
refine lM csS p0 ?_
refine bl ?_
refine rg ?_
refine cS h rfl (fun h=>?_) fun h=>?_
refine rg ?_
cases h
exact rQ
refine rg ?_
refine cS h rfl (fun h=>?_) fun h=>?_
refine rg ?_
refine aI csS h fun e2 h=>?_
cases h
exact rQ
refine rg ?_
refine rg ?_
refine jL h (fun x4=>mkS [(0,.sl (List.map csS p0)),(1,.str p1),(5,.int .i64 x4)] [] 2) (fun k1 h=>?_) fun x4 h=>?_
refine cS h rfl (fun h=>?_) fun h=>?_
refine rg ?_
refine lM csS p0 ?_
obtain ⟨q21,h16,h⟩:=bnd h
refine Zv4 rfl h16 rfl rfl (Zn ?_)
refine cS h rfl (fun h=>?_) fun h=>?_
cases h
refine rg ?_
refine lM csS p0 ?_
exact jn (w64 (0+(w64 ((p1.size:Int) * (w64 ((p0.length:Int)-1)))))) h (sR [])
exact jn 0 h (sR [])
refine rg ?_
refine lM csS p0 ?_
refine bl ?_
refine ZB h fun f3 mf3 hf3 h=>?_
refine Zv (α:=Nat×(Int×Int)) (fun a _=>mkS [(0,.sl (List.map csS p0)),(1,.str p1),(5,.int .i64 a.2.1),(39,.sl (List.map csS p0)),(40,.int .i64 (p0.length:Int)),(41,.int .i64 a.2.2)] [] 2) (fun a=>ZaF a.1 f3 a.2=some r) (fun a=>a.1) (mf3,x4,0) 2 h (sR []) (fun a _ h=>?_)
obtain ⟨mf3,x15,x16⟩:=a
obtain ⟨mf3,rfl,h⟩:=ZC hf3 h
dsimp only at h ⊢
refine Zn ?_
refine rg ?_
refine cS h rfl (fun h=>?_) fun h=>?_
refine bl ?_
refine rg ?_
refine aI csS h fun e20 h=>?_
refine rg ?_
refine cS h rfl (fun h=>?_) fun h=>?_
cases h
refine rg ?_
refine rg ?_
exact rn (mf3,(w64 (x15+(e20.size:Int))),(w64 (x16+1))) h (sR [])
cases h}
end Go.Proofs.YtpffimahajgiaaaGreatDoor
set_option linter.unusedVariables false
namespace Go.Proofs.YtpffimahajgiaaaGreatDoor
open VL Go.RowKit
def ZbU (L:List ByteArray) (s:ByteArray):Option ByteArray:=if L = [] then some ⟨#[]⟩ else strings_Join L s
theorem Zf5 (L:List ByteArray) (s:ByteArray) (r:ByteArray) (h:ZbU L s=some r):Zg Tryz.prog 19 [.sl (List.map csS L),.str s] (.str r):=by{
unfold ZbU at h
split at h
rename_i h0
subst h0
cases h
exact Zke [] s _ rfl
exact ZgH L s r h}
end Go.Proofs.YtpffimahajgiaaaGreatDoor
set_option maxHeartbeats 4000000
namespace Go.Proofs.YtpffimahajgiaaaGreatDoor
open VL
def ZfW:Option Str6:=(some (⟨(⟨#[]⟩:ByteArray),(⟨#[84,97,108,107]⟩:ByteArray),(⟨#[85,115,101,114]⟩:ByteArray),(⟨#[84,101,109,112,108,97,116,101]⟩:ByteArray),(⟨#[67,97,116,101,103,111,114,121]⟩:ByteArray),(⟨#[80,114,111,106,101,99,116]⟩:ByteArray)⟩:Str6):Option Str6)
theorem Zko  (r:Str6) (h:ZfW=some r):Zg Tryz.prog 55 [] (r.pv):=by{
refine cF (fun r=>r.pv) h mix Tryz.func55 fun r h=>?_
unfold ZfW at h
refine Zn ?_
refine rg ?_
refine rg ?_
cases h
exact rQ}
def ZbL (p0:Title):Option ByteArray:=(Zb8 p0).bind fun r1=>if (!r1) then (some (⟨#[]⟩:ByteArray):Option ByteArray) else if (decide (p0.space=0)) then (some p0.name:Option ByteArray) else (ZfW).bind fun r2=>(atI ([r2.a,r2.b,r2.c,r2.d,r2.e,r2.f]:List ByteArray) p0.space).bind fun c3=>(Zbs c3 (⟨#[58]⟩:ByteArray)).bind fun s4=>(Zbs s4 p0.name).bind fun s5=>(some s5:Option ByteArray)
theorem ZgG (p0:Title) (r:ByteArray) (h:ZbL p0=some r):Zg Tryz.prog 17 [p0.pv] (.str r):=by{
refine cF (fun r=>.str r) h mix Tryz.func17 fun r h=>?_
unfold ZbL at h
refine Zn ?_
refine rg ?_
refine rg ?_
refine aC h (Zci _) fun r1 h=>?_
refine cS h rfl (fun h=>?_) fun h=>?_
refine rg ?_
cases h
exact rQ
refine rg ?_
refine cS h rfl (fun h=>?_) fun h=>?_
refine rg ?_
cases h
exact rQ
refine rg ?_
refine aC h Zko fun r2 h=>?_
obtain ⟨c3,h3,h⟩:=bnd h
refine ZuU (p:=PV.str) rfl h3 rfl rfl rfl rfl rfl (Zn ?_)
refine sT h fun s4 h=>?_
refine sT h fun s5 h=>?_
cases h
exact rQ}
def ZfX (p0:List Asked) (p1:Key):Option (Answer×Bool):=ZaF Zcp (fun f2 (x10:Int)=>if (decide (x10<(p0.length:Int))) then (atI p0 x10).bind fun e14=>if (decide (e14.key=p1)) then (some (e14.answer,true):Option (Answer×Bool)) else f2 (w64 (x10+1)) else (some ((⟨false,(⟨#[]⟩:ByteArray),0⟩:Answer),false):Option (Answer×Bool))) 0
theorem Znx (p0:List Asked) (p1:Key) (r:Answer×Bool) (h:ZfX p0 p1=some r):Zg Tryz.prog 56 [.sl (List.map Asked.cs p0),p1.pv] (.tup [r.1.pv,.bool r.2]):=by{
refine cF (fun r=>.tup [r.1.pv,.bool r.2]) h mix Tryz.func56 fun r h=>?_
unfold ZfX at h
refine Zn ?_
refine rg ?_
refine rg ?_
refine lM Asked.cs p0 ?_
refine bl ?_
refine ZB h fun f2 mf2 hf2 h=>?_
refine Zv (α:=Nat×Int) (fun a _=>mkS [(3,.ptr 3 (1,3) 0),(4,.ptr 4 (1,4) 0),(8,.sl (List.map Asked.cs p0)),(9,.int .i64 (p0.length:Int)),(10,.int .i64 a.2)] [(3,some ((1,3),.box (Key.cs p1))),(4,some ((1,4),.box [.bool false,.str (⟨#[]⟩:ByteArray),.int .i64 0]))] 2) (fun a=>ZaF a.1 f2 a.2=some r) (fun a=>a.1) (mf2,0) 2 h (sR [(3,1,0),(4,1,1)]) (fun a _ h=>?_)
obtain ⟨mf2,x10⟩:=a
obtain ⟨mf2,rfl,h⟩:=ZC hf2 h
dsimp only at h ⊢
refine Zn ?_
refine rg ?_
refine cS h rfl (fun h=>?_) fun h=>?_
refine bl ?_
refine rg ?_
refine aI Asked.cs h fun e14 h=>?_
refine rg ?_
refine ZiN (.inl rfl) rfl rfl rfl rfl rfl (fun W=>ZtR e14.key p1 W) (Zn ?_)
refine cS h rfl (fun h=>?_) fun h=>?_
refine rg ?_
cases h
exact rQ
refine rg ?_
exact rn (mf2,(w64 (x10+1))) h (sR [(3,1,3),(4,1,4)])
refine rg ?_
cases h
exact rQ}
def Zch (p0:Key):Option Bool:=letk (fun (x13:Bool)=>if x13 then letk (fun (x15:Bool)=>(some x15:Option Bool)) fun k8=>(Zb8 p0.title).bind fun r16=>if r16 then k8 (decide (p0.n=0)) else k8 false else letk (fun (x17:Bool)=>if x17 then letk (fun (x19:Bool)=>(some x19:Option Bool)) fun k10=>(Zb8 p0.title).bind fun r20=>if r20 then if (decide (p0.title.space=4)) then k10 (decide (p0.n=0)) else k10 false else k10 false else if (decide (p0.kind=5)) then letk (fun (x21:Bool)=>(some x21:Option Bool)) fun k11=>if (decide (p0.title=(⟨0,(⟨#[]⟩:ByteArray)⟩:Title))) then if (decide (1<=p0.n)) then k11 (decide (p0.n<=5)) else k11 false else k11 false else if (decide (p0.kind=6)) then letk (fun (x23:Bool)=>(some x23:Option Bool)) fun k12=>(Zb8 p0.title).bind fun r24=>if r24 then if (decide (1<=p0.n)) then k12 (decide (p0.n<=5)) else k12 false else k12 false else (some false:Option Bool)) fun k9=>if (decide (p0.kind=3)) then k9 (decide (p0.kind=3)) else k9 (decide (p0.kind=4))) fun k7=>if (decide (p0.kind=1)) then k7 (decide (p0.kind=1)) else if (decide (p0.kind=2)) then k7 (decide (p0.kind=2)) else k7 (decide (p0.kind=7))
theorem ZfY (p0:Key) (r:Bool) (h:Zch p0=some r):Zg Tryz.prog 13 [p0.pv] (.bool r):=by{
refine cF (fun r=>.bool r) h mix Tryz.func13 fun r h=>?_
unfold Zch at h
refine Zn ?_
refine rg ?_
refine rg ?_
refine bl ?_
refine rg ?_
refine jL h (fun x13=>mkS [(1,.ptr 1 (1,1) 0),(4,.int .i64 p0.kind),(5,.bool x13)] [(1,some ((1,1),.box (Key.cs p0)))] 2) (fun k7 h=>?_) fun x13 h=>?_
refine cS h rfl (fun h=>?_) fun h=>?_
exact jn (decide (p0.kind=1)) h (sR [(1,1,0)])
refine rg ?_
refine cS h rfl (fun h=>?_) fun h=>?_
exact jn (decide (p0.kind=2)) h (sR [(1,1,0)])
refine rg ?_
exact jn (decide (p0.kind=7)) h (sR [(1,1,0)])
refine cS h rfl (fun h=>?_) fun h=>?_
refine jL h (fun x15=>mkS [(2,.bool x15)] [] 2) (fun k8 h=>?_) fun x15 h=>?_
refine rg ?_
refine aC h (Zci _) fun r16 h=>?_
refine kS 12 h rfl (fun h=>?_) fun h=>?_
exact jn (decide (p0.n=0)) h (sR [])
iterate 3 refine ZE rfl (Zn ?_)
exact jn false h (sR [])
cases h
exact rQ
refine rg ?_
refine jL h (fun x17=>mkS [(1,.ptr 1 (1,1) 0),(4,.int .i64 p0.kind),(17,.bool x17)] [(1,some ((1,1),.box (Key.cs p0)))] 2) (fun k9 h=>?_) fun x17 h=>?_
refine cS h rfl (fun h=>?_) fun h=>?_
exact jn (decide (p0.kind=3)) h (sR [(1,1,1)])
refine rg ?_
exact jn (decide (p0.kind=4)) h (sR [(1,1,1)])
refine cS h rfl (fun h=>?_) fun h=>?_
refine jL h (fun x19=>mkS [(2,.bool x19)] [] 2) (fun k10 h=>?_) fun x19 h=>?_
refine rg ?_
refine aC h (Zci _) fun r20 h=>?_
refine kS 23 h rfl (fun h=>?_) fun h=>?_
refine kS 29 h rfl (fun h=>?_) fun h=>?_
exact jn (decide (p0.n=0)) h (sR [])
iterate 3 refine ZE rfl (Zn ?_)
exact jn false h (sR [])
iterate 7 refine ZE rfl (Zn ?_)
exact jn false h (sR [])
cases h
exact rQ
refine rg ?_
refine cS h rfl (fun h=>?_) fun h=>?_
refine jL h (fun x21=>mkS [(2,.bool x21)] [] 2) (fun k11 h=>?_) fun x21 h=>?_
refine rg ?_
refine ZiN (.inl rfl) rfl rfl rfl rfl rfl (fun W=>Zhi p0.title (⟨0,(⟨#[]⟩:ByteArray)⟩:Title) W) (Zn ?_)
refine kS 40 h rfl (fun h=>?_) fun h=>?_
refine kS 45 h rfl (fun h=>?_) fun h=>?_
exact jn (decide (p0.n<=5)) h (sR [])
iterate 3 refine ZE rfl (Zn ?_)
exact jn false h (sR [])
iterate 6 refine ZE rfl (Zn ?_)
exact jn false h (sR [])
cases h
exact rQ
refine rg ?_
refine cS h rfl (fun h=>?_) fun h=>?_
refine jL h (fun x23=>mkS [(2,.bool x23)] [] 2) (fun k12 h=>?_) fun x23 h=>?_
refine rg ?_
refine aC h (Zci _) fun r24 h=>?_
refine kS 55 h rfl (fun h=>?_) fun h=>?_
refine kS 60 h rfl (fun h=>?_) fun h=>?_
exact jn (decide (p0.n<=5)) h (sR [])
iterate 3 refine ZE rfl (Zn ?_)
exact jn false h (sR [])
iterate 6 refine ZE rfl (Zn ?_)
exact jn false h (sR [])
cases h
exact rQ
refine rg ?_
cases h
exact rQ}
def Zcu (p0:Memb) (p1:Title):Option Bool:=(some (decide (p0.category=p1)):Option Bool)
theorem ZiL (p0:Memb) (p1:Title) (r:Bool) (h:Zcu p0 p1=some r):Zg Tryz.prog 102 [p0.pv,.cel [.int .i64 p1.space,.str p1.name]] (.bool r):=by{
refine cF (fun r=>.bool r) h mix Tryz.func102 fun r h=>?_
unfold Zcu at h
refine Zn ?_
refine rg ?_
refine rg ?_
refine ZiN (.inl rfl) rfl rfl rfl rfl rfl (fun W=>Zhi p0.category p1 W) (Zn ?_)
cases h
exact rQ}
def Zat (p0:List Memb) (qf1:Memb->Option Bool):Option Int:=ZaF Zcp (fun f2 (x18:Int)=>if (decide (x18<(p0.length:Int))) then (atI p0 x18).bind fun e25=>(qf1 e25).bind fun r26=>if r26 then (some x18:Option Int) else f2 (w64 (x18+1)) else (some (-1):Option Int)) 0
theorem ZdL (p0:List Memb) (qf1:Memb->Option Bool) (fv1:Nat) (Lv1:List (List PV)) (hq1:∀ (y0:Memb) (r:Bool),qf1 y0=some r->Zg Tryz.prog fv1 ([y0.pv]++Lv1.map .cel) (.bool r)) (r:Int) (h:Zat p0 qf1=some r):Zg Tryz.prog 167 [.sl (List.map Memb.cs p0),.fn fv1 (Lv1.map .cel)] (.int .i64 r):=by{
refine cF (fun r=>.int .i64 r) h mix Tryz.func167 fun r h=>?_
unfold Zat at h
refine Zn ?_
refine rg ?_
refine rg ?_
refine lM Memb.cs p0 ?_
refine bl ?_
refine ZB h fun f2 mf2 hf2 h=>?_
refine Zv (α:=Nat×Int) (fun a _=>mkS [(0,.sl (List.map Memb.cs p0)),(1,.fn fv1 (Lv1.map .cel)),(7,.int .i64 (p0.length:Int)),(8,.int .i64 a.2)] [] 2) (fun a=>ZaF a.1 f2 a.2=some r) (fun a=>a.1) (mf2,0) 2 h (Zw [] ⟨rfl,Znd _ _ _,rfl,rfl,trivial⟩ trivial rfl) (fun a _ h=>?_)
obtain ⟨mf2,x18⟩:=a
obtain ⟨mf2,rfl,h⟩:=ZC hf2 h
dsimp only at h ⊢
refine Zn ?_
refine rg ?_
refine cS h rfl (fun h=>?_) fun h=>?_
refine bl ?_
refine rg ?_
refine rg ?_
refine aI Memb.cs h fun e25 h=>?_
obtain ⟨r26,h24,h⟩:=bnd h
refine Zfs (args1:=[e25.pv]) (hq1 e25 _ h24) rfl rfl rfl rfl (Zn ?_)
refine cS h rfl (fun h=>?_) fun h=>?_
refine rg ?_
cases h
exact rQ
refine rg ?_
exact rn (mf2,(w64 (x18+1))) h (Zw [] ⟨rfl,Znd _ _ _,rfl,rfl,trivial⟩ trivial rfl)
refine rg ?_
cases h
exact rQ}
def Zaj (p0:List Memb) (qf1:Memb->Option Bool):Option Bool:=(Zat p0 qf1).bind fun r1=>(some (decide (0<=r1)):Option Bool)
theorem ZcZ (p0:List Memb) (qf1:Memb->Option Bool) (fv1:Nat) (Lv1:List (List PV)) (hq1:∀ (y0:Memb) (r:Bool),qf1 y0=some r->Zg Tryz.prog fv1 ([y0.pv]++Lv1.map .cel) (.bool r)) (r:Bool) (h:Zaj p0 qf1=some r):Zg Tryz.prog 101 [.sl (List.map Memb.cs p0),.fn fv1 (Lv1.map .cel)] (.bool r):=by{
refine cF (fun r=>.bool r) h mix Tryz.func101 fun r h=>?_
unfold Zaj at h
refine Zn ?_
refine rg ?_
refine rg ?_
obtain ⟨r1,h1,h⟩:=bnd h
refine Zu3 (pre:=[.sl (List.map Memb.cs p0)]) (pre':=[.sl (List.map Memb.cs p0)]) (ZdL _ qf1 fv1 Lv1 hq1 _ h1) rfl rfl rfl rfl (Zn ?_)
cases h
exact rQ}
def ZdA (p0:View) (p1:Title):Option (List ByteArray):=ZaF Zcp (fun f7 ((x47,x48):Int×(List ByteArray))=>if (decide (x47<(p0.pages.length:Int))) then letk (fun (x65:List ByteArray)=>f7 ((w64 (x47+1)),x65)) fun k8=>(atI p0.pages x47).bind fun e66=>(Zdu e66.text).bind fun r67=>(Zaj r67.2.1 (fun y0=>Zcu y0 p1)).bind fun r68=>if r68 then (ZbL e66.title).bind fun r69=>(ZeI 16 x48 [r69]).bind fun l70=>k8 l70 else k8 x48 else (some x48:Option (List ByteArray))) (0,([]:List ByteArray))
theorem Zkp (p0:View) (p1:Title) (r:List ByteArray) (h:ZdA p0 p1=some r):Zg Tryz.prog 57 [p0.pv,p1.pv] (.sl (List.map csS r)):=by{
refine cF (fun r=>.sl (List.map csS r)) h mix Tryz.func57 fun r h=>?_
unfold ZdA at h
refine Zn ?_
refine rg ?_
refine rg ?_
refine rg ?_
refine lM Page.cs p0.pages ?_
refine bl ?_
refine ZB h fun f7 mf7 hf7 h=>?_
refine Zv (α:=Nat×(Int×(List ByteArray))) (fun a _=>mkS [(3,.ptr 3 (1,3) 0),(5,.row 5 (1,5)),(12,.sl (List.map Page.cs p0.pages)),(13,.int .i64 (p0.pages.length:Int)),(14,.int .i64 a.2.1)] [(3,some ((1,3),.box (Title.cs p1))),(5,some ((1,5),.row 9 1 false (List.map csS a.2.2)))] 2) (fun a=>ZaF a.1 f7 a.2=some r) (fun a=>a.1) (mf7,0,([]:List ByteArray)) 2 h (ZhM [((1,3),(1,1))] 5 9 1 rfl ⟨rfl,rfl,rfl,rfl,rfl,trivial⟩ ⟨⟨rfl,rfl⟩,⟨rfl,rfl⟩,trivial⟩ rfl) (fun a _ h=>?_)
obtain ⟨mf7,x47,x48⟩:=a
obtain ⟨mf7,rfl,h⟩:=ZC hf7 h
dsimp only at h ⊢
refine Zn ?_
refine rg ?_
refine cS h rfl (fun h=>?_) fun h=>?_
refine jL h (fun x65=>mkS [(3,.ptr 3 (1,3) 0),(5,.row 5 (1,5)),(12,.sl (List.map Page.cs p0.pages)),(13,.int .i64 (p0.pages.length:Int)),(14,.int .i64 x47)] [(3,some ((1,3),.box (Title.cs p1))),(5,some ((1,5),.row 9 1 false (List.map csS x65)))] 2) (fun k8 h=>?_) fun x65 h=>?_
refine bl ?_
refine rg ?_
refine aI Page.cs h fun e66 h=>?_
refine rg ?_
refine aC h (Zja _) fun r67 h=>?_
refine rg ?_
refine ZpQ rfl rfl (Zn ?_)
obtain ⟨r68,h58,h⟩:=bnd h
refine ZhG (ZcZ _ (fun y0=>Zcu y0 p1) 102 [[.int .i64 p1.space,.str p1.name]] (fun y0 r h=>ZiL y0 p1 r h) _ h58) rfl rfl rfl (Zn ?_)
refine cS h rfl (fun h=>?_) fun h=>?_
refine rg ?_
refine aC h (ZgG _) fun r69 h=>?_
refine bM csS ([r69]:List ByteArray) ?_
refine pR csS h fun l70 h=>?_
exact jn l70 h (sR [(3,1,3),(5,6,5)])
exact jn x48 h (sR [(3,1,3),(5,1,5)])
refine rg ?_
exact rn (mf7,(w64 (x47+1)),x65) h (sR [(3,1,3),(5,1,5)])
refine rg ?_
cases h
exact rQ}
def Zjs (p0:View) (p1:Key):Option Answer:=ZaF Zcp (fun f12 (x26:Int)=>if (decide (x26<(p0.pages.length:Int))) then (atI p0.pages x26).bind fun e36=>if (!decide (e36.title=p1.title)) then f12 (w64 (x26+1)) else letk (fun (x37:ByteArray) (x38:Int)=>(some (⟨true,x37,x38⟩:Answer):Option Answer)) fun k14=>if (decide (p1.kind=1)) then k14 e36.text 0 else if (decide (p1.kind=7)) then k14 (⟨#[]⟩:ByteArray) e36.revision else k14 (⟨#[]⟩:ByteArray) 0 else (some (⟨false,(⟨#[]⟩:ByteArray),0⟩:Answer):Option Answer)) 0
theorem Zny (p0:View) (p1:Key) (r:Answer) (h:Zjs p0 p1=some r):Zg Tryz.prog 60 [p0.pv,p1.pv] (r.pv):=by{
refine cF (fun r=>r.pv) h mix Tryz.func60 fun r h=>?_
unfold Zjs at h
refine Zn ?_
refine rg ?_
refine rg ?_
refine lM Page.cs p0.pages ?_
refine bl ?_
refine ZB h fun f12 mf12 hf12 h=>?_
refine Zv (α:=Nat×Int) (fun a _=>mkS [(3,.ptr 3 (1,3) 0),(4,.ptr 4 (1,4) 0),(9,.sl (List.map Page.cs p0.pages)),(10,.int .i64 (p0.pages.length:Int)),(11,.int .i64 a.2)] [(3,some ((1,3),.box (Key.cs p1))),(4,some ((1,4),.box [.bool false,.str (⟨#[]⟩:ByteArray),.int .i64 0]))] 2) (fun a=>ZaF a.1 f12 a.2=some r) (fun a=>a.1) (mf12,0) 2 h (sR [(3,1,1),(4,1,2)]) (fun a _ h=>?_)
obtain ⟨mf12,x26⟩:=a
obtain ⟨mf12,rfl,h⟩:=ZC hf12 h
dsimp only at h ⊢
refine Zn ?_
refine rg ?_
refine cS h rfl (fun h=>?_) fun h=>?_
refine bl ?_
refine rg ?_
refine aI Page.cs h fun e36 h=>?_
refine rg ?_
refine ZiN (.inr rfl) rfl rfl rfl rfl rfl (fun W=>ZsD e36.title p1.title W) (Zn ?_)
refine cS h rfl (fun h=>?_) fun h=>?_
refine rg ?_
exact rn (mf12,(w64 (x26+1))) h (sR [(3,1,3),(4,1,4)])
refine rg ?_
refine rg ?_
refine ZbG h fun k14 hk14 h=>?_
refine Zbv (α:=ByteArray×Int) (fun a _=>mkS [(4,.ptr 4 (1,4) 0),(7,.ptr 7 (1,7) 0)] [(4,some ((1,4),.box [.bool false,.str (⟨#[]⟩:ByteArray),.int .i64 0])),(7,some ((1,7),.box [.bool true,.str a.1,.int .i64 a.2]))] 2) (fun a=>k14 a.1 a.2=some r) (Zn ?_) (fun a _ h=>?_)
refine bl ?_
refine rg ?_
refine cS h rfl (fun h=>?_) fun h=>?_
refine rg ?_
exact jn (e36.text,0) h (sR [(4,1,4),(7,5,1)])
refine rg ?_
refine cS h rfl (fun h=>?_) fun h=>?_
refine rg ?_
exact jn ((⟨#[]⟩:ByteArray),e36.revision) h (sR [(4,1,4),(7,5,1)])
exact jn ((⟨#[]⟩:ByteArray),0) h (sR [(4,1,4),(7,5,1)])
obtain ⟨x37,x38⟩:=a
subst hk14
dsimp only at h ⊢
refine Zn ?_
refine rg ?_
cases h
exact rQ
refine rg ?_
cases h
exact rQ}
def Zdq (p0:View) (p1:Key):Option Answer:=(ZfX p0.fixed p1).bind fun r1=>letk (fun (x3:Bool)=>if x3 then (some r1.1:Option Answer) else letk (fun (x9:Bool)=>if x9 then (ZdA p0 p1.title).bind fun r10=>letk (fun (x12:ByteArray)=>(some (⟨(decide (0<(r10.length:Int))),x12,(r10.length:Int)⟩:Answer):Option Answer)) fun k5=>if (decide (p1.kind=4)) then (ZbU r10 (⟨#[10]⟩:ByteArray)).bind fun r13=>k5 r13 else k5 (⟨#[]⟩:ByteArray) else if (decide (p1.kind=5)) then (none:Option Answer) else if (decide (p1.kind=6)) then (none:Option Answer) else (Zjs p0 p1).bind fun r14=>(some r14:Option Answer)) fun k4=>if (decide (p1.kind=3)) then k4 (decide (p1.kind=3)) else k4 (decide (p1.kind=4))) fun k1=>if r1.2 then k1 true else (Zch p1).bind fun r15=>k1 (!r15)
theorem Zgk (p0:View) (p1:Key) (r:Answer) (h:Zdq p0 p1=some r):Zg Tryz.prog 18 [p0.pv,p1.pv] (r.pv):=by{
refine cF (fun r=>r.pv) h mix Tryz.func18 fun r h=>?_
unfold Zdq at h
refine Zn ?_
refine rg ?_
refine rg ?_
refine aC h (Znx _ _) fun r1 h=>?_
refine jL h (fun x3=>mkS [(2,.ptr 2 (1,2) 0),(3,.ptr 3 (1,3) 0),(4,.ptr 4 (1,4) 0),(5,.ptr 5 (1,5) 0),(23,.bool x3)] [(2,some ((1,2),.box (View.cs p0))),(3,some ((1,3),.box (Key.cs p1))),(4,some ((1,4),.box [.bool false,.str (⟨#[]⟩:ByteArray),.int .i64 0])),(5,some ((1,5),.box (Answer.cs r1.1)))] 2) (fun k1 h=>?_) fun x3 h=>?_
refine rg ?_
refine kS 19 h rfl (fun h=>?_) fun h=>?_
iterate 3 refine ZE rfl (Zn ?_)
exact jn true h (sR [(2,1,0),(3,1,1),(4,1,2),(5,2,7)])
refine aC h (ZfY _) fun r15 h=>?_
exact jn (!r15) h (sR [(2,1,0),(3,1,1),(4,1,2),(5,2,7)])
refine cS h rfl (fun h=>?_) fun h=>?_
refine rg ?_
cases h
exact rQ
refine rg ?_
refine bl ?_
refine rg ?_
refine jL h (fun x9=>mkS [(2,.ptr 2 (1,2) 0),(3,.ptr 3 (1,3) 0),(4,.ptr 4 (1,4) 0),(26,.int .i64 p1.kind),(27,.bool x9)] [(2,some ((1,2),.box (View.cs p0))),(3,some ((1,3),.box (Key.cs p1))),(4,some ((1,4),.box [.bool false,.str (⟨#[]⟩:ByteArray),.int .i64 0]))] 2) (fun k4 h=>?_) fun x9 h=>?_
refine cS h rfl (fun h=>?_) fun h=>?_
exact jn (decide (p1.kind=3)) h (sR [(2,1,2),(3,1,3),(4,1,4)])
refine rg ?_
exact jn (decide (p1.kind=4)) h (sR [(2,1,2),(3,1,3),(4,1,4)])
refine cS h rfl (fun h=>?_) fun h=>?_
refine rg ?_
refine aC h (Zkp _ _) fun r10 h=>?_
refine rg ?_
refine lM csS r10 ?_
refine lM csS r10 ?_
refine rg ?_
refine jL h (fun x12=>mkS [(4,.ptr 4 (1,4) 0),(8,.ptr 8 (1,8) 0)] [(4,some ((1,4),.box [.bool false,.str (⟨#[]⟩:ByteArray),.int .i64 0])),(8,some ((1,8),.box [.bool (decide (0<(r10.length:Int))),.str x12,.int .i64 (r10.length:Int)]))] 2) (fun k5 h=>?_) fun x12 h=>?_
refine cS h rfl (fun h=>?_) fun h=>?_
refine rg ?_
refine aC h (Zf5 _ _) fun r13 h=>?_
exact jn r13 h (sR [(4,1,4),(8,3,6)])
exact jn (⟨#[]⟩:ByteArray) h (sR [(4,1,4),(8,3,6)])
refine rg ?_
cases h
exact rQ
refine rg ?_
refine cS h rfl (fun h=>?_) fun h=>?_
cases h
refine rg ?_
refine cS h rfl (fun h=>?_) fun h=>?_
cases h
refine rg ?_
refine aC h (Zny _ _) fun r14 h=>?_
cases h
exact rQ}
theorem Ziu (o:List UInt8) (c:UInt8):∀ (k:Nat) (s:List UInt8),(Lib.replaceK o [c] k s).length<=s.length+k
 | 0,s=>by rw [Lib.replaceK];omega
 | k+1,s=>by
   rw [Lib.replaceK]
   split
   omega
   have:=Ziu o c k (s.drop ((Lib.index s o).toNat+o.length))
   simp only [List.length_append,List.length_take,List.length_drop,List.length_singleton] at this ⊢
   omega
theorem ZqM (p:ByteArray) (h:p.size<=300000):Tot (Zbp p ⟨#[95]⟩ ⟨#[32]⟩) fun r=>r.size<=600000:=by{
have hc:Lib.countB p ⟨#[95]⟩<=p.size:=by
 have h:=Lib.countB_mul_le ⟨#[95]⟩ (by decide) p.size p (Nat.le_refl _)
 have e:(⟨#[95]⟩:ByteArray).size=1:=rfl
 rw [e] at h
 omega
have e1:(⟨#[32]⟩:ByteArray).size=1:=rfl
have e2:(⟨#[95]⟩:ByteArray).size=1:=rfl
unfold Zbp
rw [if_pos ⟨⟨by omega,by omega⟩,by rw [e1];omega⟩]
refine Zc ?_
show (Lib.replaceAll p.data.toList [95] [32]).length<=600000
have e3:Lib.replaceAll p.data.toList [95] [32]=Lib.replaceK [95] [32] (Lib.countB p ⟨#[95]⟩) p.data.toList:=rfl
rw [e3]
have:=Ziu [95] 32 (Lib.countB p ⟨#[95]⟩) p.data.toList
have e4:p.data.toList.length=p.size:=rfl
omega}
theorem ZuW (a b:ByteArray) (h:a.size<=1000000):Tot (Zt a b) fun r=>r=true->b.size<=a.size:=by
 unfold Zt
 refine ZaM (Zh (fun hl=>?_) fun _=>Zc fun h=>by cases h)
 exact ZaT (by omega) (by omega) (by omega) fun m _ _=>Zc fun _=>by omega
theorem ZsX (a b:ByteArray) (h:a.size<=1000000):Tot (ZM a b) fun r=>r=true->b.size<=a.size:=by
 unfold ZM
 exact Zi (ZuW a b h) fun r hr=>Zc hr
theorem ZmF (a b:ByteArray) (h:a.size<=1000000):Tot (Za7 a b) fun r=>r.size<=a.size:=by{
unfold Za7 Zax
refine Zi (Q:=fun r=>r.size<=a.size) (Zi (ZuW a b h) fun r hr=>?_) fun r hr=>Zc hr
refine ZN (fun e=>?_) fun _=>Zc (Nat.le_refl _)
have:=hr e
exact ZaT (by omega) (by omega) (by omega) fun m _ hm=>Zc (by omega)}
theorem ZqN (a b:ByteArray) (h:a.size<=1000000):Tot (strings_TrimSuffix a b) fun r=>r.size<=a.size:=by{
unfold strings_TrimSuffix Zaw
refine Zi (Q:=fun r=>r.size<=a.size) (Zi (Q:=fun r=>r=true->b.size<=a.size) ?_ fun r hr=>?_) fun r hr=>Zc hr
unfold ZaA
refine ZaM (Zh (fun hl=>?_) fun _=>Zc fun h=>by cases h)
rw [ZaH]
exact ZaT (by omega) (by omega) (by omega) fun m _ _=>Zc fun _=>by omega
refine ZN (fun e=>?_) fun _=>Zc (Nat.le_refl _)
have:=hr e
rw [ZaH]
exact ZaT (by omega) (by omega) (by omega) fun m _ hm=>Zc (by omega)}
theorem ZsY (p:ByteArray) (h:p.size<=600000):Tot (ZdE p) fun r=>r.size<=600000:=by{
unfold ZdE
refine Zb (v:=()) (by unfold Zsl;rw [if_pos ⟨by omega,by omega,by omega⟩]) ?_
refine ZS (fun x=>0<=x.1/\x.1<=(p.size:Int)/\(x.2.length:Int)<=x.1) (fun x=>p.size-x.1.toNat) ⟨by simp,by simp,by simp⟩ (by omega) ?_
rintro ⟨i,l⟩ rec ⟨h0,h1,h2⟩ ih
dsimp only at h0 h1 h2 ih ⊢
refine Zh (fun hlt=>?_) fun _=>?_
refine ZZ (fun q=>∀ m:List Int,(m.length:Int)<=i+1->Tot (q m) (fun r=>r.size<=600000)) (fun m hm=>?_) fun k19 h19=>?_
rw [ZaH]
exact ih _ ⟨by dsimp only;omega,by dsimp only;omega,by dsimp only;omega⟩ (by dsimp only;omega)
refine ZZ (fun q=>∀ b:Bool,Tot (q b) (fun r=>r.size<=600000)) (fun b=>?_) fun k20 h20=>?_
refine ZN (fun _=>?_) fun _=>h19 _ (by omega)
refine ZdN h0 hlt fun c _ _ _=>?_
exact ZbC 700000 (by simp only [List.length_singleton];omega) (by omega) (by omega) (h19 _ (by simp only [List.length_append,List.length_singleton];omega))
refine ZdN h0 hlt fun c _ _ _=>?_
refine ZeU (fun _=>h20 _) fun _=>Zh (fun hl=>?_) fun _=>h20 _
rw [ZaH]
exact Zcb (by omega) (by omega) fun e _ _=>h20 _
have hz:(strOfNums l).size=l.length:=strOfNums_size l
exact Zi (ZqN _ _ (by omega)) fun r hr=>Zc (by omega)}
theorem ZuX (a:ByteArray) (c:Int) (h:a.size<=1000000):Tot (Zbd a c) fun r=>r.size<=a.size:=by{
unfold Zbd
refine ZS (fun x=>x.size<=a.size) (fun x=>x.size) (Nat.le_refl _) (by omega) fun x rec hJ ih=>?_
refine ZZ (fun q=>∀ b:Bool,(b=true->0<x.size)->Tot (q b) (fun r=>r.size<=a.size)) (fun b hb=>?_) fun k hk=>?_
refine ZN (fun e=>?_) fun _=>Zc hJ
have:=hb e
exact ZaT (by omega) (by omega) (by omega) fun m _ hm=>ih _ (by omega) (by omega)
refine Zh (fun hl=>?_) fun _=>hk _ fun h=>by cases h
exact ZdN (by omega) (by omega) fun c _ _ _=>hk _ fun _=>by omega}
theorem ZsZ (a:ByteArray) (c:Int) (h:a.size<=1000000):Tot (Za1 a c) fun r=>r.size<=a.size:=by{
unfold Za1
refine ZS (fun x=>x.size<=a.size) (fun x=>x.size) (Nat.le_refl _) (by omega) fun x rec hJ ih=>?_
refine ZZ (fun q=>∀ b:Bool,(b=true->0<x.size)->Tot (q b) (fun r=>r.size<=a.size)) (fun b hb=>?_) fun k hk=>?_
refine ZN (fun e=>?_) fun _=>Zc hJ
have:=hb e
rw [ZaH]
exact ZaT (by omega) (by omega) (by omega) fun m _ hm=>ih _ (by omega) (by omega)
refine Zh (fun hl=>?_) fun _=>hk _ fun h=>by cases h
rw [ZaH]
exact ZdN (by omega) (by omega) fun c _ _ _=>hk _ fun _=>by omega}
theorem Zv8 (a:ByteArray) (h:a.size<=1000000):Tot (ZbX a ⟨#[32]⟩) fun r=>r.size<=a.size:=by{
unfold ZbX
refine ZZ (fun q=>∀ b:Bool,Tot (q b) (fun r=>r.size<=a.size)) (fun b=>?_) fun k hk=>Zh (fun _=>hk _) fun _=>hk _
refine ZN (fun _=>Zc (Nat.le_refl _)) fun _=>ZaM ?_
refine Zh (fun _=>?_) fun h=>absurd rfl h
refine Zb (v:=32) rfl ?_
refine ZN (fun _=>?_) fun h=>by cases h
exact Zb (v:=32) rfl (Zi (ZuX a 32 h) fun r hr=>Zc hr)}
theorem ZuY (a:ByteArray) (h:a.size<=1000000):Tot (ZbI a ⟨#[32]⟩) fun r=>r.size<=a.size:=by{
unfold ZbI
refine ZZ (fun q=>∀ b:Bool,Tot (q b) (fun r=>r.size<=a.size)) (fun b=>?_) fun k hk=>Zh (fun _=>hk _) fun _=>hk _
refine ZN (fun _=>Zc (Nat.le_refl _)) fun _=>ZaM ?_
refine Zh (fun _=>?_) fun h=>absurd rfl h
refine Zb (v:=32) rfl ?_
refine ZN (fun _=>?_) fun h=>by cases h
exact Zb (v:=32) rfl (Zi (ZsZ a 32 h) fun r hr=>Zc hr)}
theorem ZqO (n:Nat):∀ (l:List ByteArray),(∀ a ∈ l,a.size<=n)->Lib.lens (l.map (·.data.toList))<=n * l.length
 | [],_=>Nat.zero_le _
 | a::l,h=>by
   have h1:=ZqO n l fun b hb=>h b (List.mem_cons_of_mem _ hb)
   have h2:=h a List.mem_cons_self
   have e:Lib.lens ((a::l).map (·.data.toList))=a.size+Lib.lens (l.map (·.data.toList)):=by simp [Lib.lens]
   rw [e,List.length_cons,Nat.mul_succ]
   omega
theorem ZqP (p:ByteArray) (h:p.size<=600000):Tot (ZcS p) fun r=>r.size<=10000000000000:=by{
have hc:=Zm2 p
unfold ZcS strings_Split
rw [if_pos ⟨⟨by omega,by decide⟩,by omega⟩]
have hl:=Lib.splitB_all ⟨#[47]⟩ (by decide) 0 _ p rfl
have hs:=Zg3 ⟨#[47]⟩ (Lib.countB p ⟨#[47]⟩) p
generalize Lib.splitB ⟨#[47]⟩ 0 (Lib.countB p ⟨#[47]⟩) p=L at hl hs ⊢
refine Zb rfl ?_
refine ZS (fun x=>0<=x.1/\x.2.length=L.length/\∀ a ∈ x.2,a.size<=600000) (fun x=>L.length-x.1.toNat) ⟨by simp,rfl,fun a ha=>Nat.le_trans (hs a ha) h⟩ (by dsimp only;omega) ?_
rintro ⟨i,l⟩ rec ⟨h0,h1,h2⟩ ih
dsimp only at h0 h1 h2 ih ⊢
refine Zh (fun hlt=>?_) fun _=>?_
refine ZZ (fun q=>∀ m:List ByteArray,m.length=L.length->(∀ a ∈ m,a.size<=600000)->Tot (q m) (fun r=>r.size<=10000000000000)) (fun m hm hm2=>?_) fun k15 h15=>?_
rw [ZaH]
exact ih _ ⟨by dsimp only;omega,hm,hm2⟩ (by dsimp only;omega)
refine ZZ (fun q=>∀ m:List ByteArray,m.length=L.length->(∀ a ∈ m,a.size<=600000)->Tot (q m) (fun r=>r.size<=10000000000000)) (fun m hm hm2=>?_) fun k16 h16=>?_
rw [ZaH]
refine Zh (fun _=>?_) fun _=>h15 _ hm hm2
refine Zcb h0 (by omega) fun e he hi=>Zi (ZuY e (by have:=hm2 e he;omega)) fun r hr=>Zcb h0 (by omega) fun _ _ _=>h15 _ ?_ ?_
unfold Zfo
rw [List.length_set];exact hm
intro a ha
rcases List.mem_or_eq_of_mem_set ha with ha | rfl
exact hm2 a ha
exact Nat.le_trans hr (hm2 e he)
refine Zh (fun _=>?_) fun _=>h16 _ h1 h2
refine Zcb h0 (by omega) fun e he hi=>Zi (Zv8 e (by have:=h2 e he;omega)) fun r hr=>Zcb h0 (by omega) fun _ _ _=>h16 _ ?_ ?_
unfold Zfo
rw [List.length_set];exact h1
intro a ha
rcases List.mem_or_eq_of_mem_set ha with ha | rfl
exact h2 a ha
exact Nat.le_trans hr (h2 e he)
have hz:(Lib.join (l.map (·.data.toList)) [47]).length<=10000000000000:=by
 have j2:=ZqO 600000 l h2
 cases l with
 | nil=>exact Nat.zero_le _
 | cons a l=>
   rw [List.map_cons] at j2 ⊢
   rw [Lib.join_length,List.length_map]
   simp only [List.length_cons,List.length_nil] at *
   omega
unfold strings_Join
rw [if_pos ⟨⟨by omega,by omega⟩,by exact Nat.le_trans hz (by omega)⟩]
exact Zb rfl (Zc hz)}
theorem ZnF {s:List UInt8} {n:Int} {r:List UInt8} (h:Zda s=some (n,r)):r.length<=s.length:=by{
unfold Zda at h
split at h
have e:=(Prod.mk.inj (Option.some.inj h)).2
rw [<- e]
unfold Lib.cut
split
simp only [List.length_drop];omega
simp
cases h}
theorem ZtZ {a:ByteArray} (h:a≠⟨#[]⟩):0<a.size:=by{
refine Nat.pos_of_ne_zero fun h0=>h ?_
obtain ⟨⟨l⟩⟩:=a
have:l = []:=List.eq_nil_of_length_eq_zero h0
rw [this]}
theorem ZuZ (p:ByteArray) (h:p.size<=300000):Tot (Zer p) fun r=>r.2=0->r.1.valid=true:=by{
unfold Zer
refine Zi (ZqM p h) fun r1 h1=>Zi (ZsY r1 h1) fun r2 h2=>Zi (ZsX r2 _ (by omega)) fun r3 h3=>?_
refine ZZ (fun q=>∀ x:ByteArray,x.size<=600000->Tot (q x) (fun r=>r.2=0->r.1.valid=true)) (fun x hx=>?_) fun k1 hk1=>?_
refine Zi (Q:=fun r=>r.2.1.size<=600000) ?_ fun r7 h7=>?_
unfold ZeJ
rw [if_pos (by omega)]
cases hp:Zda x.data.toList with
| none=>exact Zc (by show 0<=600000;omega)
| some q=>exact Zc (by have:=ZnF hp;have e:x.data.toList.length=x.size:=rfl;show q.2.length<=600000;omega)
refine ZZ (fun q=>∀ (y:ByteArray) (n:Int),y.size<=600000->Tot (q y n) (fun r=>r.2=0->r.1.valid=true)) (fun y n hy=>?_) fun k2 hk2=>?_
refine Zi (ZqP y hy) fun r11 h11=>?_
refine ZZ (fun q=>∀ b:Bool,(b=true->r11≠⟨#[]⟩)->Tot (q b) (fun r=>r.2=0->r.1.valid=true)) (fun b hb=>?_) fun k3 hk3=>?_
refine ZZ (fun q=>∀ z:ByteArray,Tot (q z) (fun r=>r.2=0->r.1.valid=true)) (fun z=>?_) fun k4 hk4=>?_
refine Zh (fun _=>Zc fun h=>by cases h) fun _=>?_
exact Zb rfl (ZN (fun _=>Zc fun h=>by cases h) fun hv=>Zc fun _=>by simpa using hv)
refine ZN (fun e=>?_) fun _=>hk4 _
have hn:=ZtZ (hb e)
refine ZdN (by omega) (by omega) fun c _ _ _=>?_
refine ZaT (by omega) (by omega) (by omega) fun m _ hm=>?_
exact Zcy (by rw [strOfNums_size];simp only [List.length_singleton];omega) fun _=>hk4 _
refine ZeU (fun hne=>?_) fun _=>hk3 _ fun h=>by cases h
have hn:=ZtZ hne
refine ZdN (by omega) (by omega) fun c _ _ _=>?_
refine Zh (fun _=>?_) fun _=>hk3 _ fun h=>by cases h
exact ZdN (by omega) (by omega) fun c _ _ _=>hk3 _ fun _=>hne
refine ZN (fun _=>?_) fun _=>hk2 _ _ hx
exact Zi (ZmF _ _ (by omega)) fun r hr=>hk2 _ _ (by omega)
refine ZN (fun e=>?_) fun _=>hk1 _ h2
have hz:=h3 e
have e1:(⟨#[58]⟩:ByteArray).size=1:=rfl
refine ZaT (by omega) (by omega) (by omega) fun m _ hm=>?_
exact Zi (ZmF _ _ (by omega)) fun r hr=>hk1 _ (by omega)}
theorem ZpX (p:ByteArray) (h:p.size<=1000000):Tot (Zfe p) fun r=>r = -1\/(0<=r/\r<(p.size:Int)):=by{
unfold Zfe
refine ZS (fun i=>0<=i) (fun i=>p.size-i.toNat) (by omega) (by omega) fun i rec h0 ih=>?_
refine Zh (fun hlt=>?_) fun _=>Zc (.inl rfl)
refine ZZ (fun q=>∀ b:Bool,Tot (q b) (fun r=>r = -1\/(0<=r/\r<(p.size:Int)))) (fun b=>?_) fun k hk=>?_
refine ZN (fun _=>Zc (.inr ⟨h0,hlt⟩)) fun _=>?_
rw [ZaH]
exact ih _ (by omega) (by omega)
refine ZdN h0 hlt fun c _ _ _=>Zh (fun _=>hk _) fun _=>?_
refine ZdN h0 hlt fun c _ _ _=>Zh (fun _=>?_) fun _=>hk _
rw [ZaH]
refine Zh (fun h1=>?_) fun _=>hk _
exact ZdN (by omega) h1 fun c _ _ _=>hk _}
theorem ZvJ (p c:ByteArray) (h:p.size<=1000000):Tot (strings_Cut p c) fun r=>r.1.size<=p.size:=by{
unfold strings_Cut
rw [if_pos (by omega)]
refine Zc ?_
show (Lib.cut p.data.toList c.data.toList).1.length<=p.size
have e:p.data.toList.length=p.size:=rfl
unfold Lib.cut
split
show (List.take _ _).length<=_
rw [List.length_take];omega
exact Nat.le_of_eq e}
theorem ZpY (p:ByteArray) (h:p.size<=1000000) (h0:0<p.size):Tot (ZcV p) fun _=>True:=by{
unfold ZcV
refine ZdN (by omega) (by omega) fun c _ _ _=>ZeU (fun _=>Zc trivial) fun _=>?_
refine ZaT (by omega) (by omega) (by omega) fun m _ hm=>Zi (ZvJ m _ (by omega)) fun r3 h3=>ZN (fun _=>Zc trivial) fun _=>?_
refine Zi (Q:=fun _=>True) ?_ fun r _=>Zc trivial
unfold ZcF ZcN
rw [if_pos ⟨by omega,rfl⟩]
exact Zb rfl (Zc trivial)}
theorem ZiR (a b:ByteArray):Tot (ZM a b) fun _=>True:=by
 unfold ZM Zt
 refine Zi (Q:=fun _=>True) ?_ fun r _=>Zc trivial
 exact ZaM (Zh (fun hl=>ZaT (by omega) (by omega) (by omega) fun m _ _=>Zc trivial) fun _=>Zc trivial)
theorem Zsi (a b:ByteArray) (h:a.size<=1000000):Tot (strings_Contains a b) fun _=>True:=by
 unfold strings_Contains
 rw [if_pos (by omega)]
 exact Zc trivial
def Zn7 (m:Nat) (f:Finder) (n:Node):Option Finder:=if n.kind=1 then ZaO f n.text else if n.kind=6/\¬ n.tag=2 then (Zbq n.kids).bind fun l=>ZaP m f l else some f
def ZiP {α β:Type} (step:β->α->Option β):List α->β->Option β | [],c=>some c | x::l,c=>(step c x).bind fun c'=>ZiP step l c'
theorem Znl {α β:Type} (step:β->α->Option β):∀ (l:List α) (c:β),goL (fun e c k=>(step c e).bind k) (fun c=>some c) l c=ZiP step l c
 | [],c=>rfl
 | x::l,c=>by
   show ((step c x).bind fun c'=>goL (fun e c k=>(step c e).bind k) (fun c=>some c) l c')=_
   unfold ZiP
   congr 1
   funext c'
   exact Znl step l c'
theorem Zr5 {α:Type} {l:List α} {n:Nat} {e:α} (h:l[n]? = some e):atI l (n:Int)=some e:=by
 unfold atI
 rw [if_pos (by omega),Int.toNat_natCast,h]
theorem ZtM (m:Nat) (f:Finder) (l:List Node) (hl:l.length<=4611686018427387900):ZaP (m+1) f l=ZiP (Zn7 m) l f:=by{
rw [<- Znl]
simp only [ZaP]
refine ZtK l (fun n (c:Finder)=>((n:Int),c.links,c.members)) _ _ hl f (fun n e rec c he hn=>?_) (fun rec c=>?_)
have hlt:=(List.getElem?_eq_some_iff.1 he).1
dsimp only
rw [if_pos (decide_eq_true (show (n:Int)<(l.length:Int) by omega)),Zr5 he]
have hw:w64 ((n:Int)+1)=((n+1:Nat):Int):=by rw [ZaH];rfl
simp only [letk,Option.bind_some,hw,Zn7]
by_cases h1:e.kind=1
rw [if_pos (decide_eq_true h1),if_pos h1]
rw [if_neg (by rw [decide_eq_false h1];decide),if_neg h1]
by_cases h6:e.kind=6
rw [if_pos (decide_eq_true h6)]
by_cases h2:e.tag=2
rw [decide_eq_true h2,if_neg (by decide),if_neg (fun h=>h.2 h2)]
rfl
rw [decide_eq_false h2,if_pos (by decide),if_pos ⟨h6,h2⟩]
cases Zbq e.kids with
| none=>rfl
| some k=>rfl
rw [if_neg (by rw [decide_eq_false h6];decide),if_neg (by decide),if_neg (fun h=>h6 h.1)]
rfl
dsimp only
rw [if_neg (by rw [decide_eq_false (by omega)];decide)]}
def Zl6 (m:Nat) (f:Finder) (a:Arg):Option Finder:=(Zbq a.name).bind fun l=>(Zu m f l).bind fun f=>(Zbq a.value).bind fun l=>Zu m f l
def Zi8 (f:Finder) (n:Node):Option Finder:=if n.kind=4 then (Zbq n.kids).bind fun l=>(Zbx l).bind fun r=>if r.2=true then (ZeI 32 f.links [(⟨2,r.1⟩:Link)]).map fun l=>⟨l,f.members⟩ else some f else some f
def ZhH (m:Nat) (f:Finder) (n:Node):Option Finder:=if n.kind=6/\n.tag=2 then some f else (Zi8 f n).bind fun f=>(Zbq n.kids).bind fun l=>(Zu m f l).bind fun f=>(Zm3 n.args).bind fun l=>if l.length<=4611686018427387900 then ZiP (Zl6 m) l f else none
theorem Zr6 {α:Type} {l:List α} {n:Nat} (h:n<l.length):∃ e,l[n]? = some e/\l.drop n=e::l.drop (n+1):=⟨_,List.getElem?_eq_getElem h,List.drop_eq_getElem_cons h⟩
theorem Zvv {β:Type} {m:Nat} {l:List Arg} {c2 c':Finder} {k:List Link->List Memb->Option β} {R:β->Prop} (hl:l.length<=4611686018427387900) (h:ZiP (Zl6 m) l c2=some c') (hk:Tot (k c'.links c'.members) R) :
  Tot (ZaF Zcp (fun f22 ((x254,x255,x256):Int×(List Link)×(List Memb))=>
   if (decide (x254<(l.length:Int))) then
    (atI l x254).bind fun e272=>
    (Zbq e272.name).bind fun l273=>
    (Zu m (⟨x255,x256⟩:Finder) l273).bind fun r274=>
    (Zbq e272.value).bind fun l275=>
    (Zu m r274 l275).bind fun r276=>
    f22 ((w64 (x254+1)),r276.links,r276.members)
   else
   k x255 x256) (0,c2.links,c2.members)) R:=by{
refine ZS (fun a=>∃ (n:Nat) (c:Finder),a=((n:Int),c.links,c.members)/\n<=l.length/\ZiP (Zl6 m) (l.drop n) c=some c') (fun a=>l.length-a.1.toNat) ⟨0,c2,rfl,Nat.zero_le _,h⟩ (by dsimp only;omega) ?_
rintro a rec ⟨n,c,rfl,hn,hc⟩ ih
dsimp only at ih ⊢
refine Zh (fun hlt=>?_) (fun hge=>?_)
obtain ⟨e,he,hd⟩:=Zr6 (show n<l.length by omega)
rw [hd] at hc
obtain ⟨c1,h1,h2⟩:=Option.bind_eq_some_iff.1 hc
obtain ⟨l1,h3,h1⟩:=Option.bind_eq_some_iff.1 h1
obtain ⟨c3,h4,h1⟩:=Option.bind_eq_some_iff.1 h1
obtain ⟨l2,h5,h6⟩:=Option.bind_eq_some_iff.1 h1
refine Zb (Zr5 he) (Zb h3 (Zb h4 (Zb h5 (Zb h6 ?_))))
rw [ZaH]
exact ih _ ⟨n+1,c1,rfl,by omega,h2⟩ (by omega)
obtain rfl:n=l.length:=by omega
rw [List.drop_length] at hc
injection hc with hc
subst hc
exact hk}
theorem Zvw {m:Nat} {f r:Finder} {l:List Node} (hl:l.length<=4611686018427387900) (h:ZiP (ZhH m) l f=some r):Zu (m+1) f l=some r:=by{
refine ZaI ?_
simp only [Zu]
refine ZS (fun a=>∃ (n:Nat) (c:Finder),a=((n:Int),c.links,c.members)/\n<=l.length/\ZiP (ZhH m) (l.drop n) c=some r) (fun a=>l.length-a.1.toNat) ⟨0,f,rfl,Nat.zero_le _,h⟩ (by dsimp only;omega) ?_
rintro a rec ⟨n,c,rfl,hn,hc⟩ ih
dsimp only at ih ⊢
refine Zh (fun hlt=>?_) (fun hge=>?_)
·obtain ⟨e,he,hd⟩:=Zr6 (show n<l.length by omega)
 rw [hd] at hc
 obtain ⟨c',h1,h2⟩:=Option.bind_eq_some_iff.1 hc
 have next:Tot (rec (w64 ((n:Int)+1),c'.links,c'.members)) (fun x=>x=r):=by
  rw [ZaH]
  exact ih _ ⟨n+1,c',rfl,by omega,h2⟩ (by omega)
 refine ZaM (Zb (Zr5 he) (ZaM ?_))
 unfold ZhH at h1
 by_cases h6:e.kind=6/\e.tag=2
 ·rw [if_pos h6] at h1
  injection h1 with h1
  subst h1
  rw [if_pos (decide_eq_true h6.1),decide_eq_true h6.2]
  exact ZN (fun _=>next) fun h=>by cases h
 rw [if_neg h6] at h1
 obtain ⟨c1,h3,h1⟩:=Option.bind_eq_some_iff.1 h1
 obtain ⟨ks,h4,h1⟩:=Option.bind_eq_some_iff.1 h1
 obtain ⟨c2,h5,h1⟩:=Option.bind_eq_some_iff.1 h1
 obtain ⟨al,h7,h1⟩:=Option.bind_eq_some_iff.1 h1
 split at h1
 rename_i hal
 have go:Tot (letk (fun (x240:List Link)=>
   (Zbq e.kids).bind fun l241=>
   (Zu m (⟨x240,c.members⟩:Finder) l241).bind fun r242=>
   (Zm3 e.args).bind fun l243=>
   ZaF Zcp (fun f22 ((x254,x255,x256):Int×(List Link)×(List Memb))=>
    if (decide (x254<(l243.length:Int))) then
     (atI l243 x254).bind fun e272=>
     (Zbq e272.name).bind fun l273=>
     (Zu m (⟨x255,x256⟩:Finder) l273).bind fun r274=>
     (Zbq e272.value).bind fun l275=>
     (Zu m r274 l275).bind fun r276=>
     f22 ((w64 (x254+1)),r276.links,r276.members)
    else
    rec (w64 ((n:Int)+1),x255,x256)) (0,r242.links,r242.members)) fun k21=>
  if (decide (e.kind=4)) then
   (Zbq e.kids).bind fun l277=>
   (Zbx l277).bind fun r278=>
   if r278.2 then
    (ZeI 32 c.links [(⟨2,r278.1⟩:Link)]).bind fun l279=>
    k21 l279
   else
   k21 c.links
  else
  k21 c.links) (fun x=>x=r):=by
  refine ZZ (fun q=>∀ x,(⟨x,c.members⟩:Finder)=c1->Tot (q x) (fun x=>x=r)) (fun x hx=>?_) fun q hq=>?_
  ·rw [hx]
   exact Zb h4 (Zb h5 (Zb h7 (Zvv (k:=fun x y=>rec (w64 ((n:Int)+1),x,y)) hal h1 next)))
  unfold Zi8 at h3
  refine Zh (fun hk=>?_) fun hk=>?_
  rw [if_pos hk] at h3
  obtain ⟨ks',h8,h3⟩:=Option.bind_eq_some_iff.1 h3
  obtain ⟨tr,h9,h3⟩:=Option.bind_eq_some_iff.1 h3
  refine Zb h8 (Zb h9 (ZN (fun h10=>?_) fun h10=>?_))
  rw [if_pos h10] at h3
  obtain ⟨l3,h11,h3⟩:=Option.map_eq_some_iff.1 h3
  exact Zb h11 (hq _ h3)
  rw [if_neg (by rw [h10];decide)] at h3
  injection h3 with h3
  exact hq _ h3
  rw [if_neg hk] at h3
  injection h3 with h3
  exact hq _ h3
 by_cases hk6:e.kind=6
 have ht:¬ e.tag=2:=fun h=>h6 ⟨hk6,h⟩
 rw [if_pos (decide_eq_true hk6),decide_eq_false ht]
 exact ZN (fun h=>by cases h) fun _=>go
 rw [if_neg (by rw [decide_eq_false hk6];decide)]
 exact ZN (fun h=>by cases h) fun _=>go
 cases h1
obtain rfl:n=l.length:=by omega
rw [List.drop_length] at hc
injection hc with hc
subst hc
exact Zc rfl}
def cmt:List UInt8:=[60,33,45,45]
def cmtE:List UInt8:=[45,45,62]
def nwk:List UInt8:=[60,110,111,119,105,107,105,62]
def nwkE:List UInt8:=[60,47,110,111,119,105,107,105,62]
def Zml (l:List UInt8):Int×Int:=if cmt.isPrefixOf l=true then (if 0<=Lib.index (l.drop 4) cmtE then (9,4+Lib.index (l.drop 4) cmtE+3) else (9,(l.length:Int))) else if nwk.isPrefixOf l=true/\0<=Lib.index (l.drop 8) nwkE then (10,8+Lib.index (l.drop 8) nwkE+9) else if 0<(ZgD [60] l).2 then (11,(ZgD [60] l).2) else if 0<(ZgD [60,47] l).2 then (12,(ZgD [60,47] l).2) else (0,0)
theorem Zoh (l p:List UInt8) (h:l.length<=1000000):strings_Index (bs l) (bs p)=some (Lib.index l p):=by
 unfold strings_Index
 rw [if_pos (show (bs l).size<4294967281 from by have:(bs l).size=l.length:=rfl;omega)]
 rfl
theorem Zjk {p l:List UInt8} (h:p.isPrefixOf l=true):p.length<=l.length:=(List.isPrefixOf_iff_prefix.1 h).length_le
theorem Zki (l:List UInt8) (h:l.length<=1000000):Zeo (bs l)=some (Zml l):=by{
have z:(bs l).size=l.length:=rfl
refine ZaI ?_
unfold Zeo Zml
refine Zb (Zdv l cmt) ?_
refine ZN (fun h1=>?_) fun h1=>?_
rw [if_pos h1]
have h4:4<=l.length:=Zjk h1
refine Zb (Zjb l 4 h4) ?_
refine Zb (Zoh (l.drop 4) cmtE (by simp;omega)) ?_
have hx:=Lib.index_le (l.drop 4) cmtE
simp only [List.length_drop] at hx
refine Zh (fun h2=>?_) fun h2=>?_
rw [if_pos h2]
have e1:w64 (4+Lib.index (l.drop 4) cmtE)=4+Lib.index (l.drop 4) cmtE:=ZaH
rw [e1,ZaH]
exact Zc rfl
rw [if_neg h2]
exact Zc rfl
rw [if_neg (by rw [h1];decide)]
refine Zb (Zdv l nwk) ?_
have tags:Tot ((Zcv (bs l) ⟨#[60]⟩).bind fun r9=>if decide (0<r9.2)=true then (some (11,r9.2):Option (Int×Int)) else (Zcv (bs l) ⟨#[60,47]⟩).bind fun r10=>if decide (0<r10.2)=true then some (12,r10.2) else some (0,0)) fun r=>r=if 0<(ZgD [60] l).2 then (11,(ZgD [60] l).2) else if 0<(ZgD [60,47] l).2 then (12,(ZgD [60,47] l).2) else (0,0):=by
 refine Zb (Zf4 [60] l (by decide)) ?_
 refine Zh (fun h2=>?_) fun h2=>?_
 rw [if_pos h2]
 exact Zc rfl
 rw [if_neg h2]
 refine Zb (Zf4 [60,47] l (by decide)) ?_
 refine Zh (fun h3=>?_) fun h3=>?_
 rw [if_pos h3]
 exact Zc rfl
 rw [if_neg h3]
 exact Zc rfl
refine ZaM (ZN (fun h2=>?_) fun h2=>?_)
have h8:8<=l.length:=Zjk h2
refine Zb (Zjb l 8 h8) ?_
refine Zb (Zoh (l.drop 8) nwkE (by simp;omega)) ?_
have hx:=Lib.index_le (l.drop 8) nwkE
simp only [List.length_drop] at hx
refine Zh (fun h3=>?_) fun h3=>?_
rw [if_pos ⟨h2,h3⟩]
have e1:w64 (8+Lib.index (l.drop 8) nwkE)=8+Lib.index (l.drop 8) nwkE:=ZaH
rw [e1,ZaH]
exact Zc rfl
rw [if_neg (fun h=>h3 h.2)]
exact tags
rw [if_neg (fun h=>by rw [h2] at h;cases h.1)]
exact tags}
def Zmm (c:UInt8) (l:List UInt8):Int×Int:=if c=60 then Zml l else if c=123 then (if 2<=Zk0 123 l then (3,(Zk0 123 l:Int)) else (0,0)) else if c=125 then (if 2<=Zk0 125 l then (4,(Zk0 125 l:Int)) else (0,0)) else if c=91 then (if 2<=Zk0 91 l then (5,2) else (0,0)) else if c=93 then (if 2<=Zk0 93 l then (6,2) else (0,0)) else if c=124 then (7,1) else if c=61 then (8,1) else if c=10 then (2,1) else (0,0)
def ZfS:List UInt8->Int×Int | []=>(0,0) | c::l=>Zmm c (c::l)
theorem u8c {c k:UInt8}:((c.toNat:Int)=(k.toNat:Int))↔c=k:=
 ⟨fun h=>UInt8.toNat_inj.1 (by omega),fun h=>by rw [h]⟩
theorem Zkj (c:UInt8) (l:List UInt8) (h:(c::l).length<=1000000):Zdc (bs (c::l))=some (ZfS (c::l)):=by{
refine ZaI ?_
rw [show ZfS (c::l)=Zmm c (c::l) from rfl]
unfold Zdc Zmm
refine Zb (ZtN (L:=c::l) (n:=0) rfl) ?_
refine ZaM ?_
refine Zh (fun h1=>?_) fun h1=>?_
rw [if_pos ((u8c (k:=60)).1 h1)]
exact Zb (Zki _ h) (Zc rfl)
rw [if_neg fun e=>h1 ((u8c (k:=60)).2 e)]
refine Zh (fun h2=>?_) fun h2=>?_
rw [if_pos ((u8c (k:=123)).1 h2)]
refine Zb (ZeO 123 _ h) (Zh (fun h3=>?_) fun h3=>?_)
rw [if_pos (by omega)];exact Zc rfl
rw [if_neg (by omega)];exact Zc rfl
rw [if_neg fun e=>h2 ((u8c (k:=123)).2 e)]
refine Zh (fun h3=>?_) fun h3=>?_
rw [if_pos ((u8c (k:=125)).1 h3)]
refine Zb (ZeO 125 _ h) (Zh (fun h3=>?_) fun h3=>?_)
rw [if_pos (by omega)];exact Zc rfl
rw [if_neg (by omega)];exact Zc rfl
rw [if_neg fun e=>h3 ((u8c (k:=125)).2 e)]
refine Zh (fun h4=>?_) fun h4=>?_
rw [if_pos ((u8c (k:=91)).1 h4)]
refine Zb (ZeO 91 _ h) (Zh (fun h3=>?_) fun h3=>?_)
rw [if_pos (by omega)];exact Zc rfl
rw [if_neg (by omega)];exact Zc rfl
rw [if_neg fun e=>h4 ((u8c (k:=91)).2 e)]
refine Zh (fun h5=>?_) fun h5=>?_
rw [if_pos ((u8c (k:=93)).1 h5)]
refine Zb (ZeO 93 _ h) (Zh (fun h3=>?_) fun h3=>?_)
rw [if_pos (by omega)];exact Zc rfl
rw [if_neg (by omega)];exact Zc rfl
rw [if_neg fun e=>h5 ((u8c (k:=93)).2 e)]
refine Zh (fun h6=>?_) fun h6=>?_
rw [if_pos ((u8c (k:=124)).1 h6)]
exact Zc rfl
rw [if_neg fun e=>h6 ((u8c (k:=124)).2 e)]
refine Zh (fun h7=>?_) fun h7=>?_
rw [if_pos ((u8c (k:=61)).1 h7)]
exact Zc rfl
rw [if_neg fun e=>h7 ((u8c (k:=61)).2 e)]
refine Zh (fun h8=>?_) fun h8=>?_
rw [if_pos ((u8c (k:=10)).1 h8)]
exact Zc rfl
rw [if_neg fun e=>h8 ((u8c (k:=10)).2 e)]
exact Zc rfl}
def Zfx (L:List UInt8):Nat->Nat->Nat->List Tok | 0,st,_=>if st<L.length then [⟨1,(st:Int),(L.length:Int)⟩] else [] | f+1,st,i=>if i<L.length then (if (ZfS (L.drop i)).1=0 then Zfx L f st (i+1) else (if st<i then [⟨1,(st:Int),(i:Int)⟩] else [])++⟨(ZfS (L.drop i)).1,(i:Int),(i:Int)+(ZfS (L.drop i)).2⟩::Zfx L f (i+(ZfS (L.drop i)).2.toNat) (i+(ZfS (L.drop i)).2.toNat)) else if st<L.length then [⟨1,(st:Int),(L.length:Int)⟩] else []
theorem Zrz {L:List UInt8} {st i:Nat} (h:¬ i<L.length):∀ f,Zfx L f st i=if st<L.length then [⟨1,(st:Int),(L.length:Int)⟩] else []
 | 0=>rfl
 | f+1=>by
   unfold Zfx
   rw [if_neg h]
theorem ZlO (pfx l:List UInt8):(ZgD pfx l=(0,0))\/((1<=(ZgD pfx l).1/\(ZgD pfx l).1<=3)/\1<=(ZgD pfx l).2/\(ZgD pfx l).2<=(l.length:Int)):=by{
have z:([62]:List UInt8).length=1:=rfl
unfold ZgD
split
rename_i h
have:=Zjk h
simp only [List.length_append] at this ⊢
exact .inr ⟨⟨by decide,by decide⟩,by omega,by omega⟩
split
rename_i h
have:=Zjk h
simp only [List.length_append] at this ⊢
exact .inr ⟨⟨by decide,by decide⟩,by omega,by omega⟩
split
rename_i h
have:=Zjk h
simp only [List.length_append] at this ⊢
exact .inr ⟨⟨by decide,by decide⟩,by omega,by omega⟩
exact .inl rfl}
def Zia (l:List UInt8) (q:Int×Int):Prop:=q.1=0\/((2<=q.1/\q.1<=12)/\(1<=q.2/\q.2<=(l.length:Int))/\(q.1=10->17<=q.2)/\(q.1=11->0<(ZgD [60] l).2/\q.2=(ZgD [60] l).2))
theorem fo0 {l:List UInt8} (n:Int):Zia l (0,n):=.inl rfl
theorem fo {l:List UInt8} {k n:Int} (h1:2<=k/\k<=12) (h2:1<=n/\n<=(l.length:Int)) (h3:k=10->17<=n) (h4:k=11->0<(ZgD [60] l).2/\n=(ZgD [60] l).2):Zia l (k,n):=.inr ⟨h1,h2,h3,h4⟩
theorem ZrA (l:List UInt8) (h:l≠[]):Zia l (Zml l):=by{
have hl:1<=l.length:=List.length_pos_iff.2 h
unfold Zml
split
rename_i h1
have h4:4<=l.length:=Zjk h1
split
rename_i h2
have:=Lib.index_room _ _ h2
have z:cmtE.length=3:=rfl
simp only [List.length_drop] at this
exact fo ⟨by decide,by decide⟩ ⟨by omega,by omega⟩ (fun h=>by cases h) fun h=>by cases h
exact fo ⟨by decide,by decide⟩ ⟨by omega,by omega⟩ (fun h=>by cases h) fun h=>by cases h
split
rename_i h2
have h8:8<=l.length:=Zjk h2.1
have:=Lib.index_room _ _ h2.2
have z:nwkE.length=9:=rfl
simp only [List.length_drop] at this
exact fo ⟨by decide,by decide⟩ ⟨by omega,by omega⟩ (fun _=>by omega) fun h=>by cases h
split
rename_i h3
rcases ZlO [60] l with h4 | h4
rw [h4] at h3;cases h3
exact fo ⟨by decide,by decide⟩ h4.2 (fun h=>by cases h) fun _=>⟨h3,rfl⟩
split
rename_i h3
rcases ZlO [60,47] l with h4 | h4
rw [h4] at h3;cases h3
exact fo ⟨by decide,by decide⟩ h4.2 (fun h=>by cases h) fun h=>by cases h
exact fo0 _}
theorem Zm6:∀ l:List UInt8,Zia l (ZfS l)
 | []=>.inl rfl
 | c::l=>by
   have r (k:UInt8):=ZnN k (c::l)
   show Zia (c::l) (Zmm c (c::l))
   unfold Zmm
   split
   exact ZrA _ (by simp)
   have hl:1<=(c::l).length:=by simp
   have r123:=r 123
   have r125:=r 125
   have r91:=r 91
   have r93:=r 93
   repeat' split
   all_goals first
    | exact fo0 _
    | exact fo ⟨by decide,by decide⟩ ⟨by omega,by omega⟩ (fun h=>by cases h) fun h=>by cases h
theorem ZlP (a b:List Tok) (h:a.length+b.length<=1000000):ZeI 24 a b=some (a++b):=Zl3 1000000 h (by decide) (by decide)
theorem ZlQ (L:List UInt8) (h:L.length<=8192):Ze7 (bs L)=some (Zfx L L.length 0 0,0):=by{
have z:(bs L).size=L.length:=rfl
refine ZaI ?_
unfold Ze7
refine Zh (fun h2=>absurd h2 (by omega)) fun _=>?_
refine ZS (fun a:Int×Int×List Tok=>∃ st i f:Nat,a.1=(st:Int)/\a.2.1=(i:Int)/\st<=i/\i<=L.length/\L.length<=i+f/\a.2.2.length<=2 * i/\a.2.2++Zfx L f st i=Zfx L L.length 0 0)
 (fun a=>L.length-a.2.1.toNat) ⟨0,0,L.length,rfl,rfl,by omega,by omega,by omega,by simp,rfl⟩ (by dsimp only;omega) ?_
rintro ⟨x,y,acc⟩ rec ⟨st,i,f,hx,hy,h1,h3,h4,h5,h6⟩ ih
dsimp only at hx hy h5 h6
subst hx hy
dsimp only at ih ⊢
refine Zh (fun hi=>?_) fun hi=>?_
have hi':i<L.length:=by omega
obtain ⟨f,rfl⟩:∃ f',f=f'+1:=⟨f-1,by omega⟩
have hd:L.drop i=L[i]::L.drop (i+1):=List.drop_eq_getElem_cons hi'
have hlen:(L.drop i).length=L.length-i:=List.length_drop
refine Zb (Zjb L i (by omega)) ?_
have hf:Zdc (bs (L.drop i))=some (ZfS (L.drop i)):=by
 rw [hd]
 exact Zkj _ _ (by rw [<- hd];omega)
refine Zb hf ?_
have hok:=Zm6 (L.drop i)
rw [Zfx,if_pos hi'] at h6
generalize hq:ZfS (L.drop i)=q at hok h6 ⊢
refine Zh (fun h0=>?_) fun h0=>?_
rw [if_pos h0] at h6
rw [ZaH]
exact ih (st,((i:Int)+1),acc) ⟨st,i+1,f,rfl,by simp,by omega,by omega,by omega,by dsimp only;omega,h6⟩ (by dsimp only;omega)
rw [if_neg h0] at h6
rcases hok with hok | hok
exact absurd hok h0
obtain ⟨_,⟨k1,k2⟩,_⟩:=hok
have e1:w64 ((i:Int)+q.2)=(i:Int)+q.2:=ZaH
have e2:(i:Int)+q.2=((i+q.2.toNat:Nat):Int):=by omega
refine ZZ (fun K=>∀ l':List Tok,l'.length<=2 * i+1->l'++⟨q.1,(i:Int),(i:Int)+q.2⟩::Zfx L f (i+q.2.toNat) (i+q.2.toNat)=Zfx L L.length 0 0->Tot (K l') fun r=>r=(Zfx L L.length 0 0,0)) (fun l' hl he=>?_) fun K hK=>?_
rw [e1]
refine Zb (ZlP l' [⟨q.1,(i:Int),(i:Int)+q.2⟩] (by simp;omega)) ?_
refine ih ((i:Int)+q.2,(i:Int)+q.2,l' ++ [⟨q.1,(i:Int),(i:Int)+q.2⟩]) ⟨i+q.2.toNat,i+q.2.toNat,f,e2,e2,Nat.le_refl _,by omega,by omega,by simp;omega,?_⟩ (by dsimp only;omega)
rw [List.append_assoc]
exact he
refine Zh (fun h7=>?_) fun h7=>?_
rw [if_pos (by omega)] at h6
refine Zb (ZlP acc [⟨1,(st:Int),(i:Int)⟩] (by simp;omega)) ?_
refine hK _ (by simp;omega) ?_
rw [List.append_assoc]
exact h6
rw [if_neg (by omega)] at h6
exact hK acc (by omega) h6
rw [Zrz (by omega)] at h6
refine ZaM (Zh (fun h7=>?_) fun h7=>?_)
rw [if_pos (by omega)] at h6
refine Zb (ZlP acc [⟨1,(st:Int),((bs L).size:Int)⟩] (by simp;omega)) ?_
refine Zc ?_
rw [<- h6]
rfl
rw [if_neg (by omega)] at h6
refine Zc ?_
rw [<- h6,List.append_nil]}
inductive LW:Bool->Nat->List (List PV)->Prop
 | nil (b:Bool) (w:Nat):LW b w []
 | node (n:Node) (l:List (List PV)) (w wk wa wl:Nat) (h:n.text.size+1+wk+wa+wl<=w) (hk:LW false wk n.kids) (ha:LW true wa n.args) (hl:LW false wl l):LW false w (n.cs::l)
 | arg (a:Arg) (l:List (List PV)) (w wn wv wl:Nat) (h:4+wn+wv+wl<=w) (hn:LW false wn a.name) (hv:LW false wv a.value) (hl:LW true wl l):LW true w (a.cs::l)
theorem LW.mono {b:Bool} {w w':Nat} {l:List (List PV)} (h:LW b w l) (hw:w<=w'):LW b w' l:=by{
cases h with
| nil=>exact .nil _ _
| node n l w wk wa wl h hk ha hl=>exact .node n l w' wk wa wl (by omega) hk ha hl
| arg a l w wn wv wl h hn hv hl=>exact .arg a l w' wn wv wl (by omega) hn hv hl}
theorem ZoI {a b:Node} (h:a.cs=b.cs):a=b:=by{
obtain ⟨a1,a2,a3,a4,a5⟩:=a
obtain ⟨b1,b2,b3,b4,b5⟩:=b
simp [Node.cs] at h
simp [h]}
theorem Zrl {a b:Arg} (h:a.cs=b.cs):a=b:=by{
obtain ⟨a1,a2,a3⟩:=a
obtain ⟨b1,b2,b3⟩:=b
simp [Arg.cs] at h
simp [h]}
theorem LW.node_inv {w:Nat} {x:List PV} {l:List (List PV)} (h:LW false w (x::l)):∃ (n:Node) (wk wa wl:Nat),x=n.cs/\n.text.size+1+wk+wa+wl<=w/\LW false wk n.kids/\LW true wa n.args/\LW false wl l:=by
 cases h with
 | node n l w wk wa wl h hk ha hl=>exact ⟨n,wk,wa,wl,rfl,h,hk,ha,hl⟩
theorem LW.arg_inv {w:Nat} {x:List PV} {l:List (List PV)} (h:LW true w (x::l)):∃ (a:Arg) (wn wv wl:Nat),x=a.cs/\4+wn+wv+wl<=w/\LW false wn a.name/\LW false wv a.value/\LW true wl l:=by
 cases h with
 | arg a l w wn wv wl h hn hv hl=>exact ⟨a,wn,wv,wl,rfl,h,hn,hv,hl⟩
theorem LW.app {b:Bool}:∀ {l1 l2:List (List PV)} {w1 w2:Nat},LW b w1 l1->LW b w2 l2->LW b (w1+w2) (l1++l2)
 | [],l2,w1,w2,_,h=>h.mono (by omega)
 | x::l1,l2,w1,w2,h1,h2=>by
   cases b with
   | false=>
     obtain ⟨n,wk,wa,wl,rfl,h,hk,ha,hl⟩:=h1.node_inv
     exact .node n _ _ wk wa (wl+w2) (by omega) hk ha (LW.app hl h2)
   | true=>
     obtain ⟨a,wn,wv,wl,rfl,h,hn,hv,hl⟩:=h1.arg_inv
     exact .arg a _ _ wn wv (wl+w2) (by omega) hn hv (LW.app hl h2)
theorem LW.len {b:Bool}:∀ {l:List (List PV)} {w:Nat},LW b w l->l.length<=w
 | [],w,_=>Nat.zero_le _
 | x::l,w,h=>by
   cases b with
   | false=>
     obtain ⟨n,wk,wa,wl,rfl,h,hk,ha,hl⟩:=h.node_inv
     have:=LW.len hl
     simp
     omega
   | true=>
     obtain ⟨a,wn,wv,wl,rfl,h,hn,hv,hl⟩:=h.arg_inv
     have:=LW.len hl
     simp
     omega
theorem LW.split {b:Bool}:∀ {l1 l2:List (List PV)} {w:Nat},LW b w (l1++l2)->∃ w1 w2,w1+w2<=w/\LW b w1 l1/\LW b w2 l2
 | [],l2,w,h=>⟨0,w,by omega,.nil _ _,h⟩
 | x::l1,l2,w,h=>by
   rw [List.cons_append] at h
   cases b with
   | false=>
     obtain ⟨n,wk,wa,wl,rfl,h,hk,ha,hl⟩:=h.node_inv
     obtain ⟨w1,w2,h0,h1,h2⟩:=LW.split hl
     exact ⟨n.text.size+1+wk+wa+w1,w2,by omega,.node n _ _ wk wa w1 (Nat.le_refl _) hk ha h1,h2⟩
   | true=>
     obtain ⟨a,wn,wv,wl,rfl,h,hn,hv,hl⟩:=h.arg_inv
     obtain ⟨w1,w2,h0,h1,h2⟩:=LW.split hl
     exact ⟨4+wn+wv+w1,w2,by omega,.arg a _ _ wn wv w1 (Nat.le_refl _) hn hv h1,h2⟩
theorem LW.node1 {w:Nat} {n:Node} (h:LW false w [n.cs]):∃ wk wa,n.text.size+1+wk+wa<=w/\LW false wk n.kids/\LW true wa n.args:=by
 obtain ⟨m,wk,wa,wl,e,h,hk,ha,hl⟩:=h.node_inv
 obtain rfl:=ZoI e
 exact ⟨wk,wa,by omega,hk,ha⟩
theorem LW.arg1 {w:Nat} {a:Arg} (h:LW true w [a.cs]):∃ wn wv,4+wn+wv<=w/\LW false wn a.name/\LW false wv a.value:=by
 obtain ⟨m,wk,wa,wl,e,h,hk,ha,hl⟩:=h.arg_inv
 obtain rfl:=Zrl e
 exact ⟨wk,wa,by omega,hk,ha⟩
theorem LW.mk1 {w:Nat} (k t:Int) (s:ByteArray) {kids args:List (List PV)} {wk wa:Nat} (hk:LW false wk kids) (ha:LW true wa args) (h:s.size+1+wk+wa<=w):LW false w [Node.cs ⟨k,t,s,kids,args⟩]:=
 .node ⟨k,t,s,kids,args⟩ [] w wk wa 0 (by dsimp only;omega) hk ha (.nil _ _)
theorem LW.mkA {w:Nat} (b:Bool) {n v:List (List PV)} {wn wv:Nat} (hn:LW false wn n) (hv:LW false wv v) (h:4+wn+wv<=w):LW true w [Arg.cs ⟨b,n,v⟩]:=
 (.arg ⟨b,n,v⟩ [] w wn wv 0 (by omega) hn hv (.nil _ _))
def EW (w:Nat) (e:El):Prop:=((e.kind=2->1<=e.tag/\e.tag<=3)/\0<=e.count)/\∃ wl wa,wl+wa+20+e.count.toNat<=w/\LW false wl e.list/\LW true wa (e.argL.map Arg.cs)
theorem EW.mono {w w':Nat} {e:El} (h:EW w e) (hw:w<=w'):EW w' e:=by
 obtain ⟨h0,wl,wa,h1,h2,h3⟩:=h
 exact ⟨h0,wl,wa,by omega,h2,h3⟩
theorem EW.focus {w:Nat} {e:El} (h:EW w e):∃ wc wo,wc+wo<=w/\LW false wc e.cur/\∀ (l':List (List PV)) (wc':Nat),LW false wc' l'->EW (wc'+wo) (e.setCur l'):=by{
obtain ⟨kind,tag,count,list,args⟩:=e
obtain ⟨h0,wl,wa,h1,h2,h3⟩:=h
dsimp only at h0 h1 h2
cases args with
| none=>exact ⟨wl,wa+20+count.toNat,by omega,h2,fun l' wc' hl=>⟨h0,wc',wa,by dsimp only [El.setCur];omega,hl,h3⟩⟩
| some q=>
  obtain ⟨pre,a⟩:=q
  by_cases hk:kind=3
  have h4:LW true wa ((pre ++ [a]).map Arg.cs):=h3
  rw [List.map_append] at h4
  obtain ⟨w1,w2,h5,h6,h7⟩:=h4.split
  obtain ⟨wn,wv,h8,h9,h10⟩:=LW.arg1 h7
  refine ⟨wv,wl+w1+4+wn+20+count.toNat,by omega,?_,fun l' wc' hl=>?_⟩
  show LW false wv (if kind=3 then a.value else list)
  rw [if_pos hk]
  exact h10
  have e:El.setCur ⟨kind,tag,count,list,some (pre,a)⟩ l'=⟨kind,tag,count,list,some (pre,⟨a.named,a.name,l'⟩)⟩:=by
   unfold El.setCur
   dsimp only
   rw [if_pos hk]
  rw [e]
  refine ⟨h0,wl,w1+(4+wn+wc'),by dsimp only;omega,h2,?_⟩
  show LW true _ ((pre ++ [(⟨a.named,a.name,l'⟩:Arg)]).map Arg.cs)
  rw [List.map_append]
  exact LW.app h6 (LW.mkA _ h9 hl (Nat.le_refl _))
  refine ⟨wl,wa+20+count.toNat,by omega,?_,fun l' wc' hl=>?_⟩
  show LW false wl (if kind=3 then a.value else list)
  rw [if_neg hk]
  exact h2
  have e:El.setCur ⟨kind,tag,count,list,some (pre,a)⟩ l'=⟨kind,tag,count,l',some (pre,a)⟩:=by
   unfold El.setCur
   dsimp only
   rw [if_neg hk]
  rw [e]
  exact ⟨h0,wc',wa,by dsimp only;omega,hl,h3⟩}
theorem Zrm {w wn:Nat} {l:List (List PV)} {n:Node} (h:LW false w l) (hn:LW false wn [n.cs]) (hb:w+wn<=1000000):∃ l',Zjp l n=some l'/\LW false (w+wn) l':=by
 have h1:=h.len
 have h2:=hn.len
 refine ⟨l ++ [n.cs],Zl3 1000000 (by simp at h2 ⊢;omega) (by omega) (by omega),LW.app h hn⟩
theorem Zve {w:Nat} {l:List (List PV)} {s:ByteArray} (h:LW false w l) (hb:w+s.size+1<=1000000):∃ l',Zmp l s=some l'/\LW false (w+(s.size+1)) l':=by{
have hn:∃ l',Zjp l ⟨1,0,s,[],[]⟩=some l'/\LW false (w+(s.size+1)) l':=Zrm h (LW.mk1 1 0 s (LW.nil _ 0) (LW.nil _ 0) (by omega)) (by omega)
unfold Zmp
split
exact hn
rename_i x hx
obtain ⟨init,rfl⟩:=List.getLast?_eq_some_iff.1 hx
obtain ⟨w1,w2,h1,h2,h3⟩:=h.split
obtain ⟨n,wk,wa,wl,rfl,h4,hk,ha,_⟩:=h3.node_inv
rw [show Zuz n.cs=some n from rfl]
show ∃ l',(if n.kind=1 then (Zbs n.text s).map fun y=>(init ++ [n.cs]).dropLast ++ [Node.cs ⟨1,n.tag,y,n.kids,n.args⟩] else Zjp (init ++ [n.cs]) ⟨1,0,s,[],[]⟩)=some l'/\_
by_cases hk1:n.kind=1
rw [if_pos hk1,Zn4 (by omega)]
refine ⟨_,rfl,?_⟩
rw [List.dropLast_concat]
refine LW.mono (LW.app h2 (LW.mk1 1 n.tag (n.text++s) hk ha (Nat.le_refl _))) ?_
rw [ByteArray.size_append]
omega
rw [if_neg hk1]
exact hn}
def alike (e e':El):Prop:=e'.kind=e.kind/\e'.tag=e.tag/\e'.count=e.count/\(e'.args=none↔e.args=none)
theorem alike.refl (e:El):alike e e:=⟨rfl,rfl,rfl,Iff.rfl⟩
theorem alike.trans {a b c:El} (h:alike a b) (k:alike b c):alike a c:=⟨k.1.trans h.1,k.2.1.trans h.2.1,k.2.2.1.trans h.2.2.1,k.2.2.2.trans h.2.2.2⟩
theorem ZmZ (e:El) (l:List (List PV)):alike e (e.setCur l):=by{
obtain ⟨kind,tag,count,list,args⟩:=e
cases args with
| none=>exact ⟨rfl,rfl,rfl,Iff.rfl⟩
| some q=>
  obtain ⟨pre,a⟩:=q
  unfold El.setCur
  dsimp only
  split
  exact ⟨rfl,rfl,rfl,by simp⟩
  exact ⟨rfl,rfl,rfl,Iff.rfl⟩}
theorem Zrn {w wn:Nat} {e:El} {n:Node} (h:EW w e) (hn:LW false wn [n.cs]) (hb:w+wn<=1000000):∃ e',ZgA e n=some e'/\EW (w+wn) e'/\alike e e':=by
 obtain ⟨wc,wo,h1,h2,h3⟩:=h.focus
 obtain ⟨l',h4,h5⟩:=Zrm h2 hn (by omega)
 exact ⟨e.setCur l',by unfold ZgA;rw [h4];rfl,(h3 l' _ h5).mono (by omega),ZmZ e l'⟩
theorem Zg1 {w:Nat} {e:El} {s:ByteArray} (h:EW w e) (hb:w+s.size+1<=1000000):∃ e',ZbF e s=some e'/\EW (w+(s.size+1)) e'/\alike e e':=by{
unfold ZbF
split
exact ⟨e,rfl,h.mono (by omega),alike.refl e⟩
obtain ⟨wc,wo,h1,h2,h3⟩:=h.focus
obtain ⟨l',h4,h5⟩:=Zve (s:=s) h2 (by omega)
exact ⟨e.setCur l',by rw [h4];rfl,(h3 l' _ h5).mono (by omega),ZmZ e l'⟩}
theorem ZoJ:∀ {l:List (List PV)} {w wl:Nat} {e:El},EW w e->LW false wl l->w+wl<=1000000->∃ e',Zij e l=some e'/\EW (w+wl) e'/\alike e e'
 | [],w,wl,e,h,_,_=>⟨e,rfl,h.mono (by omega),alike.refl e⟩
 | x::l,w,wl,e,h,hl,hb=>by
   obtain ⟨n,wk,wa,wr,rfl,h1,hk,ha,hr⟩:=hl.node_inv
   have step:∃ e',(if n.kind=1 then ZbF e n.text else ZgA e n)=some e'/\EW (w+(n.text.size+1+wk+wa)) e'/\alike e e':=by
    by_cases hk1:n.kind=1
    ·rw [if_pos hk1]
     obtain ⟨e',h2,h3,h4⟩:=Zg1 (s:=n.text) h (by omega)
     exact ⟨e',h2,h3.mono (by omega),h4⟩
    ·rw [if_neg hk1]
     exact Zrn h (LW.mk1 n.kind n.tag n.text hk ha (Nat.le_refl _)) (by omega)
   obtain ⟨e',h2,h3,h4⟩:=step
   obtain ⟨e2,h5,h6,h7⟩:=ZoJ h3 hr (by omega)
   refine ⟨e2,?_,h6.mono (by omega),h4.trans h7⟩
   show ((Zuz n.cs).bind fun n=>(if n.kind=1 then ZbF e n.text else ZgA e n).bind fun e'=>Zij e' l)=_
   rw [show Zuz n.cs=some n from rfl]
   show ((if n.kind=1 then ZbF e n.text else ZgA e n).bind fun e'=>Zij e' l)=_
   rw [h2]
   exact h5
theorem Zi1 {l:List (List PV)} {w wl:Nat} {e:El} (h:EW w e) (hl:LW false wl l) (hb:w+wl<=1000000):∃ e',ZdS e l=some e'/\EW (w+wl) e'/\alike e e':=by{
have:=hl.len
unfold ZdS
rw [if_pos (by omega)]
exact ZoJ h hl hb}
theorem Zro {a:Arg} {w wn wv:Nat} {e:El} (h:EW w e) (hn:LW false wn a.name) (hv:LW false wv a.value) (hb:w+(4+wn+wv)<=1000000):∃ e',ZjP e a=some e'/\EW (w+(4+wn+wv)) e'/\alike e e':=by{
have z1:(⟨#[124]⟩:ByteArray).size=1:=rfl
have z2:(⟨#[61]⟩:ByteArray).size=1:=rfl
obtain ⟨b,h1,h2,h3⟩:=Zg1 (s:=⟨#[124]⟩) h (by omega)
have mid:∃ d,((if a.named=true then (ZdS b a.name).bind fun c=>ZbF c ⟨#[61]⟩ else some b):Option El)=some d/\EW (w+(4+wn)) d/\alike b d:=by
 by_cases hm:a.named=true
 rw [if_pos hm]
 obtain ⟨c,h4,h5,h6⟩:=Zi1 h2 hn (by omega)
 obtain ⟨d,h7,h8,h9⟩:=Zg1 (s:=⟨#[61]⟩) h5 (by omega)
 exact ⟨d,by rw [h4];exact h7,h8.mono (by omega),h6.trans h9⟩
 rw [if_neg hm]
 exact ⟨b,rfl,h2.mono (by omega),alike.refl b⟩
obtain ⟨d,h4,h5,h6⟩:=mid
obtain ⟨e',h7,h8,h9⟩:=Zi1 h5 hv (by omega)
refine ⟨e',?_,h8.mono (by omega),h3.trans (h6.trans h9)⟩
unfold ZjP
rw [h1]
show (((if a.named=true then (ZdS b a.name).bind fun c=>ZbF c ⟨#[61]⟩ else some b):Option El).bind fun d=>ZdS d a.value)=_
rw [h4]
exact h7}
theorem Zk4:∀ {l:List Arg} {w wl:Nat} {e:El},EW w e->LW true wl (l.map Arg.cs)->w+wl<=1000000->∃ e',ZeP e l=some e'/\EW (w+wl) e'/\alike e e'
 | [],w,wl,e,h,_,_=>⟨e,rfl,h.mono (by omega),alike.refl e⟩
 | a::l,w,wl,e,h,hl,hb=>by
   rw [List.map_cons] at hl
   obtain ⟨a',wn,wv,wr,ea,h1,hn,hv,hr⟩:=hl.arg_inv
   obtain rfl:=Zrl ea
   obtain ⟨e1,h2,h3,h4⟩:=Zro h hn hv (by omega)
   obtain ⟨e2,h5,h6,h7⟩:=Zk4 h3 hr (by omega)
   refine ⟨e2,?_,h6.mono (by omega),h4.trans h7⟩
   show ((ZjP e a).bind fun e'=>ZeP e' l)=_
   rw [h2]
   exact h5
theorem Zwe {b:UInt8} {c:Int} (h0:0<=c) (h1:c<=1000000):∃ s,strings_Repeat ⟨#[b]⟩ c=some s/\s.size=c.toNat/\(c=0->s=⟨#[]⟩):=by{
have z:(⟨#[b]⟩:ByteArray).size=1:=rfl
refine ⟨⟨(Lib.repeatL [b] c.toNat).toArray⟩,?_,?_,fun h=>?_⟩
unfold strings_Repeat
rw [if_pos ⟨h0,by omega,by rw [z,Nat.one_mul];omega⟩]
show (Lib.repeatL [b] c.toNat).length=_
rw [Lib.repeatL_length]
simp
subst h
rfl}
theorem ZqX {t:Int} (h1:1<=t) (h3:t<=3):∃ s,ZdY t=some s/\s.size<=13:=by{
have:t=1\/t=2\/t=3:=by omega
rcases this with rfl | rfl | rfl
exact ⟨⟨#[60,110,111,105,110,99,108,117,100,101,62]⟩,by kernel_rfl,by decide⟩
exact ⟨⟨#[60,105,110,99,108,117,100,101,111,110,108,121,62]⟩,by kernel_rfl,by decide⟩
exact ⟨⟨#[60,111,110,108,121,105,110,99,108,117,100,101,62]⟩,by kernel_rfl,by decide⟩}
theorem Zpn {w c:Nat} {e e2:El} (ht:e.kind=2->1<=e.tag/\e.tag<=3) (h0:0<=e.count) (hc:e.count.toNat=c) (h:EW w e2) (hb:w+20+c<=1000000):∃ a,Zgp e e2=some a/\EW (w+20+c) a/\alike e2 a:=by{
have z1:(⟨#[91,91]⟩:ByteArray).size=2:=rfl
unfold Zgp
by_cases k1:e.kind=1
rw [if_pos k1]
obtain ⟨a,h1,h2,h3⟩:=Zg1 (s:=⟨#[91,91]⟩) h (by omega)
exact ⟨a,h1,h2.mono (by omega),h3⟩
rw [if_neg k1]
by_cases k2:e.kind=2
rw [if_pos k2]
obtain ⟨s,hs,hz⟩:=ZqX (ht k2).1 (ht k2).2
obtain ⟨a,h1,h2,h3⟩:=Zg1 (s:=s) h (by omega)
exact ⟨a,by rw [hs];exact h1,h2.mono (by omega),h3⟩
rw [if_neg k2]
by_cases k3:e.kind=3
rw [if_pos k3]
obtain ⟨s,hs,hz,_⟩:=Zwe (b:=123) h0 (by omega)
obtain ⟨a,h1,h2,h3⟩:=Zg1 (s:=s) h (by omega)
exact ⟨a,by rw [hs];exact h1,h2.mono (by omega),h3⟩
rw [if_neg k3]
exact ⟨e2,rfl,h.mono (by omega),alike.refl _⟩}
theorem Zpo {w w2:Nat} {e e2:El} (h:EW w e) (h2:EW w2 e2) (hb:w+w2<=1000000):∃ e3,Zgq e e2=some e3/\EW (w+w2) e3/\alike e2 e3:=by{
obtain ⟨⟨ht,h0⟩,wl,wa,h3,h4,h5⟩:=h
obtain ⟨a,a1,a2,a3⟩:=Zpn ht h0 rfl h2 (by omega)
obtain ⟨b,b1,b2,b3⟩:=Zi1 a2 h4 (by omega)
obtain ⟨c,c1,c2,c3⟩:=Zk4 b2 h5 (by omega)
have hl:=h5.len
rw [List.length_map] at hl
refine ⟨c,?_,c2.mono (by omega),a3.trans (b3.trans c3)⟩
unfold Zgq
rw [a1]
show ((ZdS a e.list).bind fun b=>if e.argL.length<=4611686018427387904 then ZeP b e.argL else none)=_
rw [b1]
show (if e.argL.length<=4611686018427387904 then ZeP b e.argL else none)=_
rw [if_pos (by omega)]
exact c1}
def SW:Nat->El->List El->Prop | w,e,[]=>EW w e | w,e,e2::r=>∃ w1 w2,w1+w2<=w/\EW w1 e/\SW w2 e2 r
theorem SW.mono:∀ {r:List El} {w w':Nat} {e:El},SW w e r->w<=w'->SW w' e r
 | [],w,w',e,h,hw=>EW.mono h hw
 | e2::r,w,w',e,⟨w1,w2,h0,h1,h2⟩,hw=>⟨w1,w2,by omega,h1,h2⟩
theorem SW.top {w:Nat} {e:El}:∀ {r:List El},SW w e r->∃ w1 w2,w1+w2<=w/\EW w1 e/\∀ e' w',EW w' e'->SW (w'+w2) e' r
 | [],h=>⟨w,0,by omega,h,fun e' w' h'=>EW.mono h' (by omega)⟩
 | e2::r,⟨w1,w2,h0,h1,h2⟩=>⟨w1,w2,h0,h1,fun e' w' h'=>⟨w',w2,Nat.le_refl _,h',h2⟩⟩
theorem SW.push {w w1:Nat} {e x:El} {r:List El} (h:SW w e r) (hx:EW w1 x):SW (w1+w) x (e::r):=⟨w1,w,Nat.le_refl _,hx,h⟩
def bot:El->List El->Prop | e,[]=>e.kind=0 | _,e2::r=>bot e2 r
theorem Zfr {e e':El} (hk:e'.kind=e.kind):∀ {r:List El},bot e r->bot e' r
 | [],h=>hk.trans h
 | _::_,h=>h
theorem ZiW:∀ (n:Nat) {e:El} {r:List El} {w:Nat},SW w e r->n<=r.length->w<=1000000->∃ q,ZfG n e r=some q/\SW w q.1 q.2/\q.2=r.drop n/\∃ x,(e::r)[n]? = some x/\alike x q.1
 | 0,e,r,w,h,_,_=>⟨(e,r),rfl,h,rfl,e,rfl,alike.refl e⟩
 | n+1,e,[],w,h,hn,_=>by simp at hn
 | n+1,e,e2::r,w,⟨w1,w2,h0,h1,h2⟩,hn,hb=>by
   obtain ⟨u1,u2,h3,h4,h5⟩:=h2.top
   obtain ⟨e3,h6,h7,h8⟩:=Zpo h1 h4 (by omega)
   obtain ⟨q,q1,q2,q3,x,q4,q5⟩:=ZiW n (h5 e3 _ h7) (by simpa using hn) (by omega)
   refine ⟨q,?_,q2.mono (by omega),q3,?_⟩
   show ((Zgq e e2).bind fun e3=>ZfG n e3 r)=_
   rw [h6]
   exact q1
   cases n with
   | zero=>
     injection q4 with q4
     subst q4
     exact ⟨e2,rfl,h8.trans q5⟩
   | succ n=>exact ⟨x,q4,q5⟩
theorem Zlv:∀ (n:Nat) {e x:El} {r:List El},bot e r->(e::r)[n]? = some x->n<=r.length->bot x (r.drop n)
 | 0,e,x,r,h,hx,_=>by injection hx with hx;subst hx;exact h
 | n+1,e,x,[],h,hx,hn=>by simp at hn
 | n+1,e,x,e2::r,h,hx,hn=>Zlv n (e:=e2) h (by simpa using hx) (by simpa using hn)
theorem ZeW {w:Nat} {e:El} {r:List El} {s:ByteArray} (h:SW w e r) (hk:bot e r) (hb:w+s.size+1<=1000000):∃ e',ZbF e s=some e'/\SW (w+s.size+1) e' r/\bot e' r/\alike e e':=by
 obtain ⟨w1,w2,h1,h2,h3⟩:=h.top
 obtain ⟨e',h4,h5,h6⟩:=Zg1 (s:=s) h2 (by omega)
 exact ⟨e',h4,(h3 e' _ h5).mono (by omega),Zfr h6.1 hk,h6⟩
theorem Zlw {w wn:Nat} {e:El} {r:List El} {n:Node} (h:SW w e r) (hk:bot e r) (hn:LW false wn [n.cs]) (hb:w+wn<=1000000):∃ e',ZgA e n=some e'/\SW (w+wn) e' r/\bot e' r/\alike e e':=by
 obtain ⟨w1,w2,h1,h2,h3⟩:=h.top
 obtain ⟨e',h4,h5,h6⟩:=Zrn h2 hn (by omega)
 exact ⟨e',h4,(h3 e' _ h5).mono (by omega),Zfr h6.1 hk,h6⟩
theorem EW.new {k t c:Int} (ht:k=2->1<=t/\t<=3) (hc:0<=c):EW (20+c.toNat) ⟨k,t,c,[],none⟩:=⟨⟨ht,hc⟩,0,0,by dsimp only;omega,.nil _ _,.nil _ _⟩
theorem ZnH {w:Nat} {e:El} {r:List El} {k t c:Int} {x:ByteArray} (h:SW w e r) (hk:bot e r) (hr:r.length<=20) (ht:k=2->1<=t/\t<=3) (h0:0<=c) (hc:c.toNat<=x.size) (hb:w+x.size+20<=1000000) :
  ∃ q,Zlj k t c x e r=some q/\SW (w+x.size+20) q.1 q.2/\bot q.1 q.2/\q.2.length<=20:=by{
unfold Zlj
by_cases hl:20<=r.length
rw [if_pos hl]
obtain ⟨e',h1,h2,h3,_⟩:=ZeW (s:=x) h hk (by omega)
exact ⟨(e',r),by rw [h1];rfl,h2.mono (by omega),h3,hr⟩
rw [if_neg hl]
exact ⟨_,rfl,(h.push (EW.new ht h0)).mono (by omega),hk,by simp;omega⟩}
theorem Zwf {w:Nat} {e:El} {r:List El} (h:SW w e r) (hk:bot e r) (hb:w+4<=1000000):∃ e',ZuK e=some e'/\SW (w+4) e' r/\bot e' r/\e'.kind=e.kind/\e'.tag=e.tag/\e'.count=e.count:=by{
obtain ⟨w1,w2,h1,h2,h3⟩:=h.top
obtain ⟨kind,tag,count,list,args⟩:=e
unfold ZuK
by_cases k3:kind=3
rw [if_pos (show (El.mk kind tag count list args).kind=3 from k3)]
obtain ⟨h0,wl,wa,h4,h5,h6⟩:=h2
dsimp only at h0 h4 h5
cases args with
| none=>
  refine ⟨_,rfl,(h3 _ (w1+4) ⟨h0,wl,4,by dsimp only;omega,h5,?_⟩).mono (by omega),(by refine Zfr ?_ hk;rfl),rfl,rfl,rfl⟩
  exact LW.mkA false (LW.nil _ 0) (LW.nil _ 0) (by omega)
| some q=>
  obtain ⟨pre,a⟩:=q
  have h7:LW true wa ((pre ++ [a]).map Arg.cs):=h6
  have h8:=h7.len
  simp only [List.length_map,List.length_append,List.length_cons,List.length_nil] at h8
  refine ⟨⟨kind,tag,count,list,some (pre ++ [a],⟨false,[],[]⟩)⟩,?_,(h3 _ (w1+4) ⟨h0,wl,wa+4,by dsimp only;omega,h5,?_⟩).mono (by omega),(by refine Zfr ?_ hk;rfl),rfl,rfl,rfl⟩
  show (if pre.length+1<=1000000 then _ else none)=_
  rw [if_pos (by omega)]
  show LW true _ (((pre ++ [a]) ++ [(⟨false,[],[]⟩:Arg)]).map Arg.cs)
  rw [List.map_append]
  exact LW.app h7 (LW.mkA false (LW.nil _ 0) (LW.nil _ 0) (by omega))
rw [if_neg (show ¬ (El.mk kind tag count list args).kind=3 from k3)]
have z1:(⟨#[124]⟩:ByteArray).size=1:=rfl
obtain ⟨e',h4,h5,h6,h7⟩:=ZeW (s:=⟨#[124]⟩) h hk (by omega)
exact ⟨e',h4,h5.mono (by omega),h6,h7.1,h7.2.1,h7.2.2.1⟩}
theorem Zta {w:Nat} {e:El} {r:List El} (h:SW w e r) (hk:bot e r) (hb:w+4<=1000000):∃ e',ZjS e=some e'/\SW (w+4) e' r/\bot e' r/\alike e e':=by{
have z1:(⟨#[61]⟩:ByteArray).size=1:=rfl
have tx:∃ e',ZbF e ⟨#[61]⟩=some e'/\SW (w+4) e' r/\bot e' r/\alike e e':=by
 obtain ⟨e',h4,h5,h6,h7⟩:=ZeW (s:=⟨#[61]⟩) h hk (by omega)
 exact ⟨e',h4,h5.mono (by omega),h6,h7⟩
obtain ⟨w1,w2,h1,h2,h3⟩:=h.top
obtain ⟨kind,tag,count,list,args⟩:=e
unfold ZjS
cases args with
| none=>exact tx
| some q=>
  obtain ⟨pre,a⟩:=q
  dsimp only
  by_cases hc:kind=3/\a.named=false
  rw [if_pos hc]
  obtain ⟨h0,wl,wa,h4,h5,h6⟩:=h2
  dsimp only at h0 h4 h5
  have h7:LW true wa ((pre ++ [a]).map Arg.cs):=h6
  rw [List.map_append] at h7
  obtain ⟨u1,u2,u3,u4,u5⟩:=h7.split
  obtain ⟨wn,wv,u6,u7,u8⟩:=LW.arg1 u5
  refine ⟨_,rfl,(h3 _ w1 ⟨h0,wl,u1+(4+wv+0),by dsimp only;omega,h5,?_⟩).mono (by omega),(by refine Zfr ?_ hk;rfl),rfl,rfl,rfl,by simp⟩
  show LW true _ ((pre ++ [(⟨true,a.value,[]⟩:Arg)]).map Arg.cs)
  rw [List.map_append]
  exact LW.app u4 (LW.mkA true u8 (LW.nil _ 0) (Nat.le_refl _))
  rw [if_neg hc]
  exact tx}
theorem ZmO {w:Nat} {e:El} {r:List El} (h:SW w e r) (hk:bot e r) (hr:r.length<=20) (hb:w+4<=1000000):∃ q,Zdi e r=some q/\SW (w+4) q.1 q.2/\bot q.1 q.2/\q.2.length<=20:=by{
have z1:(⟨#[91,91]⟩:ByteArray).size=2:=rfl
have z2:(⟨#[93,93]⟩:ByteArray).size=2:=rfl
unfold Zdi
by_cases k1:e.kind=1
rw [if_pos k1]
cases r with
| nil=>have:e.kind=0:=hk;omega
| cons e2 r=>
  obtain ⟨w1,w2,h0,h1,h2⟩:=h
  obtain ⟨_,wl,wa,h3,h4,h5⟩:=h1
  obtain ⟨a,a1,a2,a3,a4⟩:=ZeW (s:=⟨#[91,91]⟩) h2 hk (by omega)
  obtain ⟨u1,u2,u3,u4,u5⟩:=a2.top
  obtain ⟨b,b1,b2,b3⟩:=Zi1 u4 h4 (by omega)
  have b4:=u5 b _ b2
  obtain ⟨c,c1,c2,c3,c4⟩:=ZeW (s:=⟨#[93,93]⟩) b4 (Zfr b3.1 a3) (by omega)
  refine ⟨(c,r),?_,c2.mono (by omega),c3,by simp at hr;dsimp only;omega⟩
  dsimp only
  rw [a1]
  show ((ZdS a e.list).bind fun b=>(ZbF b ⟨#[93,93]⟩).map fun c=>(c,r))=_
  rw [b1]
  show ((ZbF b ⟨#[93,93]⟩).map fun c=>(c,r))=_
  rw [c1]
  rfl
rw [if_neg k1]
obtain ⟨c,c1,c2,c3,_⟩:=ZeW (s:=⟨#[93,93]⟩) h hk (by omega)
exact ⟨(c,r),by rw [c1];rfl,c2.mono (by omega),c3,hr⟩}
theorem ZnI {w:Nat} {e:El} {r:List El} {k:Int} {s:ByteArray} (h:SW w e r) (hk:bot e r) (hr:r.length<=20) (hb:w+s.size+1<=1000000):∃ q,ZeC k s e r=some q/\SW (w+s.size+1) q.1 q.2/\bot q.1 q.2/\q.2.length<=20:=by{
unfold ZeC
by_cases h0:Zba k e r=0
rw [if_pos h0]
obtain ⟨c,c1,c2,c3,_⟩:=ZeW (s:=s) h hk (by omega)
exact ⟨(c,r),by rw [c1];rfl,c2,c3,hr⟩
rw [if_neg h0]
have hle:=Zie k e r
obtain ⟨⟨x,r1⟩,q1,q2,q3,y,q4,q5⟩:=ZiW (r.length-Zba k e r) h (by omega) (by omega)
dsimp only at q2 q3
have hlen:r1.length=Zba k e r:=by rw [q3,List.length_drop];omega
rw [q1]
cases r1 with
| nil=>simp at hlen;omega
| cons e2 r2=>
  obtain ⟨w1,w2,u0,u1,u2⟩:=q2
  obtain ⟨_,wl,wa,v1,v2,v3⟩:=u1
  have hb2:bot e2 r2:=by
   have:=Zlv (r.length-Zba k e r) hk q4 (by omega)
   rw [<- q3] at this
   exact this
  obtain ⟨e3,n1,n2,n3,_⟩:=Zlw (n:=⟨6,k,⟨#[]⟩,x.list,[]⟩) u2 hb2 (LW.mk1 6 k ⟨#[]⟩ v2 (LW.nil _ 0) (Nat.le_refl _)) (by have z:(⟨#[]⟩:ByteArray).size=0:=rfl;omega)
  refine ⟨(e3,r2),?_,n2.mono (by have z:(⟨#[]⟩:ByteArray).size=0:=rfl;omega),n3,by simp at hlen;dsimp only;omega⟩
  show ((ZgA e2 ⟨6,k,⟨#[]⟩,x.list,[]⟩).map fun e3=>(e3,r2))=_
  rw [n1]
  rfl}
theorem ZuD {α:Type} {x:Option α} {v:α} (h:Tot x (fun r=>r=v)):x=some v:=by
 obtain ⟨w,h1,h2⟩:=h
 rw [h1,h2]
theorem ZsB {w:Nat} {c:Int} {e:El} (h:EW w e):∃ wn,wn+19+e.count.toNat<=w/\LW false wn [(ZfF c e).cs]:=by
 obtain ⟨_,wl,wa,h1,h2,h3⟩:=h
 exact ⟨wl+wa+1,by omega,LW.mk1 _ _ _ h2 h3 (by have z:(⟨#[]⟩:ByteArray).size=0:=rfl;omega)⟩
theorem ZvO {w:Nat} {c:Int} {e:El} {r:List El} (h:SW w e r) (hk:bot e r) (h0:0<=c) (hb:w+c.toNat+1<=1000000):∃ q,ZvB c e r=some q/\SW (w+c.toNat+1) q.1 q.2/\bot q.1 q.2/\q.2=r:=by{
obtain ⟨s,h1,h2,_⟩:=Zwe (b:=125) h0 (by omega)
obtain ⟨e',h3,h4,h5,_⟩:=ZeW (s:=s) h hk (by omega)
refine ⟨(e',r),?_,h4.mono (by omega),h5,rfl⟩
unfold ZvB
rw [h1]
show ((ZbF e s).map fun e'=>(e',r))=_
rw [h3]
rfl}
theorem ZvP {w wn:Nat} {m:Int} {n:Node} {e:El} {r:List El} (h:SW w e r) (hk:bot e r) (hn:LW false wn [n.cs]) (hb:w+wn+2<=1000000):∃ e',Zwg e m n=some e'/\SW (w+wn+2) e' r/\bot e' r:=by{
have z:(⟨#[123]⟩:ByteArray).size=1:=rfl
have mid:∃ e3,((if m=1 then ZbF e ⟨#[123]⟩ else some e):Option El)=some e3/\SW (w+2) e3 r/\bot e3 r:=by
 by_cases hm:m=1
 rw [if_pos hm]
 obtain ⟨e3,h1,h2,h3,_⟩:=ZeW (s:=⟨#[123]⟩) h hk (by omega)
 exact ⟨e3,h1,h2.mono (by omega),h3⟩
 rw [if_neg hm]
 exact ⟨e,rfl,h.mono (by omega),hk⟩
obtain ⟨e3,h1,h2,h3⟩:=mid
obtain ⟨e',h4,h5,h6,_⟩:=Zlw h2 h3 hn (by omega)
refine ⟨e',?_,h5.mono (by omega),h6⟩
unfold Zwg
rw [h1]
exact h4}
theorem ZeS:∀ (f:Nat) {c:Int} {e:El} {r:List El} {w:Nat},SW w e r->bot e r->r.length<=20->0<=c->c<f->w+c.toNat+1<=1000000->∃ q,ZaQ f c e r=some q/\SW (w+c.toNat+1) q.1 q.2/\bot q.1 q.2/\q.2.length<=20
 | 0,c,e,r,w,_,_,_,h0,h1,_=>by omega
 | f+1,c,e,r,w,h,hk,hr,h0,hf,hb=>by
   have fin:∃ q,ZvB c e r=some q/\SW (w+c.toNat+1) q.1 q.2/\bot q.1 q.2/\q.2.length<=20:=by
    obtain ⟨q,h1,h2,h3,h4⟩:=ZvO h hk h0 hb
    exact ⟨q,h1,h2,h3,by rw [h4];exact hr⟩
   unfold ZaQ
   by_cases h2:2<=c
   ·rw [if_pos h2]
    by_cases hz:ZaD e r=0
    ·rw [if_pos hz]
     exact fin
    ·rw [if_neg hz]
     have hle:=Zf1 e r
     obtain ⟨⟨x,r1⟩,q1,q2,q3,y,q4,q5⟩:=ZiW (r.length-ZaD e r) h (by omega) (by omega)
     dsimp only at q2 q3 q5
     have hlen:r1.length=ZaD e r:=by rw [q3,List.length_drop];omega
     have hbx:bot x r1:=by
      have:=Zlv (r.length-ZaD e r) hk q4 (by omega)
      rw [<- q3] at this
      exact Zfr q5.1 this
     have hbb:=hbx
     rw [q1]
     cases r1 with
     | nil=>simp at hlen;omega
     | cons e2 r2=>
       obtain ⟨w1,w2,u0,u1,u2⟩:=q2
       have hx0:0<=x.count:=u1.1.2
       have hxw:x.count.toNat<=w1:=by obtain ⟨_,wl,wa,h1,_⟩:=u1;omega
       obtain ⟨wn,n1,n2⟩:=ZsB (c:=c) u1
       have hK:2<=Zb2 c x.count:=by unfold Zb2;split<;>omega
       have hKc:Zb2 c x.count<=c:=by unfold Zb2;split<;>omega
       have hcc:(c-Zb2 c x.count).toNat+2<=c.toNat:=by omega
       show ∃ q,(if c<=9223372036854775807/\0<=x.count/\x.count<=9223372036854775807 then
        (if 2<=x.count-Zb2 c x.count then ZaQ f (c-Zb2 c x.count) ⟨x.kind,x.tag,x.count-Zb2 c x.count,[(ZfF c x).cs],none⟩ (e2::r2)
         else (Zwg e2 (x.count-Zb2 c x.count) (ZfF c x)).bind fun e4=>ZaQ f (c-Zb2 c x.count) e4 r2) else none)=some q/\_
       rw [if_pos ⟨by omega,hx0,by omega⟩]
       by_cases hm:2<=x.count-Zb2 c x.count
       ·rw [if_pos hm]
        have hnew:SW w ⟨x.kind,x.tag,x.count-Zb2 c x.count,[(ZfF c x).cs],none⟩ (e2::r2):=by
         refine ⟨wn+20+(x.count-Zb2 c x.count).toNat,w2,by omega,⟨⟨u1.1.1,by dsimp only;omega⟩,wn,0,by dsimp only;omega,n2,.nil _ _⟩,u2⟩
        obtain ⟨q,a1,a2,a3,a4⟩:=ZeS f (c:=c-Zb2 c x.count) (w:=w) hnew (show bot _ (e2::r2) from hbb) (by omega) (by omega) (by omega) (by omega)
        exact ⟨q,a1,a2.mono (by omega),a3,a4⟩
       ·rw [if_neg hm]
        have hb2:bot e2 r2:=hbb
        obtain ⟨e4,o1,o2,o3⟩:=ZvP (m:=x.count-Zb2 c x.count) u2 hb2 n2 (by omega)
        rw [o1]
        simp only [List.length_cons] at hlen
        obtain ⟨q,a1,a2,a3,a4⟩:=ZeS f (c:=c-Zb2 c x.count) (w:=w) (o2.mono (by omega)) o3 (by omega) (by omega) (by omega) (by omega)
        exact ⟨q,a1,a2.mono (by omega),a3,a4⟩
   ·rw [if_neg h2]
    exact fin
structure TokOK (s:ByteArray) (t:Tok):Prop where
 lo:0<=t.from_
 le:t.from_<=t.to_
 hi:t.to_<=(s.size:Int)
 nowiki:t.kind=10->t.from_+17<=t.to_
 tago:t.kind=11->∃ k,ZdD s t=some k/\1<=k/\k<=3
 tagc:t.kind=12->∃ k,ZdD s t=some k
theorem ZvQ {s:ByteArray} {t:Tok} (h:TokOK s t):∃ x,Zck s t=some x/\x.size=(t.to_-t.from_).toNat/\x=s.extract t.from_.toNat t.to_.toNat:=by{
have h1:=h.lo
have h2:=h.le
have h3:=h.hi
refine ⟨s.extract t.from_.toNat t.to_.toNat,?_,by rw [ByteArray.size_extract];omega,rfl⟩
refine ZuD ?_
unfold Zck
refine ZaM (Zh (fun h=>absurd h (by omega)) fun _=>Zh (fun h=>absurd h (by omega)) fun _=>?_)
rw [decide_eq_false (show ¬ (s.size:Int)<t.to_ by omega)]
exact ZaT h1 h2 h3 fun m hm _=>Zc hm}
theorem ZuE {s:ByteArray} {t:Tok} {w:Nat} {e:El} {r:List El} (ht:TokOK s t) (h:SW w e r) (hk:bot e r) (hr:r.length<=20) (hb:w+(t.to_-t.from_).toNat+30<=1000000) :
  ∃ q,Zo7 s t e r=some q/\SW (w+(t.to_-t.from_).toNat+30) q.1 q.2/\bot q.1 q.2/\q.2.length<=20:=by{
obtain ⟨x,hx,hz,_⟩:=ZvQ ht
have one:∀ {o:Option El} {w':Nat},w'<=w+(t.to_-t.from_).toNat+30->(∃ e',o=some e'/\SW w' e' r/\bot e' r)->∃ q,(o.map fun e'=>(e',r))=some q/\SW (w+(t.to_-t.from_).toNat+30) q.1 q.2/\bot q.1 q.2/\q.2.length<=20:=by
 rintro o w' hw ⟨e',rfl,h1,h2⟩
 exact ⟨(e',r),rfl,h1.mono hw,h2,hr⟩
have up:∀ {o:Option (El×List El)} {w':Nat},w'<=w+(t.to_-t.from_).toNat+30->(∃ q,o=some q/\SW w' q.1 q.2/\bot q.1 q.2/\q.2.length<=20)->∃ q,o=some q/\SW (w+(t.to_-t.from_).toNat+30) q.1 q.2/\bot q.1 q.2/\q.2.length<=20:=by
 rintro o w' hw ⟨q,rfl,h1,h2,h3⟩
 exact ⟨q,rfl,h1.mono hw,h2,h3⟩
unfold Zo7
rw [hx]
show ∃ q,(if t.kind=1\/t.kind=2 then (ZbF e x).map fun e'=>(e',r) else _)=some q/\_
by_cases k1:t.kind=1\/t.kind=2
rw [if_pos k1]
obtain ⟨e',h1,h2,h3,_⟩:=ZeW (s:=x) h hk (by omega)
exact one (by omega) ⟨e',h1,h2,h3⟩
rw [if_neg k1]
have z0:(⟨#[]⟩:ByteArray).size=0:=rfl
by_cases k9:t.kind=9
rw [if_pos k9]
obtain ⟨e',h1,h2,h3,_⟩:=Zlw (n:=⟨2,0,x,[],[]⟩) h hk (LW.mk1 2 0 x (LW.nil _ 0) (LW.nil _ 0) (Nat.le_refl _)) (by omega)
exact one (by omega) ⟨e',h1,h2,h3⟩
rw [if_neg k9]
by_cases k10:t.kind=10
rw [if_pos k10]
have hn:=ht.nowiki k10
have hw:w64 ((x.size:Int)-9)=(x.size:Int)-9:=ZaH (by omega) (by have:=ht.hi;have:=ht.lo;omega)
rw [hw]
have e1:ZfI x 8 ((x.size:Int)-9)=some (x.extract 8 (x.size-9)):=by
 unfold ZfI
 rw [if_pos ⟨by omega,by omega,by omega⟩]
 have:(((x.size:Int)-9)).toNat=x.size-9:=by omega
 rw [this]
 rfl
rw [e1]
have z2:(x.extract 8 (x.size-9)).size<=x.size:=by rw [ByteArray.size_extract];omega
obtain ⟨e',h1,h2,h3,_⟩:=Zlw (n:=⟨3,0,x.extract 8 (x.size-9),[],[]⟩) h hk (LW.mk1 3 0 _ (LW.nil _ 0) (LW.nil _ 0) (Nat.le_refl _)) (by omega)
exact one (by omega) ⟨e',h1,h2,h3⟩
rw [if_neg k10]
by_cases k3:t.kind=3
rw [if_pos k3]
exact up (by omega) (ZnH (k:=3) (t:=0) (c:=x.size) (x:=x) h hk hr (by omega) (by omega) (by omega) (by omega))
rw [if_neg k3]
by_cases k5:t.kind=5
rw [if_pos k5]
exact up (by omega) (ZnH (k:=1) (t:=0) (c:=0) (x:=x) h hk hr (by omega) (by omega) (by omega) (by omega))
rw [if_neg k5]
by_cases k11:t.kind=11
rw [if_pos k11]
obtain ⟨k,g1,g2,g3⟩:=ht.tago k11
rw [g1]
exact up (by omega) (ZnH (k:=2) (t:=k) (c:=0) (x:=x) h hk hr (by omega) (by omega) (by omega) (by omega))
rw [if_neg k11]
by_cases k7:t.kind=7
rw [if_pos k7]
obtain ⟨e',h1,h2,h3,_⟩:=Zwf h hk (by omega)
exact one (by omega) ⟨e',h1,h2,h3⟩
rw [if_neg k7]
by_cases k8:t.kind=8
rw [if_pos k8]
obtain ⟨e',h1,h2,h3,_⟩:=Zta h hk (by omega)
exact one (by omega) ⟨e',h1,h2,h3⟩
rw [if_neg k8]
by_cases k6:t.kind=6
rw [if_pos k6]
exact up (by omega) (ZmO h hk hr (by omega))
rw [if_neg k6]
by_cases k12:t.kind=12
rw [if_pos k12]
obtain ⟨k,g1⟩:=ht.tagc k12
rw [g1]
exact up (by omega) (ZnI (k:=k) (s:=x) h hk hr (by omega))
rw [if_neg k12]
by_cases k4:t.kind=4
rw [if_pos k4]
exact up (by omega) (ZeS (x.size+1) (c:=x.size) h hk hr (by omega) (by omega) (by omega))
rw [if_neg k4]
exact ⟨(e,r),rfl,h.mono (by omega),hk,hr⟩}
def ZiK:List Tok->Nat | []=>0 | t::l=>(t.to_-t.from_).toNat+30+ZiK l
theorem Zon {s:ByteArray}:∀ {l:List Tok} {w:Nat} {e:El} {r:List El},(∀ t ∈ l,TokOK s t)->SW w e r->bot e r->r.length<=20->w+ZiK l<=1000000->∃ q,ZjJ s l e r=some q/\SW (w+ZiK l) q.1 q.2/\bot q.1 q.2/\q.2.length<=20
 | [],w,e,r,_,h,hk,hr,_=>⟨(e,r),rfl,h,hk,hr⟩
 | t::l,w,e,r,hl,h,hk,hr,hb=>by
   unfold ZiK at hb
   obtain ⟨q,q1,q2,q3,q4⟩:=ZuE (hl t (List.mem_cons_self ..)) h hk hr (by omega)
   obtain ⟨q',p1,p2,p3,p4⟩:=Zon (fun t ht=>hl t (List.mem_cons_of_mem _ ht)) q2 q3 q4 (by omega)
   refine ⟨q',?_,p2.mono (by show _<=w+((t.to_-t.from_).toNat+30+ZiK l);omega),p3,p4⟩
   show ((Zo7 s t e r).bind fun q=>ZjJ s l q.1 q.2)=_
   rw [q1]
   exact p1
theorem ZlM {p l:List UInt8} {n:Nat} (h:p.isPrefixOf (l.take n)=true):p.isPrefixOf l=true:=
 List.isPrefixOf_iff_prefix.2 ((List.isPrefixOf_iff_prefix.1 h).trans (List.take_prefix _ _))
theorem ZlN {p l:List UInt8} (h:p.isPrefixOf l=true):l.take p.length=p:=by
 obtain ⟨r,rfl⟩:=List.isPrefixOf_iff_prefix.1 h
 simp
theorem Zh9 (p:List UInt8):p.isPrefixOf p=true:=List.isPrefixOf_iff_prefix.2 (List.prefix_refl _)
theorem Zrv (pfx l:List UInt8) (h:0<(ZgD pfx l).2):ZgD pfx (l.take (ZgD pfx l).2.toNat)=ZgD pfx l/\(l.take (ZgD pfx l).2.toNat).length=(ZgD pfx l).2.toNat:=by{
have hl:=ZlO pfx l
refine ⟨?_,?_⟩
unfold ZgD at h ⊢
split
rename_i h1
simp only [Int.toNat_natCast]
rw [if_pos (by rw [ZlN h1];exact Zh9 _)]
rename_i h1
rw [if_neg h1] at h
split
rename_i h2
simp only [Int.toNat_natCast]
rw [if_neg (fun h3=>h1 (ZlM h3)),if_pos (by rw [ZlN h2];exact Zh9 _)]
rename_i h2
rw [if_neg h2] at h
split
rename_i h3
simp only [Int.toNat_natCast]
rw [if_neg (fun h4=>h1 (ZlM h4)),if_neg (fun h4=>h2 (ZlM h4)),if_pos (by rw [ZlN h3];exact Zh9 _)]
rename_i h3
rw [if_neg h3] at h
cases h
rw [List.length_take]
rcases hl with hl | hl
rw [hl] at h;cases h
omega}
theorem Zvg {L:List UInt8} {k:Int} {a b:Nat} (h:a<=b) (h2:b<=L.length):Zck (bs L) ⟨k,(a:Int),(b:Int)⟩=some (bs ((L.take b).drop a)):=by{
have z:(bs L).size=L.length:=rfl
refine ZaI ?_
unfold Zck
refine ZaM (Zh (fun h=>absurd h (by dsimp only;omega)) fun _=>Zh (fun h=>absurd h (by dsimp only;omega)) fun _=>?_)
rw [decide_eq_false (show ¬ ((bs L).size:Int)<(b:Int) by omega)]
exact Zb (Zuk L a b h h2) (Zc rfl)}
theorem Zt8 {L:List UInt8} {k:Int} {a b:Nat} (h:a<=b) (h2:b<=L.length) (pfx:List UInt8) (hp:(k=11/\pfx = [60])\/(k=12/\pfx = [60,47])) :
  ZdD (bs L) ⟨k,(a:Int),(b:Int)⟩=some (if (ZgD pfx ((L.take b).drop a)).2=(((L.take b).drop a).length:Int) then (ZgD pfx ((L.take b).drop a)).1 else 0):=by{
refine ZaI ?_
unfold ZdD
have body:Tot ((Zck (bs L) ⟨k,(a:Int),(b:Int)⟩).bind fun r2=>(Zcv r2 (bs pfx)).bind fun r3=>if decide (r3.2=(r2.size:Int))=true then (some r3.1:Option Int) else some 0) fun r=>r=if (ZgD pfx ((L.take b).drop a)).2=(((L.take b).drop a).length:Int) then (ZgD pfx ((L.take b).drop a)).1 else 0:=by
 refine Zb (Zvg h h2) ?_
 refine Zb (Zf4 pfx _ (by rcases hp with ⟨_,rfl⟩ | ⟨_,rfl⟩<;>decide)) ?_
 refine Zh (fun h3=>?_) fun h3=>?_
 rw [if_pos (show (ZgD pfx ((L.take b).drop a)).2=(((L.take b).drop a).length:Int) from h3)]
 exact Zc rfl
 rw [if_neg (show ¬ (ZgD pfx ((L.take b).drop a)).2=(((L.take b).drop a).length:Int) from h3)]
 exact Zc rfl
rcases hp with ⟨rfl,rfl⟩ | ⟨rfl,rfl⟩
exact ZaM (Zh (fun _=>body) fun h=>absurd rfl h)
exact ZaM (Zh (fun h=>by cases h) fun _=>Zh (fun _=>body) fun h=>absurd rfl h)}
theorem Zwp {L:List UInt8} {i:Nat} {q:Int×Int} (hi:i<=L.length) (h:Zia (L.drop i) q) (h0:¬ q.1=0):TokOK (bs L) ⟨q.1,(i:Int),(i:Int)+q.2⟩:=by{
have z:(bs L).size=L.length:=rfl
have hlen:(L.drop i).length=L.length-i:=List.length_drop
rcases h with h | ⟨_,⟨k1,k2⟩,k10,k11⟩
exact absurd h h0
have e2:(i:Int)+q.2=((i+q.2.toNat:Nat):Int):=by omega
refine ⟨by dsimp only;omega,by dsimp only;omega,by dsimp only;omega,(fun h=>by have:=k10 h;dsimp only;omega),(fun h=>?_),(fun h=>?_)⟩
obtain ⟨t1,t2⟩:=k11 h
dsimp only at h
rw [h,e2]
refine ⟨_,Zt8 (by omega) (by omega) [60] (.inl ⟨rfl,rfl⟩),?_⟩
have e3:(L.take (i+q.2.toNat)).drop i=(L.drop i).take q.2.toNat:=by rw [List.drop_take];congr 1;omega
obtain ⟨u1,u2⟩:=Zrv [60] (L.drop i) t1
rw [<- t2] at u1 u2
rw [e3,u1,u2,if_pos (by omega)]
rcases ZlO [60] (L.drop i) with u3 | u3
rw [u3] at t1;cases t1
exact u3.1
dsimp only at h
rw [h,e2]
exact ⟨_,Zt8 (by omega) (by omega) [60,47] (.inr ⟨rfl,rfl⟩)⟩}
theorem ZoM {L:List UInt8} {a b:Nat} (h:a<=b) (h2:b<=L.length):TokOK (bs L) ⟨1,(a:Int),(b:Int)⟩:=by
 have z:(bs L).size=L.length:=rfl
 exact ⟨by dsimp only;omega,by dsimp only;omega,by dsimp only;omega,(fun h=>by cases h),(fun h=>by cases h),(fun h=>by cases h)⟩
theorem Ztw (L:List UInt8):∀ (f st i:Nat),st<=i->i<=L.length->(∀ t ∈ Zfx L f st i,TokOK (bs L) t)/\ZiK (Zfx L f st i)<=31 * (L.length-st):=by{
have fin:∀ st,st<=L.length->(∀ t ∈ (if st<L.length then [(⟨1,(st:Int),(L.length:Int)⟩:Tok)] else []),TokOK (bs L) t)/\ZiK (if st<L.length then [(⟨1,(st:Int),(L.length:Int)⟩:Tok)] else [])<=31 * (L.length-st):=fun st hst=>by
 split
 refine ⟨fun t ht=>?_,?_⟩
 rw [List.mem_singleton.1 ht]
 exact ZoM hst (Nat.le_refl _)
 simp only [ZiK]
 omega
 exact ⟨(fun t ht=>by cases ht),Nat.zero_le _⟩
intro f
induction f with
| zero=>exact fun st i h1 h2=>fin st (by omega)
| succ f ih=>
  intro st i h1 h2
  rw [Zfx]
  by_cases hi:i<L.length
  rw [if_pos hi]
  have hok:=Zm6 (L.drop i)
  have hlen:(L.drop i).length=L.length-i:=List.length_drop
  generalize hq:ZfS (L.drop i)=q at hok ⊢
  by_cases h0:q.1=0
  rw [if_pos h0]
  exact ih st (i+1) (by omega) (by omega)
  rw [if_neg h0]
  have ht:=Zwp (Nat.le_of_lt hi) hok h0
  rcases hok with hok | ⟨_,⟨k1,k2⟩,_⟩
  exact absurd hok h0
  obtain ⟨r1,r2⟩:=ih (i+q.2.toNat) (i+q.2.toNat) (Nat.le_refl _) (by omega)
  refine ⟨fun t hm=>?_,?_⟩
  rcases List.mem_append.1 hm with hm | hm
  split at hm
  rw [List.mem_singleton.1 hm]
  exact ZoM h1 (by omega)
  cases hm
  rcases List.mem_cons.1 hm with rfl | hm
  exact ht
  exact r1 t hm
  split
  simp only [List.singleton_append,ZiK]
  omega
  simp only [List.nil_append,ZiK]
  omega
  rw [if_neg hi]
  exact fin st (by omega)}
theorem ZnU:∀ {l:List (List PV)} {w:Nat},LW false w l->∃ xs:List Node,l=xs.map Node.cs
 | [],w,_=>⟨[],rfl⟩
 | x::l,w,h=>by
   obtain ⟨n,wk,wa,wl,rfl,_,_,_,hl⟩:=h.node_inv
   obtain ⟨xs,rfl⟩:=ZnU hl
   exact ⟨n::xs,rfl⟩
theorem Zwq:EW 20 ⟨0,0,0,[],none⟩:=EW.new (by decide) (by decide)
theorem Zrw (L:List UInt8) (h:L.length<=8192):∃ l:List Node,Zeq (bs L)=some (l,0)/\LW false 300000 (l.map Node.cs):=by{
obtain ⟨h1,h2⟩:=Ztw L L.length 0 0 (Nat.le_refl _) (Nat.zero_le _)
have hlen:(Zfx L L.length 0 0).length<=ZiK (Zfx L L.length 0 0):=by
 generalize Zfx L L.length 0 0=l
 induction l with
 | nil=>exact Nat.le_refl _
 | cons t l ih=>simp only [ZiK,List.length_cons];omega
obtain ⟨⟨e,r⟩,q1,q2,q3,q4⟩:=Zon (s:=bs L) (w:=20) (e:=⟨0,0,0,[],none⟩) (r:=[]) h1 Zwq rfl (by simp) (by omega)
obtain ⟨⟨z,r2⟩,p1,p2,p3,_⟩:=ZiW r.length q2 (Nat.le_refl _) (by omega)
dsimp only at p2 p3
rw [List.drop_length] at p3
subst p3
obtain ⟨_,wl,wa,k1,k2,_⟩:=p2
obtain ⟨xs,hxs⟩:=ZnU k2
refine ⟨xs,?_,by rw [<- hxs];exact k2.mono (by omega)⟩
unfold Zeq ZqY
rw [ZlQ L h]
show (((if (0:Int)=0 then (if (Zfx L L.length 0 0).length<=4611686018427387904 then (ZjJ (bs L) (Zfx L L.length 0 0) ⟨0,0,0,[],none⟩ []).bind fun p=>(ZfG p.2.length p.1 p.2).map fun z=>(z.1.list,(0:Int)) else none) else some ([],0)):Option (List (List PV)×Int)).bind fun q=>(Zbq q.1).map fun l=>(l,q.2))=_
rw [if_pos rfl,if_pos (by omega),q1]
show (((ZfG r.length e r).map fun z=>(z.1.list,(0:Int))).bind fun q=>(Zbq q.1).map fun l=>(l,q.2))=_
rw [p1]
show (Zbq z.list).map (fun l=>(l,(0:Int)))=_
rw [hxs,Zdl]
rfl}
def ZvL (l:Link):Prop:=(l.kind=1\/l.kind=2)/\l.title.valid=true
structure GoodF (c:Nat) (f:Finder):Prop where
 ll:f.links.length<=c
 ml:f.members.length<=c
 gl:∀ x ∈ f.links,ZvL x
 gm:∀ x ∈ f.members,x.category.space=4
theorem GoodF.mono {c d:Nat} {f:Finder} (h:GoodF c f) (hc:c<=d):GoodF d f:=⟨by have:=h.ll;omega,by have:=h.ml;omega,h.gl,h.gm⟩
theorem GoodF.link {c:Nat} {f:Finder} (h:GoodF c f) {x:Link} (hx:ZvL x):GoodF (c+1) ⟨f.links ++ [x],f.members⟩:=
 ⟨by have:=h.ll;simp only [List.length_append,List.length_singleton];omega,by have:=h.ml;dsimp only;omega,fun y hy=>by
  rcases List.mem_append.1 hy with hy | hy
  exact h.gl y hy
  rw [List.mem_singleton.1 hy];exact hx,h.gm⟩
theorem GoodF.memb {c:Nat} {f:Finder} (h:GoodF c f) {x:Memb} (hx:x.category.space=4):GoodF (c+1) ⟨f.links,f.members ++ [x]⟩:=
 ⟨by have:=h.ll;dsimp only;omega,by have:=h.ml;simp only [List.length_append,List.length_singleton];omega,h.gl,fun y hy=>by
  rcases List.mem_append.1 hy with hy | hy
  exact h.gm y hy
  rw [List.mem_singleton.1 hy];exact hx⟩
theorem Zqf (p:ByteArray) (h:p.size<=300000):Tot (Zdk p) fun r=>r.2=0->r.1.valid=true:=by
 unfold Zdk
 exact Zi (ZvJ p _ (by omega)) fun r1 h1=>Zi (ZuZ r1.1 (by omega)) fun r2 h2=>Zc h2
theorem Zsv {c:Nat} {f:Finder} {s:ByteArray} (h:s.size<=300000) (hc:c+s.size<=1000000) (hg:GoodF c f):Tot (ZaO f s) (GoodF (c+s.size)):=by{
unfold ZaO
refine ZS (fun x=>x.1.size<=s.size/\GoodF (c+(s.size-x.1.size)) ⟨x.2.1,x.2.2⟩) (fun x=>x.1.size) ⟨Nat.le_refl _,hg.mono (by omega)⟩ (by dsimp only;omega) ?_
rintro ⟨x,L,M⟩ rec ⟨h1,h2⟩ ih
dsimp only at h1 h2 ih ⊢
have e:x.data.toList.length=x.size:=rfl
refine Zb (v:=Lib.index x.data.toList [91,91]) (by unfold strings_Index;rw [if_pos (by omega)]) ?_
have r1:=Lib.index_room x.data.toList [91,91]
simp only [List.length_cons,List.length_nil] at r1
generalize Lib.index x.data.toList [91,91]=r44 at r1 ⊢
refine Zh (fun _=>Zc (h2.mono (by omega))) fun hr=>?_
have r2:=r1 (by omega)
rw [ZaH,ZaH]
refine ZaT (by omega) (by omega) (by omega) fun l45 _ h45=>ZaT (by omega) (by omega) (by omega) fun l46 _ h46=>?_
refine Zi (ZpX l45 (by omega)) fun r47 h47=>?_
refine Zh (fun _=>Zc (h2.mono (by omega))) fun hr47=>?_
refine ZaT (by omega) (by omega) (by omega) fun l48 _ h48=>?_
have next:∀ (L':List Link) (M':List Memb),GoodF (c+(s.size-x.size)+1) ⟨L',M'⟩->Tot (rec (l46,L',M')) (GoodF (c+s.size)):=fun L' M' hL=>ih _ ⟨by dsimp only;omega,hL.mono (by dsimp only;omega)⟩ (by dsimp only;omega)
have same:=h2.mono (Nat.le_succ _)
have hll:=h2.ll
have hml:=h2.ml
dsimp only at hll hml
refine ZZ (fun q=>∀ b:Bool,Tot (q b) (GoodF (c+s.size))) (fun b=>?_) fun k6 hk6=>?_
·refine ZN (fun _=>next _ _ same) fun _=>?_
 refine Zi (Zqf l48 (by omega)) fun r52 hv=>ZeU (fun _=>next _ _ same) fun h0=>?_
 have hv:=hv h0
 refine ZZ (fun q=>(r52.1.space=4->Tot (q true) (GoodF (c+s.size)))/\Tot (q false) (GoodF (c+s.size))) ⟨fun h4=>?_,?_⟩ fun k7 hk7=>?_
 ·refine ZN (fun _=>?_) fun h=>by cases h
  refine ZaT (by omega) (by omega) (by omega) fun l56 _ h56=>Zi (ZpY l56 (by omega) (by omega)) fun r57 _=>?_
  exact ZbC 2000000 (by simp only [List.length_singleton];omega) (by omega) (by omega) (next _ _ (h2.memb h4))
 ·refine ZN (fun h=>by cases h) fun _=>?_
  exact ZbC 2000000 (by simp only [List.length_singleton];omega) (by omega) (by omega) (next _ _ (h2.link ⟨.inl rfl,hv⟩))
 refine Zh (fun h4=>?_) fun _=>hk7.2
 refine Zb (v:=Zb3 Zqt l48) (by unfold Zbk;rw [if_neg (by decide),if_pos rfl]) ?_
 refine Zi (ZiR _ _) fun r61 _=>?_
 cases r61 with
 | true=>exact hk7.2
 | false=>exact hk7.1 h4
refine Zi (Zsi l48 _ (by omega)) fun r62 _=>ZN (fun _=>hk6 _) fun _=>?_
exact Zi (Zsi l48 _ (by omega)) fun r63 _=>hk6 _}
theorem Znt:∀ (l:List Node) (w:Nat) (acc:List UInt8),LW false w (l.map Node.cs)->acc.length+w<=1000000->Tot (Zhp acc l) fun r=>∀ t,r=some t->t.length<=acc.length+w
 | [],w,acc,_,_=>Zc fun t ht=>by injection ht with ht;rw [<- ht];omega
 | x::l,w,acc,h,hb=>by
   obtain ⟨n,wk,wa,wl,e,h1,hk,ha,hl⟩:=LW.node_inv (show LW false w (x.cs::l.map Node.cs) from h)
   obtain rfl:=ZoI e
   unfold Zhp
   split
   rw [if_pos (by omega)]
   have e:x.text.data.toList.length=x.text.size:=rfl
   refine (Znt l wl _ hl (by rw [List.length_append];omega)).mono fun r hr t ht=>?_
   have:=hr t ht
   rw [List.length_append] at this
   omega
   split
   exact (Znt l wl _ hl (by omega)).mono fun r hr t ht=>by have:=hr t ht;omega
   exact Zc fun t ht=>by cases ht
theorem Znu (l:List Node) (w:Nat) (h:LW false w (l.map Node.cs)) (hb:w<=300000):Tot (Ze5 l) fun r=>r.1.size<=w:=by{
obtain ⟨r,h1,h2⟩:=Znt l w [] h (by simp;omega)
unfold Ze5
rw [h1]
cases r with
| none=>exact Zc (Nat.zero_le _)
| some t=>
  have:=h2 t rfl
  refine Zc ?_
  show t.length<=w
  simpa using this}
theorem Zok (l:List UInt8) (s:ByteArray):(Zb3 l s).size<=s.size:=(List.dropWhile_suffix _).length_le
theorem Zsw (l:List UInt8) (s:ByteArray):(Zc3 l s).size<=s.size:=by{
show (s.data.toList.reverse.dropWhile l.contains).reverse.length<=_
rw [List.length_reverse]
refine Nat.le_trans (List.dropWhile_suffix _).length_le ?_
rw [List.length_reverse]
exact Nat.le_refl _}
theorem ZoZ {t:Title} (h:t.valid=true):(⟨3,t.name⟩:Title).valid=true:=by{
unfold Title.valid at h ⊢
simp only [Bool.and_eq_true] at h ⊢
obtain ⟨⟨⟨⟨⟨⟨⟨h1,h2⟩,h3⟩,h4⟩,h5⟩,h6⟩,h7⟩,h8⟩:=h
exact ⟨⟨⟨⟨⟨⟨⟨rfl,rfl⟩,h3⟩,h4⟩,h5⟩,h6⟩,h7⟩,rfl⟩}
theorem Zo0 (l:List Node) (w:Nat) (h:LW false w (l.map Node.cs)) (hb:w<=300000):Tot (Zbx l) fun r=>r.2=true->r.1.valid=true:=by{
unfold Zbx
refine Zi (Znu l w h hb) fun r1 h1=>?_
have hz:(Zb3 ZkO (Zc3 ZkO r1.1)).size<=r1.1.size:=Nat.le_trans (Zok _ _) (Zsw _ _)
refine Zb (v:=Zb3 ZkO (Zc3 ZkO r1.1)) ?_ ?_
unfold ZcF ZcN
rw [if_pos ⟨by omega,rfl⟩]
rfl
generalize Zb3 ZkO (Zc3 ZkO r1.1)=r2 at hz ⊢
refine ZZ (fun q=>∀ b:Bool,Tot (q b) (fun r=>r.2=true->r.1.valid=true)) (fun b=>?_) fun k1 hk1=>?_
refine ZN (fun _=>Zc fun h=>by cases h) fun _=>?_
refine Zi (Zqf r2 (by omega)) fun r6 h6=>ZeU (fun _=>Zc fun h=>by cases h) fun h0=>?_
have hv:=h6 h0
refine ZZ (fun q=>∀ b:Bool,Tot (q b) (fun r=>r.2=true->r.1.valid=true)) (fun b=>?_) fun k2 hk2=>?_
refine ZaM (ZN (fun _=>Zc fun _=>ZoZ hv) fun _=>Zc fun _=>hv)
refine Zh (fun _=>?_) fun _=>hk2 _
exact Zi (ZiR _ _) fun r _=>hk2 _
refine ZN (fun _=>hk1 _) fun _=>Zi (ZiR _ _) fun r _=>ZN (fun _=>hk1 _) fun _=>?_
exact Zi (ZiR _ _) fun r _=>hk1 _}
theorem Zjo {step:Finder->Node->Option Finder} {W:Nat} (hs:∀ (x:Node) (f:Finder) (c w:Nat),LW false w [x.cs]->w<=W->c+w<=1000000->GoodF c f->Tot (step f x) (GoodF (c+w))) :
  ∀ (l:List Node) (f:Finder) (c w:Nat),LW false w (l.map Node.cs)->w<=W->c+w<=1000000->GoodF c f->Tot (ZiP step l f) (GoodF (c+w))
 | [],f,c,w,_,_,_,hg=>Zc (hg.mono (by omega))
 | x::l,f,c,w,h,hw,hb,hg=>by
   obtain ⟨w1,w2,h0,h1,h2⟩:=LW.split (l1:=[x.cs]) (l2:=l.map Node.cs) h
   refine Zi (hs x f c w1 h1 (by omega) (by omega) hg) fun f' hf'=>?_
   exact (Zjo hs l f' (c+w1) w2 h2 (by omega) (by omega) hf').mono fun g hg=>hg.mono (by omega)
theorem ZkJ {step:Finder->Arg->Option Finder} {W:Nat} (hs:∀ (x:Arg) (f:Finder) (c w:Nat),LW true w [x.cs]->w<=W->c+w<=1000000->GoodF c f->Tot (step f x) (GoodF (c+w))) :
  ∀ (l:List Arg) (f:Finder) (c w:Nat),LW true w (l.map Arg.cs)->w<=W->c+w<=1000000->GoodF c f->Tot (ZiP step l f) (GoodF (c+w))
 | [],f,c,w,_,_,_,hg=>Zc (hg.mono (by omega))
 | x::l,f,c,w,h,hw,hb,hg=>by
   obtain ⟨w1,w2,h0,h1,h2⟩:=LW.split (l1:=[x.cs]) (l2:=l.map Arg.cs) h
   refine Zi (hs x f c w1 h1 (by omega) (by omega) hg) fun f' hf'=>?_
   exact (ZkJ hs l f' (c+w1) w2 h2 (by omega) (by omega) hf').mono fun g hg=>hg.mono (by omega)
theorem ZtQ:∀ {l:List (List PV)} {w:Nat},LW true w l->∃ xs:List Arg,l=xs.map Arg.cs
 | [],w,_=>⟨[],rfl⟩
 | x::l,w,h=>by
   obtain ⟨n,wk,wa,wl,rfl,_,_,_,hl⟩:=h.arg_inv
   obtain ⟨xs,rfl⟩:=ZtQ hl
   exact ⟨n::xs,rfl⟩
theorem Zol:∀ (m:Nat) (l:List Node) (f:Finder) (c w:Nat),LW false w (l.map Node.cs)->w<m->w<=300000->c+w<=1000000->GoodF c f->Tot (ZaP m f l) (GoodF (c+w))
 | 0,_,_,_,_,_,h,_,_,_=>absurd h (Nat.not_lt_zero _)
 | m+1,l,f,c,w,h,hm,hw,hb,hg=>by
   have hlen:=h.len
   rw [List.length_map] at hlen
   rw [ZtM m f l (by omega)]
   refine Zjo (W:=w) (fun x f c w' hx hw' hb hg=>?_) l f c w h (Nat.le_refl _) hb hg
   obtain ⟨wk,wa,h1,hk,ha⟩:=hx.node1
   unfold Zn7
   split
   exact (Zsv (by omega) (by omega) hg).mono fun g hg=>hg.mono (by omega)
   split
   obtain ⟨xs,hxs⟩:=ZnU hk
   rw [hxs] at hk ⊢
   refine Zb (Zdl xs) ?_
   exact (Zol m xs f c wk hk (by omega) (by omega) (by omega) hg).mono fun g hg=>hg.mono (by omega)
   exact Zc (hg.mono (by omega))
theorem Zqg {f:Finder} {c wk:Nat} {n:Node} (hk:LW false wk n.kids) (hw:wk<=300000) (hb:c<=1000000) (hg:GoodF c f):Tot (Zi8 f n) (GoodF (c+1)):=by{
unfold Zi8
split
obtain ⟨xs,hxs⟩:=ZnU hk
rw [hxs] at hk ⊢
refine Zb (Zdl xs) (Zi (Zo0 xs wk hk hw) fun r hr=>?_)
split
rename_i h
have:=hg.ll
have e:ZeI 32 f.links [(⟨2,r.1⟩:Link)]=some (f.links ++ [⟨2,r.1⟩]):=by
 unfold ZeI
 rw [if_pos (by simp only [List.length_singleton];omega)]
rw [e]
exact Zc (hg.link ⟨.inr rfl,hr h⟩)
exact Zc (hg.mono (by omega))
exact Zc (hg.mono (by omega))}
theorem Zhf:∀ (m:Nat) (l:List Node) (f:Finder) (c w:Nat),LW false w (l.map Node.cs)->w<m->w<=300000->c+w<=1000000->GoodF c f->Tot (Zu m f l) (GoodF (c+w))
 | 0,_,_,_,_,_,h,_,_,_=>absurd h (Nat.not_lt_zero _)
 | m+1,l,f,c,w,h,hm,hw,hb,hg=>by
   have hlen:=h.len
   rw [List.length_map] at hlen
   have key:Tot (ZiP (ZhH m) l f) (GoodF (c+w)):=by
    refine Zjo (W:=w) (fun x f c w' hx hw' hb hg=>?_) l f c w h (Nat.le_refl _) hb hg
    obtain ⟨wk,wa,h1,hk,ha⟩:=hx.node1
    unfold ZhH
    split
    ·exact Zc (hg.mono (by omega))
    ·refine Zi (Zqg hk (by omega) (by omega) hg) fun f1 g1=>?_
     obtain ⟨xs,hxs⟩:=ZnU hk
     obtain ⟨aa,has⟩:=ZtQ ha
     rw [hxs] at hk ⊢
     rw [has] at ha ⊢
     refine Zb (Zdl xs) (Zi (Zhf m xs f1 (c+1) wk hk (by omega) (by omega) (by omega) g1) fun f2 g2=>?_)
     have ha2:=ha.len
     rw [List.length_map] at ha2
     refine Zb (Zpy aa) ?_
     rw [if_pos (by omega)]
     refine (ZkJ (W:=wa) (fun y f c w'' hy hw'' hb hg=>?_) aa f2 (c+1+wk) wa ha (Nat.le_refl _) (by omega) g2).mono fun g hg=>hg.mono (by omega)
     obtain ⟨wn,wv,k1,kn,kv⟩:=hy.arg1
     unfold Zl6
     obtain ⟨ns,hns⟩:=ZnU kn
     obtain ⟨vs,hvs⟩:=ZnU kv
     rw [hns] at kn ⊢
     rw [hvs] at kv ⊢
     refine Zb (Zdl ns) (Zi (Zhf m ns f c wn kn (by omega) (by omega) (by omega) hg) fun f3 g3=>?_)
     refine Zb (Zdl vs) ?_
     exact (Zhf m vs f3 (c+wn) wv kv (by omega) (by omega) (by omega) g3).mono fun g hg=>hg.mono (by omega)
   obtain ⟨r,hr,hgr⟩:=key
   exact ZqK (Zvw (by omega) hr) hgr
def inM (c:Title) (M:List Memb):Bool:=M.any fun m=>decide (m.category=c)
theorem ZtA {l:List Memb} {q:Memb->Option Bool} {p:Memb->Bool} (hq:∀ e,q e=some (p e)) (hl:l.length<=1000000):Tot (Zat l q) fun r=>decide (0<=r)=l.any p:=by{
unfold Zat
refine ZS (fun x=>∃ A B,l=A++B/\x=(A.length:Int)/\∀ e ∈ A,p e=false) (fun x=>l.length-x.toNat) ⟨[],l,rfl,rfl,by simp⟩ (by omega) ?_
rintro k rec ⟨A,B,hd,rfl,hA⟩ ih
have ll:l.length=A.length+B.length:=by rw [hd,List.length_append]
refine Zh (fun hlt=>?_) fun hge=>?_
cases B with
| nil=>simp only [List.length_nil] at ll;omega
| cons x B=>
  simp only [List.length_cons] at ll
  refine Zb (Zbc hd rfl) (Zb (hq x) (ZN (fun hp=>Zc ?_) fun hp=>?_))
  rw [decide_eq_true (by omega)]
  exact (List.any_eq_true.2 ⟨x,by rw [hd];simp,hp⟩).symm
  rw [ZdT (by omega) (by omega) (by omega) (by omega)]
  refine ih _ ⟨A ++ [x],B,by rw [hd];simp,by simp,fun e he=>?_⟩ (by omega)
  rcases List.mem_append.1 he with h | h
  exact hA e h
  rw [List.mem_singleton.1 h];exact hp
have hB:B = []:=List.eq_nil_of_length_eq_zero (by omega)
subst hB
refine Zc ?_
rw [decide_eq_false (by omega)]
refine (List.any_eq_false.2 fun e he=>?_).symm
rw [hA e (by rw [hd] at he;simpa using he)]
decide}
theorem ZrP (M:List Memb) (c:Title) (hl:M.length<=1000000):Zaj M (fun y0=>Zcu y0 c)=some (inM c M):=by
 refine ZaI ?_
 unfold Zaj
 exact Zi (ZtA (p:=fun m=>decide (m.category=c)) (fun e=>rfl) hl) fun r hr=>Zc hr
def Zud (p:Page) (M:List Memb) (s:ByteArray):Prop:=(∃ L,Zdu p.text=some (L,M,0))/\(M.length<=700000/\M.Pairwise fun a b=>Title.cmp a.category b.category<0)/\ZbL p.title=some s/\s.size<=100
def ZfM (c:Title) (X:List (List Memb×ByteArray)):List ByteArray:=(X.filter fun x=>inM c x.1).map (·.2)
theorem Zig (c:Title) (X:List (List Memb×ByteArray)) (M:List Memb) (s:ByteArray):ZfM c (X ++ [(M,s)])=ZfM c X++(if inM c M=true then [s] else []):=by{
unfold ZfM
rw [List.filter_append,List.map_append]
congr 1
rw [List.filter_cons]
split<;>rfl}
theorem Zj9 (c:Title) (X:List (List Memb×ByteArray)):(ZfM c X).length<=X.length:=by
 unfold ZfM
 rw [List.length_map]
 exact List.length_filter_le _ _
def Said:List Page->List (List Memb×ByteArray)->Prop | [],[]=>True | p::P,x::X=>Zud p x.1 x.2/\Said P X | _,_=>False
theorem Said.len:∀ {P:List Page} {X:List (List Memb×ByteArray)},Said P X->P.length=X.length
 | [],[],_=>rfl
 | _::P,_::X,h=>by simp [h.2.len]
theorem Said.cut:∀ {A:List Page} {p:Page} {B:List Page} {X:List (List Memb×ByteArray)},Said (A++p::B) X->∃ Y M s Z,X=Y++(M,s)::Z/\Y.length=A.length/\Zud p M s
 | [],p,B,[],h=>h.elim
 | [],p,B,(M,s)::X,h=>⟨[],M,s,X,rfl,rfl,h.1⟩
 | a::A,p,B,[],h=>h.elim
 | a::A,p,B,x::X,h=>by
   obtain ⟨Y,M,s,Z,h1,h2,h3⟩:=Said.cut h.2
   exact ⟨x::Y,M,s,Z,by rw [h1];rfl,by simp [h2],h3⟩
theorem ZrQ (v:View) (c:Title) (X:List (List Memb×ByteArray)) (h:Said v.pages X) (hl:v.pages.length<=1000):ZdA v c=some (ZfM c X):=by{
refine ZaI ?_
unfold ZdA
refine ZS (fun x=>∃ A B Y Z,v.pages=A++B/\X=Y++Z/\Y.length=A.length/\x.1=(A.length:Int)/\x.2=ZfM c Y) (fun x=>v.pages.length-x.1.toNat) ⟨[],v.pages,[],X,rfl,rfl,rfl,rfl,rfl⟩ (by dsimp only;omega) ?_
rintro ⟨i,o⟩ rec ⟨A,B,Y,Z,hA,hX,hY,hi,ho⟩ ih
dsimp only at hi ho ih ⊢
subst hi ho
have ll:v.pages.length=A.length+B.length:=by rw [hA,List.length_append]
refine Zh (fun hlt=>?_) fun hge=>?_
cases B with
| nil=>simp only [List.length_nil] at ll;omega
| cons p B=>
  simp only [List.length_cons] at ll
  have h2:=h
  rw [hA] at h2
  obtain ⟨Y',M,s,Z',e1,e2,⟨L,f1⟩,⟨f2,f3⟩,f4,f5⟩:=h2.cut
  obtain ⟨e3,e4⟩:Y=Y'/\Z=(M,s)::Z':=List.append_inj (by rw [<- hX,e1]) (by rw [hY,e2])
  subst e3 e4
  have ly:=Zj9 c Y
  refine ZaM ?_
  rw [ZdT (by omega) (by omega) (by omega) (by omega)]
  refine Zb (Zbc hA rfl) (Zb f1 (Zb (ZrP M c (by omega)) ?_))
  dsimp only
  refine ZN (fun hin=>Zb f4 (ZbC 2000 (by simp only [List.length_singleton];omega) (by omega) (by omega) ?_)) fun hin=>?_
  exact ih _ ⟨A ++ [p],B,Y ++ [(M,s)],Z',by rw [hA];simp,by rw [hX];simp,by simp [hY],by dsimp only;simp,by dsimp only;rw [Zig,if_pos hin]⟩ (by dsimp only;omega)
  exact ih _ ⟨A ++ [p],B,Y ++ [(M,s)],Z',by rw [hA];simp,by rw [hX];simp,by simp [hY],by dsimp only;simp,by dsimp only;rw [Zig,if_neg (by rw [hin];decide),List.append_nil]⟩ (by dsimp only;omega)
have hB:B = []:=List.eq_nil_of_length_eq_zero (by omega)
subst hB
have hZ:Z = []:=List.eq_nil_of_length_eq_zero (by
 have l1:=h.len
 have l2:X.length=Y.length+Z.length:=by rw [hX,List.length_append]
 simp only [List.length_nil] at ll
 omega)
refine Zc ?_
rw [hX,hZ,List.append_nil]}
end Go.Proofs.YtpffimahajgiaaaGreatDoor
