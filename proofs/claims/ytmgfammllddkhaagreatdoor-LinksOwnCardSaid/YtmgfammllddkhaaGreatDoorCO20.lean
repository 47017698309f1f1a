/- Functions of the program as Lean functions. Written by -/
import Derived.Test.YtmgfammllddkhaaGreatDoorCO19
import Derived.ProofKit
import Derived.OpenShut
import Derived.Deep.Strs
import Derived.MakeChecks
set_option linter.unusedSimpArgs false
set_option linter.unusedVariables false
set_option maxHeartbeats 4000000
set_option maxRecDepth 1000000
namespace Go.Proofs.YtmgfammllddkhaaGreatDoor
section
open VL
end
section
open VL
open Go.Sort
theorem qW {α:Type} {l:Q3 α} {n:Nat} (h:n<l.length):∃ A x B,l=A++x::B/\A.length=n:=⟨l.take n,l[n],l.drop (n+1),by rw [<- Yt h,YQ],by rw [YE];omega⟩
theorem XT {β:Type} {s:Int} {f:Int->Q2 β} {R:β->Prop} (h0:0<=s) (h1:s<=10000000) (k:∀ q:Int,q=s / 2->IntKind.wrap .i64 q=q->Tot (f q) R):Tot ((K7 .u64 (IntKind.wrap .u64 s) 1).bind f) R:=by{
have e:IntKind.wrap .u64 s=s:=by
 rw [IntKind.wrap_u64]
 omega
rw [e]
refine vW (by decide) (k _ ?_ ?_)
show s.fdiv 2=s / 2
exact Int.fdiv_eq_ediv_of_nonneg _ (by decide)
show IntKind.wrap .i64 (s.fdiv 2)=s.fdiv 2
rw [Int.fdiv_eq_ediv_of_nonneg _ (by decide),IntKind.wrap_i64]
omega}
abbrev Srt (l:Q3 Memb):Prop:=l.Pairwise fun a b=>leM a b=true
theorem qX {A B:Q3 Memb} {z:Memb} (h:Srt (A++z::B)):(∀ v ∈ A,leM v z=true)/\∀ v ∈ B,leM z v=true:=by
 have h1:=I9.1 h
 exact ⟨fun v hv=>h1.2.2 v hv z (by simp),fun v hv=>(YV.1 h1.2.1).1 v hv⟩
theorem ZvN (f:Nat) (P V S:Q3 Memb) (x:Memb) (hV:Srt V) (hL:(P ++ [x]++V++S).length<=1000000) (a m b:Int) (ha:a=(P.length:Int)) (hm:m=((P ++ [x]).length:Int)) (hb:b=((P ++ [x]++V).length:Int)) :
  Zq (f+1) (P ++ [x]++V++S) a m b=some (P++AF leM [x] V++S):=by{
simp only [Yb,YC] at hL hm hb
refine ZI ?_
unfold Zq
rw [show w64 (m-a)=1 by rw [D8];omega]
refine Zc (fun _=>?_) fun h=>absurd rfl h
refine ZF (fun q=>∃ C1 C C2:Q3 Memb,V=C1++C++C2/\q.1=m+(C1.length:Int)/\q.2=m+(C1.length:Int)+(C.length:Int)/\(∀ v ∈ C1,leM x v=false)/\∀ v ∈ C2,leM x v=true) (fun q=>(q.2-q.1).toNat) ⟨[],V,[],by simp,by simp,by simp;omega,by simp,by simp⟩ (by dsimp only;omega) ?_
rintro ⟨i,j⟩ rec ⟨C1,C,C2,hC,hi,hj,h1,h2⟩ ih
dsimp only at hi hj ih ⊢
have lC:V.length=C1.length+C.length+C2.length:=by rw [hC];simp only [Yb]
refine Zc (fun hlt=>?_) (fun hge=>?_)
rw [DH]
refine XT (by omega) (by omega) fun q hq hw=>?_
rw [hw]
obtain ⟨M1,z,M2,hM,lM⟩:=qW (l:=C) (n:=(q-i).toNat) (by omega)
have lM2:C.length=M1.length+1+M2.length:=by rw [hM];simp only [Yb,Yr];omega
have hz:V=(C1++M1)++z::(M2++C2):=by rw [hC,hM];simp
rw [hz] at hV
obtain ⟨s1,s2⟩:=qX hV
have d1:P ++ [x]++V++S=(P ++ [x]++C1++M1)++z::(M2++C2++S):=by rw [hz];simp
have d2:P ++ [x]++V++S=P++x::(V++S):=by simp
refine Za (C0 d1 (by simp only [Yb,YC];omega)) (Za (C0 d2 ha) (Za (XC z x) ?_))
refine Zc (fun hc=>?_) (fun hc=>?_)
rw [DH]
refine ih _ ⟨C1++M1 ++ [z],M2,C2,by rw [hz];simp,by dsimp only;simp only [List.length_append,List.length_singleton];omega,by dsimp only;simp only [List.length_append,List.length_singleton];omega,fun v hv=>?_,h2⟩ (by dsimp only;omega)
have hxz:=XE hc
rcases YD.1 hv with hv | hv
cases h:leM x v with
| false=>rfl
| true=>rw [GG _ _ _ h (s1 v hv)] at hxz;cases hxz
rw [YG.1 hv];exact hxz
refine ih _ ⟨C1,M1,z::M2++C2,by rw [hz];simp,by dsimp only;omega,by dsimp only;omega,h1,fun v hv=>?_⟩ (by dsimp only;omega)
have hxz:=XD hc
rcases Ys.1 (show v ∈ z::(M2++C2) from hv) with rfl | hv
exact hxz
exact GG _ _ _ hxz (s2 v hv)
have z:C = []:=Yl (by omega)
subst z
rw [YB] at hC
simp only [DK] at hj lC
have hres:AF leM [x] V=C1++x::C2:=by rw [hC];exact Zpl h2 h1
rw [D8]
refine ZF (fun q=>∃ D1 D2:Q3 Memb,C1=D1++D2/\q.1=a+(D1.length:Int)/\q.2=P++D1++x::D2++C2++S) (fun q=>(i-q.1).toNat) ⟨[],C1,rfl,by simp,by simp [hC]⟩ (by dsimp only;omega) ?_
rintro ⟨k,l⟩ rec2 ⟨D1,D2,hD,hk,hl⟩ ih2
dsimp only at hk hl ih2 ⊢
have lD:C1.length=D1.length+D2.length:=by rw [hD];simp only [Yb]
refine Zc (fun hlt=>?_) (fun hge=>?_)
obtain ⟨y,D2,rfl⟩:∃ y D',D2=y::D':=by
 cases D2 with
 | nil=>simp only [DK] at lD;omega
 | cons y D'=>exact ⟨y,D',rfl⟩
simp only [Yr] at lD
have d1:l=(P++D1)++x::(y::D2++C2++S):=by rw [hl];simp
have d2:l=(P++D1 ++ [x])++y::(D2++C2++S):=by rw [hl];simp
have n1:k=((P++D1).length:Int):=by simp only [Yb];omega
have n2:k+1=((P++D1 ++ [x]).length:Int):=by simp only [Yb,YC];omega
have d3:AP l k y=(P++D1 ++ [y])++y::(D2++C2++S):=by rw [KT d1 n1];simp
have n3:k+1=((P++D1 ++ [y]).length:Int):=by rw [n2];simp
rw [DH]
refine Za (C0 d2 n2) (Za (C0 d1 n1) (Za (C0 d1 n1) (Za (C0 d3 n3) ?_)))
refine ih2 _ ⟨D1 ++ [y],D2,by rw [hD];simp,by dsimp only;simp only [List.length_append,List.length_singleton];omega,?_⟩ (by dsimp only;omega)
dsimp only
rw [KT d3 n3]
simp
have z2:D2 = []:=Yl (by omega)
subst z2
refine Zd ?_
rw [hl,hres,hD]
simp}
theorem ZtJ (f:Nat) (P U S:Q3 Memb) (y:Memb) (hU:Srt U) (hU1:¬ U.length=1) (hL:(P++U ++ [y]++S).length<=1000000) (a m b:Int) (ha:a=(P.length:Int)) (hm:m=((P++U).length:Int)) (hb:b=((P++U ++ [y]).length:Int)) :
  Zq (f+1) (P++U ++ [y]++S) a m b=some (P++AF leM U [y]++S):=by{
simp only [Yb,YC] at hL hm hb
refine ZI ?_
unfold Zq
rw [show w64 (m-a)=(U.length:Int) by rw [D8];omega,show w64 (b-m)=1 by rw [D8];omega]
refine Zc (fun h=>absurd h (by omega)) fun _=>?_
refine Zc (fun _=>?_) fun h=>absurd rfl h
refine ZF (fun q=>∃ C1 C C2:Q3 Memb,U=C1++C++C2/\q.1=a+(C1.length:Int)/\q.2=a+(C1.length:Int)+(C.length:Int)/\(∀ v ∈ C1,leM v y=true)/\∀ v ∈ C2,leM v y=false) (fun q=>(q.2-q.1).toNat) ⟨[],U,[],by simp,by simp,by simp;omega,by simp,by simp⟩ (by dsimp only;omega) ?_
rintro ⟨i,j⟩ rec ⟨C1,C,C2,hC,hi,hj,h1,h2⟩ ih
dsimp only at hi hj ih ⊢
have lC:U.length=C1.length+C.length+C2.length:=by rw [hC];simp only [Yb]
refine Zc (fun hlt=>?_) (fun hge=>?_)
rw [DH]
refine XT (by omega) (by omega) fun q hq hw=>?_
rw [hw]
obtain ⟨M1,z,M2,hM,lM⟩:=qW (l:=C) (n:=(q-i).toNat) (by omega)
have lM2:C.length=M1.length+1+M2.length:=by rw [hM];simp only [Yb,Yr];omega
have hz:U=(C1++M1)++z::(M2++C2):=by rw [hC,hM];simp
rw [hz] at hU
obtain ⟨s1,s2⟩:=qX hU
have d1:P++U ++ [y]++S=(P++C1++M1)++z::(M2++C2 ++ [y]++S):=by rw [hz];simp
have d2:P++U ++ [y]++S=(P++U)++y::S:=by simp
refine Za (C0 d2 (by simp only [Yb];omega)) (Za (C0 d1 (by simp only [Yb];omega)) (Za (XC y z) ?_))
by_cases hc:I5 y z<0
rw [Yh hc]
refine Zi nofun fun _=>?_
refine ih _ ⟨C1,M1,z::M2++C2,by rw [hz];simp,by dsimp only;omega,by dsimp only;omega,h1,fun v hv=>?_⟩ (by dsimp only;omega)
have hxz:=XE hc
rcases Ys.1 (show v ∈ z::(M2++C2) from hv) with rfl | hv
exact hxz
cases h:leM v y with
| false=>rfl
| true=>rw [GG _ _ _ (s2 v hv) h] at hxz;cases hxz
rw [Yf hc]
refine Zi (fun _=>?_) nofun
rw [DH]
refine ih _ ⟨C1++M1 ++ [z],M2,C2,by rw [hz];simp,by dsimp only;simp only [List.length_append,List.length_singleton];omega,by dsimp only;simp only [List.length_append,List.length_singleton];omega,fun v hv=>?_,h2⟩ (by dsimp only;omega)
have hxz:=XD hc
rcases YD.1 hv with hv | hv
exact GG _ _ _ (s1 v hv) hxz
rw [YG.1 hv];exact hxz
have z:C = []:=Yl (by omega)
subst z
rw [YB] at hC
simp only [DK] at hj lC
have hres:AF leM U [y]=C1++y::C2:=by rw [hC];exact oT h1 h2
refine ZF (fun q=>∃ D1 D2:Q3 Memb,C2=D1++D2/\q.1=a+(C1.length:Int)+(D1.length:Int)/\q.2=P++C1++D1++y::D2++S) (fun q=>q.1.toNat) ⟨C2,[],by simp,by dsimp only;omega,by simp [hC]⟩ (by dsimp only;omega) ?_
rintro ⟨k,l⟩ rec2 ⟨D1,D2,hD,hk,hl⟩ ih2
dsimp only at hk hl ih2 ⊢
have lD:C2.length=D1.length+D2.length:=by rw [hD];simp only [Yb]
refine Zc (fun hlt=>?_) (fun hge=>?_)
have hD0:D1≠[]:=fun h=>by rw [h] at hk;simp only [DK] at hk;omega
obtain ⟨D',x,hDx⟩:∃ A' z,D1=A' ++ [z]:=⟨D1.dropLast,D1.getLast hD0,(XZ hD0).symm⟩
have lA:D1.length=D'.length+1:=by rw [hDx];simp
have d1:l=(P++C1++D')++x::(y::D2++S):=by rw [hl,hDx];simp
have d2:l=(P++C1++D' ++ [x])++y::(D2++S):=by rw [hl,hDx];simp
have n1:k-1=((P++C1++D').length:Int):=by simp only [Yb];omega
have n2:k=((P++C1++D' ++ [x]).length:Int):=by simp only [Yb,YC];omega
have d3:AP l k x=(P++C1++D')++x::(x::(D2++S)):=by rw [KT d2 n2];simp
rw [D8]
refine Za (C0 d1 n1) (Za (C0 d2 n2) (Za (C0 d2 n2) (Za (C0 d3 n1) ?_)))
refine ih2 _ ⟨D',x::D2,by rw [hD,hDx];simp,by dsimp only;omega,?_⟩ (by dsimp only;omega)
dsimp only
rw [KT d3 n1]
simp
have z2:D1 = []:=Yl (by omega)
subst z2
refine Zd ?_
rw [hl,hres,hD]
simp}
theorem R8 {A B:Q3 Memb} (h:Srt (A++B)):Srt A/\Srt B:=⟨(I9.1 h).1,(I9.1 h).2.1⟩
structure Part (U V A B C D:List Memb):Prop where
 u:U=A++B
 v:V=C++D
 l:∀ u ∈ A,∀ v ∈ D,leM u v=true
 r:∀ v ∈ C,∀ u ∈ B,leM u v=false
theorem Zym {U V:Q3 Memb} (hU:Srt U) (hV:Srt V) (i k:Nat) (hi:i<=U.length) (hk:k<=V.length) (h1:i=0\/k=V.length\/∃ u v,U[i-1]? = some u/\V[k]? = some v/\leM u v=true) (h2:i=U.length\/k=0\/∃ u v,U[i]? = some u/\V[k-1]? = some v/\leM u v=false) :
  Part U V (U.take i) (U.drop i) (V.take k) (V.drop k):=by{
refine ⟨(YQ _ _).symm,(YQ _ _).symm,fun u hu v hv=>?_,fun v hv u hu=>?_⟩
rcases h1 with rfl | rfl | ⟨x,y,hx,hy,hxy⟩
simp at hu
simp at hv
have e1:U.take i=U.take (i-1) ++ [x]:=by
 have hlt:=(Yd.1 hx).1
 cases i with
 | zero=>simp at hu
 | succ i=>
   rw [Z3]
   simp only [RK] at hx ⊢
   rw [hx]
   rfl
have e2:V.drop k=y::V.drop (k+1):=by
 obtain ⟨hlt,he⟩:=Yd.1 hy
 rw [Yt hlt,he]
have a1:leM u x=true\/u=x:=by
 rw [e1] at hu
 rcases YD.1 hu with hu | hu
 have s:=(R8 (A:=U.take i) (B:=U.drop i) (by rw [YQ];exact hU)).1
 rw [e1] at s
 exact .inl ((I9.1 s).2.2 u hu x (by simp))
 exact .inr (YG.1 hu)
have a2:leM y v=true\/v=y:=by
 rw [e2] at hv
 rcases Ys.1 hv with hv | hv
 exact .inr hv
 have s:=(R8 (A:=V.take k) (B:=V.drop k) (by rw [YQ];exact hV)).2
 rw [e2] at s
 exact .inl ((YV.1 s).1 v hv)
have a3:leM u y=true:=by
 rcases a1 with a1 | rfl
 exact GG _ _ _ a1 hxy
 exact hxy
rcases a2 with a2 | rfl
exact GG _ _ _ a3 a2
exact a3
rcases h2 with rfl | rfl | ⟨x,y,hx,hy,hxy⟩
simp at hu
simp at hv
have e1:U.drop i=x::U.drop (i+1):=by
 obtain ⟨hlt,he⟩:=Yd.1 hx
 rw [Yt hlt,he]
have e2:V.take k=V.take (k-1) ++ [y]:=by
 cases k with
 | zero=>simp at hv
 | succ k=>
   rw [Z3]
   simp only [RK] at hy ⊢
   rw [hy]
   rfl
have a1:leM x u=true\/u=x:=by
 rw [e1] at hu
 rcases Ys.1 hu with hu | hu
 exact .inr hu
 have s:=(R8 (A:=U.take i) (B:=U.drop i) (by rw [YQ];exact hU)).2
 rw [e1] at s
 exact .inl ((YV.1 s).1 u hu)
have a2:leM v y=true\/v=y:=by
 rw [e2] at hv
 rcases YD.1 hv with hv | hv
 have s:=(R8 (A:=V.take k) (B:=V.drop k) (by rw [YQ];exact hV)).1
 rw [e2] at s
 exact .inl ((I9.1 s).2.2 v hv y (by simp))
 exact .inr (YG.1 hv)
cases h:leM u v with
| false=>rfl
| true=>
  exfalso
  have b1:leM x v=true:=by
   rcases a1 with a1 | rfl
   exact GG _ _ _ a1 h
   exact h
  have b2:leM x y=true:=by
   rcases a2 with a2 | rfl
   exact GG _ _ _ b1 a2
   exact b1
  rw [hxy] at b2
  cases b2}
theorem ZzK {P U V S:Q3 Memb} {i:Nat} {u:Memb} (h:U[i]? = some u):∃ A B,P++U++V++S=A++u::B/\A.length=P.length+i:=by{
obtain ⟨hl,he⟩:=Yd.1 h
refine ⟨P++U.take i,U.drop (i+1)++V++S,?_,by rw [Yb,YE];omega⟩
have:U=U.take i++u::U.drop (i+1):=by rw [<- he,<- Yt hl,YQ]
conv=>lhs;rw [this]
simp}
theorem ZzL {P U V S:Q3 Memb} {i:Nat} {v:Memb} (h:V[i]? = some v):∃ A B,P++U++V++S=A++v::B/\A.length=P.length+U.length+i:=by{
obtain ⟨hl,he⟩:=Yd.1 h
refine ⟨P++U++V.take i,V.drop (i+1)++S,?_,by rw [Yb,Yb,YE];omega⟩
have:V=V.take i++v::V.drop (i+1):=by rw [<- he,<- Yt hl,YQ]
conv=>lhs;rw [this]
simp}
theorem XU:∀ (f:Nat) (P U V S:Q3 Memb) (_:Srt U) (_:Srt V) (_:0<U.length) (_:0<V.length) (_:(P++U++V++S).length<=1000000) (_:U.length+V.length<=2 ^ f) (a m b:Int) (_:a=(P.length:Int)) (_:m=((P++U).length:Int)) (_:b=((P++U++V).length:Int)),
  Zq f (P++U++V++S) a m b=some (P++AF leM U V++S)
 | 0,P,U,V,S,_,_,hU0,hV0,_,hf,_,_,_,_,_,_=>by simp at hf;omega
 | f+1,P,U,V,S,hU,hV,hU0,hV0,hL,hf,a,m,b,ha,hm,hb=>by
   by_cases hU1:U.length=1
   ·obtain ⟨x,rfl⟩:=List.length_eq_one_iff.1 hU1
    exact ZvN f P V S x hV hL a m b ha hm hb
   by_cases hV1:V.length=1
   ·obtain ⟨y,rfl⟩:=List.length_eq_one_iff.1 hV1
    exact ZtJ f P U S y hU hU1 hL a m b ha hm hb
   simp only [Yb] at hL hm hb
   refine ZI ?_
   unfold Zq
   rw [show w64 (m-a)=(U.length:Int) by rw [D8];omega,show w64 (b-m)=(V.length:Int) by rw [D8];omega]
   refine Zc (fun h=>absurd h (by omega)) fun _=>Zc (fun h=>absurd h (by omega)) fun _=>?_
   rw [DH]
   refine XT (by omega) (by omega) fun mid hmid hw=>?_
   rw [hw]
   have en:w64 (mid+m)=mid+m:=DH
   rw [en]
   have tail:∀ (s:Int) (A B C D:Q3 Memb),Part U V A B C D->s=(P.length:Int)+(A.length:Int)->mid+m-s=(P.length:Int)+(U.length:Int)+(C.length:Int)->Tot (letk (fun (x352:Bool)=>
     letk (fun (x354:Q3 Memb)=>
      letk (fun (x355:Bool)=>
       letk (fun (x357:Q3 Memb)=>
        letk (fun (x358:Bool)=>
         if x358 then
          (Zq f x357 mid (mid+m-s) b).bind fun r359=>
          (some r359:Q2 (Q3 Memb))
         else
         (some x357:Q2 (Q3 Memb))) fun k24=>
        if (decide (mid<mid+m-s)) then
         k24 (decide (mid+m-s<b))
        else
        k24 false) fun k23=>
       if x355 then
        (Zq f x354 a s mid).bind fun r360=>
        k23 r360
       else
       k23 x354) fun k22=>
      if (decide (a<s)) then
       k22 (decide (s<mid))
      else
      k22 false) fun k21=>
     if x352 then
      (ZW (P++U++V++S) s m (mid+m-s)).bind fun r361=>
      k21 r361
     else
     k21 (P++U++V++S)) fun k20=>
    if (decide (s<m)) then
     k20 (decide (m<mid+m-s))
    else
    k20 false) fun r=>r=P++AF leM U V++S:=by
    intro s A B C D hp hs he
    have lU:U.length=A.length+B.length:=by rw [hp.u,Yb]
    have lV:V.length=C.length+D.length:=by rw [hp.v,Yb]
    have hsU:=R8 (by rw [<- hp.u];exact hU)
    have hsV:=R8 (by rw [<- hp.v];exact hV)
    have pw:(2:Nat) ^ (f+1)=2 * 2 ^ f:=by rw [Nat.pow_succ,EN]
    have hfin:P++AF leM U V++S=P++AF leM A C++AF leM B D++S:=by
     rw [hp.u,hp.v,NM A B C D hp.l hp.r]
     simp
    rw [hfin]
    refine Zt (fun q=>∀ t,(t=true->0<B.length/\0<C.length)->(t=false->B = []\/C = [])->Tot (q t) fun r=>r=P++AF leM A C++AF leM B D++S) (fun t ht1 ht2=>?_) fun q hq=>?_
    ·
     refine Zt (fun q=>Tot (q (P++A++C++B++D++S)) fun r=>r=P++AF leM A C++AF leM B D++S) ?_ fun q hq=>?_
     ·refine Zt (fun q=>∀ t,(t=true->0<A.length/\0<C.length)->(t=false->A = []\/C = [])->Tot (q t) fun r=>r=P++AF leM A C++AF leM B D++S) (fun t ht1 ht2=>?_) fun q hq=>?_
      ·
       refine Zt (fun q=>Tot (q (P++AF leM A C++B++D++S)) fun r=>r=P++AF leM A C++AF leM B D++S) ?_ fun q hq=>?_
       ·refine Zt (fun q=>∀ t,(t=true->0<B.length/\0<D.length)->(t=false->B = []\/D = [])->Tot (q t) fun r=>r=P++AF leM A C++AF leM B D++S) (fun t ht1 ht2=>?_) fun q hq=>?_
        ·refine Zi (fun h=>?_) fun h=>?_
         ·obtain ⟨b1,b2⟩:=ht1 h
          have hl:=ZsA (le:=leM) A C
          refine Za (XU f (P++AF leM A C) B D S hsU.2 hsV.2 b1 b2 (by simp only [Yb];omega) (by omega) mid (mid+m-s) b (by simp only [Yb];omega) (by simp only [Yb];omega) (by simp only [Yb];omega)) (Zd rfl)
         ·refine Zd ?_
          rcases ht2 h with rfl | rfl
          ·show _=P++AF leM A C++D++S
           simp
          ·rw [I3];simp
        ·refine Zc (fun h=>?_) fun h=>?_
         ·by_cases h2:mid+m-s<b
          ·rw [Yh h2]
           exact hq true (fun _=>by omega) nofun
          ·rw [Yf h2]
           exact hq false nofun fun _=>.inr (Yl (by omega))
         ·exact hq false nofun fun _=>.inl (Yl (by omega))
       ·refine Zi (fun h=>?_) fun h=>?_
        ·obtain ⟨b1,b2⟩:=ht1 h
         have e:P++A++C++B++D++S=P++A++C++(B++D++S):=by simp
         rw [e]
         refine Za (XU f P A C (B++D++S) hsU.1 hsV.1 b1 b2 (by simp only [Yb];omega) (by omega) a s mid ha (by simp only [Yb];omega) (by simp only [Yb];omega)) ?_
         have e2:P++AF leM A C++(B++D++S)=P++AF leM A C++B++D++S:=by simp
         rw [e2]
         exact hq
        ·have e:P++A++C++B++D++S=P++AF leM A C++B++D++S:=by
          rcases ht2 h with rfl | rfl
          ·show _=P++C++B++D++S
           simp
          ·rw [I3];simp
         rw [e]
         exact hq
      ·refine Zc (fun h=>?_) fun h=>?_
       ·by_cases h2:s<mid
        ·rw [Yh h2]
         exact hq true (fun _=>by omega) nofun
        ·rw [Yf h2]
         exact hq false nofun fun _=>.inr (Yl (by omega))
       ·exact hq false nofun fun _=>.inl (Yl (by omega))
     ·refine Zi (fun h=>?_) fun h=>?_
      ·obtain ⟨b1,b2⟩:=ht1 h
       have e:P++U++V++S=(P++A)++B++C++(D++S):=by rw [hp.u,hp.v];simp
       rw [e]
       refine Za (Zwa (P++A) B C (D++S) b1 b2 (by simp only [Yb];omega) s m (mid+m-s) (by simp only [Yb];omega) (by simp only [Yb];omega) (by simp only [Yb];omega)) ?_
       have e2:(P++A)++C++B++(D++S)=P++A++C++B++D++S:=by simp
       rw [e2]
       exact hq
      ·have e:P++U++V++S=P++A++C++B++D++S:=by
        rw [hp.u,hp.v]
        rcases ht2 h with rfl | rfl<;>simp
       rw [e]
       exact hq
    ·refine Zc (fun h=>?_) fun h=>?_
     ·by_cases h2:m<mid+m-s
      ·rw [Yh h2]
       exact hq true (fun _=>by omega) nofun
      ·rw [Yf h2]
       exact hq false nofun fun _=>.inr (Yl (by omega))
     ·exact hq false nofun fun _=>.inl (Yl (by omega))
   refine Zt (fun q=>∀ lo hi:Int,lo<=hi->a<=lo->hi<=m->hi<=mid\/hi=m->(lo=a/\m<=mid/\hi=m\/lo=mid+m-b/\mid<m/\hi=mid)->Tot (q lo hi) fun r=>r=P++AF leM U V++S) (fun lo hi hlh hlo hhi hhm hcase=>?_) fun q hq=>?_
   ·refine ZF (fun x=>lo<=x.1/\x.1<=x.2/\x.2<=hi/\(x.1=lo\/∃ u v,U[(x.1-1-a).toNat]? = some u/\V[(mid-x.1).toNat]? = some v/\leM u v=true)/\(x.2=hi\/∃ u v,U[(x.2-a).toNat]? = some u/\V[(mid-1-x.2).toNat]? = some v/\leM u v=false)) (fun x=>(x.2-x.1).toNat) ⟨Int.le_refl _,hlh,Int.le_refl _,.inl rfl,.inl rfl⟩ (by dsimp only;omega) ?_
    rintro ⟨st,r⟩ rec ⟨k1,k2,k3,k4,k5⟩ ih
    dsimp only at k1 k2 k3 k4 k5 ih ⊢
    refine Zc (fun hlt=>?_) fun hge=>?_
    ·rw [DH]
     refine XT (by omega) (by omega) fun c hc hwc=>?_
     rw [hwc]
     have c1:(c-a).toNat<U.length:=by omega
     have c2:(mid-1-c).toNat<V.length:=by omega
     obtain ⟨A1,B1,d1,n1⟩:=ZzK (P:=P) (U:=U) (V:=V) (S:=S) (Yc c1)
     obtain ⟨A2,B2,d2,n2⟩:=ZzL (P:=P) (U:=U) (V:=V) (S:=S) (Yc c2)
     rw [show w64 (mid+m-1)=mid+m-1 from D8,show w64 (mid+m-1-c)=mid+m-1-c from D8]
     refine Za (C0 d2 (by omega)) (Za (C0 d1 (by omega)) (Za (XC _ _) ?_))
     by_cases hcm:I5 V[(mid-1-c).toNat] U[(c-a).toNat]<0
     ·rw [Yh hcm]
      refine Zi nofun fun _=>?_
      exact ih _ ⟨k1,by dsimp only;omega,by dsimp only;omega,k4,.inr ⟨_,_,List.getElem?_eq_getElem c1,List.getElem?_eq_getElem c2,XE hcm⟩⟩ (by dsimp only;omega)
     ·rw [Yf hcm]
      refine Zi (fun _=>?_) nofun
      rw [DH]
      refine ih _ ⟨by dsimp only;omega,by dsimp only;omega,k3,.inr ⟨_,_,?_,?_,XD hcm⟩,k5⟩ (by dsimp only;omega)
      ·dsimp only
       rw [show (c+1-1-a).toNat=(c-a).toNat by omega]
       exact Yc c1
      ·dsimp only
       rw [show (mid-(c+1)).toNat=(mid-1-c).toNat by omega]
       exact Yc c2
    ·obtain rfl:st=r:=by omega
     have e2:w64 (mid+m-st)=mid+m-st:=D8
     rw [e2]
     refine tail st _ _ _ _ (Zym hU hV (st-a).toNat (mid-st).toNat (by omega) (by omega) ?_ ?_) ?_ ?_
     ·rcases k4 with rfl | ⟨u,v,q1,q2,q3⟩
      ·rcases hcase with h | h
       ·exact .inl (by omega)
       ·exact .inr (.inl (by omega))
      ·exact .inr (.inr ⟨u,v,by rw [show (st-a).toNat-1=(st-1-a).toNat by omega];exact q1,q2,q3⟩)
     ·rcases k5 with rfl | ⟨u,v,q1,q2,q3⟩
      ·rcases hcase with h | h
       ·exact .inl (by omega)
       ·exact .inr (.inl (by omega))
      ·exact .inr (.inr ⟨u,v,q1,by rw [show (mid-st).toNat-1=(mid-1-st).toNat by omega];exact q2,q3⟩)
     ·rw [YE]
      omega
     ·rw [YE]
      omega
   ·refine Zc (fun h=>?_) fun h=>?_
    ·rw [D8]
     exact hq _ _ (by omega) (by omega) (by omega) (.inl (by omega)) (.inr ⟨rfl,h,rfl⟩)
    ·exact hq _ _ (by omega) (by omega) (by omega) (.inr rfl) (.inl ⟨rfl,by omega,rfl⟩)
def sbk (n:Nat) (L:Q3 Memb):Q3 Memb:=if _h:0<n/\n<=L.length then AJ leM (L.take n)++sbk n (L.drop n) else AJ leM L
 termination_by L.length
 decreasing_by rw [Yx];omega
theorem R9 {n:Nat} {L:Q3 Memb} (h0:0<n) (h:n<=L.length):sbk n L=AJ leM (L.take n)++sbk n (L.drop n):=by
 rw [sbk,dif_pos ⟨h0,h⟩]
theorem NZ {n:Nat} {L:Q3 Memb} (h:L.length<=n):sbk n L=AJ leM L:=by{
rw [sbk]
split
rename_i h1
have:n=L.length:=by omega
rw [this,Z4,GL,sbk,dif_neg (fun h=>by have h2:=h.1;have h3:=h.2;simp only [DK] at h3;omega)]
exact YB _
rfl}
theorem qY (n:Nat):∀ (k:Nat) (L:Q3 Memb),L.length<=k->(sbk n L).length=L.length
 | 0,L,h=>by
   rw [NZ (by omega),BZ]
 | k+1,L,h=>by
   by_cases h1:0<n/\n<=L.length
   rw [R9 h1.1 h1.2,Yb,BZ,qY n k (L.drop n) (by rw [Yx];omega),YE,Yx]
   omega
   rw [sbk,dif_neg h1,BZ]
theorem isrt (L:Q3 Memb):Srt (AJ leM L):=QJ GG QN L
theorem qZ (A B:Q3 Memb):AF leM (AJ leM A) (AJ leM B)=AJ leM (A++B):=(eV GG QN A B).symm
theorem ZwC (L:Q3 Memb) (hL:L.length<=1000000):TS L (L.length:Int)=some (AJ leM L):=by{
refine ZI ?_
unfold TS
refine ZF (fun x=>∃ R E:Q3 Memb,x.1=(R.length:Int)/\x.2.1=(R.length:Int)+20/\x.2.2=R++E/\R++sbk 20 E=sbk 20 L/\R.length+E.length=L.length) (fun x=>L.length-x.1.toNat) ⟨[],L,rfl,rfl,rfl,rfl,by simp⟩ (by dsimp only;omega) ?_
rintro ⟨a,b,l⟩ rec ⟨R,E,ha,hb,hl,hR,hlen⟩ ih
dsimp only at ha hb hl ih ⊢
refine Zc (fun hle=>?_) fun hgt=>?_
have h20:20<=E.length:=by omega
have e:l=R++E.take 20++E.drop 20:=by rw [hl,YM,YQ]
have ht:(E.take 20).length=20:=by rw [YE];omega
rw [e]
refine Za (oV R (E.take 20) (E.drop 20) (by rw [<- e,hl,Yb];omega) a b ha (by rw [Yb];omega)) ?_
rw [DH]
refine ih _ ⟨R++AJ leM (E.take 20),E.drop 20,by dsimp only;rw [List.length_append,BZ];omega,by dsimp only;rw [List.length_append,BZ];omega,rfl,?_,by rw [List.length_append,BZ,List.length_drop];omega⟩ (by dsimp only;omega)
rw [<- hR,R9 (by decide) h20,YM]
have e:l=R++E ++ []:=by rw [hl,YB]
rw [e]
refine Za (oV R E [] (by rw [<- e,hl,Yb];omega) a _ ha (by rw [Yb];omega)) ?_
rw [YB,<- NZ (n:=20) (L:=E) (by omega),hR]
clear ih hR e hl ha hb hgt hlen rec
refine ZF (fun x=>∃ n:Nat,0<n/\n<=2000000/\x.1=(n:Int)/\x.2=sbk n L) (fun x=>2000000-x.1.toNat) ⟨20,by decide,by decide,rfl,rfl⟩ (by dsimp only;omega) ?_
rintro ⟨bsz,l⟩ rec ⟨n,hn0,hn1,hbn,hl⟩ ih
dsimp only at hbn hl ih ⊢
refine Zc (fun hlt=>?_) fun hge=>?_
have e2:w64 (2 * bsz)=2 * bsz:=ZK
rw [e2]
refine ZF (fun x=>∃ R E:Q3 Memb,x.1=(R.length:Int)/\x.2.1=(R.length:Int)+2 * (n:Int)/\x.2.2=R++sbk n E/\R++sbk (2 * n) E=sbk (2 * n) L/\R.length+E.length=L.length) (fun x=>L.length-x.1.toNat) ⟨[],L,rfl,by dsimp only;simp;omega,by rw [hl];rfl,rfl,by simp⟩ (by dsimp only;omega) ?_
rintro ⟨a,b,l2⟩ rec2 ⟨R,E,ha,hb,hl2,hR,hlen⟩ ih2
dsimp only at ha hb hl2 ih2 ⊢
have eA:w64 (a+bsz)=a+bsz:=DH
refine Zc (fun hle=>?_) fun hgt=>?_
have h2n:2 * n<=E.length:=by omega
have t1:(E.take n).length=n:=by rw [YE];omega
have t2:((E.drop n).take n).length=n:=by rw [YE,Yx];omega
have e:l2=R++AJ leM (E.take n)++AJ leM ((E.drop n).take n)++sbk n (E.drop (2 * n)):=by
 rw [hl2,R9 hn0 (by omega),R9 hn0 (by rw [Yx];omega),JU,show n+n=2 * n by omega]
 simp only [YM]
have hd:(sbk n (E.drop (2 * n))).length=E.length-2 * n:=by rw [qY n _ _ (Yn _),Yx]
rw [eA,e]
refine Za (XU 64 R _ _ _ (isrt _) (isrt _) (by rw [BZ];omega) (by rw [BZ];omega) (by simp only [Yb,BZ];omega) (by rw [BZ,BZ];omega) a (a+bsz) b ha (by rw [Yb,BZ];omega) (by simp only [Yb,BZ];omega)) ?_
have et:E.take n++(E.drop n).take n=E.take (2 * n):=by rw [show 2 * n=n+n by omega,List.take_add]
rw [qZ,et,show w64 (b+2 * bsz)=b+2 * bsz from ZK]
have t3:(E.take (2 * n)).length=2 * n:=by rw [YE];omega
refine ih2 _ ⟨R++AJ leM (E.take (2 * n)),E.drop (2 * n),by dsimp only;rw [List.length_append,BZ];omega,by dsimp only;rw [List.length_append,BZ];omega,rfl,?_,by rw [List.length_append,BZ,List.length_drop];omega⟩ (by dsimp only;omega)
rw [<- hR,R9 (n:=2 * n) (by omega) h2n,YM]
have go:l2=R++sbk (2 * n) E->Tot (rec (w64 (bsz * 2),l2)) fun r=>r=AJ leM L:=fun h=>by
 rw [show w64 (bsz * 2)=bsz * 2 from ZK]
 exact ih _ ⟨2 * n,by omega,by omega,by dsimp only;omega,by dsimp only;rw [h,hR]⟩ (by dsimp only;omega)
refine Zt (fun q=>∀ l3,l3=R++sbk (2 * n) E->Tot (q l3) fun r=>r=AJ leM L) (fun l3 h3=>?_) fun q hq=>?_
rw [show w64 (bsz * 2)=bsz * 2 from ZK]
exact ih _ ⟨2 * n,by omega,by omega,by dsimp only;omega,by dsimp only;rw [h3,hR]⟩ (by dsimp only;omega)
rw [eA]
refine Zc (fun hlt2=>?_) fun hge2=>?_
have t1:(E.take n).length=n:=by rw [YE];omega
have t2:(E.drop n).length=E.length-n:=Yx
have e:l2=R++AJ leM (E.take n)++AJ leM (E.drop n) ++ []:=by
 rw [hl2,R9 hn0 (by omega),NZ (n:=n) (L:=E.drop n) (by omega)]
 simp only [YM,YB]
rw [e]
refine Za (XU 64 R _ _ _ (isrt _) (isrt _) (by rw [BZ];omega) (by rw [BZ];omega) (by simp only [Yb,BZ,DK];omega) (by rw [BZ,BZ];omega) a (a+bsz) _ ha (by rw [Yb,BZ];omega) (by simp only [Yb,BZ];omega)) ?_
refine hq _ ?_
rw [qZ,YQ,YB,NZ (n:=2 * n) (by omega)]
refine hq _ ?_
rw [hl2,NZ (n:=n) (L:=E) (by omega),NZ (n:=2 * n) (by omega)]
refine Zd ?_
rw [hl,NZ (by omega)]}
theorem Zo8 (L:Q3 Memb) (hL:L.length<=1000000):ZV L=some (AJ leM L):=by
 unfold ZV
 rw [ZwC L hL]
 rfl
end
section
open VL
def XV {α:Type} (eq:α->α->Q2 Bool) (z:α) (p0:Q3 α):Q2 (Q3 α):=if (decide ((p0.length:Int)<2)) then (some p0:Q2 (Q3 α)) else A3 A9 (fun f82 (x570:Int)=>if (decide (x570<(p0.length:Int))) then (atI p0 x570).bind fun e784=>(atI p0 (w64 (x570-1))).bind fun e785=>(eq e784 e785).bind fun r=>if r then (HT p0 x570).bind fun _=>A3 A9 (fun f97 ((x830,x831,x832):Int×Int×(Q3 α))=>if (decide (x831<(PG x832 x570))) then letk (fun (x847:Int) (x848:Q3 α)=>f97 (x847,(w64 (x831+1)),x848)) fun k98=>(atQ x832 x570 x831).bind fun e849=>(atQ x832 x570 (w64 (x831-1))).bind fun e850=>(eq e849 e850).bind fun r=>if (!r) then (atQ x832 x570 x831).bind fun e851=>(atI x832 x830).bind fun _=>k98 (w64 (x830+1)) (AP x832 x830 e851) else k98 x830 x832 else (HT x832 x830).bind fun _=>(CL (N7 x832 x830 z) 0 x830).bind fun l854=>(some l854:Q2 (Q3 α))) (x570,1,p0) else f82 (w64 (x570+1)) else (some p0:Q2 (Q3 α))) 1
def BP {α:Type} (eq:α->α->Bool):α->Q3 α->Q3 α | _,[]=>[] | x,y::l=>if eq y x=true then BP eq y l else y::BP eq y l
def H2 {α:Type} (eq:α->α->Bool):Q3 α->Q3 α | []=>[] | x::l=>x::BP eq x l
theorem rA {α:Type} {eq:α->α->Bool} (y z:α):∀ (x:α) (A:Q3 α),BP eq x (A ++ [z] ++ [y])=BP eq x (A ++ [z])++(if eq y z=true then [] else [y])
 | x,[]=>by
   show (if eq z x=true then BP eq z [y] else z::BP eq z [y])=(if eq z x=true then [] else [z])++_
   have:BP eq z [y]=if eq y z=true then [] else [y]:=rfl
   rw [this]
   split<;>rfl
 | x,a::A=>by
   show (if eq a x=true then BP eq a (A ++ [z] ++ [y]) else a::BP eq a (A ++ [z] ++ [y]))=(if eq a x=true then BP eq a (A ++ [z]) else a::BP eq a (A ++ [z]))++_
   rw [rA y z a A]
   split<;>rfl
theorem XW {α:Type} {eq:α->α->Bool} (A:Q3 α) (z y:α):H2 eq (A ++ [z] ++ [y])=H2 eq (A ++ [z])++(if eq y z=true then [] else [y]):=by{
cases A with
| nil=>
  show z::BP eq z [y] = [z]++_
  rfl
| cons a A=>
  show a::BP eq a (A ++ [z] ++ [y])=a::BP eq a (A ++ [z])++_
  rw [rA]
  rfl}
theorem fQ {α:Type} {l A B:Q3 α} {x:α} {q i:Int} (h:l=A++x::B) (h0:0<=q) (h1:0<=i) (hn:q+i=(A.length:Int)):atQ l q i=some x:=by
 unfold atQ
 rw [if_pos ⟨h0,h1⟩]
 exact C0 h hn
theorem rB {α:Type} (eqM:α->α->Q2 Bool) (eq:α->α->Bool) (heq:∀ a b,eqM a b=some (eq a b)) (z0:α) (L:Q3 α) (hL:L.length<=1000000):XV eqM z0 L=some (H2 eq L):=by{
refine ZI ?_
unfold XV
refine Zc (fun h=>?_) fun h=>?_
refine Zd ?_
match L,h with
| [],_=>rfl
| [x],_=>rfl
| x::y::l,h=>simp only [Yr] at h;omega
refine ZF (fun x=>∃ A z B,L=A++z::B/\x=(A.length:Int)+1/\H2 eq (A ++ [z])=A ++ [z]) (fun x=>L.length-x.toNat) ?_ (by omega) ?_
cases L with
| nil=>simp only [DK] at h;omega
| cons x l=>exact ⟨[],x,l,rfl,rfl,rfl⟩
rintro k rec ⟨A,z,B,hd,hk,hc⟩ ih
have lL:L.length=A.length+1+B.length:=by rw [hd];simp only [Yb,Yr];omega
refine Zc (fun hlt=>?_) fun hge=>?_
obtain ⟨y,B,rfl⟩:∃ y B',B=y::B':=by
 cases B with
 | nil=>simp only [DK] at lL;omega
 | cons y B'=>exact ⟨y,B',rfl⟩
simp only [Yr] at lL
have d1:L=(A ++ [z])++y::B:=by rw [hd];simp
rw [D8]
refine Za (C0 d1 (by simp only [Yb,YC];omega)) (Za (C0 hd (by omega)) (Za (heq y z) (Zi (fun hyz=>?_) fun hyz=>?_)))
have hs:HT L k=some ():=by
 unfold HT
 rw [if_pos ⟨by omega,by omega⟩]
refine Za hs ?_
refine ZF (fun x=>∃ K J L1 z B,x.2.2=K++J++z::B/\L=L1++z::B/\x.1=(K.length:Int)/\K.length+J.length=L1.length/\1<=x.2.1/\k+x.2.1=(L1.length:Int)+1/\H2 eq (L1 ++ [z])=K) (fun x=>L.length-x.2.1.toNat)
 ⟨A ++ [z],[],A ++ [z],y,B,by dsimp only;rw [d1];simp,d1,by dsimp only;simp only [List.length_append,List.length_singleton];omega,by simp,by dsimp only;omega,by dsimp only;simp only [List.length_append,List.length_singleton];omega,by rw [XW,hc,if_pos hyz,List.append_nil]⟩ (by dsimp only;omega) ?_
rintro ⟨kd,k2,l⟩ rec2 ⟨K,J,L1,u,C,hl,hLd,hkd,hlen,h1,hk2,hK⟩ ih2
dsimp only at hl hkd h1 hk2 ih2 ⊢
have lC:L.length=L1.length+1+C.length:=by rw [hLd];simp only [Yb,Yr];omega
have ll:l.length=L.length:=by rw [hl];simp only [Yb,Yr];omega
have hq:PG l k=(L.length:Int)-k:=by unfold PG;rw [ll];omega
rw [hq]
refine Zc (fun hlt2=>?_) fun hge2=>?_
obtain ⟨v,C,rfl⟩:∃ v C',C=v::C':=by
 cases C with
 | nil=>simp only [DK] at lC;omega
 | cons v C'=>exact ⟨v,C',rfl⟩
simp only [Yr] at lC
have e1:l=(K++J ++ [u])++v::C:=by rw [hl];simp
have n1:k+k2=((K++J ++ [u]).length:Int):=by simp only [Yb,YC];omega
have n2:k+(k2-1)=((K++J).length:Int):=by simp only [Yb];omega
have hLd2:L=(L1 ++ [u])++v::C:=by rw [hLd];simp
refine ZX ?_
rw [D8,DH (a:=k2) (by omega) (by omega) (by omega) (by omega)]
refine Za (fQ e1 (by omega) (by omega) n1) (Za (fQ hl (by omega) (by omega) n2) (Za (heq v u) ?_))
cases hvu:eq v u with
| false=>
  refine Zi (fun _=>?_) nofun
  obtain ⟨w,J2,hJ⟩:∃ w J2,J ++ [u]=w::J2:=by
   cases J with
   | nil=>exact ⟨u,[],rfl⟩
   | cons w J2=>exact ⟨w,J2 ++ [u],rfl⟩
  have lJ:J.length+1=J2.length+1:=by have:=CA List.length hJ;simpa using this
  have e2:l=K++w::(J2++v::C):=by rw [e1,YM K J [u],hJ];simp
  refine Za (fQ e1 (by omega) (by omega) n1) (Za (C0 e2 hkd) ?_)
  dsimp only
  rw [DH]
  refine ih2 _ ⟨K ++ [v],J2,L1 ++ [u],v,C,?_,hLd2,by dsimp only;simp only [List.length_append,List.length_singleton];omega,by simp only [List.length_append,List.length_singleton];omega,by dsimp only;omega,by dsimp only;simp only [List.length_append,List.length_singleton];omega,?_⟩ (by dsimp only;omega)
  dsimp only
  rw [KT e2 hkd]
  simp
  rw [XW,hK,hvu]
  rfl
| true=>
  refine Zi nofun fun _=>?_
  dsimp only
  refine ih2 _ ⟨K,J ++ [u],L1 ++ [u],v,C,by dsimp only;rw [hl];simp,hLd2,hkd,by simp only [List.length_append,List.length_singleton];omega,by dsimp only;omega,by dsimp only;simp only [List.length_append,List.length_singleton];omega,?_⟩ (by dsimp only;omega)
  rw [XW,hK,hvu]
  exact YB _
have hC:C = []:=Yl (by omega)
subst hC
have hs2:HT l kd=some ():=by
 unfold HT
 rw [if_pos ⟨by omega,by omega⟩]
refine Za hs2 ?_
have hcl:N7 l kd z0=K++List.replicate (l.length-K.length) z0:=by
 unfold N7
 rw [hkd,DJ,hl]
 congr 1
 rw [YM,ML]
refine Za (v:=K) ?_ (Zd ?_)
rw [hcl]
unfold CL
rw [if_pos ⟨by omega,by omega,by rw [hkd,Yb];omega⟩,hkd]
simp
rw [<- hK,hLd]
rw [DH]
refine ih _ ⟨A ++ [z],y,B,d1,by simp only [Yb,YC];omega,?_⟩ (by omega)
rw [XW,hc,if_neg (by rw [hyz];decide)]
have hB:B = []:=Yl (by omega)
subst hB
refine Zd ?_
rw [hd,hc]}
theorem Znj:R4=XV (fun a b=>some (decide (a=b))) ⟨0,⟨0,⟨#[]⟩⟩⟩:=rfl
theorem Znk:QL=XV TM ⟨⟨0,⟨#[]⟩⟩,⟨#[]⟩⟩:=rfl
theorem Znl (L:Q3 Link) (hL:L.length<=1000000):R4 L=some (H2 (fun a b=>decide (a=b)) L):=by
 rw [Znj]
 exact rB _ _ (fun _ _=>rfl) _ L hL
theorem Znm (L:Q3 Memb) (hL:L.length<=1000000):QL L=some (H2 (fun a b=>decide (a.category=b.category)) L):=by
 rw [Znk]
 exact rB _ _ (fun _ _=>rfl) _ L hL
theorem fR {α:Type} {eq:α->α->Bool} {p:α->Bool} (hp:∀ a b,eq a b=true->p a=p b):∀ (l:Q3 α) (x:α),p x=false->(BP eq x l).find? p=l.find? p
 | [],_,_=>rfl
 | y::l,x,hx=>by
   show (if eq y x=true then BP eq y l else y::BP eq y l).find? p=_
   split
   rename_i h
   have hy:p y=false:=by rw [hp y x h];exact hx
   rw [fR hp l y hy,EL,hy]
   cases hy:p y with
   | true=>rw [EL,EL,hy]
   | false=>rw [EL,EL,hy];exact fR hp l y hy
theorem ZrE {α:Type} {eq:α->α->Bool} {p:α->Bool} (hp:∀ a b,eq a b=true->p a=p b) (l:Q3 α):(H2 eq l).find? p=l.find? p:=by{
cases l with
| nil=>rfl
| cons x l=>
  show (x::BP eq x l).find? p=_
  rw [EL,EL]
  cases hx:p x with
  | true=>rfl
  | false=>exact fR hp l x hx}
theorem rC {α:Type} {le:α->α->Bool} {p:α->Bool} (h:∀ x y,le x y=false->p x=true->p y=false) (x:α):∀ l:Q3 α,(BY le x l).find? p=(x::l).find? p
 | []=>rfl
 | y::l=>by
   unfold BY
   split
   rfl
   rename_i hxy
   have hxy:le x y=false:=by cases hb:le x y<;>simp_all
   rw [EL,rC h x l,EL,EL,EL]
   cases hx:p x with
   | true=>rw [h x y hxy hx]
   | false=>rfl
theorem rD {α:Type} {le:α->α->Bool} {p:α->Bool} (h:∀ x y,le x y=false->p x=true->p y=false):∀ l:Q3 α,(AJ le l).find? p=l.find? p
 | []=>rfl
 | x::l=>by
   show (BY le x (AJ le l)).find? p=_
   rw [rC h,EL,EL,rD h l]
theorem rE {α:Type} [DecidableEq α] (e:α):∀ (l:Q3 α) (x:α),e ∈ x::BP (fun a b=>decide (a=b)) x l↔e ∈ x::l
 | [],x=>Iff.rfl
 | y::l,x=>by
   show e ∈ x::(if decide (y=x)=true then BP (fun a b=>decide (a=b)) y l else y::BP (fun a b=>decide (a=b)) y l)↔_
   have ih:=rE e l y
   by_cases h:y=x
   rw [if_pos (Yh h)]
   subst h
   simp only [Ys] at ih ⊢
   constructor
   intro g
   rcases ih.1 g with g | g
   exact .inl g
   exact .inr (.inr g)
   intro g
   rcases g with g | g
   exact .inl g
   exact ih.2 g
   rw [if_neg (by rw [Yf h];decide)]
   simp only [Ys] at ih ⊢
   rw [ih]
theorem Zts {α:Type} [DecidableEq α] (e:α) (l:Q3 α):e ∈ H2 (fun a b=>decide (a=b)) l↔e ∈ l:=by
 cases l with
 | nil=>exact Iff.rfl
 | cons x l=>exact rE e l x
theorem fS {α:Type} {eq:α->α->Bool}:∀ (l:Q3 α) (x e:α),e ∈ BP eq x l->e ∈ l
 | [],x,e,h=>by cases h
 | y::l,x,e,h=>by
   have h:e ∈ (if eq y x=true then BP eq y l else y::BP eq y l):=h
   split at h
   exact Yg _ (fS l y e h)
   rcases Ys.1 h with rfl | h
   exact Yi
   exact Yg _ (fS l y e h)
theorem rF {α κ:Type} [DecidableEq κ] {le:α->α->Bool} (key:α->κ) (ha:∀ a b,le a b=true->le b a=true->key a=key b) (hk:∀ a b,key a=key b->∀ c,le c a=le c b/\le a c=le b c) :
  ∀ (l:Q3 α) (x:α),(x::l).Pairwise (fun a b=>le a b=true)->(x::BP (fun a b=>decide (key a=key b)) x l).Pairwise fun a b=>¬ key a=key b
 | [],x,_=>List.pairwise_singleton _ _
 | y::l,x,h=>by
   obtain ⟨h1,h2⟩:=YV.1 h
   have ih:=rF key ha hk l y h2
   show (x::(if decide (key y=key x)=true then BP (fun a b=>decide (key a=key b)) y l else y::BP (fun a b=>decide (key a=key b)) y l)).Pairwise _
   obtain ⟨i1,i2⟩:=YV.1 ih
   by_cases hy:key y=key x
   rw [if_pos (Yh hy)]
   exact YV.2 ⟨fun e he=>by rw [<- hy];exact i1 e he,i2⟩
   rw [if_neg (by rw [Yf hy];decide)]
   refine YV.2 ⟨fun e he=>?_,ih⟩
   rcases Ys.1 he with rfl | he
   exact fun h=>hy h.symm
   intro hxe
   have hle:=(YV.1 h2).1 e (fS l y e he)
   have hxy:=h1 y Yi
   rw [<- ((hk x e hxe y).1)] at hle
   exact hy (ha y x hle hxy)
theorem rG {α κ:Type} [DecidableEq κ] {le:α->α->Bool} (key:α->κ) (ha:∀ a b,le a b=true->le b a=true->key a=key b) (hk:∀ a b,key a=key b->∀ c,le c a=le c b/\le a c=le b c) (l:Q3 α) (h:l.Pairwise (fun a b=>le a b=true)):(H2 (fun a b=>decide (key a=key b)) l).Pairwise fun a b=>¬ key a=key b:=by
 cases l with
 | nil=>exact .nil
 | cons x l=>exact rF key ha hk l x h
end
theorem rH:UA=some true:=by kernel_rfl
section
open VL
theorem fT {α:Type} {eq:α->α->Bool}:∀ (l:Q3 α) (x:α),(BP eq x l).Sublist l
 | [],_=>.slnil
 | y::l,x=>by
   show (if eq y x=true then BP eq y l else y::BP eq y l).Sublist (y::l)
   split
   exact (fT l y).cons y
   exact (fT l y).cons_cons y
theorem XX {α:Type} {eq:α->α->Bool} (l:Q3 α):(H2 eq l).Sublist l:=by
 cases l with
 | nil=>exact .slnil
 | cons x l=>exact (fT l x).cons_cons x
theorem rI {α:Type} {R S:α->α->Prop} {l:Q3 α} (h:l.Pairwise R) (k:l.Pairwise S):l.Pairwise fun a b=>R a b/\S a b:=by{
induction l with
| nil=>exact .nil
| cons x l ih=>
  obtain ⟨h1,h2⟩:=YV.1 h
  obtain ⟨k1,k2⟩:=YV.1 k
  exact YV.2 ⟨fun y hy=>⟨h1 y hy,k1 y hy⟩,ih h2 k2⟩}
def O0 (L:Q3 Link):Q3 Link:=H2 (fun a b=>decide (a=b)) (AJ (leC D9) L)
def O4 (L:Q3 Memb):Q3 Memb:=H2 (fun a b=>decide (a.category=b.category)) (AJ leM L)
theorem rJ {α:Type} {c:α->α->Int} (h:CmpLaws c) {a b:α} (k:leC c a b=true) (hn:¬ a=b):c a b<0:=by{
have k2:ltOf c b a=false:=by unfold leC at k;simpa using k
have k3:¬ c b a<0:=UL k2
have k4:¬ c b a=0:=fun e=>hn ((h.zero b a).1 e).symm
exact (h.neg a b).2 (by omega)}
theorem Zxv (L:Q3 Link):(O0 L).Pairwise fun a b=>D9 a b<0:=by
 have s:(AJ (leC D9) L).Pairwise (fun a b=>leC D9 a b=true):=QJ (eQ linkCmp_laws.swo) (eR linkCmp_laws.swo) L
 have d:(O0 L).Pairwise fun a b=>¬ a=b:=rG (le:=leC D9) (fun a:Link=>a) (fun a b h k=>oK linkCmp_laws.tot a b h k) (fun a b e c=>by rw [show a=b from e];exact ⟨rfl,rfl⟩) _ s
 exact (rI (s.sublist (XX _)) d).imp fun ⟨h1,h2⟩=>rJ linkCmp_laws h1 h2
theorem Zxw (L:Q3 Memb):(O4 L).Pairwise fun a b=>Title.cmp a.category b.category<0:=by{
have s:(AJ leM L).Pairwise (fun a b=>leM a b=true):=QJ GG QN L
have k1:∀ a b:Memb,a.category=b.category->∀ c:Memb,leM c a=leM c b/\leM a c=leM b c:=fun a b h c=>by
 unfold leM leC ltOf I5
 rw [h]
 exact ⟨rfl,rfl⟩
have k2:∀ a b:Memb,leM a b=true->leM b a=true->a.category=b.category:=fun a b h k=>by
 refine titleCmp_laws.tot a.category b.category ?_ ?_
 unfold leM leC at k
 have k2:ltOf I5 a b=false:=by simpa using k
 exact k2
 unfold leM leC at h
 have k2:ltOf I5 b a=false:=by simpa using h
 exact k2
have d:(O4 L).Pairwise fun a b=>¬ a.category=b.category:=rG (le:=leM) Memb.category k2 k1 _ s
exact (rI (s.sublist (XX _)) d).imp fun {a b} ⟨h1,h2⟩=>rJ (c:=Title.cmp) titleCmp_laws (a:=a.category) (b:=b.category) h1 h2}
theorem Zye (a b:Memb) (h:a.category=b.category) (c:Memb):leM c a=leM c b/\leM a c=leM b c:=by
 unfold leM leC ltOf I5
 rw [h]
 exact ⟨rfl,rfl⟩
theorem Zwn (a:Memb):leM a a=true:=by
 have:=QN a a
 rw [Bool.or_self] at this
 exact this
theorem Zus (L:Q3 Memb) (c:Title):(O4 L).find? (fun e=>decide (e.category=c))=L.find? (fun e=>decide (e.category=c)):=by{
unfold O4
rw [ZrE (fun a b h=>by rw [GK h])]
refine rD (fun x y h hx=>?_) L
refine Yf fun hy=>?_
have e:x.category=y.category:=(GK hx).trans hy.symm
rw [<- (Zye x y e x).1,Zwn] at h
cases h}
theorem rK (e:Link) (L:Q3 Link):e ∈ O0 L↔e ∈ L:=(Zts e _).trans (TR (leC D9) L).mem_iff
theorem fU (k:Link):∀ l:Q3 Link,l.find? (fun x=>decide (x=k))=if k ∈ l then some k else none
 | []=>by simp
 | x::l=>by
   rw [EL]
   by_cases h:x=k
   subst h;simp
   rw [Yf h,fU k l]
   simp [Ne.symm h]
theorem Zwo {X Y:Q3 Link} (h:∀ e,e ∈ X↔e ∈ Y):O0 X=Y.foldl B0 []:=by{
obtain ⟨h1,h2⟩:=eT (key:=fun x:Link=>x) linkCmp_laws Y [] .nil
refine oQ (key:=fun x:Link=>x) linkCmp_laws (Zxv X) h1 fun k=>?_
rw [h2 k,H7,fU,fU]
by_cases hk:k ∈ Y
rw [if_pos hk,if_pos ((rK k X).2 ((h k).2 hk))]
rw [if_neg hk,if_neg fun hh=>hk ((h k).1 ((rK k X).1 hh))]}
theorem Zwp (X:Q3 Memb):O4 X=X.foldl JN []:=by{
obtain ⟨h1,h2⟩:=eT (key:=Memb.category) titleCmp_laws X [] .nil
refine oQ (key:=Memb.category) titleCmp_laws (Zxw X) h1 fun k=>?_
rw [h2 k,H7]
exact Zus X k}
theorem Zzh (s:Q3 Q4) (h:s.length<=1500):∃ A B,R5 (bs s)=some (A,B,0)/\UB (bs s)=some (A,B,0)/\A.length<=1000000/\B.length<=1000000:=by{
obtain ⟨l,p1,p2,hw,hg⟩:=Ztb s (by omega)
obtain ⟨E,N,o⟩:=qL 300000 l 300000 hw hg (by omega) (by omega)
obtain ⟨C,t⟩:=qQ 300000 l 300000 hw (by omega) (by omega)
obtain ⟨q,r1,r2⟩:=qR s (by omega)
have hlen:=hw.len
rw [Yv] at hlen
have le1:=o.le
have le2:=o.ln
have le3:=t.le
have le4:=TV E
have le5:=TW E
have le6:=R3 C []
rw [DK,YY] at le6
have e1:KQ 300001 ⟨[],[]⟩ l=some ⟨lks E,mbs E⟩:=(pB 300000 _ l (by omega)).trans (o.p ⟨[],[]⟩ (by simp) (by simp))
have e2:Zo 300001 ⟨lks E,mbs E⟩ l=some ⟨lks E++C,mbs E⟩:=pC (by omega) (t.p _ (by dsimp only;omega))
have f1:ZO 300001 l []=some (C.foldl B0 []):=qN (by omega) (t.r [] (by simp))
have f2:IR 300001 l=some N:=qJ (by omega) (o.n [] (by simp))
have f3:AQ NX N (C.foldl B0 [],[])=some ((lks E).foldl B0 (C.foldl B0 []),(mbs E).foldl JN []):=(o.r (C.foldl B0 [],[]) (by dsimp only;omega) (by simp)).trans (by rw [TX])
have le7:=R3 (lks E) (C.foldl B0 [])
have le8:((mbs E).foldl JN []).length<=0+(mbs E).length:=QK (c:=Title.cmp) (key:=Memb.category) (mbs E) []
refine ⟨O0 (lks E++C++(if q.2=true then [⟨4,q.1⟩] else [])),O4 (mbs E),ZI ?_,ZI ?_,?_,?_⟩
have fin:∀ L:Q3 Link,L.length<=700000->((TU L).bind fun r7=>(ZV (mbs E)).bind fun r8=>(QL r8).bind fun r9=>(R4 r7).bind fun r10=>(some (r10,r9,0):Q2 ((Q3 Link)×(Q3 Memb)×Int)))=some (O0 L,O4 (mbs E),0):=fun L hL=>by
 refine ZI ?_
 refine Za (v:=AJ (leC D9) L) (by unfold TU;rw [if_pos (by omega)]) ?_
 refine Za (Zo8 (mbs E) (by omega)) ?_
 refine Za (Znm _ (by rw [BZ];omega)) ?_
 exact Za (Znl _ (by rw [BZ];omega)) (Zd rfl)
unfold R5
refine Za p1 (CM (fun h=>absurd rfl h) fun _=>Za e1 (Za e2 (Za r1 (ZX ?_))))
cases hr:q.2 with
| false=>
  refine Zi nofun fun _=>iU (fin _ (by rw [Yb];omega)) ?_
  rw [if_neg (by decide),YB]
| true=>
  refine Zi (fun _=>?_) nofun
  refine iW 1000000 (by rw [Yb,YC];omega) (by omega) (by omega) ?_
  refine iU (fin _ (by rw [Yb,Yb,YC];omega)) ?_
  rw [if_pos rfl]
have eL:O0 (lks E++C++(if q.2=true then [⟨4,q.1⟩] else []))=(if q.2=true then B0 ((lks E).foldl B0 (C.foldl B0 [])) ⟨4,q.1⟩ else (lks E).foldl B0 (C.foldl B0 [])):=by
 rw [Zwo (Y:=C++lks E++(if q.2=true then [⟨4,q.1⟩] else [])) (fun e=>by simp only [YD];constructor<;>rintro ((h | h) | h)<;>simp [h]),G3,G3]
 split<;>rfl
rw [eL,Zwp]
unfold UB
refine Za p2 (CM (fun h=>absurd rfl h) fun _=>Za f1 (Za f2 ?_))
refine ZF (fun x=>∃ n:Nat,x.2.2=(n:Int)/\n<=N.length/\AQ NX (N.drop n) (x.1,x.2.1)=some ((lks E).foldl B0 (C.foldl B0 []),(mbs E).foldl JN [])) (fun x=>N.length-x.2.2.toNat) ⟨0,rfl,Nat.zero_le _,f3⟩ (by dsimp only;omega) ?_
rintro ⟨L,M,i⟩ rec ⟨n,hi,hn,h2⟩ ih
dsimp only at hi h2 ih ⊢
subst hi
by_cases hlt:n<N.length
refine Zc (fun _=>?_) fun h=>absurd (by omega) h
obtain ⟨x,hx,hd⟩:=KV hlt
have hat:=I6 hx
rw [hd] at h2
obtain ⟨⟨L',M'⟩,h3,h4⟩:=Ya.1 h2
refine Zt (fun k=>Tot (k L' M') fun z=>z=(if q.2=true then B0 ((lks E).foldl B0 (C.foldl B0 [])) ⟨4,q.1⟩ else (lks E).foldl B0 (C.foldl B0 []),(mbs E).foldl JN [],0)) ?_ fun k hk=>Za hat ?_
rw [ZK]
exact ih (L',M',(n:Int)+1) ⟨n+1,by dsimp only;omega,hlt,h4⟩ (by dsimp only;omega)
unfold NX at h3
refine Zc (fun h1=>?_) fun h1=>?_
rw [if_pos h1] at h3
exact Za hat (Za h3 hk)
rw [if_neg h1] at h3
injection h3 with h3
injection h3 with h5 h6
subst h5 h6
exact hk
refine Zc (fun h=>absurd h (by omega)) fun _=>?_
rw [YI (by omega)] at h2
injection h2 with h2
injection h2 with h5 h6
subst h5 h6
refine Za r2 (ZX (Zi (fun hq=>?_) fun hq=>?_))
exact Za (eY _ _ (by omega)) (Zd (by rw [if_pos hq]))
exact Zd (by rw [if_neg (by rw [hq];decide)])
refine YX (XX _).length_le ?_
rw [BZ,Yb,Yb]
split<;>simp<;>omega
refine YX (XX _).length_le ?_
rw [BZ]
omega}
theorem Zzi (L:Q3 Link) (h:L.length<=1000000):R6 L L=some true:=by{
refine ZI ?_
unfold R6
refine CM (fun h=>absurd rfl h) fun _=>?_
refine ZF (fun i=>0<=i) (fun i=>L.length-i.toNat) (by omega) (by omega) fun i rec h0 ih=>?_
refine Zc (fun hlt=>?_) fun _=>Zd rfl
refine iV h0 hlt fun e _ he=>Za (v:=e) ?_ (CM (fun h=>absurd rfl h) fun _=>?_)
unfold atI
rw [if_pos h0]
exact he
rw [ZK]
exact ih _ (by omega) (by omega)}
theorem Zzj (L:Q3 Memb) (h:L.length<=1000000):R7 L L=some true:=by{
refine ZI ?_
unfold R7
refine CM (fun h=>absurd rfl h) fun _=>?_
refine ZF (fun i=>0<=i) (fun i=>L.length-i.toNat) (by omega) (by omega) fun i rec h0 ih=>?_
refine Zc (fun hlt=>?_) fun _=>Zd rfl
refine iV h0 hlt fun e _ he=>Za (v:=e) ?_ (CM (fun h=>absurd rfl h) fun _=>?_)
unfold atI
rw [if_pos h0]
exact he
rw [ZK]
exact ih _ (by omega) (by omega)}
theorem Zyf (p0:Q1):XS p0=some true:=by{
obtain ⟨s,rfl⟩:∃ s,p0=bs s:=⟨p0.data.toList,rfl⟩
have z:(bs s).size=s.length:=rfl
refine ZI ?_
unfold XS
refine Zc (fun _=>Za rH (Zd rfl)) fun hsz=>?_
obtain ⟨A,B,h1,h2,hA,hB⟩:=Zzh s (by omega)
obtain ⟨q,r1,r2⟩:=qR s (by omega)
refine Za h1 (Za h2 (Za r1 (Za r2 ?_)))
refine Zt (fun k=>Tot (k true) fun r=>r=true) (Zd rfl) fun k hk=>?_
refine Zc (fun _=>Za (Zzi A hA) (Zi (fun _=>Za (Zzj B hB) (Zi (fun _=>?_) nofun)) nofun)) fun h=>absurd rfl h
exact Zc (fun _=>Zi (fun _=>Za rH hk) fun h=>by simp at h) fun h=>absurd rfl h}
end
section
open Go.RowKit Go.ChangeShapes Go.WideShapes Go.Deep
end
section
open VL Go.RowKit Go.ChangeShapes Go.WideShapes
theorem Zzq {W:World} (hG:PA W) (W':World) (hb:Below W.heap.size W W'):WInv.I Tryz.prog W':=
 ⟨hG.imp fun _ hm=>re1 hb (DU hm) hm,trivial⟩
end
section
open VL Go.RowKit
theorem ZzF {x:Ctx} (i:Nat) (p:PV) (v:Value) (hp:([]:Q3 PV)[i]? = some p) (hv:([]:Q3 Value)[i]? = some v):Rep x p v:=by simp at hp
theorem ZzG {x:Ctx} {p:PV} {v:Value} {ps:Q3 PV} {vs:Q3 Value} (h:Rep x p v) (r:∀ (i:Nat) (p:PV) (v:Value),ps[i]? = some p->vs[i]? = some v->Rep x p v) (i:Nat) (q:PV) (w:Value) (hp:(p::ps)[i]? = some q) (hv:(v::vs)[i]? = some w):Rep x q w:=by
 cases i with
 | zero=>injection hp with hp;injection hv with hv;subst hp hv;exact h
 | succ i=>exact r i q w (by simpa using hp) (by simpa using hv)
theorem ZzH {x:Ctx} {ps:Q3 PV} {vs:Q3 Value} (r:∀ (i:Nat) (p:PV) (v:Value),ps[i]? = some p->vs[i]? = some v->Rep x p v) (i:Nat) (p:PV) (v:Value) (hp:ps[i]? = some p) (hv:vs.toArray[i]? = some v):Rep x p v:=r i p v hp (by simpa using hv)
theorem Zov (i0:Q1) (W:World)  (hI:∀ W',Below W.heap.size W W'->WInv.I Tryz.prog W') :
  Calls Tryz.prog 3 #[.string i0] W fun e w'=>e = .returned (.bool true)/\Below W.heap.size W w':=
 uT (Zl5 i0 true (Zyf i0 )) rfl (fun i p v hp hv=>ZzH (vs:=[.string i0]) (ZzG (.str _) ZzF) i p v hp hv) hI
end
end Go.Proofs.YtmgfammllddkhaaGreatDoor
