/- The tape's -/
import Derived.Test.YtmgfammllddkhaaGreatDoorCU13
import Derived.ProofKit
import Derived.OpenShut
import Derived.Deep.Strs
import Derived.Test.YtmgfammllddkhaaGreatDoorCards
import Derived.Test.YtmgfammllddkhaaGreatDoorTie
import Derived.Deep.DeepHandedRow
import Derived.ShutString
set_option linter.unusedSimpArgs false
set_option maxRecDepth 1000000
set_option linter.unusedVariables false
set_option maxHeartbeats 4000000
namespace Go.Proofs.YtmgfammllddkhaaGreatDoor
section
open VL
structure TapeF.ok (s:TapeF):Prop where
 len:s.l.length<=9223372036854775807
 pos:0<=s.pos
theorem ZAg (v:Int):∃ q:Nat,IntKind.i64.wrap (BitVec.ofInt 64 v &&& BitVec.ofInt 64 16777215).toNat=(q:Int)/\q<=16777215:=by{
have h:(BitVec.ofInt 64 v &&& BitVec.ofInt 64 16777215).toNat<=16777215:=by
 rw [BitVec.toNat_and]
 exact YX Nat.and_le_right (by decide)
generalize (BitVec.ofInt 64 v &&& BitVec.ofInt 64 16777215).toNat=q at h
refine ⟨q,?_,h⟩
rw [IntKind.wrap_i64]
omega}
theorem RD (s:TapeF) (n:Int) (hs:s.ok) (h0:0<n):Tot (KS s n) fun r=>(0<=r.1/\r.1<n)/\r.2.ok:=by{
have hl:=hs.len
have hp:=hs.pos
unfold KS
refine Zb (fun _=>Zd ⟨⟨Int.le_refl _,h0⟩,hs⟩) fun h=>?_
refine SU hp (by omega) fun e _ _=>?_
refine y7 (by omega) ?_
let ⟨q,hq,_⟩:=ZAg e
have e1:jX .and .i64 e 16777215=(q:Int):=hq
rw [e1]
refine Zd ⟨⟨Int.tmod_nonneg n (by omega),Int.tmod_lt_of_pos _ h0⟩,⟨hl,?_⟩⟩
show 0<=w64 (s.pos+1)
rw [ZH]
omega}
theorem tA {n:Nat} (s:TapeF) (L:Q3 Q1) (hs:s.ok) (h0:0<L.length) (h:∀ x ∈ L,x.size<=n):Tot (ZQ s L) fun r=>r.1.size<=n/\r.2.ok:=by
 unfold ZQ
 refine ZC (RD s _ hs (by omega)) fun r hr=>?_
 exact SU hr.1.1 hr.1.2 fun e he _=>Zd ⟨h e he,hr.2⟩
theorem UN (s:TapeF) (L:Q3 Q1) (hs:s.ok) (h:(decide (0<L.length)&&L.all fun x=>decide (x.size<=30))=true):Tot (ZQ s L) fun r=>r.1.size<=30/\r.2.ok:=by
 rw [YH] at h
 exact tA s L hs (FE h.1) fun x hx=>FE (Yq.1 h.2 x hx)
theorem g7 (s:TapeF) (hs:s.ok):Tot (MD s) fun r=>r.1.size<=10/\r.2.ok:=by{
unfold MD ZQ
refine ZC (Q:=fun r=>r.1.size<=10/\r.2.ok) (ZC (RD s _ hs (by decide)) fun r hr=>SU hr.1.1 hr.1.2 fun e he _=>Zd ⟨?_,hr.2⟩) fun r hr=>Zd hr
have h:∀ x ∈ [(⟨#[97]⟩:Q1),(⟨#[120,32,121]⟩:Q1),(⟨#[49,50]⟩:Q1),(⟨#[]⟩:Q1),(⟨#[98]⟩:Q1),(⟨#[48]⟩:Q1),(⟨#[45,51]⟩:Q1),(⟨#[65,98]⟩:Q1),(⟨#[32]⟩:Q1),(⟨#[122]⟩:Q1)],x.size<=10:=by decide
exact h e he}
theorem tB {β:Type} {a b:Q1} {n m:Nat} {f:Q1->Q2 β} {R:β->Prop} (ha:a.size<=n) (hb:b.size<=m) (h:n+m<=1000000) (k:(a++b).size<=n+m->Tot (f (a++b)) R):Tot ((A7 a b).bind f) R:=
 K2 (by omega) fun hz=>k (by omega)
def PB:Nat->Nat | 0=>10 | n+1=>400+3 * PB n
theorem tC:∀ (m:Nat) (s:TapeF) (d:Nat),d<m->d<=3->s.ok->Tot (ZR m s (d:Int)) fun r=>r.1.size<=PB d/\r.2.ok
 | 0,_,_,h,_,_=>absurd h (Nat.not_lt_zero _)
 | m+1,s,0,_,_,hs=>by
   unfold ZR
   refine Zb (fun _=>?_) fun h=>absurd (by decide) h
   exact ZC (g7 s hs) fun r hr=>Zd hr
 | m+1,s,d+1,hm,hd,hs=>by
   have ih:∀ s:TapeF,s.ok->Tot (ZR m s (d:Int)) fun r=>r.1.size<=PB d/\r.2.ok:=fun s hs=>tC m s d (by omega) (by omega) hs
   have hw:w64 (((d+1:Nat):Int)-1)=(d:Int):=by rw [ZH];omega
   have hB:PB d<=10000:=by
    match d,hd with
    | 0,_=>decide
    | 1,_=>decide
    | 2,_=>decide
   have hP:PB (d+1)=400+3 * PB d:=rfl
   rw [hP]
   generalize PB d=B at ih hB
   unfold ZR
   refine Zb (fun h=>absurd h (by omega)) fun _=>?_
   simp only [hw]
   refine ZC (RD s 24 hs (by decide)) fun r3 h3=>?_
   obtain ⟨_,h3⟩:=h3
   repeat' (refine Zb (fun _=>?_) fun _=>?_)
   all_goals (repeat (first
    | (refine tB (by first | assumption | exact (show _<=30 by decide)) (by first | assumption | exact (show _<=30 by decide)) (by omega) fun _=>?_)
    | (refine ZC (ih _ (by assumption)) fun r hr=>?_;obtain ⟨_,_⟩:=hr)
    | (refine ZC (UN _ _ (by assumption) (by decide)) fun r hr=>?_;obtain ⟨_,_⟩:=hr)
    | (refine ZC (g7 _ (by assumption)) fun r hr=>?_;obtain ⟨_,_⟩:=hr)
    | (refine ZC (tA (n:=60) _ _ (by assumption) (by simp) fun x hx=>by
      simp only [Ys,JM,or_false] at hx
      rcases hx with rfl | rfl | rfl | rfl | rfl | rfl | rfl | rfl | rfl | rfl<;>first | decide | omega) fun r hr=>?_;obtain ⟨_,_⟩:=hr)))
   all_goals exact Zd ⟨by dsimp only;omega,by assumption⟩
theorem Zzk (s:TapeF) (hs:s.ok):Tot (UL s 3) fun r=>r.1.size<=30000/\r.2.ok:=by{
unfold UL
have hB:PB 3=5470:=rfl
refine ZC (UN _ _ hs (by decide)) fun r1 h1=>?_
obtain ⟨h1,h2⟩:=h1
refine ZF (fun x=>(0<=x.2.1/\x.2.1<=3)/\(x.1.size:Int)<=30+6000 * x.2.1/\TapeF.ok ⟨x.2.2.1,x.2.2.2⟩) (fun x=>4-x.2.1.toNat) ⟨⟨by simp,by simp⟩,by simp;omega,h2⟩ (by dsimp only;omega) ?_
rintro ⟨t,i,l,p⟩ rec ⟨⟨g0,g1⟩,g2,g3⟩ ih
dsimp only at g0 g1 g2 g3 ih ⊢
refine ZC (RD _ 3 g3 (by decide)) fun r35 h35=>?_
obtain ⟨⟨k0,k1⟩,k2⟩:=h35
refine Zb (fun hle=>?_) fun _=>Zd ⟨by dsimp only;omega,k2⟩
refine ZC (tC 8 r35.2 3 (by decide) (by decide) k2) fun r38 h38=>?_
obtain ⟨q1,q2⟩:=h38
refine K2 (by omega) fun hz=>?_
rw [ZH]
exact ih _ ⟨⟨by dsimp only;omega,by dsimp only;omega⟩,by dsimp only;omega,q2⟩ (by dsimp only;omega)}
theorem Zzl (s:TapeF) (hs:s.ok):Tot (UM s 3) fun _=>True:=by{
unfold UM
refine ZC (UN _ _ hs (by decide)) fun r1 h1=>?_
obtain ⟨h1,h2⟩:=h1
refine ZC (RD _ 5 h2 (by decide)) fun r2 h2=>?_
obtain ⟨⟨k0,k1⟩,k2⟩:=h2
refine ZF (fun x=>(0<=x.2.1/\x.2.1<=5)/\(x.1.size:Int)<=30+40000 * x.2.1/\TapeF.ok ⟨x.2.2.1,x.2.2.2⟩) (fun x=>6-x.2.1.toNat) ⟨⟨by simp,by simp⟩,by simp;omega,k2⟩ (by dsimp only;omega) ?_
rintro ⟨t,i,l,p⟩ rec ⟨⟨g0,g1⟩,g2,g3⟩ ih
dsimp only at g0 g1 g2 g3 ih ⊢
refine Zb (fun hle=>?_) fun _=>Zd trivial
refine Zt (fun q=>∀ x:Q1,(x.size:Int)<=40+40000 * i->Tot (q x) (fun _=>True)) (fun x hx=>?_) fun k21 hk21=>?_
refine ZC (RD _ 4 g3 (by decide)) fun r232 h232=>?_
obtain ⟨_,k3⟩:=h232
refine Zt (fun q=>∀ (y:Q1) (l:Q3 Int) (p:Int),(y.size:Int)<=400+40000 * i->TapeF.ok ⟨l,p⟩->Tot (q y l p) (fun _=>True)) (fun y l p hy hlp=>?_) fun k22 hk22=>?_
refine ZC (Zzk _ hlp) fun r242 h242=>?_
obtain ⟨z1,z2⟩:=h242
refine K2 (by omega) fun hz=>?_
rw [ZH]
exact ih _ ⟨⟨by dsimp only;omega,by dsimp only;omega⟩,by dsimp only;omega,z2⟩ (by dsimp only;omega)
refine Zb (fun _=>?_) fun _=>hk22 _ _ _ (by omega) k3
refine ZC (UN _ _ k3 (by decide)) fun r244 h244=>?_
obtain ⟨z1,z2⟩:=h244
refine K2 (by omega) fun hz=>?_
refine ZC (UN _ _ z2 (by decide)) fun r246 h246=>?_
obtain ⟨z3,z4⟩:=h246
refine K2 (by omega) fun hz2=>K2 (by omega) fun hz3=>?_
have e1:(⟨#[10]⟩:Q1).size=1:=rfl
refine K2 (by omega) fun hz4=>?_
exact hk22 _ _ _ (by omega) z4
have e1:(⟨#[10]⟩:Q1).size=1:=rfl
refine Zb (fun _=>?_) fun _=>hk21 _ (by omega)
exact K2 (by omega) fun hz=>hk21 _ (by omega)}
end
section
open VL
open Go.Sort
theorem tD {α:Type} {l:Q3 α} {n:Nat} (h:n<l.length):∃ A x B,l=A++x::B/\A.length=n:=⟨l.take n,l[n],l.drop (n+1),by rw [<- Yt h,YQ],by rw [YE];omega⟩
theorem Y6 {β:Type} {s:Int} {f:Int->Q2 β} {R:β->Prop} (h0:0<=s) (h1:s<=10000000) (k:∀ q:Int,q=s / 2->IntKind.wrap .i64 q=q->Tot (f q) R):Tot ((K1 .u64 (IntKind.wrap .u64 s) 1).bind f) R:=by{
have e:IntKind.wrap .u64 s=s:=by
 rw [IntKind.wrap_u64]
 omega
rw [e]
refine y8 (by decide) (k _ ?_ ?_)
show s.fdiv 2=s / 2
exact Int.fdiv_eq_ediv_of_nonneg _ (by decide)
show IntKind.wrap .i64 (s.fdiv 2)=s.fdiv 2
rw [Int.fdiv_eq_ediv_of_nonneg _ (by decide),IntKind.wrap_i64]
omega}
abbrev Srt (l:Q3 Memb):Prop:=l.Pairwise fun a b=>leM a b=true
theorem tE {A B:Q3 Memb} {z:Memb} (h:Srt (A++z::B)):(∀ v ∈ A,leM v z=true)/\∀ v ∈ B,leM z v=true:=by
 have h1:=I3.1 h
 exact ⟨fun v hv=>h1.2.2 v hv z (by simp),fun v hv=>(YV.1 h1.2.1).1 v hv⟩
theorem Zwr (f:Nat) (P V S:Q3 Memb) (x:Memb) (hV:Srt V) (hL:(P ++ [x]++V++S).length<=1000000) (a m b:Int) (ha:a=(P.length:Int)) (hm:m=((P ++ [x]).length:Int)) (hb:b=((P ++ [x]++V).length:Int)) :
  Zq (f+1) (P ++ [x]++V++S) a m b=some (P++AH leM [x] V++S):=by{
simp only [Yb,YC] at hL hm hb
refine ZK ?_
unfold Zq
rw [show w64 (m-a)=1 by rw [D4];omega]
refine Zb (fun _=>?_) fun h=>absurd rfl h
refine ZF (fun q=>∃ C1 C C2:Q3 Memb,V=C1++C++C2/\q.1=m+(C1.length:Int)/\q.2=m+(C1.length:Int)+(C.length:Int)/\(∀ v ∈ C1,leM x v=false)/\∀ v ∈ C2,leM x v=true) (fun q=>(q.2-q.1).toNat) ⟨[],V,[],by simp,by simp,by simp;omega,by simp,by simp⟩ (by dsimp only;omega) ?_
rintro ⟨i,j⟩ rec ⟨C1,C,C2,hC,hi,hj,h1,h2⟩ ih
dsimp only at hi hj ih ⊢
have lC:V.length=C1.length+C.length+C2.length:=by rw [hC];simp only [Yb]
refine Zb (fun hlt=>?_) (fun hge=>?_)
rw [DF]
refine Y6 (by omega) (by omega) fun q hq hw=>?_
rw [hw]
obtain ⟨M1,z,M2,hM,lM⟩:=tD (l:=C) (n:=(q-i).toNat) (by omega)
have lM2:C.length=M1.length+1+M2.length:=by rw [hM];simp only [Yb,Yr];omega
have hz:V=(C1++M1)++z::(M2++C2):=by rw [hC,hM];simp
rw [hz] at hV
obtain ⟨s1,s2⟩:=tE hV
have d1:P ++ [x]++V++S=(P ++ [x]++C1++M1)++z::(M2++C2++S):=by rw [hz];simp
have d2:P ++ [x]++V++S=P++x::(V++S):=by simp
refine Za (BZ d1 (by simp only [Yb,YC];omega)) (Za (BZ d2 ha) (Za (XN z x) ?_))
refine Zb (fun hc=>?_) (fun hc=>?_)
rw [DF]
refine ih _ ⟨C1++M1 ++ [z],M2,C2,by rw [hz];simp,by dsimp only;simp only [List.length_append,List.length_singleton];omega,by dsimp only;simp only [List.length_append,List.length_singleton];omega,fun v hv=>?_,h2⟩ (by dsimp only;omega)
have hxz:=XP hc
rcases YD.1 hv with hv | hv
cases h:leM x v with
| false=>rfl
| true=>rw [GB _ _ _ h (s1 v hv)] at hxz;cases hxz
rw [YG.1 hv];exact hxz
refine ih _ ⟨C1,M1,z::M2++C2,by rw [hz];simp,by dsimp only;omega,by dsimp only;omega,h1,fun v hv=>?_⟩ (by dsimp only;omega)
have hxz:=XO hc
rcases Ys.1 (show v ∈ z::(M2++C2) from hv) with rfl | hv
exact hxz
exact GB _ _ _ hxz (s2 v hv)
have z:C = []:=Yl (by omega)
subst z
rw [YB] at hC
simp only [DI] at hj lC
have hres:AH leM [x] V=C1++x::C2:=by rw [hC];exact ZpI h2 h1
rw [D4]
refine ZF (fun q=>∃ D1 D2:Q3 Memb,C1=D1++D2/\q.1=a+(D1.length:Int)/\q.2=P++D1++x::D2++C2++S) (fun q=>(i-q.1).toNat) ⟨[],C1,rfl,by simp,by simp [hC]⟩ (by dsimp only;omega) ?_
rintro ⟨k,l⟩ rec2 ⟨D1,D2,hD,hk,hl⟩ ih2
dsimp only at hk hl ih2 ⊢
have lD:C1.length=D1.length+D2.length:=by rw [hD];simp only [Yb]
refine Zb (fun hlt=>?_) (fun hge=>?_)
obtain ⟨y,D2,rfl⟩:∃ y D',D2=y::D':=by
 cases D2 with
 | nil=>simp only [DI] at lD;omega
 | cons y D'=>exact ⟨y,D',rfl⟩
simp only [Yr] at lD
have d1:l=(P++D1)++x::(y::D2++C2++S):=by rw [hl];simp
have d2:l=(P++D1 ++ [x])++y::(D2++C2++S):=by rw [hl];simp
have n1:k=((P++D1).length:Int):=by simp only [Yb];omega
have n2:k+1=((P++D1 ++ [x]).length:Int):=by simp only [Yb,YC];omega
have d3:AQ l k y=(P++D1 ++ [y])++y::(D2++C2++S):=by rw [KO d1 n1];simp
have n3:k+1=((P++D1 ++ [y]).length:Int):=by rw [n2];simp
rw [DF]
refine Za (BZ d2 n2) (Za (BZ d1 n1) (Za (BZ d1 n1) (Za (BZ d3 n3) ?_)))
refine ih2 _ ⟨D1 ++ [y],D2,by rw [hD];simp,by dsimp only;simp only [List.length_append,List.length_singleton];omega,?_⟩ (by dsimp only;omega)
dsimp only
rw [KO d3 n3]
simp
have z2:D2 = []:=Yl (by omega)
subst z2
refine Zd ?_
rw [hl,hres,hD]
simp}
theorem Zud (f:Nat) (P U S:Q3 Memb) (y:Memb) (hU:Srt U) (hU1:¬ U.length=1) (hL:(P++U ++ [y]++S).length<=1000000) (a m b:Int) (ha:a=(P.length:Int)) (hm:m=((P++U).length:Int)) (hb:b=((P++U ++ [y]).length:Int)) :
  Zq (f+1) (P++U ++ [y]++S) a m b=some (P++AH leM U [y]++S):=by{
simp only [Yb,YC] at hL hm hb
refine ZK ?_
unfold Zq
rw [show w64 (m-a)=(U.length:Int) by rw [D4];omega,show w64 (b-m)=1 by rw [D4];omega]
refine Zb (fun h=>absurd h (by omega)) fun _=>?_
refine Zb (fun _=>?_) fun h=>absurd rfl h
refine ZF (fun q=>∃ C1 C C2:Q3 Memb,U=C1++C++C2/\q.1=a+(C1.length:Int)/\q.2=a+(C1.length:Int)+(C.length:Int)/\(∀ v ∈ C1,leM v y=true)/\∀ v ∈ C2,leM v y=false) (fun q=>(q.2-q.1).toNat) ⟨[],U,[],by simp,by simp,by simp;omega,by simp,by simp⟩ (by dsimp only;omega) ?_
rintro ⟨i,j⟩ rec ⟨C1,C,C2,hC,hi,hj,h1,h2⟩ ih
dsimp only at hi hj ih ⊢
have lC:U.length=C1.length+C.length+C2.length:=by rw [hC];simp only [Yb]
refine Zb (fun hlt=>?_) (fun hge=>?_)
rw [DF]
refine Y6 (by omega) (by omega) fun q hq hw=>?_
rw [hw]
obtain ⟨M1,z,M2,hM,lM⟩:=tD (l:=C) (n:=(q-i).toNat) (by omega)
have lM2:C.length=M1.length+1+M2.length:=by rw [hM];simp only [Yb,Yr];omega
have hz:U=(C1++M1)++z::(M2++C2):=by rw [hC,hM];simp
rw [hz] at hU
obtain ⟨s1,s2⟩:=tE hU
have d1:P++U ++ [y]++S=(P++C1++M1)++z::(M2++C2 ++ [y]++S):=by rw [hz];simp
have d2:P++U ++ [y]++S=(P++U)++y::S:=by simp
refine Za (BZ d2 (by simp only [Yb];omega)) (Za (BZ d1 (by simp only [Yb];omega)) (Za (XN y z) ?_))
by_cases hc:HT y z<0
rw [Yh hc]
refine Zj nofun fun _=>?_
refine ih _ ⟨C1,M1,z::M2++C2,by rw [hz];simp,by dsimp only;omega,by dsimp only;omega,h1,fun v hv=>?_⟩ (by dsimp only;omega)
have hxz:=XP hc
rcases Ys.1 (show v ∈ z::(M2++C2) from hv) with rfl | hv
exact hxz
cases h:leM v y with
| false=>rfl
| true=>rw [GB _ _ _ (s2 v hv) h] at hxz;cases hxz
rw [Yf hc]
refine Zj (fun _=>?_) nofun
rw [DF]
refine ih _ ⟨C1++M1 ++ [z],M2,C2,by rw [hz];simp,by dsimp only;simp only [List.length_append,List.length_singleton];omega,by dsimp only;simp only [List.length_append,List.length_singleton];omega,fun v hv=>?_,h2⟩ (by dsimp only;omega)
have hxz:=XO hc
rcases YD.1 hv with hv | hv
exact GB _ _ _ (s1 v hv) hxz
rw [YG.1 hv];exact hxz
have z:C = []:=Yl (by omega)
subst z
rw [YB] at hC
simp only [DI] at hj lC
have hres:AH leM U [y]=C1++y::C2:=by rw [hC];exact pW h1 h2
refine ZF (fun q=>∃ D1 D2:Q3 Memb,C2=D1++D2/\q.1=a+(C1.length:Int)+(D1.length:Int)/\q.2=P++C1++D1++y::D2++S) (fun q=>q.1.toNat) ⟨C2,[],by simp,by dsimp only;omega,by simp [hC]⟩ (by dsimp only;omega) ?_
rintro ⟨k,l⟩ rec2 ⟨D1,D2,hD,hk,hl⟩ ih2
dsimp only at hk hl ih2 ⊢
have lD:C2.length=D1.length+D2.length:=by rw [hD];simp only [Yb]
refine Zb (fun hlt=>?_) (fun hge=>?_)
have hD0:D1≠[]:=fun h=>by rw [h] at hk;simp only [DI] at hk;omega
obtain ⟨D',x,hDx⟩:∃ A' z,D1=A' ++ [z]:=⟨D1.dropLast,D1.getLast hD0,(Z3 hD0).symm⟩
have lA:D1.length=D'.length+1:=by rw [hDx];simp
have d1:l=(P++C1++D')++x::(y::D2++S):=by rw [hl,hDx];simp
have d2:l=(P++C1++D' ++ [x])++y::(D2++S):=by rw [hl,hDx];simp
have n1:k-1=((P++C1++D').length:Int):=by simp only [Yb];omega
have n2:k=((P++C1++D' ++ [x]).length:Int):=by simp only [Yb,YC];omega
have d3:AQ l k x=(P++C1++D')++x::(x::(D2++S)):=by rw [KO d2 n2];simp
rw [D4]
refine Za (BZ d1 n1) (Za (BZ d2 n2) (Za (BZ d2 n2) (Za (BZ d3 n1) ?_)))
refine ih2 _ ⟨D',x::D2,by rw [hD,hDx];simp,by dsimp only;omega,?_⟩ (by dsimp only;omega)
dsimp only
rw [KO d3 n1]
simp
have z2:D1 = []:=Yl (by omega)
subst z2
refine Zd ?_
rw [hl,hres,hD]
simp}
theorem RE {A B:Q3 Memb} (h:Srt (A++B)):Srt A/\Srt B:=⟨(I3.1 h).1,(I3.1 h).2.1⟩
structure Part (U V A B C D:List Memb):Prop where
 u:U=A++B
 v:V=C++D
 l:∀ u ∈ A,∀ v ∈ D,leM u v=true
 r:∀ v ∈ C,∀ u ∈ B,leM u v=false
theorem ZyU {U V:Q3 Memb} (hU:Srt U) (hV:Srt V) (i k:Nat) (hi:i<=U.length) (hk:k<=V.length) (h1:i=0\/k=V.length\/∃ u v,U[i-1]? = some u/\V[k]? = some v/\leM u v=true) (h2:i=U.length\/k=0\/∃ u v,U[i]? = some u/\V[k-1]? = some v/\leM u v=false) :
  Part U V (U.take i) (U.drop i) (V.take k) (V.drop k):=by{
refine ⟨(YQ _ _).symm,(YQ _ _).symm,fun u hu v hv=>?_,fun v hv u hu=>?_⟩
rcases h1 with rfl | rfl | ⟨x,y,hx,hy,hxy⟩
simp at hu
simp at hv
have e1:U.take i=U.take (i-1) ++ [x]:=by
 have hlt:=(Yd.1 hx).1
 cases i with
 | zero=>simp at hu
 | succ i=>
   rw [aD]
   simp only [RP] at hx ⊢
   rw [hx]
   rfl
have e2:V.drop k=y::V.drop (k+1):=by
 obtain ⟨hlt,he⟩:=Yd.1 hy
 rw [Yt hlt,he]
have a1:leM u x=true\/u=x:=by
 rw [e1] at hu
 rcases YD.1 hu with hu | hu
 have s:=(RE (A:=U.take i) (B:=U.drop i) (by rw [YQ];exact hU)).1
 rw [e1] at s
 exact .inl ((I3.1 s).2.2 u hu x (by simp))
 exact .inr (YG.1 hu)
have a2:leM y v=true\/v=y:=by
 rw [e2] at hv
 rcases Ys.1 hv with hv | hv
 exact .inr hv
 have s:=(RE (A:=V.take k) (B:=V.drop k) (by rw [YQ];exact hV)).2
 rw [e2] at s
 exact .inl ((YV.1 s).1 v hv)
have a3:leM u y=true:=by
 rcases a1 with a1 | rfl
 exact GB _ _ _ a1 hxy
 exact hxy
rcases a2 with a2 | rfl
exact GB _ _ _ a3 a2
exact a3
rcases h2 with rfl | rfl | ⟨x,y,hx,hy,hxy⟩
simp at hu
simp at hv
have e1:U.drop i=x::U.drop (i+1):=by
 obtain ⟨hlt,he⟩:=Yd.1 hx
 rw [Yt hlt,he]
have e2:V.take k=V.take (k-1) ++ [y]:=by
 cases k with
 | zero=>simp at hv
 | succ k=>
   rw [aD]
   simp only [RP] at hy ⊢
   rw [hy]
   rfl
have a1:leM x u=true\/u=x:=by
 rw [e1] at hu
 rcases Ys.1 hu with hu | hu
 exact .inr hu
 have s:=(RE (A:=U.take i) (B:=U.drop i) (by rw [YQ];exact hU)).2
 rw [e1] at s
 exact .inl ((YV.1 s).1 u hu)
have a2:leM v y=true\/v=y:=by
 rw [e2] at hv
 rcases YD.1 hv with hv | hv
 have s:=(RE (A:=V.take k) (B:=V.drop k) (by rw [YQ];exact hV)).1
 rw [e2] at s
 exact .inl ((I3.1 s).2.2 v hv y (by simp))
 exact .inr (YG.1 hv)
cases h:leM u v with
| false=>rfl
| true=>
  exfalso
  have b1:leM x v=true:=by
   rcases a1 with a1 | rfl
   exact GB _ _ _ a1 h
   exact h
  have b2:leM x y=true:=by
   rcases a2 with a2 | rfl
   exact GB _ _ _ b1 a2
   exact b1
  rw [hxy] at b2
  cases b2}
theorem ZAv {P U V S:Q3 Memb} {i:Nat} {u:Memb} (h:U[i]? = some u):∃ A B,P++U++V++S=A++u::B/\A.length=P.length+i:=by{
obtain ⟨hl,he⟩:=Yd.1 h
refine ⟨P++U.take i,U.drop (i+1)++V++S,?_,by rw [Yb,YE];omega⟩
have:U=U.take i++u::U.drop (i+1):=by rw [<- he,<- Yt hl,YQ]
conv=>lhs;rw [this]
simp}
theorem ZAw {P U V S:Q3 Memb} {i:Nat} {v:Memb} (h:V[i]? = some v):∃ A B,P++U++V++S=A++v::B/\A.length=P.length+U.length+i:=by{
obtain ⟨hl,he⟩:=Yd.1 h
refine ⟨P++U++V.take i,V.drop (i+1)++S,?_,by rw [Yb,Yb,YE];omega⟩
have:V=V.take i++v::V.drop (i+1):=by rw [<- he,<- Yt hl,YQ]
conv=>lhs;rw [this]
simp}
theorem Y7:∀ (f:Nat) (P U V S:Q3 Memb) (_:Srt U) (_:Srt V) (_:0<U.length) (_:0<V.length) (_:(P++U++V++S).length<=1000000) (_:U.length+V.length<=2 ^ f) (a m b:Int) (_:a=(P.length:Int)) (_:m=((P++U).length:Int)) (_:b=((P++U++V).length:Int)),
  Zq f (P++U++V++S) a m b=some (P++AH leM U V++S)
 | 0,P,U,V,S,_,_,hU0,hV0,_,hf,_,_,_,_,_,_=>by simp at hf;omega
 | f+1,P,U,V,S,hU,hV,hU0,hV0,hL,hf,a,m,b,ha,hm,hb=>by
   by_cases hU1:U.length=1
   ·obtain ⟨x,rfl⟩:=List.length_eq_one_iff.1 hU1
    exact Zwr f P V S x hV hL a m b ha hm hb
   by_cases hV1:V.length=1
   ·obtain ⟨y,rfl⟩:=List.length_eq_one_iff.1 hV1
    exact Zud f P U S y hU hU1 hL a m b ha hm hb
   simp only [Yb] at hL hm hb
   refine ZK ?_
   unfold Zq
   rw [show w64 (m-a)=(U.length:Int) by rw [D4];omega,show w64 (b-m)=(V.length:Int) by rw [D4];omega]
   refine Zb (fun h=>absurd h (by omega)) fun _=>Zb (fun h=>absurd h (by omega)) fun _=>?_
   rw [DF]
   refine Y6 (by omega) (by omega) fun mid hmid hw=>?_
   rw [hw]
   have en:w64 (mid+m)=mid+m:=DF
   rw [en]
   have tail:∀ (s:Int) (A B C D:Q3 Memb),Part U V A B C D->s=(P.length:Int)+(A.length:Int)->mid+m-s=(P.length:Int)+(U.length:Int)+(C.length:Int)->Tot (letk (fun (x352:Bool)=>
     letk (fun (x354:Q3 Memb)=>
      letk (fun (x355:Bool)=>
       letk (fun (x357:Q3 Memb)=>
        letk (fun (x358:Bool)=>
         if x358 then
          (Zq f x357 mid (mid+m-s) b).bind fun r359=>
          (some r359:Q2 (Q3 Memb))
         else
         (some x357:Q2 (Q3 Memb))) fun k24=>
        if (decide (mid<mid+m-s)) then
         k24 (decide (mid+m-s<b))
        else
        k24 false) fun k23=>
       if x355 then
        (Zq f x354 a s mid).bind fun r360=>
        k23 r360
       else
       k23 x354) fun k22=>
      if (decide (a<s)) then
       k22 (decide (s<mid))
      else
      k22 false) fun k21=>
     if x352 then
      (ZZ (P++U++V++S) s m (mid+m-s)).bind fun r361=>
      k21 r361
     else
     k21 (P++U++V++S)) fun k20=>
    if (decide (s<m)) then
     k20 (decide (m<mid+m-s))
    else
    k20 false) fun r=>r=P++AH leM U V++S:=by
    intro s A B C D hp hs he
    have lU:U.length=A.length+B.length:=by rw [hp.u,Yb]
    have lV:V.length=C.length+D.length:=by rw [hp.v,Yb]
    have hsU:=RE (by rw [<- hp.u];exact hU)
    have hsV:=RE (by rw [<- hp.v];exact hV)
    have pw:(2:Nat) ^ (f+1)=2 * 2 ^ f:=by rw [Nat.pow_succ,EK]
    have hfin:P++AH leM U V++S=P++AH leM A C++AH leM B D++S:=by
     rw [hp.u,hp.v,NP A B C D hp.l hp.r]
     simp
    rw [hfin]
    refine Zt (fun q=>∀ t,(t=true->0<B.length/\0<C.length)->(t=false->B = []\/C = [])->Tot (q t) fun r=>r=P++AH leM A C++AH leM B D++S) (fun t ht1 ht2=>?_) fun q hq=>?_
    ·
     refine Zt (fun q=>Tot (q (P++A++C++B++D++S)) fun r=>r=P++AH leM A C++AH leM B D++S) ?_ fun q hq=>?_
     ·refine Zt (fun q=>∀ t,(t=true->0<A.length/\0<C.length)->(t=false->A = []\/C = [])->Tot (q t) fun r=>r=P++AH leM A C++AH leM B D++S) (fun t ht1 ht2=>?_) fun q hq=>?_
      ·
       refine Zt (fun q=>Tot (q (P++AH leM A C++B++D++S)) fun r=>r=P++AH leM A C++AH leM B D++S) ?_ fun q hq=>?_
       ·refine Zt (fun q=>∀ t,(t=true->0<B.length/\0<D.length)->(t=false->B = []\/D = [])->Tot (q t) fun r=>r=P++AH leM A C++AH leM B D++S) (fun t ht1 ht2=>?_) fun q hq=>?_
        ·refine Zj (fun h=>?_) fun h=>?_
         ·obtain ⟨b1,b2⟩:=ht1 h
          have hl:=ZsZ (le:=leM) A C
          refine Za (Y7 f (P++AH leM A C) B D S hsU.2 hsV.2 b1 b2 (by simp only [Yb];omega) (by omega) mid (mid+m-s) b (by simp only [Yb];omega) (by simp only [Yb];omega) (by simp only [Yb];omega)) (Zd rfl)
         ·refine Zd ?_
          rcases ht2 h with rfl | rfl
          ·show _=P++AH leM A C++D++S
           simp
          ·rw [HJ];simp
        ·refine Zb (fun h=>?_) fun h=>?_
         ·by_cases h2:mid+m-s<b
          ·rw [Yh h2]
           exact hq true (fun _=>by omega) nofun
          ·rw [Yf h2]
           exact hq false nofun fun _=>.inr (Yl (by omega))
         ·exact hq false nofun fun _=>.inl (Yl (by omega))
       ·refine Zj (fun h=>?_) fun h=>?_
        ·obtain ⟨b1,b2⟩:=ht1 h
         have e:P++A++C++B++D++S=P++A++C++(B++D++S):=by simp
         rw [e]
         refine Za (Y7 f P A C (B++D++S) hsU.1 hsV.1 b1 b2 (by simp only [Yb];omega) (by omega) a s mid ha (by simp only [Yb];omega) (by simp only [Yb];omega)) ?_
         have e2:P++AH leM A C++(B++D++S)=P++AH leM A C++B++D++S:=by simp
         rw [e2]
         exact hq
        ·have e:P++A++C++B++D++S=P++AH leM A C++B++D++S:=by
          rcases ht2 h with rfl | rfl
          ·show _=P++C++B++D++S
           simp
          ·rw [HJ];simp
         rw [e]
         exact hq
      ·refine Zb (fun h=>?_) fun h=>?_
       ·by_cases h2:s<mid
        ·rw [Yh h2]
         exact hq true (fun _=>by omega) nofun
        ·rw [Yf h2]
         exact hq false nofun fun _=>.inr (Yl (by omega))
       ·exact hq false nofun fun _=>.inl (Yl (by omega))
     ·refine Zj (fun h=>?_) fun h=>?_
      ·obtain ⟨b1,b2⟩:=ht1 h
       have e:P++U++V++S=(P++A)++B++C++(D++S):=by rw [hp.u,hp.v];simp
       rw [e]
       refine Za (ZwN (P++A) B C (D++S) b1 b2 (by simp only [Yb];omega) s m (mid+m-s) (by simp only [Yb];omega) (by simp only [Yb];omega) (by simp only [Yb];omega)) ?_
       have e2:(P++A)++C++B++(D++S)=P++A++C++B++D++S:=by simp
       rw [e2]
       exact hq
      ·have e:P++U++V++S=P++A++C++B++D++S:=by
        rw [hp.u,hp.v]
        rcases ht2 h with rfl | rfl<;>simp
       rw [e]
       exact hq
    ·refine Zb (fun h=>?_) fun h=>?_
     ·by_cases h2:m<mid+m-s
      ·rw [Yh h2]
       exact hq true (fun _=>by omega) nofun
      ·rw [Yf h2]
       exact hq false nofun fun _=>.inr (Yl (by omega))
     ·exact hq false nofun fun _=>.inl (Yl (by omega))
   refine Zt (fun q=>∀ lo hi:Int,lo<=hi->a<=lo->hi<=m->hi<=mid\/hi=m->(lo=a/\m<=mid/\hi=m\/lo=mid+m-b/\mid<m/\hi=mid)->Tot (q lo hi) fun r=>r=P++AH leM U V++S) (fun lo hi hlh hlo hhi hhm hcase=>?_) fun q hq=>?_
   ·refine ZF (fun x=>lo<=x.1/\x.1<=x.2/\x.2<=hi/\(x.1=lo\/∃ u v,U[(x.1-1-a).toNat]? = some u/\V[(mid-x.1).toNat]? = some v/\leM u v=true)/\(x.2=hi\/∃ u v,U[(x.2-a).toNat]? = some u/\V[(mid-1-x.2).toNat]? = some v/\leM u v=false)) (fun x=>(x.2-x.1).toNat) ⟨Int.le_refl _,hlh,Int.le_refl _,.inl rfl,.inl rfl⟩ (by dsimp only;omega) ?_
    rintro ⟨st,r⟩ rec ⟨k1,k2,k3,k4,k5⟩ ih
    dsimp only at k1 k2 k3 k4 k5 ih ⊢
    refine Zb (fun hlt=>?_) fun hge=>?_
    ·rw [DF]
     refine Y6 (by omega) (by omega) fun c hc hwc=>?_
     rw [hwc]
     have c1:(c-a).toNat<U.length:=by omega
     have c2:(mid-1-c).toNat<V.length:=by omega
     obtain ⟨A1,B1,d1,n1⟩:=ZAv (P:=P) (U:=U) (V:=V) (S:=S) (Yc c1)
     obtain ⟨A2,B2,d2,n2⟩:=ZAw (P:=P) (U:=U) (V:=V) (S:=S) (Yc c2)
     rw [show w64 (mid+m-1)=mid+m-1 from D4,show w64 (mid+m-1-c)=mid+m-1-c from D4]
     refine Za (BZ d2 (by omega)) (Za (BZ d1 (by omega)) (Za (XN _ _) ?_))
     by_cases hcm:HT V[(mid-1-c).toNat] U[(c-a).toNat]<0
     ·rw [Yh hcm]
      refine Zj nofun fun _=>?_
      exact ih _ ⟨k1,by dsimp only;omega,by dsimp only;omega,k4,.inr ⟨_,_,List.getElem?_eq_getElem c1,List.getElem?_eq_getElem c2,XP hcm⟩⟩ (by dsimp only;omega)
     ·rw [Yf hcm]
      refine Zj (fun _=>?_) nofun
      rw [DF]
      refine ih _ ⟨by dsimp only;omega,by dsimp only;omega,k3,.inr ⟨_,_,?_,?_,XO hcm⟩,k5⟩ (by dsimp only;omega)
      ·dsimp only
       rw [show (c+1-1-a).toNat=(c-a).toNat by omega]
       exact Yc c1
      ·dsimp only
       rw [show (mid-(c+1)).toNat=(mid-1-c).toNat by omega]
       exact Yc c2
    ·obtain rfl:st=r:=by omega
     have e2:w64 (mid+m-st)=mid+m-st:=D4
     rw [e2]
     refine tail st _ _ _ _ (ZyU hU hV (st-a).toNat (mid-st).toNat (by omega) (by omega) ?_ ?_) ?_ ?_
     ·rcases k4 with rfl | ⟨u,v,q1,q2,q3⟩
      ·rcases hcase with h | h
       ·exact .inl (by omega)
       ·exact .inr (.inl (by omega))
      ·exact .inr (.inr ⟨u,v,by rw [show (st-a).toNat-1=(st-1-a).toNat by omega];exact q1,q2,q3⟩)
     ·rcases k5 with rfl | ⟨u,v,q1,q2,q3⟩
      ·rcases hcase with h | h
       ·exact .inl (by omega)
       ·exact .inr (.inl (by omega))
      ·exact .inr (.inr ⟨u,v,q1,by rw [show (mid-st).toNat-1=(mid-1-st).toNat by omega];exact q2,q3⟩)
     ·rw [YE]
      omega
     ·rw [YE]
      omega
   ·refine Zb (fun h=>?_) fun h=>?_
    ·rw [D4]
     exact hq _ _ (by omega) (by omega) (by omega) (.inl (by omega)) (.inr ⟨rfl,h,rfl⟩)
    ·exact hq _ _ (by omega) (by omega) (by omega) (.inr rfl) (.inl ⟨rfl,by omega,rfl⟩)
def sbk (n:Nat) (L:Q3 Memb):Q3 Memb:=if _h:0<n/\n<=L.length then AL leM (L.take n)++sbk n (L.drop n) else AL leM L
 termination_by L.length
 decreasing_by rw [Yx];omega
theorem RF {n:Nat} {L:Q3 Memb} (h0:0<n) (h:n<=L.length):sbk n L=AL leM (L.take n)++sbk n (L.drop n):=by
 rw [sbk,dif_pos ⟨h0,h⟩]
theorem O5 {n:Nat} {L:Q3 Memb} (h:L.length<=n):sbk n L=AL leM L:=by{
rw [sbk]
split
rename_i h1
have:n=L.length:=by omega
rw [this,aE,GF,sbk,dif_neg (fun h=>by have h2:=h.1;have h3:=h.2;simp only [DI] at h3;omega)]
exact YB _
rfl}
theorem tF (n:Nat):∀ (k:Nat) (L:Q3 Memb),L.length<=k->(sbk n L).length=L.length
 | 0,L,h=>by
   rw [O5 (by omega),BY]
 | k+1,L,h=>by
   by_cases h1:0<n/\n<=L.length
   rw [RF h1.1 h1.2,Yb,BY,tF n k (L.drop n) (by rw [Yx];omega),YE,Yx]
   omega
   rw [sbk,dif_neg h1,BY]
theorem isrt (L:Q3 Memb):Srt (AL leM L):=QO GB QS L
theorem tG (A B:Q3 Memb):AH leM (AL leM A) (AL leM B)=AL leM (A++B):=(fE GB QS A B).symm
theorem Zxa (L:Q3 Memb) (hL:L.length<=1000000):U0 L (L.length:Int)=some (AL leM L):=by{
refine ZK ?_
unfold U0
refine ZF (fun x=>∃ R E:Q3 Memb,x.1=(R.length:Int)/\x.2.1=(R.length:Int)+20/\x.2.2=R++E/\R++sbk 20 E=sbk 20 L/\R.length+E.length=L.length) (fun x=>L.length-x.1.toNat) ⟨[],L,rfl,rfl,rfl,rfl,by simp⟩ (by dsimp only;omega) ?_
rintro ⟨a,b,l⟩ rec ⟨R,E,ha,hb,hl,hR,hlen⟩ ih
dsimp only at ha hb hl ih ⊢
refine Zb (fun hle=>?_) fun hgt=>?_
have h20:20<=E.length:=by omega
have e:l=R++E.take 20++E.drop 20:=by rw [hl,YM,YQ]
have ht:(E.take 20).length=20:=by rw [YE];omega
rw [e]
refine Za (pY R (E.take 20) (E.drop 20) (by rw [<- e,hl,Yb];omega) a b ha (by rw [Yb];omega)) ?_
rw [DF]
refine ih _ ⟨R++AL leM (E.take 20),E.drop 20,by dsimp only;rw [List.length_append,BY];omega,by dsimp only;rw [List.length_append,BY];omega,rfl,?_,by rw [List.length_append,BY,List.length_drop];omega⟩ (by dsimp only;omega)
rw [<- hR,RF (by decide) h20,YM]
have e:l=R++E ++ []:=by rw [hl,YB]
rw [e]
refine Za (pY R E [] (by rw [<- e,hl,Yb];omega) a _ ha (by rw [Yb];omega)) ?_
rw [YB,<- O5 (n:=20) (L:=E) (by omega),hR]
clear ih hR e hl ha hb hgt hlen rec
refine ZF (fun x=>∃ n:Nat,0<n/\n<=2000000/\x.1=(n:Int)/\x.2=sbk n L) (fun x=>2000000-x.1.toNat) ⟨20,by decide,by decide,rfl,rfl⟩ (by dsimp only;omega) ?_
rintro ⟨bsz,l⟩ rec ⟨n,hn0,hn1,hbn,hl⟩ ih
dsimp only at hbn hl ih ⊢
refine Zb (fun hlt=>?_) fun hge=>?_
have e2:w64 (2 * bsz)=2 * bsz:=ZH
rw [e2]
refine ZF (fun x=>∃ R E:Q3 Memb,x.1=(R.length:Int)/\x.2.1=(R.length:Int)+2 * (n:Int)/\x.2.2=R++sbk n E/\R++sbk (2 * n) E=sbk (2 * n) L/\R.length+E.length=L.length) (fun x=>L.length-x.1.toNat) ⟨[],L,rfl,by dsimp only;simp;omega,by rw [hl];rfl,rfl,by simp⟩ (by dsimp only;omega) ?_
rintro ⟨a,b,l2⟩ rec2 ⟨R,E,ha,hb,hl2,hR,hlen⟩ ih2
dsimp only at ha hb hl2 ih2 ⊢
have eA:w64 (a+bsz)=a+bsz:=DF
refine Zb (fun hle=>?_) fun hgt=>?_
have h2n:2 * n<=E.length:=by omega
have t1:(E.take n).length=n:=by rw [YE];omega
have t2:((E.drop n).take n).length=n:=by rw [YE,Yx];omega
have e:l2=R++AL leM (E.take n)++AL leM ((E.drop n).take n)++sbk n (E.drop (2 * n)):=by
 rw [hl2,RF hn0 (by omega),RF hn0 (by rw [Yx];omega),JN,show n+n=2 * n by omega]
 simp only [YM]
have hd:(sbk n (E.drop (2 * n))).length=E.length-2 * n:=by rw [tF n _ _ (Yn _),Yx]
rw [eA,e]
refine Za (Y7 64 R _ _ _ (isrt _) (isrt _) (by rw [BY];omega) (by rw [BY];omega) (by simp only [Yb,BY];omega) (by rw [BY,BY];omega) a (a+bsz) b ha (by rw [Yb,BY];omega) (by simp only [Yb,BY];omega)) ?_
have et:E.take n++(E.drop n).take n=E.take (2 * n):=by rw [show 2 * n=n+n by omega,List.take_add]
rw [tG,et,show w64 (b+2 * bsz)=b+2 * bsz from ZH]
have t3:(E.take (2 * n)).length=2 * n:=by rw [YE];omega
refine ih2 _ ⟨R++AL leM (E.take (2 * n)),E.drop (2 * n),by dsimp only;rw [List.length_append,BY];omega,by dsimp only;rw [List.length_append,BY];omega,rfl,?_,by rw [List.length_append,BY,List.length_drop];omega⟩ (by dsimp only;omega)
rw [<- hR,RF (n:=2 * n) (by omega) h2n,YM]
have go:l2=R++sbk (2 * n) E->Tot (rec (w64 (bsz * 2),l2)) fun r=>r=AL leM L:=fun h=>by
 rw [show w64 (bsz * 2)=bsz * 2 from ZH]
 exact ih _ ⟨2 * n,by omega,by omega,by dsimp only;omega,by dsimp only;rw [h,hR]⟩ (by dsimp only;omega)
refine Zt (fun q=>∀ l3,l3=R++sbk (2 * n) E->Tot (q l3) fun r=>r=AL leM L) (fun l3 h3=>?_) fun q hq=>?_
rw [show w64 (bsz * 2)=bsz * 2 from ZH]
exact ih _ ⟨2 * n,by omega,by omega,by dsimp only;omega,by dsimp only;rw [h3,hR]⟩ (by dsimp only;omega)
rw [eA]
refine Zb (fun hlt2=>?_) fun hge2=>?_
have t1:(E.take n).length=n:=by rw [YE];omega
have t2:(E.drop n).length=E.length-n:=Yx
have e:l2=R++AL leM (E.take n)++AL leM (E.drop n) ++ []:=by
 rw [hl2,RF hn0 (by omega),O5 (n:=n) (L:=E.drop n) (by omega)]
 simp only [YM,YB]
rw [e]
refine Za (Y7 64 R _ _ _ (isrt _) (isrt _) (by rw [BY];omega) (by rw [BY];omega) (by simp only [Yb,BY,DI];omega) (by rw [BY,BY];omega) a (a+bsz) _ ha (by rw [Yb,BY];omega) (by simp only [Yb,BY];omega)) ?_
refine hq _ ?_
rw [tG,YQ,YB,O5 (n:=2 * n) (by omega)]
refine hq _ ?_
rw [hl2,O5 (n:=n) (L:=E) (by omega),O5 (n:=2 * n) (by omega)]
refine Zd ?_
rw [hl,O5 (by omega)]}
theorem Zpv (L:Q3 Memb) (hL:L.length<=1000000):ZY L=some (AL leM L):=by
 unfold ZY
 rw [Zxa L hL]
 rfl
end
section
open VL
def Y8 {α:Type} (eq:α->α->Q2 Bool) (z:α) (p0:Q3 α):Q2 (Q3 α):=if (decide ((p0.length:Int)<2)) then (some p0:Q2 (Q3 α)) else A4 A9 (fun f82 (x570:Int)=>if (decide (x570<(p0.length:Int))) then (atI p0 x570).bind fun e784=>(atI p0 (w64 (x570-1))).bind fun e785=>(eq e784 e785).bind fun r=>if r then (H7 p0 x570).bind fun _=>A4 A9 (fun f97 ((x830,x831,x832):Int×Int×(Q3 α))=>if (decide (x831<(PH x832 x570))) then letk (fun (x847:Int) (x848:Q3 α)=>f97 (x847,(w64 (x831+1)),x848)) fun k98=>(atQ x832 x570 x831).bind fun e849=>(atQ x832 x570 (w64 (x831-1))).bind fun e850=>(eq e849 e850).bind fun r=>if (!r) then (atQ x832 x570 x831).bind fun e851=>(atI x832 x830).bind fun _=>k98 (w64 (x830+1)) (AQ x832 x830 e851) else k98 x830 x832 else (H7 x832 x830).bind fun _=>(CJ (NA x832 x830 z) 0 x830).bind fun l854=>(some l854:Q2 (Q3 α))) (x570,1,p0) else f82 (w64 (x570+1)) else (some p0:Q2 (Q3 α))) 1
def BS {α:Type} (eq:α->α->Bool):α->Q3 α->Q3 α | _,[]=>[] | x,y::l=>if eq y x=true then BS eq y l else y::BS eq y l
def GU {α:Type} (eq:α->α->Bool):Q3 α->Q3 α | []=>[] | x::l=>x::BS eq x l
theorem tH {α:Type} {eq:α->α->Bool} (y z:α):∀ (x:α) (A:Q3 α),BS eq x (A ++ [z] ++ [y])=BS eq x (A ++ [z])++(if eq y z=true then [] else [y])
 | x,[]=>by
   show (if eq z x=true then BS eq z [y] else z::BS eq z [y])=(if eq z x=true then [] else [z])++_
   have:BS eq z [y]=if eq y z=true then [] else [y]:=rfl
   rw [this]
   split<;>rfl
 | x,a::A=>by
   show (if eq a x=true then BS eq a (A ++ [z] ++ [y]) else a::BS eq a (A ++ [z] ++ [y]))=(if eq a x=true then BS eq a (A ++ [z]) else a::BS eq a (A ++ [z]))++_
   rw [tH y z a A]
   split<;>rfl
theorem Y9 {α:Type} {eq:α->α->Bool} (A:Q3 α) (z y:α):GU eq (A ++ [z] ++ [y])=GU eq (A ++ [z])++(if eq y z=true then [] else [y]):=by{
cases A with
| nil=>
  show z::BS eq z [y] = [z]++_
  rfl
| cons a A=>
  show a::BS eq a (A ++ [z] ++ [y])=a::BS eq a (A ++ [z])++_
  rw [tH]
  rfl}
theorem g9 {α:Type} {l A B:Q3 α} {x:α} {q i:Int} (h:l=A++x::B) (h0:0<=q) (h1:0<=i) (hn:q+i=(A.length:Int)):atQ l q i=some x:=by
 unfold atQ
 rw [if_pos ⟨h0,h1⟩]
 exact BZ h hn
theorem tI {α:Type} (eqM:α->α->Q2 Bool) (eq:α->α->Bool) (heq:∀ a b,eqM a b=some (eq a b)) (z0:α) (L:Q3 α) (hL:L.length<=1000000):Y8 eqM z0 L=some (GU eq L):=by{
refine ZK ?_
unfold Y8
refine Zb (fun h=>?_) fun h=>?_
refine Zd ?_
match L,h with
| [],_=>rfl
| [x],_=>rfl
| x::y::l,h=>simp only [Yr] at h;omega
refine ZF (fun x=>∃ A z B,L=A++z::B/\x=(A.length:Int)+1/\GU eq (A ++ [z])=A ++ [z]) (fun x=>L.length-x.toNat) ?_ (by omega) ?_
cases L with
| nil=>simp only [DI] at h;omega
| cons x l=>exact ⟨[],x,l,rfl,rfl,rfl⟩
rintro k rec ⟨A,z,B,hd,hk,hc⟩ ih
have lL:L.length=A.length+1+B.length:=by rw [hd];simp only [Yb,Yr];omega
refine Zb (fun hlt=>?_) fun hge=>?_
obtain ⟨y,B,rfl⟩:∃ y B',B=y::B':=by
 cases B with
 | nil=>simp only [DI] at lL;omega
 | cons y B'=>exact ⟨y,B',rfl⟩
simp only [Yr] at lL
have d1:L=(A ++ [z])++y::B:=by rw [hd];simp
rw [D4]
refine Za (BZ d1 (by simp only [Yb,YC];omega)) (Za (BZ hd (by omega)) (Za (heq y z) (Zj (fun hyz=>?_) fun hyz=>?_)))
have hs:H7 L k=some ():=by
 unfold H7
 rw [if_pos ⟨by omega,by omega⟩]
refine Za hs ?_
refine ZF (fun x=>∃ K J L1 z B,x.2.2=K++J++z::B/\L=L1++z::B/\x.1=(K.length:Int)/\K.length+J.length=L1.length/\1<=x.2.1/\k+x.2.1=(L1.length:Int)+1/\GU eq (L1 ++ [z])=K) (fun x=>L.length-x.2.1.toNat)
 ⟨A ++ [z],[],A ++ [z],y,B,by dsimp only;rw [d1];simp,d1,by dsimp only;simp only [List.length_append,List.length_singleton];omega,by simp,by dsimp only;omega,by dsimp only;simp only [List.length_append,List.length_singleton];omega,by rw [Y9,hc,if_pos hyz,List.append_nil]⟩ (by dsimp only;omega) ?_
rintro ⟨kd,k2,l⟩ rec2 ⟨K,J,L1,u,C,hl,hLd,hkd,hlen,h1,hk2,hK⟩ ih2
dsimp only at hl hkd h1 hk2 ih2 ⊢
have lC:L.length=L1.length+1+C.length:=by rw [hLd];simp only [Yb,Yr];omega
have ll:l.length=L.length:=by rw [hl];simp only [Yb,Yr];omega
have hq:PH l k=(L.length:Int)-k:=by unfold PH;rw [ll];omega
rw [hq]
refine Zb (fun hlt2=>?_) fun hge2=>?_
obtain ⟨v,C,rfl⟩:∃ v C',C=v::C':=by
 cases C with
 | nil=>simp only [DI] at lC;omega
 | cons v C'=>exact ⟨v,C',rfl⟩
simp only [Yr] at lC
have e1:l=(K++J ++ [u])++v::C:=by rw [hl];simp
have n1:k+k2=((K++J ++ [u]).length:Int):=by simp only [Yb,YC];omega
have n2:k+(k2-1)=((K++J).length:Int):=by simp only [Yb];omega
have hLd2:L=(L1 ++ [u])++v::C:=by rw [hLd];simp
refine B7 ?_
rw [D4,DF (a:=k2) (by omega) (by omega) (by omega) (by omega)]
refine Za (g9 e1 (by omega) (by omega) n1) (Za (g9 hl (by omega) (by omega) n2) (Za (heq v u) ?_))
cases hvu:eq v u with
| false=>
  refine Zj (fun _=>?_) nofun
  obtain ⟨w,J2,hJ⟩:∃ w J2,J ++ [u]=w::J2:=by
   cases J with
   | nil=>exact ⟨u,[],rfl⟩
   | cons w J2=>exact ⟨w,J2 ++ [u],rfl⟩
  have lJ:J.length+1=J2.length+1:=by have:=CC List.length hJ;simpa using this
  have e2:l=K++w::(J2++v::C):=by rw [e1,YM K J [u],hJ];simp
  refine Za (g9 e1 (by omega) (by omega) n1) (Za (BZ e2 hkd) ?_)
  dsimp only
  rw [DF]
  refine ih2 _ ⟨K ++ [v],J2,L1 ++ [u],v,C,?_,hLd2,by dsimp only;simp only [List.length_append,List.length_singleton];omega,by simp only [List.length_append,List.length_singleton];omega,by dsimp only;omega,by dsimp only;simp only [List.length_append,List.length_singleton];omega,?_⟩ (by dsimp only;omega)
  dsimp only
  rw [KO e2 hkd]
  simp
  rw [Y9,hK,hvu]
  rfl
| true=>
  refine Zj nofun fun _=>?_
  dsimp only
  refine ih2 _ ⟨K,J ++ [u],L1 ++ [u],v,C,by dsimp only;rw [hl];simp,hLd2,hkd,by simp only [List.length_append,List.length_singleton];omega,by dsimp only;omega,by dsimp only;simp only [List.length_append,List.length_singleton];omega,?_⟩ (by dsimp only;omega)
  rw [Y9,hK,hvu]
  exact YB _
have hC:C = []:=Yl (by omega)
subst hC
have hs2:H7 l kd=some ():=by
 unfold H7
 rw [if_pos ⟨by omega,by omega⟩]
refine Za hs2 ?_
have hcl:NA l kd z0=K++List.replicate (l.length-K.length) z0:=by
 unfold NA
 rw [hkd,DH,hl]
 congr 1
 rw [YM,MN]
refine Za (v:=K) ?_ (Zd ?_)
rw [hcl]
unfold CJ
rw [if_pos ⟨by omega,by omega,by rw [hkd,Yb];omega⟩,hkd]
simp
rw [<- hK,hLd]
rw [DF]
refine ih _ ⟨A ++ [z],y,B,d1,by simp only [Yb,YC];omega,?_⟩ (by omega)
rw [Y9,hc,if_neg (by rw [hyz];decide)]
have hB:B = []:=Yl (by omega)
subst hB
refine Zd ?_
rw [hd,hc]}
theorem ZnH:R9=Y8 (fun a b=>some (decide (a=b))) ⟨0,⟨0,⟨#[]⟩⟩⟩:=rfl
theorem ZnI:QQ=Y8 TU ⟨⟨0,⟨#[]⟩⟩,⟨#[]⟩⟩:=rfl
theorem ZnJ (L:Q3 Link) (hL:L.length<=1000000):R9 L=some (GU (fun a b=>decide (a=b)) L):=by
 rw [ZnH]
 exact tI _ _ (fun _ _=>rfl) _ L hL
theorem ZnK (L:Q3 Memb) (hL:L.length<=1000000):QQ L=some (GU (fun a b=>decide (a.category=b.category)) L):=by
 rw [ZnI]
 exact tI _ _ (fun _ _=>rfl) _ L hL
theorem gA {α:Type} {eq:α->α->Bool} {p:α->Bool} (hp:∀ a b,eq a b=true->p a=p b):∀ (l:Q3 α) (x:α),p x=false->(BS eq x l).find? p=l.find? p
 | [],_,_=>rfl
 | y::l,x,hx=>by
   show (if eq y x=true then BS eq y l else y::BS eq y l).find? p=_
   split
   rename_i h
   have hy:p y=false:=by rw [hp y x h];exact hx
   rw [gA hp l y hy,EJ,hy]
   cases hy:p y with
   | true=>rw [EJ,EJ,hy]
   | false=>rw [EJ,EJ,hy];exact gA hp l y hy
theorem Zr5 {α:Type} {eq:α->α->Bool} {p:α->Bool} (hp:∀ a b,eq a b=true->p a=p b) (l:Q3 α):(GU eq l).find? p=l.find? p:=by{
cases l with
| nil=>rfl
| cons x l=>
  show (x::BS eq x l).find? p=_
  rw [EJ,EJ]
  cases hx:p x with
  | true=>rfl
  | false=>exact gA hp l x hx}
theorem tJ {α:Type} {le:α->α->Bool} {p:α->Bool} (h:∀ x y,le x y=false->p x=true->p y=false) (x:α):∀ l:Q3 α,(BX le x l).find? p=(x::l).find? p
 | []=>rfl
 | y::l=>by
   unfold BX
   split
   rfl
   rename_i hxy
   have hxy:le x y=false:=by cases hb:le x y<;>simp_all
   rw [EJ,tJ h x l,EJ,EJ,EJ]
   cases hx:p x with
   | true=>rw [h x y hxy hx]
   | false=>rfl
theorem tK {α:Type} {le:α->α->Bool} {p:α->Bool} (h:∀ x y,le x y=false->p x=true->p y=false):∀ l:Q3 α,(AL le l).find? p=l.find? p
 | []=>rfl
 | x::l=>by
   show (BX le x (AL le l)).find? p=_
   rw [tJ h,EJ,EJ,tK h l]
theorem tL {α:Type} [DecidableEq α] (e:α):∀ (l:Q3 α) (x:α),e ∈ x::BS (fun a b=>decide (a=b)) x l↔e ∈ x::l
 | [],x=>Iff.rfl
 | y::l,x=>by
   show e ∈ x::(if decide (y=x)=true then BS (fun a b=>decide (a=b)) y l else y::BS (fun a b=>decide (a=b)) y l)↔_
   have ih:=tL e l y
   by_cases h:y=x
   rw [if_pos (Yh h)]
   subst h
   simp only [Ys] at ih ⊢
   constructor
   intro g
   rcases ih.1 g with g | g
   exact .inl g
   exact .inr (.inr g)
   intro g
   rcases g with g | g
   exact .inl g
   exact ih.2 g
   rw [if_neg (by rw [Yf h];decide)]
   simp only [Ys] at ih ⊢
   rw [ih]
theorem ZtW {α:Type} [DecidableEq α] (e:α) (l:Q3 α):e ∈ GU (fun a b=>decide (a=b)) l↔e ∈ l:=by
 cases l with
 | nil=>exact Iff.rfl
 | cons x l=>exact tL e l x
theorem gB {α:Type} {eq:α->α->Bool}:∀ (l:Q3 α) (x e:α),e ∈ BS eq x l->e ∈ l
 | [],x,e,h=>by cases h
 | y::l,x,e,h=>by
   have h:e ∈ (if eq y x=true then BS eq y l else y::BS eq y l):=h
   split at h
   exact Yg _ (gB l y e h)
   rcases Ys.1 h with rfl | h
   exact Yi
   exact Yg _ (gB l y e h)
theorem tM {α κ:Type} [DecidableEq κ] {le:α->α->Bool} (key:α->κ) (ha:∀ a b,le a b=true->le b a=true->key a=key b) (hk:∀ a b,key a=key b->∀ c,le c a=le c b/\le a c=le b c) :
  ∀ (l:Q3 α) (x:α),(x::l).Pairwise (fun a b=>le a b=true)->(x::BS (fun a b=>decide (key a=key b)) x l).Pairwise fun a b=>¬ key a=key b
 | [],x,_=>List.pairwise_singleton _ _
 | y::l,x,h=>by
   let ⟨h1,h2⟩:=YV.1 h
   have ih:=tM key ha hk l y h2
   show (x::(if decide (key y=key x)=true then BS (fun a b=>decide (key a=key b)) y l else y::BS (fun a b=>decide (key a=key b)) y l)).Pairwise _
   let ⟨i1,i2⟩:=YV.1 ih
   by_cases hy:key y=key x
   rw [if_pos (Yh hy)]
   exact YV.2 ⟨fun e he=>by rw [<- hy];exact i1 e he,i2⟩
   rw [if_neg (by rw [Yf hy];decide)]
   refine YV.2 ⟨fun e he=>?_,ih⟩
   rcases Ys.1 he with rfl | he
   exact fun h=>hy h.symm
   intro hxe
   have hle:=(YV.1 h2).1 e (gB l y e he)
   have hxy:=h1 y Yi
   rw [<- ((hk x e hxe y).1)] at hle
   exact hy (ha y x hle hxy)
theorem tN {α κ:Type} [DecidableEq κ] {le:α->α->Bool} (key:α->κ) (ha:∀ a b,le a b=true->le b a=true->key a=key b) (hk:∀ a b,key a=key b->∀ c,le c a=le c b/\le a c=le b c) (l:Q3 α) (h:l.Pairwise (fun a b=>le a b=true)):(GU (fun a b=>decide (key a=key b)) l).Pairwise fun a b=>¬ key a=key b:=by
 cases l with
 | nil=>exact .nil
 | cons x l=>exact tM key ha hk l x h
end
theorem tO:UI=some true:=by kernel_rfl
section
open VL
theorem gC {α:Type} {eq:α->α->Bool}:∀ (l:Q3 α) (x:α),(BS eq x l).Sublist l
 | [],_=>.slnil
 | y::l,x=>by
   show (if eq y x=true then BS eq y l else y::BS eq y l).Sublist (y::l)
   split
   exact (gC l y).cons y
   exact (gC l y).cons_cons y
theorem Z0 {α:Type} {eq:α->α->Bool} (l:Q3 α):(GU eq l).Sublist l:=by
 cases l with
 | nil=>exact .slnil
 | cons x l=>exact (gC l x).cons_cons x
theorem tP {α:Type} {R S:α->α->Prop} {l:Q3 α} (h:l.Pairwise R) (k:l.Pairwise S):l.Pairwise fun a b=>R a b/\S a b:=by{
induction l with
| nil=>exact .nil
| cons x l ih=>
  let ⟨h1,h2⟩:=YV.1 h
  let ⟨k1,k2⟩:=YV.1 k
  exact YV.2 ⟨fun y hy=>⟨h1 y hy,k1 y hy⟩,ih h2 k2⟩}
def O6 (L:Q3 Link):Q3 Link:=GU (fun a b=>decide (a=b)) (AL (leC D5) L)
def O7 (L:Q3 Memb):Q3 Memb:=GU (fun a b=>decide (a.category=b.category)) (AL leM L)
theorem tQ {α:Type} {c:α->α->Int} (h:CmpLaws c) {a b:α} (k:leC c a b=true) (hn:¬ a=b):c a b<0:=by{
have k2:ltOf c b a=false:=by unfold leC at k;simpa using k
have k3:¬ c b a<0:=UX k2
have k4:¬ c b a=0:=fun e=>hn ((h.zero b a).1 e).symm
exact (h.neg a b).2 (by omega)}
theorem Zx4 (L:Q3 Link):(O6 L).Pairwise fun a b=>D5 a b<0:=by
 have s:(AL (leC D5) L).Pairwise (fun a b=>leC D5 a b=true):=QO (eZ linkCmp_laws.swo) (fA linkCmp_laws.swo) L
 have d:(O6 L).Pairwise fun a b=>¬ a=b:=tN (le:=leC D5) (fun a:Link=>a) (fun a b h k=>pM linkCmp_laws.tot a b h k) (fun a b e c=>by rw [show a=b from e];exact ⟨rfl,rfl⟩) _ s
 exact (tP (s.sublist (Z0 _)) d).imp fun ⟨h1,h2⟩=>tQ linkCmp_laws h1 h2
theorem Zx5 (L:Q3 Memb):(O7 L).Pairwise fun a b=>Title.cmp a.category b.category<0:=by{
have s:(AL leM L).Pairwise (fun a b=>leM a b=true):=QO GB QS L
have k1:∀ a b:Memb,a.category=b.category->∀ c:Memb,leM c a=leM c b/\leM a c=leM b c:=fun a b h c=>by
 unfold leM leC ltOf HT
 rw [h]
 exact ⟨rfl,rfl⟩
have k2:∀ a b:Memb,leM a b=true->leM b a=true->a.category=b.category:=fun a b h k=>by
 refine titleCmp_laws.tot a.category b.category ?_ ?_
 unfold leM leC at k
 have k2:ltOf HT a b=false:=by simpa using k
 exact k2
 unfold leM leC at h
 have k2:ltOf HT b a=false:=by simpa using h
 exact k2
have d:(O7 L).Pairwise fun a b=>¬ a.category=b.category:=tN (le:=leM) Memb.category k2 k1 _ s
exact (tP (s.sublist (Z0 _)) d).imp fun {a b} ⟨h1,h2⟩=>tQ (c:=Title.cmp) titleCmp_laws (a:=a.category) (b:=b.category) h1 h2}
theorem ZyN (a b:Memb) (h:a.category=b.category) (c:Memb):leM c a=leM c b/\leM a c=leM b c:=by
 unfold leM leC ltOf HT
 rw [h]
 exact ⟨rfl,rfl⟩
theorem ZwV (a:Memb):leM a a=true:=by
 have:=QS a a
 rw [Bool.or_self] at this
 exact this
theorem ZuX (L:Q3 Memb) (c:Title):(O7 L).find? (fun e=>decide (e.category=c))=L.find? (fun e=>decide (e.category=c)):=by{
unfold O7
rw [Zr5 (fun a b h=>by rw [FE h])]
refine tK (fun x y h hx=>?_) L
refine Yf fun hy=>?_
have e:x.category=y.category:=(FE hx).trans hy.symm
rw [<- (ZyN x y e x).1,ZwV] at h
cases h}
theorem tR (e:Link) (L:Q3 Link):e ∈ O6 L↔e ∈ L:=(ZtW e _).trans (TZ (leC D5) L).mem_iff
theorem gD (k:Link):∀ l:Q3 Link,l.find? (fun x=>decide (x=k))=if k ∈ l then some k else none
 | []=>by simp
 | x::l=>by
   rw [EJ]
   by_cases h:x=k
   subst h;simp
   rw [Yf h,gD k l]
   simp [Ne.symm h]
theorem ZwW {X Y:Q3 Link} (h:∀ e,e ∈ X↔e ∈ Y):O6 X=Y.foldl B8 []:=by{
let ⟨h1,h2⟩:=fC (key:=fun x:Link=>x) linkCmp_laws Y [] .nil
refine pT (key:=fun x:Link=>x) linkCmp_laws (Zx4 X) h1 fun k=>?_
rw [h2 k,GZ,gD,gD]
by_cases hk:k ∈ Y
rw [if_pos hk,if_pos ((tR k X).2 ((h k).2 hk))]
rw [if_neg hk,if_neg fun hh=>hk ((h k).1 ((tR k X).1 hh))]}
theorem ZwX (X:Q3 Memb):O7 X=X.foldl JF []:=by{
let ⟨h1,h2⟩:=fC (key:=Memb.category) titleCmp_laws X [] .nil
refine pT (key:=Memb.category) titleCmp_laws (Zx5 X) h1 fun k=>?_
rw [h2 k,GZ]
exact ZuX X k}
theorem ZzW (s:Q3 Q4) (h:s.length<=1500):∃ A B,RA (bs s)=some (A,B,0)/\UJ (bs s)=some (A,B,0)/\A.length<=1000000/\B.length<=1000000:=by{
let ⟨l,p1,p2,hw,hg⟩:=ZtF s (by omega)
let ⟨E,N,o⟩:=rS 300000 l 300000 hw hg (by omega) (by omega)
let ⟨C,t⟩:=rX 300000 l 300000 hw (by omega) (by omega)
let ⟨q,r1,r2⟩:=rY s (by omega)
have hlen:=hw.len
rw [Yv] at hlen
have le1:=o.le
have le2:=o.ln
have le3:=t.le
have le4:=U5 E
have le5:=U6 E
have le6:=R8 C []
rw [DI,YY] at le6
have e1:KL 300001 ⟨[],[]⟩ l=some ⟨lks E,mbs E⟩:=(qG 300000 _ l (by omega)).trans (o.p ⟨[],[]⟩ (by simp) (by simp))
have e2:Zo 300001 ⟨lks E,mbs E⟩ l=some ⟨lks E++C,mbs E⟩:=qH (by omega) (t.p _ (by dsimp only;omega))
have f1:ZS 300001 l []=some (C.foldl B8 []):=rU (by omega) (t.r [] (by simp))
have f2:IM 300001 l=some N:=rP (by omega) (o.n [] (by simp))
have f3:AR O0 N (C.foldl B8 [],[])=some ((lks E).foldl B8 (C.foldl B8 []),(mbs E).foldl JF []):=(o.r (C.foldl B8 [],[]) (by dsimp only;omega) (by simp)).trans (by rw [U7])
have le7:=R8 (lks E) (C.foldl B8 [])
have le8:((mbs E).foldl JF []).length<=0+(mbs E).length:=QP (c:=Title.cmp) (key:=Memb.category) (mbs E) []
refine ⟨O6 (lks E++C++(if q.2=true then [⟨4,q.1⟩] else [])),O7 (mbs E),ZK ?_,ZK ?_,?_,?_⟩
have fin:∀ L:Q3 Link,L.length<=700000->((U4 L).bind fun r7=>(ZY (mbs E)).bind fun r8=>(QQ r8).bind fun r9=>(R9 r7).bind fun r10=>(some (r10,r9,0):Q2 ((Q3 Link)×(Q3 Memb)×Int)))=some (O6 L,O7 (mbs E),0):=fun L hL=>by
 refine ZK ?_
 refine Za (v:=AL (leC D5) L) (by unfold U4;rw [if_pos (by omega)]) ?_
 refine Za (Zpv (mbs E) (by omega)) ?_
 refine Za (ZnK _ (by rw [BY];omega)) ?_
 exact Za (ZnJ _ (by rw [BY];omega)) (Zd rfl)
unfold RA
refine Za p1 (CK (fun h=>absurd rfl h) fun _=>Za e1 (Za e2 (Za r1 (B7 ?_))))
cases hr:q.2 with
| false=>
  refine Zj nofun fun _=>jZ (fin _ (by rw [Yb];omega)) ?_
  rw [if_neg (by decide),YB]
| true=>
  refine Zj (fun _=>?_) nofun
  refine kA 1000000 (by rw [Yb,YC];omega) (by omega) (by omega) ?_
  refine jZ (fin _ (by rw [Yb,Yb,YC];omega)) ?_
  rw [if_pos rfl]
have eL:O6 (lks E++C++(if q.2=true then [⟨4,q.1⟩] else []))=(if q.2=true then B8 ((lks E).foldl B8 (C.foldl B8 [])) ⟨4,q.1⟩ else (lks E).foldl B8 (C.foldl B8 [])):=by
 rw [ZwW (Y:=C++lks E++(if q.2=true then [⟨4,q.1⟩] else [])) (fun e=>by simp only [YD];constructor<;>rintro ((h | h) | h)<;>simp [h]),FZ,FZ]
 split<;>rfl
rw [eL,ZwX]
unfold UJ
refine Za p2 (CK (fun h=>absurd rfl h) fun _=>Za f1 (Za f2 ?_))
refine ZF (fun x=>∃ n:Nat,x.2.2=(n:Int)/\n<=N.length/\AR O0 (N.drop n) (x.1,x.2.1)=some ((lks E).foldl B8 (C.foldl B8 []),(mbs E).foldl JF [])) (fun x=>N.length-x.2.2.toNat) ⟨0,rfl,Nat.zero_le _,f3⟩ (by dsimp only;omega) ?_
rintro ⟨L,M,i⟩ rec ⟨n,hi,hn,h2⟩ ih
dsimp only at hi h2 ih ⊢
subst hi
by_cases hlt:n<N.length
refine Zb (fun _=>?_) fun h=>absurd (by omega) h
let ⟨x,hx,hd⟩:=KQ hlt
have hat:=HU hx
rw [hd] at h2
let ⟨⟨L',M'⟩,h3,h4⟩:=Ya.1 h2
refine Zt (fun k=>Tot (k L' M') fun z=>z=(if q.2=true then B8 ((lks E).foldl B8 (C.foldl B8 [])) ⟨4,q.1⟩ else (lks E).foldl B8 (C.foldl B8 []),(mbs E).foldl JF [],0)) ?_ fun k hk=>Za hat ?_
rw [ZH]
exact ih (L',M',(n:Int)+1) ⟨n+1,by dsimp only;omega,hlt,h4⟩ (by dsimp only;omega)
unfold O0 at h3
refine Zb (fun h1=>?_) fun h1=>?_
rw [if_pos h1] at h3
exact Za hat (Za h3 hk)
rw [if_neg h1] at h3
injection h3 with h3
injection h3 with h5 h6
subst h5 h6
exact hk
refine Zb (fun h=>absurd h (by omega)) fun _=>?_
rw [YI (by omega)] at h2
injection h2 with h2
injection h2 with h5 h6
subst h5 h6
refine Za r2 (B7 (Zj (fun hq=>?_) fun hq=>?_))
exact Za (fH _ _ (by omega)) (Zd (by rw [if_pos hq]))
exact Zd (by rw [if_neg (by rw [hq];decide)])
refine YX (Z0 _).length_le ?_
rw [BY,Yb,Yb]
split<;>simp<;>omega
refine YX (Z0 _).length_le ?_
rw [BY]
omega}
theorem ZzX (L:Q3 Link) (h:L.length<=1000000):RB L L=some true:=by{
refine ZK ?_
unfold RB
refine CK (fun h=>absurd rfl h) fun _=>?_
refine ZF (fun i=>0<=i) (fun i=>L.length-i.toNat) (by omega) (by omega) fun i rec h0 ih=>?_
refine Zb (fun hlt=>?_) fun _=>Zd rfl
refine SU h0 hlt fun e _ he=>Za (v:=e) ?_ (CK (fun h=>absurd rfl h) fun _=>?_)
unfold atI
rw [if_pos h0]
exact he
rw [ZH]
exact ih _ (by omega) (by omega)}
theorem ZzY (L:Q3 Memb) (h:L.length<=1000000):RC L L=some true:=by{
refine ZK ?_
unfold RC
refine CK (fun h=>absurd rfl h) fun _=>?_
refine ZF (fun i=>0<=i) (fun i=>L.length-i.toNat) (by omega) (by omega) fun i rec h0 ih=>?_
refine Zb (fun hlt=>?_) fun _=>Zd rfl
refine SU h0 hlt fun e _ he=>Za (v:=e) ?_ (CK (fun h=>absurd rfl h) fun _=>?_)
unfold atI
rw [if_pos h0]
exact he
rw [ZH]
exact ih _ (by omega) (by omega)}
def Z1 (p0:Q3 Int):Q2 Bool:=(g6 p0).bind fun r1=>(UM r1 3).bind fun r2=>if decide (1500<(r2.1.size:Int)) then (UI).bind fun r4=>some r4 else (RA r2.1).bind fun r5=>(UJ r2.1).bind fun r6=>(LY r2.1).bind fun r7=>(F7 r2.1).bind fun r8=>letk (fun (x12:Bool)=>some x12) fun k1=>if decide (r5.2.2=r6.2.2) then (RB r5.1 r6.1).bind fun r13=>if r13 then (RC r5.2.1 r6.2.1).bind fun r14=>if r14 then if decide (r7.1=r8.1) then if (r7.2 == r8.2) then (UI).bind fun r15=>k1 r15 else k1 false else k1 false else k1 false else k1 false else k1 false
theorem Zkw (p0:Q3 Int) (r:Bool) (h:Z1 p0=some r):Zg Q7 4 [.sl (List.map csI p0)] (.bool r):=by{
refine cF (fun r=>.bool r) h mix Tryz.func4 fun r h=>?_
unfold Z1 at h
refine Zi ?_
refine rg ?_
refine rg ?_
refine aN h (ZvT _) fun r1 h=>?_
refine aO h (Zmc _ _) fun r2 h=>?_
refine rg ?_
refine cS h rfl (fun h=>?_) fun h=>?_
refine rg ?_
refine aC h s8 fun r4 h=>?_
cases h
exact rQ
refine rg ?_
refine aC h (rZ _) fun r5 h=>?_
refine rg ?_
refine aC h (ZuS _) fun r6 h=>?_
refine rg ?_
refine aC h (nJ _) fun r7 h=>?_
refine rg ?_
refine aC h (pC _) fun r8 h=>?_
refine jL h (fun x12=>mkS [(2,.bool x12)] [] 2) (fun k1 h=>?_) fun x12 h=>?_
refine rg ?_
refine kS 46 h rfl (fun h=>?_) fun h=>?_
refine aC h (s4 _ _) fun r13 h=>?_
refine kS 51 h rfl (fun h=>?_) fun h=>?_
refine aC h (s6 _ _) fun r14 h=>?_
refine kS 56 h rfl (fun h=>?_) fun h=>?_
refine LF (.inl rfl) rfl rfl rfl rfl rfl (fun W=>bH r7.1 r8.1 W) (Zi ?_)
refine kS 61 h rfl (fun h=>?_) fun h=>?_
refine xY rfl rfl rfl (Zi ?_)
refine kS 66 h rfl (fun h=>?_) fun h=>?_
refine aC h s8 fun r15 h=>?_
exact jn r15 h (sR [])
refine Zw rfl (Zi ?_)
exact jn false h (sR [])
iterate 4 refine Zw rfl (Zi ?_)
exact jn false h (sR [])
iterate 7 refine Zw rfl (Zi ?_)
exact jn false h (sR [])
iterate 10 refine Zw rfl (Zi ?_)
exact jn false h (sR [])
iterate 13 refine Zw rfl (Zi ?_)
exact jn false h (sR [])
cases h
exact rQ}
theorem ZtL (l:Q3 Int) (hl:l.length<=9223372036854775807):Z1 l=some true:=by{
refine ZK ?_
unfold Z1
refine Za (v:=(⟨l,0⟩:TapeF)) rfl (ZC (Zzl ⟨l,0⟩ ⟨hl,Int.le_refl _⟩) fun r2 _=>?_)
refine Zb (fun _=>Za tO (Zd rfl)) fun hsz=>?_
obtain ⟨s,hs⟩:∃ s,r2.1=bs s:=⟨r2.1.data.toList,rfl⟩
have z:(bs s).size=s.length:=rfl
rw [hs] at hsz ⊢
let ⟨A,B,h1,h2,hA,hB⟩:=ZzW s (by omega)
let ⟨q,r1,r2⟩:=rY s (by omega)
refine Za h1 (Za h2 (Za r1 (Za r2 ?_)))
refine Zt (fun k=>Tot (k true) fun r=>r=true) (Zd rfl) fun k hk=>?_
refine Zb (fun _=>Za (ZzX A hA) (Zj (fun _=>Za (ZzY B hB) (Zj (fun _=>?_) nofun)) nofun)) fun h=>absurd rfl h
exact Zb (fun _=>Zj (fun _=>Za tO hk) fun h=>by simp at h) fun h=>absurd rfl h}
end
section
open Go.RowKit Go.ChangeShapes Go.WideShapes Go.Deep
theorem tS {α:Type} (f:Nat->Q2 α):∀ n,(∀ i,i<n->∃ t,f i=some t)->((List.range n).filterMap f).length=n/\∀ i,i<n->((List.range n).filterMap f)[i]? = f i
 | 0,_=>⟨rfl,fun i h=>absurd h (by omega)⟩
 | n+1,h=>by
   obtain ⟨h1,h2⟩:=tS f n fun i hi=>h i (by omega)
   obtain ⟨t,ht⟩:=h n (by omega)
   rw [List.range_succ,List.filterMap_append]
   have e:List.filterMap f [n] = [t]:=by simp [ht]
   rw [e]
   refine ⟨by simp [h1],fun i hi=>?_⟩
   rcases I7 i n with hl | hl
   rw [I2 (by omega)];exact h2 i hl
   obtain rfl:i=n:=by omega
   rw [YP (by omega),h1,ht];simp
section
variable {H:Type} {enc:TypeId×Value->H} {P:Program} {W:World}
def Rd (enc:TypeId×Value->H) (P:Program) (W:World) (T:TypeId) (α:Type) [Enc α]:Prop:=∀ fuel cs x,DataW.trod enc P W 0 (fun _=>true) true fuel T cs=some x->∃ t:α,Enc.RT W t cs
theorem Zzs {T:TypeId} (hT:P.underlying T=some (.int .i64)):Rd enc P W T Int:=fun _ _ _ h=>by
 obtain ⟨n,hc,_⟩:=DataW.trod_int hT h
 exact ⟨n,hc⟩
theorem Zv5 {S E:TypeId} {α:Type} [Enc α] (hS:P.underlying S=some (.slice E)) (hk:P.cellsOf E=Enc.k α) (h0:0<Enc.k α) (hE:Rd enc P W E α):Rd enc P W S (Q3 α):=fun fuel cs x h=>by
 rcases open_slice hS h with ⟨hc,_⟩ | ⟨a,len,cap,m,n,D,Pl,hc,_,hl,hm,hmm,_,hel⟩
 ·exact ⟨[],none,0,0,hc,SlR.nil W⟩
 ·have hm':m=cap:=by simpa using hmm
  have hx:∀ i,∃ (cs':Q3 Value) (t:Q2 α),i<len->∃ t',t=some t'/\Enc.RT W t' cs'/\∀ j v,cs'[j]? = some v->W.cell? (a.add (i * P.cellsOf E+j))=some v:=fun i=>by
   by_cases hi:i<len
   ·obtain ⟨cs',h1,h2⟩:=hel i (by omega)
    obtain ⟨t,ht⟩:=hE _ _ _ h2
    obtain ⟨_,hlen,hcell⟩:=World.cells?_some h1
    refine ⟨cs',some t,fun _=>⟨t,rfl,ht,fun j v hj=>?_⟩⟩
    have hjl:j<P.cellsOf E:=by rw [<- hlen];exact (Yd.1 hj).1
    rw [<- Go.Deep.add_add,hcell j hjl,hj]
   ·exact ⟨[],none,fun h=>absurd h hi⟩
  obtain ⟨css,hx⟩:=Classical.axiomOfChoice hx
  obtain ⟨ts,hx⟩:=Classical.axiomOfChoice hx
  refine ⟨(List.range len).filterMap ts,some a,len,cap,hc,?_⟩
  have hlen:((List.range len).filterMap ts).length=len/\∀ i,i<len->((List.range len).filterMap ts)[i]? = ts i:=tS ts len fun i hi=>by
   obtain ⟨t,ht,_⟩:=hx i hi
   exact ⟨t,ht⟩
  refine ⟨hlen.1.symm,hl,by unfold maxLen at hm;exact hm,fun hpos=>?_⟩
  obtain ⟨t0,_,hR0,hc0⟩:=hx 0 hpos
  have hl0:=Enc.len hR0
  have hcell0:=hc0 0 ((css 0)[0]'(by omega)) (Yc (by omega))
  obtain ⟨b,off,spot⟩:=a
  have hspot:spot=none:=by
   simp only [KZ,DS,Addr.add,if_true] at hcell0
   cases spot with
   | none=>rfl
   | some s=>
     exfalso
     unfold World.cell? at hcell0
     split at hcell0<;>simp at hcell0
  subst hspot
  refine ⟨b,off,css,rfl,trivial,?_,fun i x hi=>?_⟩
  ·simp only [KZ,DS,Addr.add,if_true] at hcell0
   exact DK hcell0
  ·have hil:i<len:=by rw [<- hlen.1];exact (Yd.1 hi).1
   obtain ⟨t,ht,hR,hcell⟩:=hx i hil
   rw [hlen.2 i hil,ht] at hi
   obtain rfl:t=x:=by simpa using hi
   refine ⟨hR,fun j v hj=>?_⟩
   have:=hcell j v hj
   rw [hk] at this
   unfold Addr.add at this
   split at this
   ·rename_i h0;rw [H0,h0];exact this
   ·rw [H0];exact this
end
theorem ZvK:Tryz.prog.cellsOf 3=1:=by kernel_rfl
section
variable {H:Type} {enc:TypeId×Value->H} {W:World}
theorem ZAb:Rd enc Q7 W 3 Int:=Zzs Tryz.underlying3
end
end
section
open VL Go.RowKit Go.ChangeShapes Go.WideShapes
theorem Zz5 {H:Type} {enc:TypeId×Value->H} {W:World}:Rd enc Q7 W 35 (Q3 Int):=Zv5 Tryz.underlying35 ZvK (by decide) ZAb
theorem Zz6 {W:World} (hG:PA W) (W':World) (hb:Below W.heap.size W W'):WInv.I Q7 W':=
 ⟨hG.imp fun _ hm=>re1 hb (DK hm) hm,trivial⟩
end
section
open VL Go.RowKit
theorem Zyc {α:Type} [Enc α] {w:World} {A:Q2 Addr} {n c:Nat} {xs:Q3 α} (h:SlR w A n c xs):xs.length<=9223372036854775807:=by
 obtain ⟨h1,h2,h3,h4⟩:=h
 omega
theorem ZAo {x:Ctx} (i:Nat) (p:PV) (v:Value) (hp:([]:Q3 PV)[i]? = some p) (hv:([]:Q3 Value)[i]? = some v):Rep x p v:=by simp at hp
theorem ZAp {x:Ctx} {p:PV} {v:Value} {ps:Q3 PV} {vs:Q3 Value} (h:Rep x p v) (r:∀ (i:Nat) (p:PV) (v:Value),ps[i]? = some p->vs[i]? = some v->Rep x p v) (i:Nat) (q:PV) (w:Value) (hp:(p::ps)[i]? = some q) (hv:(v::vs)[i]? = some w):Rep x q w:=by
 cases i with
 | zero=>injection hp with hp;injection hv with hv;subst hp hv;exact h
 | succ i=>exact r i q w (by simpa using hp) (by simpa using hv)
theorem ZAq {x:Ctx} {ps:Q3 PV} {vs:Q3 Value} (r:∀ (i:Nat) (p:PV) (v:Value),ps[i]? = some p->vs[i]? = some v->Rep x p v) (i:Nat) (p:PV) (v:Value) (hp:ps[i]? = some p) (hv:vs.toArray[i]? = some v):Rep x p v:=r i p v hp (by simpa using hv)
theorem Zmh {A0:Q2 Addr} {n0 c0:Nat} {l0:Q3 Int} (W:World) (h0:SlR W A0 n0 c0 l0) (hI:∀ W',Below W.heap.size W W'->WInv.I Q7 W') :
  Calls Q7 4 #[.slice A0 n0 c0] W fun e w'=>e = .returned (.bool true)/\Below W.heap.size W w':=
 x7 (Zkw l0 true (ZtL l0 (Zyc h0))) rfl (fun i p v hp hv=>ZAq (vs:=[.slice A0 n0 c0]) (ZAp (xA h0) ZAo) i p v hp hv) hI
end
end Go.Proofs.YtmgfammllddkhaaGreatDoor
namespace Go.Proofs.YtmgfammllddkhaaGreatDoor.lawLinksBuilt
open Go.ChangeShapes Go.WideShapes Go.ChangeAt Go.RowKit
open Go.ChangeMaps (open_string shut_string)
theorem own:ownKnob Tryz.prog.godebug=none:=by kernel_rfl
theorem Zyd:laidOutB Q7=true:=by kernel_rfl
def firstCells:Array Value:=List.toArray (Go.Pinned.utf8FirstZ.map fun (n:Nat)=>Value.int .u8 (n:Int))
def Zr3:Array Value:=#[.int .u8 128,.int .u8 191,.int .u8 160,.int .u8 191,.int .u8 128,.int .u8 159,.int .u8 144,.int .u8 191,.int .u8 128,.int .u8 143,.int .u8 0,.int .u8 0,.int .u8 0,.int .u8 0,.int .u8 0,.int .u8 0,.int .u8 0,.int .u8 0,.int .u8 0,.int .u8 0,.int .u8 0,.int .u8 0,.int .u8 0,.int .u8 0,.int .u8 0,.int .u8 0,.int .u8 0,.int .u8 0,.int .u8 0,.int .u8 0,.int .u8 0,.int .u8 0]
def tT (cs:Array Value):Obj->Obj | .cells _ t frozen=>.cells cs t frozen | o=>o
noncomputable def gE (os:Os):World:={ World.holding Q7 os ⟨#[],#[],[]⟩ with heap:=(((World.holding Q7 os ⟨#[],#[],[]⟩).heap.modify 2 (tT Zr3)).modify 1 (tT firstCells)) }
theorem Zv8 (os:Os):laidMet Q7 Rows.linksBuiltRow.laid ((gE os).forCall (fun _ _=>0) ⟨#[],#[.slice none 0 0],[]⟩).memory:=
 laidMet_of_run' 8 (by kernel_rfl) (by kernel_rfl)
theorem reads (os:Os) {H:Type} (enc:TypeId×Value->H):∃ places,DataW.whole enc Q7 ((gE os).forCall (fun _ _=>0) ⟨#[],#[.slice none 0 0],[]⟩).memory Tryz.f4.params.toList Rows.linksBuiltSpec.vars false #[.slice none 0 0].toList 8 =
  some ([.nil],[],places):=
 ⟨[],by kernel_rfl⟩
theorem Zye {W:World} (h:W.ShapedOpen Q7):PA W:=
 Go.Proofs.cell_of_shapedOpen_int (zero:=#[.int .i64 0]) (t:=3) h (FE (by kernel_rfl)) (by kernel_rfl) rfl (by kernel_rfl) (by kernel_rfl) Tryz.underlying3
theorem contract (H:Type) (enc:TypeId×Value->H) (W:World) (base:Nat) (args:Array Value) (ds gs:Q3 (DataW H)) (before:Q3 MemPlace)
  (hval:∀ (j:Nat) t v,Tryz.f4.params[j]? = some t->args[j]? = some v->Value.okWide Q7 W .any base t v)
  (hW:DataW.Whole enc Q7 Tryz.f4.params.toList Rows.linksBuiltSpec.vars false W args.toList ds gs before) (hsh:W.ShapedOpen Q7) :
  Calls Q7 4 args W fun e W'=>∃ v,e = .returned v/\Rows.linksBuiltSpec.post enc Q7 Tryz.f4 false true false false W args v W':=by{
have hW':=hW
obtain ⟨p,q,hA0,hV,rfl,hfz,hnd⟩:=hW
have hA:DataW.TrodAll enc Q7 W 0 (fun _=>true) true Tryz.f4.params.toList args.toList ds p:=hA0
rw [Tryz.params4] at hA hval
obtain ⟨v0,vs0,d0,ds0,p0,q0,hargs,rfl,rfl,h0,r0⟩:=trodAll_cons hA
obtain ⟨rfl,rfl,rfl⟩:=trodAll_nil r0
obtain rfl:args = #[v0]:=by cases args;simp_all
obtain ⟨rfl,rfl⟩:=trodVars_none hV
have k0:=h0
have lt0:∀ x ∈ p0,x.block<W.heap.size:=by obtain ⟨m,hm⟩:=k0;exact DataW.trod_lt m _ _ _ hm
obtain ⟨fuel0,hf0⟩:=h0
obtain ⟨a0,len0,cap0,rfl⟩:=okWide_slice Tryz.underlying35 (hval 0 35 v0 rfl rfl)
let ⟨t0,A0,n0,c0,hc0,hs0⟩:=Zz5 _ _ _ hf0
cases hc0
clear hA0
refine (Zmh W hs0 (Zz6 (Zye hsh))).mono fun e W' ⟨he,bel⟩=>?_
subst he
exact ⟨_,rfl,_,_,_,[],_,[],hW',trodAll_mk1 (shut_bool Tryz.underlying4 _),
 (trodAll_cons_mk (Below.trod Zyd (by kernel_rfl) (FE (by kernel_rfl)) k0 bel lt0) trodAll_mk0),rfl,bel.frame _,nofun⟩}
theorem lifted (os:Os) (started:os.Started) (H:Type) (enc:TypeId×Value->H) (F:Stop.Interp) :
  ReturnsInHanded {} Tryz.checked os 4 .any ((OpenSpec.ofChange Rows.linksBuiltSpec).preRow enc Q7 Tryz.f4 Rows.linksBuiltRow.domain false Rows.linksBuiltRow.laid) (((OpenSpec.ofChange Rows.linksBuiltSpec).at F).post enc Q7 Tryz.f4 false true false false):=by{
let ⟨places,hx⟩:=reads os enc
refine returnsInHanded_of_row (C:=Tryz.checked) (s:=(OpenSpec.ofChange Rows.linksBuiltSpec)) own started (by kernel_rfl) Tryz.func4
 (witness_row_at (enc:=enc) (C:=Tryz.checked) false (gE os) #[.slice none 0 0] rfl (by kernel_rfl) (by kernel_rfl) (by kernel_rfl)
  (OpenSpec.preRow_of_cond 8 hx (by kernel_rfl) (fun k hk=>by cases hk) (by kernel_rfl) (Zv8 os))) ?_
intro W base args ds gs before hval hW _ _ _ _ hsh _
exact contract H enc W base args ds gs before hval hW hsh}
theorem Zv9:(Rows.linksBuiltRow.inPlace == Tryz.pinned.checked.prog.inPlace 4)=true:=by kernel_rfl
theorem Zwa:(Rows.linksBuiltRow.unfollowed == Tryz.pinned.checked.prog.unfollowed 4)=true:=by kernel_rfl
theorem Zwb:(Rows.linksBuiltRow.recurses == Tryz.pinned.checked.prog.recurses 4)=true:=by kernel_rfl
theorem Zwc:(Rows.linksBuiltRow.named == Tryz.pinned.checked.prog.varsNamed 4)=true:=by kernel_rfl
theorem closed:joinedFacts Tryz.pinned.checked.prog 4 Tryz.f4 (OpenSpec.ofChange Rows.linksBuiltSpec).bare Rows.linksBuiltRow=true:=by
 unfold joinedFacts
 rw [Zv9,Zwa,Zwb,Zwc]
 kernel_rfl
theorem said:Rows.LinksBuiltSaid:=
 OpenClaim.holds_of_cond 4 Tryz.f4 rfl rfl rfl rfl rfl rfl rfl ⟨rfl,rfl,rfl,rfl,rfl⟩ rfl rfl rfl rfl rfl (by kernel_rfl) Tryz.func4 closed
  (FE (by kernel_rfl)) (by unfold Func.isWrapper;first | (rw [if_pos (by decide +kernel)];kernel_rfl) | (rw [if_neg (by decide +kernel)];exact ⟨rfl,rfl⟩))
  (fun os started H enc _ F=>by rw [OpenClaim.pre_eq_preRow];exact lifted os started H enc F)
theorem ZpX (f:FuncId) (fn:Func) (hf:Tryz.pinned.checked.prog.funcNamed "transclude/trclaw14.LinksBuilt" = some f) (hfn:Tryz.pinned.checked.prog.funcs[f]? = some fn) :
  false=Tryz.pinned.checked.prog.looks []/\∀ (j:Nat) t,fn.params[j]? = some t->Tryz.pinned.checked.prog.wantsStandIn t=false:=by{
obtain rfl:f=4:=D7 ((show Tryz.prog.funcNamed "transclude/trclaw14.LinksBuilt" = some 4 by kernel_rfl).symm.trans hf) |>.symm
obtain rfl:fn=Tryz.f4:=(D7 (Tryz.func4.symm.trans hfn)).symm
refine ⟨by kernel_rfl,fun j t ht=>?_⟩
rw [Tryz.params4] at ht
have hm:t ∈ [35]:=by simpa using Array.mem_of_getElem? ht
have hall:([35].all fun u=>!Tryz.prog.wantsStandIn u)=true:=by kernel_rfl
exact (show Tryz.prog.wantsStandIn t=false by simpa using Yq.1 hall t hm)}
theorem card:Rows.LinksBuiltCardSaid:=
 Claim7.holds_tied_plain_at .later [] _ _ _ _ said (fun _ h=>by cases h) (by kernel_rfl) (fun _ h=>by cases h) linksBuilt_row_tie rfl ⟨rfl,rfl⟩ (by kernel_rfl) rfl ZpX (by kernel_rfl)
#print axioms card
end Go.Proofs.YtmgfammllddkhaaGreatDoor.lawLinksBuilt
