/- What the reference and the program make of targets: ends, -/
import Derived.Test.YtmgfammllddkhaaGreatDoorCO14
import Derived.Shelf.SlSortCmp.NoneTotal
set_option linter.unusedSimpArgs false
set_option maxRecDepth 100000
set_option linter.unusedVariables false
set_option maxHeartbeats 4000000
namespace Go.Proofs.YtmgfammllddkhaaGreatDoor
section
open VL
def QI (o:Q2 Nat):Int:=match o with | none=>-1 | some n=>(n:Int)
theorem u8i {c k:Q4} {n:Int} (hn:n=(k.toNat:Int)):((c.toNat:Int)=n)↔c=k:=by
 subst hn
 exact ⟨fun h=>GM.1 (by omega),fun h=>by rw [h]⟩
theorem KS {s:Q3 Q4} {n:Nat} (h:n<s.length):∃ c,s[n]? = some c/\s.drop n=c::s.drop (n+1)/\(s.drop (n+1)).head? = s[n+1]?:=
 ⟨s[n],Yc h,Yt h,by rw [List.head?_drop]⟩
theorem eM (r:Q3 Q4) (h:r.length<=1000000):PY (bs r)=some (QI (BE r)):=by{
refine ZI ?_
unfold PY
have z:(bs r).size=r.length:=rfl
refine ZF (fun i=>∃ n:Nat,i=(n:Int)/\n<=r.length/\BE r=(BE (r.drop n)).map (· + n)) (fun i=>r.length-i.toNat) ⟨0,rfl,YJ _,by simp⟩ (by omega) ?_
rintro i rec ⟨n,rfl,hn,he⟩ ih
by_cases hl:n<r.length
refine Zc (fun _=>?_) fun h=>absurd (by omega) h
obtain ⟨x,hc,hd,hh⟩:=KS hl
rw [hd] at he
have hu:BE (x::r.drop (n+1))=if stop x (r.drop (n+1)) then some 0 else (BE (r.drop (n+1))).map (· + 1):=rfl
rw [hu] at he
refine Zt (fun q=>(stop x (r.drop (n+1))->Tot (q true) fun z=>z=QI (BE r))/\(¬ stop x (r.drop (n+1))->Tot (q false) fun z=>z=QI (BE r))) ⟨fun hs=>Zi (fun _=>Zd ?_) nofun,fun hs=>Zi nofun fun _=>?_⟩ fun k hk=>?_
rw [he,if_pos hs]
simp [QI]
rw [if_neg hs] at he
rw [ZK]
refine ih _ ⟨n+1,by omega,hl,?_⟩ (by omega)
rw [he,Option.map_map]
congr 1
funext m
simp only [Function.comp]
omega
refine Za (BC hc) (Zc (fun h=>hk.1 (.inl ((u8i (k:=124) (n:=124) rfl).1 h))) fun h124=>?_)
refine Za (BC hc) (Zc (fun h93=>?_) fun h93=>hk.2 ?_)
have hw:w64 ((n:Int)+1)=((n+1:Nat):Int):=by rw [ZK];omega
rw [hw]
refine Zc (fun hlt=>?_) fun hge=>hk.2 ?_
obtain ⟨y,hy,_⟩:=KS (s:=r) (n:=n+1) (by omega)
refine Za (BC hy) ?_
by_cases h2:y=93
rw [Yh ((u8i (k:=93) (n:=93) rfl).2 h2)]
exact hk.1 (.inr ⟨(u8i (k:=93) (n:=93) rfl).1 h93,by rw [hh,hy,h2]⟩)
rw [Yf fun h=>h2 ((u8i (k:=93) (n:=93) rfl).1 h)]
refine hk.2 ?_
rintro (h | ⟨_,h⟩)
exact h124 ((u8i (k:=124) (n:=124) rfl).2 h)
rw [hh,hy] at h
exact h2 (DB h)
rintro (h | ⟨_,h⟩)
exact h124 ((u8i (k:=124) (n:=124) rfl).2 h)
rw [hh,YZ (by omega)] at h
cases h
rintro (h | ⟨h,_⟩)
exact h124 ((u8i (k:=124) (n:=124) rfl).2 h)
exact h93 ((u8i (k:=93) (n:=93) rfl).2 h)
refine Zc (fun h=>absurd h (by omega)) fun _=>Zd ?_
rw [YI (by omega)] at he
rw [he]
rfl}
def FC (s:Q3 Q4) (i:Nat):Q1×Int×Bool:=match L9 (s.drop i) with | none=>(⟨#[]⟩,0,false) | some n=>(bs ((s.drop i).take n),((i+n:Nat):Int),true)
theorem oB (c d:Q4) (l:Q3 Q4) (h:d=c):([c,c]:Q3 Q4).isPrefixOf (d::l)=decide (l.head? = some c):=by{
subst h
cases l with
| nil=>simp [List.isPrefixOf]
| cons e l=>by_cases he:e=d<;>simp [List.isPrefixOf,he,JZ]}
theorem oC {c d:Q4} (l:Q3 Q4) (h:¬ d=c):([c,c]:Q3 Q4).isPrefixOf (d::l)=false:=by
 simp [List.isPrefixOf,JZ,h]
theorem oD (s:Q3 Q4) (i:Nat) (hi:i<=s.length) (h:s.length<=1000000):NL (bs s) (i:Int)=some (FC s i):=by{
refine ZI ?_
unfold NL
have z:(bs s).size=s.length:=rfl
refine ZF (fun x=>∃ n:Nat,x=((i+n:Nat):Int)/\i+n<=s.length/\L9 (s.drop i)=(L9 (s.drop (i+n))).map (· + n)) (fun x=>s.length-x.toNat) ⟨0,rfl,by omega,by simp⟩ (by omega) ?_
rintro x rec ⟨n,rfl,hn,he⟩ ih
by_cases hl:i+n<s.length
refine Zc (fun _=>?_) fun h=>absurd (by omega) h
obtain ⟨x,hc,hd,hh⟩:=KS hl
rw [hd] at he
have hu:L9 (x::s.drop (i+n+1))=if stop x (s.drop (i+n+1)) then some 0 else if halt x (s.drop (i+n+1)) then none else (L9 (s.drop (i+n+1))).map (· + 1):=rfl
rw [hu] at he
have a91:=PS s [91,91] (i+n) (by omega) h
have a93:=PS s [93,93] (i+n) (by omega) h
rw [hd] at a91 a93
refine Zt (fun q=>(stop x (s.drop (i+n+1))->Tot (q true) fun z=>z=FC s i)/\(¬ stop x (s.drop (i+n+1))->Tot (q false) fun z=>z=FC s i)) ⟨fun hs=>Zi (fun _=>?_) nofun,fun hs=>Zi nofun fun _=>?_⟩ fun k hk=>?_
rw [if_pos hs] at he
refine Za (GD s i (i+n) (by omega) (by omega)) (Zd ?_)
unfold FC
rw [he]
simp only [Yo,YY]
rw [show (s.take (i+n)).drop i=(s.drop i).take n by rw [L4];congr 1;omega]
rw [if_neg hs] at he
refine Zt (fun q=>(halt x (s.drop (i+n+1))->Tot (q true) fun z=>z=FC s i)/\(¬ halt x (s.drop (i+n+1))->Tot (q false) fun z=>z=FC s i)) ⟨fun hs=>Zi (fun _=>Zd ?_) nofun,fun hs=>Zi nofun fun _=>?_⟩ fun k2 hk2=>?_
rw [if_pos hs] at he
unfold FC
rw [he]
rfl
rw [if_neg hs] at he
rw [ZK]
refine ih _ ⟨n+1,by omega,by omega,?_⟩ (by omega)
rw [he,Option.map_map,show i+(n+1)=i+n+1 by omega]
congr 1
funext m
simp only [Function.comp]
omega
refine Za (BC hc) (Zc (fun h=>hk2.1 (.inl ((u8i (k:=10) (n:=10) rfl).1 h))) fun h10=>Za a91 ?_)
by_cases h91:x=91
rw [oB 91 x _ h91]
by_cases h2:(s.drop (i+n+1)).head? = some 91
rw [Yh h2]
exact hk2.1 (.inr ⟨h91,h2⟩)
rw [Yf h2]
refine hk2.2 ?_
rintro (h | ⟨_,h⟩)
exact h10 ((u8i (k:=10) (n:=10) rfl).2 h)
exact h2 h
rw [oC _ h91]
refine hk2.2 ?_
rintro (h | ⟨h,_⟩)
exact h10 ((u8i (k:=10) (n:=10) rfl).2 h)
exact h91 h
refine Za (BC hc) (Zc (fun h=>hk.1 (.inl ((u8i (k:=124) (n:=124) rfl).1 h))) fun h124=>Za a93 ?_)
by_cases h93:x=93
rw [oB 93 x _ h93]
by_cases h2:(s.drop (i+n+1)).head? = some 93
rw [Yh h2]
exact hk.1 (.inr ⟨h93,h2⟩)
rw [Yf h2]
refine hk.2 ?_
rintro (h | ⟨_,h⟩)
exact h124 ((u8i (k:=124) (n:=124) rfl).2 h)
exact h2 h
rw [oC _ h93]
refine hk.2 ?_
rintro (h | ⟨h,_⟩)
exact h124 ((u8i (k:=124) (n:=124) rfl).2 h)
exact h93 h
refine Zc (fun h=>absurd h (by omega)) fun _=>Zd ?_
have hnil:s.drop (i+n) = []:=YI (by omega)
rw [hnil] at he
unfold FC
rw [he]
rfl}
def B8 (t:Q3 Q4):Q3 Q4:=if 0<=Lib.index t [35] then t.take (Lib.index t [35]).toNat else t
theorem X7 (t:Q3 Q4):(B8 t).length<=t.length:=by{
unfold B8
split
rw [YE];omega
exact Yn _}
theorem eN (t:Q3 Q4) (h:t.length<=1000000):JM (bs t) ⟨#[35]⟩=some (bs (B8 t)):=by{
refine ZI ?_
unfold JM
refine Za (WK t [35] 0 (by simp) (by decide) (YJ _) h) ?_
unfold KE B8
rw [MK]
have hle:=Lib.index_le t [35]
have hge:=Lib.index_ge t [35]
generalize Lib.index t [35]=q at hle hge ⊢
by_cases hq:q<0
have e1:(if q<0 then (-1:Int) else ((0:Nat):Int)+q) = -1:=if_pos hq
have e2:(if 0<=q then t.take q.toNat else t)=t:=if_neg (by omega)
rw [e1,e2]
exact Zc (fun h=>absurd h (by decide)) fun _=>Zd rfl
have e1:(if q<0 then (-1:Int) else ((0:Nat):Int)+q)=((0:Nat):Int)+q:=if_neg hq
have e2:(if 0<=q then t.take q.toNat else t)=t.take q.toNat:=if_pos (by omega)
rw [e1,e2]
refine Zc (fun _=>?_) fun h=>absurd (by omega) h
rw [show ((0:Nat):Int)+q=(q.toNat:Int) by omega]
exact Za (GD t 0 q.toNat (YJ _) (by omega)) (Zd (by rw [MK]))}
theorem X8 (t:Q3 Q4) (h:t.length<=300000):NB (bs t)=some (BF (B8 t)):=by{
refine ZI ?_
unfold NB
have z:(bs t).size=t.length:=rfl
have hc:strings_Cut (bs t) ⟨#[35]⟩=some (bs (Lib.cut t [35]).1,bs (Lib.cut t [35]).2.1,(Lib.cut t [35]).2.2):=by
 unfold strings_Cut
 rw [if_pos (by omega)]
 rfl
have e1:(Lib.cut t [35]).1=B8 t:=by
 unfold Lib.cut B8
 split<;>rfl
refine Za hc ?_
rw [e1]
exact Za (Znd _ (YX (X7 t) h)) (Zd rfl)}
def GF (t:Q3 Q4):Bool:=([58]:Q3 Q4).isPrefixOf (t.dropWhile cutU.contains)
theorem oE (c:Q4):cutU.contains c=true↔c=32\/c=95\/c=9:=by{
unfold cutU
simp
constructor
rintro (h | h | h)<;>simp [h]
rintro (h | h | h)<;>simp [h]}
theorem ZyW (t:Q3 Q4) (h:t.length<=1000000):∃ n:Nat,PJ (bs t) true=some (n:Int)/\n<=t.length/\t.drop n=t.dropWhile cutU.contains:=by{
have z:(bs t).size=t.length:=rfl
have:Tot (PJ (bs t) true) fun x=>∃ n:Nat,x=(n:Int)/\n<=t.length/\t.drop n=t.dropWhile cutU.contains:=by
 unfold PJ
 refine ZF (fun x=>∃ n:Nat,x=(n:Int)/\n<=t.length/\t.dropWhile cutU.contains=(t.drop n).dropWhile cutU.contains) (fun x=>t.length-x.toNat) ⟨0,rfl,YJ _,rfl⟩ (by omega) ?_
 rintro x rec ⟨n,rfl,hn,he⟩ ih
 refine Zt (fun q=>((∃ c l,t.drop n=c::l/\cutU.contains c=true)->Tot (q true) fun x=>∃ n:Nat,x=(n:Int)/\n<=t.length/\t.drop n=t.dropWhile cutU.contains)/\((t.drop n).dropWhile cutU.contains=t.drop n->Tot (q false) fun x=>∃ n:Nat,x=(n:Int)/\n<=t.length/\t.drop n=t.dropWhile cutU.contains)) ⟨fun ⟨c,l,h1,h2⟩=>Zi (fun _=>?_) nofun,fun h1=>Zi nofun fun _=>Zd ⟨n,rfl,hn,by rw [he,h1]⟩⟩ fun k hk=>?_
 have hlt:n<t.length:=by
  have:(t.drop n).length=l.length+1:=by rw [h1];rfl
  rw [Yx] at this
  omega
 rw [ZK]
 refine ih _ ⟨n+1,by omega,hlt,?_⟩ (by omega)
 rw [he,h1,O5 h2,<- JU,h1]
 rfl
 by_cases hlt:n<t.length
 obtain ⟨c,hc,hd,_⟩:=KS hlt
 refine Zc (fun _=>?_) fun h=>absurd (by omega) h
 have yes:(c=32\/c=95\/c=9)->Tot (k true) _:=fun h=>hk.1 ⟨c,_,hd,(oE c).2 h⟩
 refine Za (BC hc) (Zc (fun h=>yes (.inl ((u8i (k:=32) (n:=32) rfl).1 h))) fun h32=>?_)
 refine Za (BC hc) (Zc (fun h=>yes (.inr (.inl ((u8i (k:=95) (n:=95) rfl).1 h)))) fun h95=>?_)
 refine Zi (fun _=>Za (BC hc) ?_) nofun
 by_cases h9:c=9
 rw [Yh ((u8i (k:=9) (n:=9) rfl).2 h9)]
 exact yes (.inr (.inr h9))
 rw [Yf fun h=>h9 ((u8i (k:=9) (n:=9) rfl).1 h)]
 refine hk.2 ?_
 rw [hd,O6]
 intro hh
 rcases (oE c).1 hh with h | h | h
 exact h32 ((u8i (k:=32) (n:=32) rfl).2 h)
 exact h95 ((u8i (k:=95) (n:=95) rfl).2 h)
 exact h9 h
 refine Zc (fun h=>absurd h (by omega)) fun _=>hk.2 ?_
 rw [YI (by omega)]
 rfl
obtain ⟨_,h1,n,rfl,h2,h3⟩:=this
exact ⟨n,h1,h2,h3⟩}
theorem ZxJ (t:Q3 Q4) (h:t.length<=1000000):TO (bs t)=some (GF t):=by{
obtain ⟨n,h1,h2,h3⟩:=ZyW t h
have z:(bs t).size=t.length:=rfl
refine ZI ?_
unfold TO
refine Za h1 (Zt (fun q=>∀ b,b=GF t->Tot (q b) fun z=>z=GF t) (fun b hb=>Zd hb) fun k hk=>?_)
unfold GF at hk ⊢
rw [<- h3] at hk ⊢
by_cases hlt:n<t.length
obtain ⟨c,hc,hd,_⟩:=KS hlt
refine Zc (fun _=>Za (BC hc) (hk _ ?_)) fun h=>absurd (by omega) h
rw [hd]
show decide ((c.toNat:Int)=58)=((58:Q4) == c&&true)
rw [MM,JZ]
exact decide_eq_decide.2 (u8i (k:=58) (n:=58) rfl)
refine Zc (fun h=>absurd h (by omega)) fun _=>hk _ ?_
rw [YI (by omega)]
rfl}
theorem ZvF (t:Q3 Q4):((LV (bs t) ⟨#[9,32,95]⟩).bind fun r60=>ZR r60 ⟨#[58]⟩)=some (GF t):=by
 unfold LV
 rw [if_neg (by decide),if_pos rfl]
 exact IM (t.dropWhile cutU.contains) [58]
def DZ (t:Q3 Q4):Q3 Q4:=(FJ cutW.contains t).dropWhile cutW.contains
theorem eO (t:Q3 Q4) (h:t.length<=1000000):PX (bs t)=some (bs (DZ t)):=by{
have z:(bs t).size=t.length:=rfl
have e:T9 (bs t) ⟨#[9,10,13,32]⟩=some (DY cutW (F5 cutW (bs t))):=by
 unfold T9
 rw [if_pos ⟨by omega,rfl⟩]
have e2:DY cutW (F5 cutW (bs t))=bs (DZ t):=by
 unfold DZ
 rw [<- RV]
 rfl
unfold PX
rw [e,e2]
rfl}
theorem oF (c:Q4):PL (c.toNat:Int)=some (cutW.contains c):=by{
refine ZI ?_
unfold PL
have hi:cutW.contains c=true↔c=9\/c=10\/c=13\/c=32:=by unfold cutW;simp
refine Zt (fun q=>∀ b,b=cutW.contains c->Tot (q b) fun z=>z=cutW.contains c) (fun b hb=>Zd hb) fun k hk=>?_
have yes:(c=9\/c=10\/c=13\/c=32)->Tot (k true) fun z=>z=cutW.contains c:=fun h=>hk true (hi.2 h).symm
refine Zc (fun h=>yes (.inl ((u8i (k:=9) (n:=9) rfl).1 h))) fun h9=>Zc (fun h=>yes (.inr (.inl ((u8i (k:=10) (n:=10) rfl).1 h)))) fun h10=>Zc (fun h=>yes (.inr (.inr (.inl ((u8i (k:=13) (n:=13) rfl).1 h))))) fun h13=>?_
by_cases h32:c=32
rw [Yh ((u8i (k:=32) (n:=32) rfl).2 h32)]
exact yes (.inr (.inr (.inr h32)))
rw [Yf fun h=>h32 ((u8i (k:=32) (n:=32) rfl).1 h)]
refine hk false ?_
cases hb:cutW.contains c with
| false=>rfl
| true=>
  rcases hi.1 hb with h | h | h | h
  exact absurd ((u8i (k:=9) (n:=9) rfl).2 h) h9
  exact absurd ((u8i (k:=10) (n:=10) rfl).2 h) h10
  exact absurd ((u8i (k:=13) (n:=13) rfl).2 h) h13
  exact absurd h h32}
theorem oG (p:Q4->Bool) (l:Q3 Q4) (c:Q4):FJ p (l ++ [c])=if p c=true then FJ p l else l ++ [c]:=by{
rw [<- RV,O9,List.reverse_singleton,Y3]
by_cases h:p c=true
rw [O5 h,RV,if_pos h]
rw [O6 h,if_neg h]
simp}
theorem oH (t:Q3 Q4) (h:t.length<=1000000):PM (bs t)=some (bs (DZ t)):=by{
refine ZI ?_
unfold PM
refine ZF (fun x=>∃ u:Q3 Q4,x=bs u/\u.length<=t.length/\u.dropWhile cutW.contains=t.dropWhile cutW.contains) (fun x=>x.size) ⟨t,rfl,Yn _,rfl⟩ (by have:(bs t).size=t.length:=rfl;omega) ?_
rintro x rec ⟨u,rfl,hu,he⟩ ih
have z:(bs u).size=u.length:=rfl
refine Zt (fun q=>((∃ c l,u=c::l/\cutW.contains c=true)->Tot (q true) fun z=>z=bs (DZ t))/\(u.dropWhile cutW.contains=u->Tot (q false) fun z=>z=bs (DZ t))) ⟨fun ⟨c,l,h1,h2⟩=>Zi (fun _=>?_) nofun,fun h1=>Zi nofun fun _=>?_⟩ fun k hk=>?_
subst h1
rw [O5 h2] at he
refine Za (F4 (c::l) 1 (by simp)) (ih _ ⟨l,rfl,by simp at hu;omega,he⟩ ?_)
show l.length<(c::l).length
simp
have et:FJ cutW.contains u=DZ t:=by
 unfold DZ
 rw [g9,<- he,h1]
refine ZF (fun x=>∃ v:Q3 Q4,x=bs v/\v.length<=u.length/\FJ cutW.contains v=FJ cutW.contains u) (fun x=>x.size) ⟨u,rfl,Yn _,rfl⟩ (by omega) ?_
rintro x rec2 ⟨v,rfl,hv,hev⟩ ih2
have zv:(bs v).size=v.length:=rfl
refine Zt (fun q=>((∃ l c,v=l ++ [c]/\cutW.contains c=true)->Tot (q true) fun z=>z=bs (DZ t))/\(FJ cutW.contains v=v->Tot (q false) fun z=>z=bs (DZ t))) ⟨fun ⟨l,c,h1,h2⟩=>Zi (fun _=>?_) nofun,fun h1=>Zi nofun fun _=>Zd (by rw [<- et,<- hev,h1])⟩ fun k hk=>?_
subst h1
rw [Yb,YC] at hv
have hlen:(bs (l ++ [c])).size=l.length+1:=by rw [zv];simp
rw [hlen,ZK,show ((l.length+1:Nat):Int)-1=(l.length:Int) by omega]
refine Za (GD (l ++ [c]) 0 l.length (YJ _) (by simp)) (ih2 _ ⟨l,by rw [ML];rfl,by omega,?_⟩ ?_)
rw [<- hev,oG,if_pos h2]
show ((l ++ [c]).take l.length).length<_
rw [ML,hlen]
omega
by_cases hv0:v = []
subst hv0
exact Zc (fun h=>absurd h (by decide)) fun _=>hk.2 rfl
obtain ⟨l,c,rfl⟩:∃ l c,v=l ++ [c]:=⟨v.dropLast,v.getLast hv0,(XZ hv0).symm⟩
rw [Yb,YC] at hv
have hlen:(bs (l ++ [c])).size=l.length+1:=by rw [zv];simp
rw [hlen,ZK,show ((l.length+1:Nat):Int)-1=(l.length:Int) by omega]
refine Zc (fun _=>?_) fun h=>absurd (by omega) h
refine Za (BC (c:=c) (by simp)) (Za (oF c) ?_)
cases hb:cutW.contains c with
| true=>exact hk.1 ⟨l,c,rfl,hb⟩
| false=>exact hk.2 (by rw [oG,if_neg (by rw [hb];decide)])
cases u with
| nil=>exact Zc (fun h=>absurd h (by decide)) fun _=>hk.2 rfl
| cons c l=>
  refine Zc (fun _=>?_) fun h=>absurd (by rw [z,Yr];omega) h
  refine Za (BC (L:=c::l) (n:=0) rfl) (Za (oF c) ?_)
  cases hb:cutW.contains c with
  | true=>exact hk.1 ⟨c,l,rfl,hb⟩
  | false=>exact hk.2 (by rw [O6 (by rw [hb];decide)])}
def MB:Q3 Q4->Q1 | []=>⟨#[]⟩ | c::l=>if c=124 then (if Lib.index l [93,93]<0 then ⟨#[]⟩ else bs (DZ (l.take (Lib.index l [93,93]).toNat))) else ⟨#[]⟩
theorem oI (c:Q4) (l:Q3 Q4):MB (c::l)=if c=124 then (if Lib.index l [93,93]<0 then ⟨#[]⟩ else bs (DZ (l.take (Lib.index l [93,93]).toNat))) else ⟨#[]⟩:=rfl
theorem ZzD (c:Q4) (l:Q3 Q4) (h:(c::l).length<=1000000):PZ (bs (c::l))=some (MB (c::l)):=by{
refine ZI ?_
unfold PZ
rw [oI]
rw [Yr] at h
have z:(bs l).size=l.length:=rfl
refine Za (BC (L:=c::l) (n:=0) rfl) (CM (fun hc=>?_) fun hc=>?_)
rw [if_neg fun e=>hc ((u8i (k:=124) (n:=124) rfl).2 e)]
exact Zd rfl
rw [if_pos ((u8i (k:=124) (n:=124) rfl).1 hc)]
have hcut:strings_Cut (bs l) ⟨#[93,93]⟩=some (bs (Lib.cut l [93,93]).1,bs (Lib.cut l [93,93]).2.1,(Lib.cut l [93,93]).2.2):=by
 unfold strings_Cut
 rw [if_pos (by omega)]
 rfl
refine Za (F4 (c::l) 1 (by simp)) (Za hcut ?_)
by_cases hi:0<=Lib.index l [93,93]
have e1:Lib.cut l [93,93]=(l.take (Lib.index l [93,93]).toNat,l.drop ((Lib.index l [93,93]).toNat+2),true):=by
 unfold Lib.cut
 rw [if_pos hi]
 rfl
have e2:(if Lib.index l [93,93]<0 then (⟨#[]⟩:Q1) else bs (DZ (l.take (Lib.index l [93,93]).toNat)))=bs (DZ (l.take (Lib.index l [93,93]).toNat)):=if_neg (by omega)
rw [e1,e2]
refine Zi nofun fun _=>Za (eO _ (by rw [YE];omega)) (Zd rfl)
have e1:Lib.cut l [93,93]=(l,[],false):=by
 unfold Lib.cut
 rw [if_neg hi]
have e2:(if Lib.index l [93,93]<0 then (⟨#[]⟩:Q1) else bs (DZ (l.take (Lib.index l [93,93]).toNat)))=⟨#[]⟩:=if_pos (by omega)
rw [e1,e2]
exact Zi (fun _=>Zd rfl) nofun}
theorem ZzE (s:Q3 Q4) (k:Nat) (hk:k<s.length) (h:s.length<=1000000):TP (bs s) (k:Int)=some (MB (s.drop k)):=by{
obtain ⟨c,hc,hd,_⟩:=KS hk
refine ZI ?_
unfold TP
rw [hd,oI]
refine Za (BC hc) (CM (fun hc=>?_) fun hc=>?_)
rw [if_neg fun e=>hc ((u8i (k:=124) (n:=124) rfl).2 e)]
exact Zd rfl
rw [if_pos ((u8i (k:=124) (n:=124) rfl).1 hc)]
have hw:w64 ((k:Int)+1)=((k+1:Nat):Int):=by rw [ZK];omega
rw [hw]
refine Za (WK s [93,93] (k+1) (by simp) (by decide) hk h) ?_
unfold KE
have hle:=Lib.index_le (s.drop (k+1)) [93,93]
rw [Yx] at hle
generalize Lib.index (s.drop (k+1)) [93,93]=q at hle ⊢
by_cases hq:q<0
rw [if_pos hq,if_pos hq]
exact Zc (fun _=>Zd rfl) fun h=>absurd (by decide) h
rw [if_neg hq,if_neg hq]
refine Zc (fun h=>absurd h (by omega)) fun _=>?_
rw [show ((k+1:Nat):Int)+q=((k+1+q.toNat:Nat):Int) by omega]
refine Za (GD s (k+1) (k+1+q.toNat) (by omega) (by omega)) ?_
rw [show (s.take (k+1+q.toNat)).drop (k+1)=(s.drop (k+1)).take q.toNat by rw [L4];congr 1;omega]
exact Za (oH _ (by rw [YE,Yx];omega)) (Zd rfl)}
end
namespace VL
open Go.RowKit Go.Sort
theorem Zld {P:Program} [WInv P] {f g:FuncId} {E k:Nat} {els els':Q3 (Q3 PV)} (hg:isGo P f=true) (len:∀ e ∈ els',e.length=k) (pure:∀ e ∈ els',∀ p ∈ e,p.pure=true) (plain:(BU els.flatten).isSome=true)
  (calls:∀ (W:World) (v:Value) (vs:Q3 Value),W.ownsRow 0 E k v els.length vs->BU els.flatten=some vs->Calls P f #[v,.func (.func g) #[] #[]] W fun e W'=>
   ∃ vs',e = .returned (.tuple #[])/\BU els'.flatten=some vs'/\W'.ownsRow 0 E k v els'.length vs'/\Gr (fun b=>blk v=some b) W W'):ContractR P f [.fn g []] E k els (.tup []) els':=by{
refine ⟨hg,fun x vs hpre hinv=>?_⟩
have hsz:2=vs.size:=hpre.size
obtain ⟨v,u,rfl⟩:∃ v u,vs = #[v,u]:=by
 obtain ⟨l⟩:=vs
 match l,hsz with
 | [v,u],_=>exact ⟨v,u,rfl⟩
have r0:=hpre.rep 0 _ v rfl rfl
have r1:=hpre.rep 1 _ u rfl rfl
obtain ⟨hG,hO⟩:=hpre.ob
obtain ⟨h1,h2,ws,h3,h4,h5⟩:=hO
have hρ:x.ρ (0,0)=v:=by cases r0 with | row _ _ A n c _ hvv=>exact hvv
obtain rfl:u = .func (.func g) #[] #[]:=by
 cases r1 with
 | fn _ _ cs hl _=>
   have:cs = #[]:=Array.eq_empty_of_size_eq_zero hl.symm
   rw [this]
rw [hρ] at h3
obtain ⟨vs0,hp0⟩:=RE.1 plain
have hvs:ws=vs0:=aG _ hp0 ws (by rw [BQ els h1];exact h3.1.symm) h4
rw [<- hvs] at hp0
refine (calls x.W v ws h3 hp0).mono ?_
rintro e' W' ⟨vs',rfl,hp',hown',hgr⟩
have hnF:∀ b o,x.F b o->¬ blk v=some b:=fun b o hF hb=>by
 have:=((h5 b (by rw [hρ];exact hb)).2 o hF).1
 cases this
have hD:∀ b,¬ Dr x b->¬ blk v=some b:=fun b hb e=>hb (by unfold Dr;rw [hρ];exact e)
refine ⟨⟨x.G,x.F,W',x.ρ⟩,.tuple #[],rfl,rfl,⟨⟨fun _ h=>⟨h,rfl⟩,fun _ _ h=>h,fun b o w hF hw=>(World.cell?_of_block (hgr.block b (hpre.flt b o hF) (hnF b o hF))).trans hw⟩,⟨hgr.os,hgr.tape,hgr.output,hgr.size,fun b hb hn=>hgr.block b hb (hD b hn)⟩,fun _ _ h=>.inl h,fun b o hb=>YU (hpre.flt b o hb) hgr.size,.tup [] #[] rfl (fun i p v hp=>by simp at hp),⟨len,pure,vs',?_,fun m p w hm hw=>?_,fun b hb=>⟨(h5 b hb).1,fun o ho=>absurd ((h5 b hb).2 o ho).1 (by simp)⟩⟩⟩⟩
show W'.ownsRow 0 E k (x.ρ (0,0)) els'.length vs'
rw [hρ]
exact hown'
obtain ⟨w2,h6,h7⟩:=SF hp' hm
rw [hw] at h6
injection h6 with h6
subst h6
rw [<- h7]
exact UU _ w}
section
variable {α:Type} (le:α->α->Bool)
def BY (x:α):Q3 α->Q3 α | []=>[x] | y::l=>if le x y=true then x::y::l else y::BY x l
def AJ:Q3 α->Q3 α | []=>[] | x::l=>BY le x (AJ l)
theorem eP (x:α):∀ l:Q3 α,(BY le x l).Perm (x::l)
 | []=>.refl _
 | y::l=>by
   unfold BY
   split
   exact .refl _
   exact ((eP x l).cons y).trans (.swap x y l)
theorem TR:∀ l:Q3 α,(AJ le l).Perm l
 | []=>.refl _
 | x::l=>(eP le x _).trans ((TR l).cons x)
variable {le}
theorem oJ (ht:∀ a b c,le a b=true->le b c=true->le a c=true) (hl:∀ a b,(le a b||le b a)=true) (x:α):∀ l:Q3 α,l.Pairwise (fun a b=>le a b=true)->(BY le x l).Pairwise fun a b=>le a b=true
 | [],_=>by simp [BY]
 | y::l,h=>by
   unfold BY
   have hy:=YV.1 h
   split
   rename_i hx
   exact YV.2 ⟨fun z hz=>by
    rcases Ys.1 hz with rfl | hz
    exact hx
    exact ht _ _ _ hx (hy.1 z hz),h⟩
   rename_i hx
   refine YV.2 ⟨fun z hz=>?_,oJ ht hl x l hy.2⟩
   rcases Ys.1 ((eP le x l).mem_iff.1 hz) with rfl | hz
   have:=hl z y
   simp only [Bool.or_eq_true] at this
   exact this.resolve_left hx
   exact hy.1 z hz
theorem QJ (ht:∀ a b c,le a b=true->le b c=true->le a c=true) (hl:∀ a b,(le a b||le b a)=true):∀ l:Q3 α,(AJ le l).Pairwise fun a b=>le a b=true
 | []=>.nil
 | x::l=>oJ ht hl x _ (QJ ht hl l)
theorem Zox (ht:∀ a b c,le a b=true->le b c=true->le a c=true) (hl:∀ a b,(le a b||le b a)=true) (ha:∀ a b,le a b=true->le b a=true->a=b) (l:Q3 α):l.mergeSort le=AJ le l:=
 List.Perm.eq_of_pairwise (fun _ _ _ _ h k=>ha _ _ h k) (List.pairwise_mergeSort ht hl l) (QJ ht hl l) ((List.mergeSort_perm l le).trans (TR le l).symm)
end
def leC {α:Type} (cf:α->α->Int) (x y:α):Bool:=!ltOf cf y x
theorem eQ {α:Type} {cf:α->α->Int} (hO:SWO (ltOf cf)) (a b c:α) (h:leC cf a b=true) (k:leC cf b c=true):leC cf a c=true:=by
 unfold leC at *
 simp only [IB] at *
 exact hO.ntrans _ _ _ k h
theorem eR {α:Type} {cf:α->α->Int} (hO:SWO (ltOf cf)) (a b:α):(leC cf a b||leC cf b a)=true:=by{
unfold leC
cases h:ltOf cf b a with
| false=>rfl
| true=>
  cases h2:ltOf cf a b with
  | false=>rfl
  | true=>
    have:=hO.trans _ _ _ h h2
    rw [hO.irrefl] at this
    cases this}
theorem oK {α:Type} {cf:α->α->Int} (hT:∀ x y,ltOf cf x y=false->ltOf cf y x=false->x=y) (a b:α) (h:leC cf a b=true) (k:leC cf b a=true):a=b:=by
 unfold leC at *
 simp only [IB] at *
 exact hT a b k h
theorem Zl0 {α:Type} [Inhabited α] (enc:α->Q3 Value) (k:Nat) (hk:∀ x,(enc x).length=k) {w:World} {g cap n:Nat} {cur:Array Value} {E:TypeId} {M:Q3 α} (os:Array Obj) (hb:w.heap[g]? = some (.cells cur E (0,0))) (h1:M.length<=cap) (h2:cap<=maxLen) (h3:cur.size=cap * k) :
  (sortWorldK enc k w g 0 n M.toArray os).ownsRow 0 E k (.slice (some ⟨g,0,none⟩) M.length cap) M.length (M.flatMap enc)/\Gr (fun b=>blk (.slice (some ⟨g,0,none⟩) M.length cap)=some b) w (sortWorldK enc k w g 0 n M.toArray os):=by{
obtain ⟨o1,o2⟩:=xD (n:=n) enc k hk (M:=M) hb h1 h2 h3
have hg:g<w.heap.size:=(H3.1 hb).1
have hold:∀ b,b<(putRowK enc k (Sort.ahead w n) g 0 M.toArray).heap.size->(sortWorldK enc k w g 0 n M.toArray os).heap[b]? = (putRowK enc k (Sort.ahead w n) g 0 M.toArray).heap[b]?:=fun b hb=>by
 show (_++os)[b]? = _
 rw [Array.getElem?_append_left hb]
have hsz:w.heap.size<=(putRowK enc k (Sort.ahead w n) g 0 M.toArray).heap.size:=o2.size
refine ⟨⟨o1.1,?_⟩,o2.os,o2.tape,o2.output,YX hsz (by show _<=(_++os).size;simp),fun b hb hn=>(hold b (YU hb hsz)).trans (o2.block b hb hn)⟩
rcases o1.2 with h | ⟨b,c,cu,q1,q2,q3,q4⟩
exact .inl h
injection q1 with q5 q6 q7
injection q5 with q5
injection q5 with q5
subst q5 q7
exact .inr ⟨g,cap,cu,rfl,q2,by rw [hold g (YU hg hsz)];exact q3,q4⟩}
theorem ZrO {P:Program} [WInv P] {α:Type} [Inhabited α] {f g:FuncId} {E k:Nat} {cs:α->Q3 PV} {enc:α->Q3 Value} (hg:isGo P f=true) (hpl:∀ x,BU (cs x)=some (enc x)) (hk:∀ x,(enc x).length=k) (hc:∀ x,(cs x).length=k) (hp:∀ x,∀ p ∈ cs x,p.pure=true) {cf:α->α->Int} (hO:SWO (ltOf cf)) (hT:∀ x y,ltOf cf x y=false->ltOf cf y x=false->x=y)
  (hnone:∀ (cap:Nat) (W:World) (A:Q2 Addr),Calls P f #[.slice A 0 cap,.func (.func g) #[] #[]] W fun e w'=>e = .returned (.tuple #[])/\w'=W)
  (hsort:∀ (blk off cap:Nat) (d:Array α) (w:World),HoldsK enc k w blk off d->blk<w.heap.size->d.size<4611686018427387904->Calls P f #[.slice (some ⟨blk,off,none⟩) d.size cap,.func (.func g) #[] #[]] w fun e w'=>e = .returned (.tuple #[])/\∃ n os,w'=sortWorldK enc k w blk off n (d.toList.mergeSort fun x y=>!(ltOf cf) y x).toArray os)
  (M:Q3 α) (hM:M.length<4611686018427387904):ContractR P f [.fn g []] E k (M.map cs) (.tup []) ((AJ (leC cf) M).map cs):=by{
refine Zld hg (fun e he=>?_) (fun e he p hpp=>?_) (by rw [SP hpl];rfl) fun W v vs hown hvs=>?_
obtain ⟨x,_,rfl⟩:=Yy.1 he
exact hc x
obtain ⟨x,_,rfl⟩:=Yy.1 he
exact hp x p hpp
rw [SP hpl] at hvs
injection hvs with hvs
subst hvs
rw [Yv] at hown
have hlen:(AJ (leC cf) M).length=M.length:=(TR _ M).length_eq
rcases hown.2 with ⟨hn,h0⟩ | ⟨b,cap,cur,hv,hB,hh,h1,h2,h3,ht⟩
obtain rfl:M = []:=Yl h0
subst hn
refine (hnone 0 W none).mono ?_
rintro e w' ⟨rfl,rfl⟩
exact ⟨[],rfl,rfl,World.ownsRow_nil _ _ _ _,Gr.refl _ _⟩
subst hv
have hH:=xC enc k hk hh ht
have:=hsort b 0 cap M.toArray W hH (H3.1 hh).1 (by simpa using hM)
refine Calls.mono this ?_
rintro e w' ⟨rfl,n,os,rfl⟩
rw [show M.toArray.toList=M from rfl,Zox (le:=fun x y=>!(ltOf cf) y x) (eQ hO) (eR hO) (oK hT)]
obtain ⟨o1,o2⟩:=Zl0 (n:=n) enc k hk (M:=AJ (leC cf) M) os hh (by omega) h2 h3
rw [hlen] at o1 o2
refine ⟨(AJ (leC cf) M).flatMap enc,rfl,SP hpl _,?_,?_⟩
rw [Yv,hlen]
exact o1
exact o2}
open Go.Sort
structure CmpLaws {α:Type} (c:α->α->Int):Prop where
 zero:∀ x y,c x y=0↔x=y
 neg:∀ x y,c x y<0↔0<c y x
 trans:∀ x y z,c x y<0->c y z<0->c x z<0
theorem CmpLaws.swo {α:Type} {c:α->α->Int} (h:CmpLaws c):SWO (ltOf c) where
 irrefl x:=by
  have:=(h.zero x x).2 rfl
  unfold ltOf
  rw [this]
  rfl
 trans x y z h1 h2:=by
  unfold ltOf at *
  simp only [YT] at *
  exact h.trans x y z h1 h2
 ntrans x y z h1 h2:=by
  unfold ltOf at *
  simp only [Y0] at *
  intro h3
  by_cases e1:x=y
  ·subst e1
   exact h2 h3
  by_cases e2:y=z
  ·subst e2
   exact h1 h3
  have n1:c y x<0:=(h.neg y x).2 (by have:¬ c x y=0:=fun e=>e1 ((h.zero x y).1 e)
                                     omega)
  have n2:c z y<0:=(h.neg z y).2 (by have:¬ c y z=0:=fun e=>e2 ((h.zero y z).1 e)
                                     omega)
  have n3:=h.trans z y x n2 n1
  have:=(h.neg x z).1 h3
  omega
theorem CmpLaws.tot {α:Type} {c:α->α->Int} (h:CmpLaws c) (x y:α) (h1:ltOf c x y=false) (h2:ltOf c y x=false):x=y:=by{
unfold ltOf at *
simp only [Y0] at *
have:=(h.neg y x).2
exact (h.zero x y).1 (by omega)}
def IS (a b:Int):Int:=if a=0 then b else a
theorem CmpLaws.lex {α β γ:Type} {c:β->β->Int} {d:γ->γ->Int} (hc:CmpLaws c) (hd:CmpLaws d) {f:α->β} {g:α->γ} (hi:∀ x y,f x=f y->g x=g y->x=y):CmpLaws fun x y=>IS (c (f x) (f y)) (d (g x) (g y)) where
 zero x y:=by
  unfold IS
  by_cases h:c (f x) (f y)=0
  ·rw [if_pos h]
   exact ⟨fun h2=>hi x y ((hc.zero _ _).1 h) ((hd.zero _ _).1 h2),fun h2=>by rw [h2];exact (hd.zero _ _).2 rfl⟩
  ·rw [if_neg h]
   exact ⟨fun h2=>absurd h2 h,fun h2=>absurd ((hc.zero _ _).2 (by rw [h2])) h⟩
 neg x y:=by
  unfold IS
  by_cases h:f x=f y
  ·rw [if_pos ((hc.zero _ _).2 h),if_pos ((hc.zero _ _).2 h.symm)]
   exact hd.neg _ _
  ·rw [if_neg (fun e=>h ((hc.zero _ _).1 e)),if_neg (fun e=>h ((hc.zero _ _).1 e).symm)]
   exact hc.neg _ _
 trans x y z:=by
  unfold IS
  by_cases h1:f x=f y
  ·rw [if_pos ((hc.zero _ _).2 h1),h1]
   by_cases h2:c (f y) (f z)=0
   ·rw [if_pos h2,if_pos h2]
    exact hd.trans _ _ _
   ·rw [if_neg h2,if_neg h2]
    exact fun _ h=>h
  ·rw [if_neg (fun e=>h1 ((hc.zero _ _).1 e))]
   by_cases h2:f y=f z
   ·rw [if_pos ((hc.zero _ _).2 h2),<- h2,if_neg (fun e=>h1 ((hc.zero _ _).1 e))]
    exact fun h _=>h
   ·rw [if_neg (fun e=>h2 ((hc.zero _ _).1 e))]
    intro h3 h4
    have h5:=hc.trans _ _ _ h3 h4
    rw [if_neg (by omega)]
    exact h5
theorem cmpInt_laws:CmpLaws Lib.compareInt where
 zero x y:=by
  unfold Lib.compareInt
  split
  ·omega
  ·split<;>omega
 neg x y:=by
  unfold Lib.compareInt
  split<;>split<;>(try split)<;>omega
 trans x y z:=by
  unfold Lib.compareInt
  intro h1 h2
  split at h1
  ·split at h2
   ·rw [if_pos (by omega)];decide
   ·split at h2<;>omega
  ·split at h1<;>omega
theorem oL:∀ a b:Q3 Q4,Lib.compareBytes a b=0↔a=b
 | [],[]=>by simp [Lib.compareBytes]
 | [],_::_=>by simp [Lib.compareBytes]
 | _::_,[]=>by simp [Lib.compareBytes]
 | a::l,b::m=>by
   unfold Lib.compareBytes
   split
   rename_i h
   refine Iff.intro (fun h2=>absurd h2 (by decide)) (fun h2=>?_)
   have h3:a=b:=(List.cons.inj h2).1
   rw [h3] at h
   exact absurd h (UInt8.lt_irrefl _)
   split
   rename_i h
   refine Iff.intro (fun h2=>absurd h2 (by decide)) (fun h2=>?_)
   have h3:a=b:=(List.cons.inj h2).1
   rw [h3] at h
   exact absurd h (UInt8.lt_irrefl _)
   rename_i h1 h2
   rw [oL l m]
   have:a=b:=Z1 (OF.1 h2) (OF.1 h1)
   rw [this]
   simp
theorem oM:∀ a b:Q3 Q4,Lib.compareBytes a b<0↔0<Lib.compareBytes b a
 | [],[]=>by simp [Lib.compareBytes]
 | [],_::_=>by simp [Lib.compareBytes]
 | _::_,[]=>by simp [Lib.compareBytes]
 | a::l,b::m=>by
   unfold Lib.compareBytes
   by_cases h:a<b
   rw [if_pos h,if_neg (fun h2=>UInt8.lt_irrefl _ (UInt8.lt_trans h h2)),if_pos h]
   decide
   rw [if_neg h]
   by_cases h2:b<a
   rw [if_pos h2,if_pos h2]
   decide
   rw [if_neg h2,if_neg h2,if_neg h]
   exact oM l m
theorem oN:∀ a b c:Q3 Q4,Lib.compareBytes a b<0->Lib.compareBytes b c<0->Lib.compareBytes a c<0
 | _,[],[],_,h2=>by simp [Lib.compareBytes] at h2
 | [],_,_::_,_,_=>by simp [Lib.compareBytes]
 | _::_,[],_,h1,_=>by simp [Lib.compareBytes] at h1
 | _,_::_,[],_,h2=>by simp [Lib.compareBytes] at h2
 | a::l,b::m,c::n,h1,h2=>by
   unfold Lib.compareBytes at *
   by_cases hab:a<b
   by_cases hbc:b<c
   rw [if_pos (UInt8.lt_trans hab hbc)];decide
   rw [if_neg hbc] at h2
   by_cases hcb:c<b
   rw [if_pos hcb] at h2;exact absurd h2 (by decide)
   have:b=c:=Z1 (OF.1 hcb) (OF.1 hbc)
   rw [if_pos (by rw [<- this];exact hab)];decide
   rw [if_neg hab] at h1
   by_cases hba:b<a
   rw [if_pos hba] at h1;exact absurd h1 (by decide)
   have e:a=b:=Z1 (OF.1 hba) (OF.1 hab)
   subst e
   rw [if_neg hba] at h1
   by_cases hbc:a<c
   rw [if_pos hbc];decide
   rw [if_neg hbc] at h2 ⊢
   by_cases hcb:c<a
   rw [if_pos hcb] at h2;exact absurd h2 (by decide)
   rw [if_neg hcb] at h2 ⊢
   exact oN l m n h1 h2
theorem ZpD:CmpLaws fun a b:Q1=>Lib.compareBytes a.data.toList b.data.toList where
 zero x y:=by
  rw [oL]
  exact ⟨fun h=>by obtain ⟨⟨x⟩⟩:=x;obtain ⟨⟨y⟩⟩:=y;exact CA (fun l:Q3 Q4=>(⟨⟨l⟩⟩:Q1)) h,fun h=>by rw [h]⟩
 neg x y:=oM _ _
 trans x y z:=oN _ _ _
end VL
section
open VL
theorem oO {α:Type} {lt:α->α->Prop} (asy:∀ a b,lt a b->¬ lt b a):∀ {l r:Q3 α},l.Pairwise lt->r.Pairwise lt->(∀ x,x ∈ l↔x ∈ r)->l=r
 | [],[],_,_,_=>rfl
 | [],y::r,_,_,h=>absurd ((h y).2 (Yi ..)) (by simp)
 | x::l,[],_,_,h=>absurd ((h x).1 (Yi ..)) (by simp)
 | x::l,y::r,hl,hr,h=>by
   obtain ⟨l1,l2⟩:=YV.1 hl
   obtain ⟨r1,r2⟩:=YV.1 hr
   have e:x=y:=by
    rcases Ys.1 ((h x).1 (Yi ..)) with e | hx
    ·exact e
    ·rcases Ys.1 ((h y).2 (Yi ..)) with e | hy
     ·exact e.symm
     ·exact absurd (l1 y hy) (asy _ _ (r1 x hx))
   subst e
   refine CA _ (oO asy l2 r2 fun z=>⟨fun hz=>?_,fun hz=>?_⟩)
   ·rcases Ys.1 ((h z).1 (Yg _ hz)) with e | h
    ·subst e;exact absurd (l1 z hz) (asy _ _ (l1 z hz))
    ·exact h
   ·rcases Ys.1 ((h z).2 (Yg _ hz)) with e | h
    ·subst e;exact absurd (r1 z hz) (asy _ _ (r1 z hz))
    ·exact h
theorem oP {α:Type} {p:α->Bool} {y:α}:∀ l:Q3 α,y ∈ l.takeWhile p->p y=true
 | [],h=>by cases h
 | x::l,h=>by
   rw [List.takeWhile_cons] at h
   by_cases hx:p x=true
   rw [if_pos hx] at h
   rcases Ys.1 h with rfl | h
   exact hx
   exact oP l h
   rw [if_neg hx] at h
   cases h
section
variable {α κ:Type} [DecidableEq κ] {c:κ->κ->Int} {key:α->κ}
abbrev Asc (c:κ->κ->Int) (key:α->κ) (l:Q3 α):Prop:=l.Pairwise fun a b=>c (key a) (key b)<0
def DG (c:κ->κ->Int) (key:α->κ) (l:Q3 α) (x:α):Q3 α:=match l.dropWhile (fun y=>decide (c (key y) (key x)<0)) with | []=>l ++ [x] | y::b=>if key y=key x then l else l.takeWhile (fun y=>decide (c (key y) (key x)<0))++x::y::b
omit [DecidableEq κ] in
theorem ZxE (h:CmpLaws c) (a b:κ) (k:c a b<0):¬ c b a<0:=by
 have:=(h.neg a b).1 k
 omega
omit [DecidableEq κ] in
theorem eS (h:CmpLaws c) {a b:κ} (k:c a b<0):a≠b:=fun e=>by
 have:=(h.zero a b).2 e
 omega
theorem X9 (h:CmpLaws c):∀ {l:Q3 α},Asc c key l->∀ e ∈ l,l.find? (fun x=>decide (key x=key e))=some e
 | [],_,e,h=>by cases h
 | y::l,hp,e,he=>by
   obtain ⟨h1,h2⟩:=YV.1 hp
   rw [EL]
   rcases Ys.1 he with rfl | he
   rw [Yh rfl]
   rw [Yf (eS h (h1 e he))]
   exact X9 h h2 e he
theorem oQ (h:CmpLaws c) {l r:Q3 α} (hl:Asc c key l) (hr:Asc c key r) (e:∀ k,l.find? (fun x=>decide (key x=k))=r.find? (fun x=>decide (key x=k))):l=r:=by
 refine oO (fun a b=>ZxE h _ _) hl hr fun x=>⟨fun hx=>?_,fun hx=>?_⟩
 exact UC ((e (key x)).symm.trans (X9 h hl x hx))
 exact UC ((e (key x)).trans (X9 h hr x hx))
theorem XA (c:κ->κ->Int) (key:α->κ) (l:Q3 α) (x:α):∃ A B,l=A++B/\(∀ y ∈ A,c (key y) (key x)<0)/\l.takeWhile (fun y=>decide (c (key y) (key x)<0))=A/\((B = []/\DG c key l x=l ++ [x])\/∃ y b,B=y::b/\¬ c (key y) (key x)<0/\((key y=key x/\DG c key l x=l)\/(¬ key y=key x/\DG c key l x=A++x::y::b))):=by{
refine ⟨l.takeWhile (fun y=>decide (c (key y) (key x)<0)),l.dropWhile (fun y=>decide (c (key y) (key x)<0)),(List.takeWhile_append_dropWhile ..).symm,fun y hy=>?_,rfl,?_⟩
exact GK (p:=c (key y) (key x)<0) (oP (p:=fun y=>decide (c (key y) (key x)<0)) l hy)
unfold DG
cases hd:l.dropWhile (fun y=>decide (c (key y) (key x)<0)) with
| nil=>exact .inl ⟨rfl,rfl⟩
| cons y b=>
  refine .inr ⟨y,b,rfl,fun hlt=>?_,?_⟩
  have:=List.head?_dropWhile_not (fun y=>decide (c (key y) (key x)<0)) l
  rw [hd] at this
  simp at this
  omega
  by_cases hq:key y=key x
  exact .inl ⟨hq,if_pos hq⟩
  exact .inr ⟨hq,if_neg hq⟩}
theorem ZxF (h:CmpLaws c) {l:Q3 α} (hl:Asc c key l) (x:α):Asc c key (DG c key l x):=by{
obtain ⟨A,B,rfl,hA,_,⟨rfl,e⟩ | ⟨y,b,rfl,hy,⟨hk,e⟩ | ⟨hk,e⟩⟩⟩:=XA c key l x
rw [e]
refine I9.2 ⟨hl,List.pairwise_singleton _ _,fun a ha b hb=>?_⟩
rw [YG.1 hb]
rw [YB] at ha
exact hA a ha
rw [e];exact hl
rw [e]
obtain ⟨p1,p2,p3⟩:=I9.1 hl
obtain ⟨q1,q2⟩:=YV.1 p2
have hxy:c (key x) (key y)<0:=by
 have h0:¬ c (key y) (key x)=0:=fun e=>hk ((h.zero _ _).1 e)
 exact (h.neg _ _).2 (by omega)
refine I9.2 ⟨p1,YV.2 ⟨fun z hz=>?_,p2⟩,fun a ha z hz=>?_⟩
rcases Ys.1 hz with rfl | hz
exact hxy
exact h.trans _ _ _ hxy (q1 z hz)
rcases Ys.1 hz with rfl | hz
exact hA a ha
exact p3 a ha z hz}
theorem ZvC (h:CmpLaws c) {l:Q3 α} (hl:Asc c key l) (x:α) (k:κ):(DG c key l x).find? (fun z=>decide (key z=k))=(l ++ [x]).find? (fun z=>decide (key z=k)):=by{
obtain ⟨A,B,rfl,hA,_,⟨rfl,e⟩ | ⟨y,b,rfl,hy,⟨hk,e⟩ | ⟨hk,e⟩⟩⟩:=XA c key l x
rw [e]
rw [e]
by_cases hx:key x=k
have:(A++y::b).find? (fun z=>decide (key z=k))=some y:=by
 have:=X9 h hl y (by simp)
 rwa [hk,hx] at this
rw [RM (xs:=A++y::b),this]
rfl
refine Eq.trans ?_ List.find?_append.symm
simp [hx]
rw [e]
by_cases hx:key x=k
subst hx
have hn:A.find? (fun z=>decide (key z=key x))=none:=List.find?_eq_none.2 fun a ha=>by simp [eS h (hA a ha)]
obtain ⟨p1,p2,p3⟩:=I9.1 hl
obtain ⟨q1,q2⟩:=YV.1 p2
have hxy:c (key x) (key y)<0:=by
 have h0:¬ c (key y) (key x)=0:=fun e=>hk ((h.zero _ _).1 e)
 exact (h.neg _ _).2 (by omega)
have hb:b.find? (fun z=>decide (key z=key x))=none:=List.find?_eq_none.2 fun a ha=>by simp [(eS h (h.trans _ _ _ hxy (q1 a ha))).symm]
simp [RM,hn,hb,hk]
simp [RM,EL,hx]}
theorem ZxG (l:Q3 α) (x:α):(DG c key l x).length<=l.length+1:=by{
obtain ⟨A,B,rfl,hA,_,⟨rfl,e⟩ | ⟨y,b,rfl,hy,⟨hk,e⟩ | ⟨hk,e⟩⟩⟩:=XA c key l x
rw [e];simp
rw [e];omega
rw [e];simp;omega}
theorem eT (h:CmpLaws c):∀ (xs l:Q3 α),Asc c key l->Asc c key (xs.foldl (DG c key) l)/\∀ k,(xs.foldl (DG c key) l).find? (fun z=>decide (key z=k))=(l++xs).find? (fun z=>decide (key z=k))
 | [],l,hl=>⟨hl,fun k=>by rw [YB];rfl⟩
 | x::xs,l,hl=>by
   obtain ⟨h1,h2⟩:=eT h xs (DG c key l x) (ZxF h hl x)
   refine ⟨h1,fun k=>(h2 k).trans ?_⟩
   rw [RM,ZvC h hl,<- RM,YM]
   rfl
theorem QK (xs:Q3 α):∀ l:Q3 α,(xs.foldl (DG c key) l).length<=l.length+xs.length:=by{
induction xs with
| nil=>intro l;exact Yn _
| cons x xs ih=>
  intro l
  have h1:=ih (DG c key l x)
  have h2:=ZxG (c:=c) (key:=key) l x
  simp only [List.foldl_cons,Yr]
  omega}
end
def ZM (p0:Q3 Memb) (p1:Int) (p2:Int):Q2 (Q3 Memb):=A3 A9 (fun f17 ((x95,x96):Int×(Q3 Memb))=>if decide (x95<p2) then A3 A9 (fun f24 ((x253,x254):Int×(Q3 Memb))=>letk (fun (x273:Bool)=>if x273 then (atI x254 (w64 (x253-1))).bind fun e278=>(atI x254 x253).bind fun e279=>(atI x254 x253).bind fun e280=>(atI (AP x254 x253 e278) (w64 (x253-1))).bind fun e281=>f24 ((w64 (x253-1)),(AP (AP x254 x253 e278) (w64 (x253-1)) e279)) else f17 ((w64 (x95+1)),x254)) fun k25=>if decide (p1<x253) then (atI x254 x253).bind fun e282=>(atI x254 (w64 (x253-1))).bind fun e283=>(M9 e282 e283).bind fun r284=>k25 (decide (r284<0)) else k25 false) (x95,x96) else some x96) ((w64 (p1+1)),p0)
theorem oR (p0:Q3 Memb) (p1:Int) (p2:Int) (r:Q3 Memb) (h:ZM p0 p1 p2=some r):ContractR Tryz.prog 130 [.int .i64 p1,.int .i64 p2,.fn 38 []] 45 3 (List.map Memb.cs p0) (.tup []) (List.map Memb.cs r):=by{
refine PE (R:=fun r=>.tup []) (O:=fun r=>(List.map Memb.cs r)) h mix Tryz.func130 (by kernel_rfl) rfl (by kernel_rfl) fun r h=>?_
unfold ZM at h
refine Zj ?_
refine rg ?_
refine bl ?_
refine Zz h fun f17 mf17 hf17 h=>?_
refine Zu (α:=Nat×(Int×(Q3 Memb))) (fun a _=>mkS [(0,.row 0 (0,0)),(1,.int .i64 p1),(2,.int .i64 p2),(3,.fn 38 []),(8,.int .i64 a.2.1)] [(0,some ((0,0),.row 45 3 false (List.map Memb.cs a.2.2)))] 2) (fun a=>A3 a.1 f17 a.2=some r) (fun a=>a.1) (mf17,(w64 (p1+1)),p0) 2 h (Zx []) (fun a _ h=>?_)
obtain ⟨mf17,x95,x96⟩:=a
obtain ⟨mf17,rfl,h⟩:=ZA hf17 h
dsimp only at h ⊢
refine Zj ?_
refine rg ?_
refine cS h rfl (fun h=>?_) fun h=>?_
refine bl ?_
refine rg ?_
refine bl ?_
refine Zz h fun f24 mf24 hf24 h=>?_
refine Zu (α:=Nat×(Int×(Q3 Memb))) (fun a _=>mkS [(0,.row 0 (0,0)),(1,.int .i64 p1),(2,.int .i64 p2),(3,.fn 38 []),(8,.int .i64 x95),(9,.int .i64 a.2.1)] [(0,some ((0,0),.row 45 3 false (List.map Memb.cs a.2.2)))] 2) (fun a=>A3 a.1 f24 a.2=some r) (fun a=>a.1) (mf24,x95,x96) 2 h (Zx []) (fun a _ h=>?_)
obtain ⟨mf24,x253,x254⟩:=a
obtain ⟨mf24,rfl,h⟩:=ZA hf24 h
dsimp only at h ⊢
refine Zj ?_
refine jL h (fun x273=>mkS [(0,.row 0 (0,0)),(1,.int .i64 p1),(2,.int .i64 p2),(3,.fn 38 []),(8,.int .i64 x95),(9,.int .i64 x253),(34,.bool x273)] [(0,some ((0,0),.row 45 3 false (List.map Memb.cs x254)))] 2) (fun k25 h=>?_) fun x273 h=>?_
refine rg ?_
refine kS 21 h rfl (fun h=>?_) fun h=>?_
obtain ⟨e282,h250,h⟩:=bnd h
refine ZP rfl h250 rfl rfl rfl (Zj ?_)
refine B6 rfl h250 rfl rfl rfl (Zj ?_)
obtain ⟨e283,h251,h⟩:=bnd h
refine ZP rfl h251 rfl rfl rfl (Zj ?_)
refine B6 rfl h251 rfl rfl rfl (Zj ?_)
obtain ⟨r284,h252,h⟩:=bnd h
refine P3 (Lc:=[]) (args1:=[e282.pv,e283.pv]) (X5 _ _ _ h252) rfl rfl rfl rfl (Zj ?_)
exact jn (decide (r284<0)) h (Zx [])
iterate 12 refine Zw rfl (Zj ?_)
exact jn false h (Zx [])
refine cS h rfl (fun h=>?_) fun h=>?_
refine bl ?_
refine rg ?_
obtain ⟨e278,h246,h⟩:=bnd h
refine ZP rfl h246 rfl rfl rfl (Zj ?_)
refine B6 rfl h246 rfl rfl rfl (Zj ?_)
obtain ⟨e279,h247,h⟩:=bnd h
refine ZP rfl h247 rfl rfl rfl (Zj ?_)
refine B6 rfl h247 rfl rfl rfl (Zj ?_)
obtain ⟨e280,h248,h⟩:=bnd h
refine ZP rfl h248 rfl rfl rfl (Zj ?_)
refine FP (e':=e278) rfl h248 rfl rfl rfl rfl rfl rfl (Yk rfl) rfl rfl (Zj ?_)
obtain ⟨e281,h249,h⟩:=bnd h
refine ZP rfl h249 rfl rfl rfl (Zj ?_)
refine FP (e':=e279) rfl h249 rfl rfl rfl rfl rfl rfl (Yk rfl) rfl rfl (Zj ?_)
refine rg ?_
exact rn (mf24,(w64 (x253-1)),(AP (AP x254 x253 e278) (w64 (x253-1)) e279)) h (Zx [])
refine rg ?_
exact rn (mf17,(w64 (x95+1)),x254) h (Zx [])
cases h
exact N6 rfl rfl rfl}
def ZL (p0:Q3 Memb) (p1:Int) (p2:Int) (p3:Int):Q2 (Q3 Memb):=A3 A9 (fun f1 ((x9,x10):Int×(Q3 Memb))=>if decide (x9<p3) then (atI x10 (w64 (p2+x9))).bind fun e23=>(atI x10 (w64 (p1+x9))).bind fun e24=>(atI x10 (w64 (p1+x9))).bind fun e25=>(atI (AP x10 (w64 (p1+x9)) e23) (w64 (p2+x9))).bind fun e26=>f1 ((w64 (x9+1)),(AP (AP x10 (w64 (p1+x9)) e23) (w64 (p2+x9)) e24)) else some x10) (0,p0)
theorem eU (p0:Q3 Memb) (p1:Int) (p2:Int) (p3:Int) (r:Q3 Memb) (h:ZL p0 p1 p2 p3=some r):ContractR Tryz.prog 213 [.int .i64 p1,.int .i64 p2,.int .i64 p3,.fn 38 []] 45 3 (List.map Memb.cs p0) (.tup []) (List.map Memb.cs r):=by{
refine PE (R:=fun r=>.tup []) (O:=fun r=>(List.map Memb.cs r)) h mix Tryz.func213 (by kernel_rfl) rfl (by kernel_rfl) fun r h=>?_
unfold ZL at h
refine Zj ?_
refine rg ?_
refine bl ?_
refine Zz h fun f1 mf1 hf1 h=>?_
refine Zu (α:=Nat×(Int×(Q3 Memb))) (fun a _=>mkS [(0,.row 0 (0,0)),(1,.int .i64 p1),(2,.int .i64 p2),(3,.int .i64 p3),(10,.int .i64 a.2.1)] [(0,some ((0,0),.row 45 3 false (List.map Memb.cs a.2.2)))] 2) (fun a=>A3 a.1 f1 a.2=some r) (fun a=>a.1) (mf1,0,p0) 2 h (sR []) (fun a _ h=>?_)
obtain ⟨mf1,x9,x10⟩:=a
obtain ⟨mf1,rfl,h⟩:=ZA hf1 h
dsimp only at h ⊢
refine Zj ?_
refine rg ?_
refine cS h rfl (fun h=>?_) fun h=>?_
refine bl ?_
refine rg ?_
obtain ⟨e23,h21,h⟩:=bnd h
refine ZP rfl h21 rfl rfl rfl (Zj ?_)
refine B6 rfl h21 rfl rfl rfl (Zj ?_)
obtain ⟨e24,h22,h⟩:=bnd h
refine ZP rfl h22 rfl rfl rfl (Zj ?_)
refine B6 rfl h22 rfl rfl rfl (Zj ?_)
obtain ⟨e25,h23,h⟩:=bnd h
refine ZP rfl h23 rfl rfl rfl (Zj ?_)
refine FP (e':=e23) rfl h23 rfl rfl rfl rfl rfl rfl (Yk rfl) rfl rfl (Zj ?_)
obtain ⟨e26,h24,h⟩:=bnd h
refine ZP rfl h24 rfl rfl rfl (Zj ?_)
refine FP (e':=e24) rfl h24 rfl rfl rfl rfl rfl rfl (Yk rfl) rfl rfl (Zj ?_)
refine rg ?_
exact rn (mf1,(w64 (x9+1)),(AP (AP x10 (w64 (p1+x9)) e23) (w64 (p2+x9)) e24)) h (sR [])
cases h
exact N6 rfl rfl rfl}
def ZW (p0:Q3 Memb) (p1:Int) (p2:Int) (p3:Int):Q2 (Q3 Memb):=A3 A9 (fun f2 ((x12,x13,x14):Int×Int×(Q3 Memb))=>if (!decide (x12=x13)) then if decide (x13<x12) then (ZL x14 (w64 (p2-x12)) p2 x13).bind fun r17=>f2 ((w64 (x12-x13)),x13,r17) else (ZL x14 (w64 (p2-x12)) (w64 ((w64 (p2+x13))-x12)) x12).bind fun r18=>f2 (x12,(w64 (x13-x12)),r18) else (ZL x14 (w64 (p2-x12)) p2 x12).bind fun r19=>some r19) ((w64 (p2-p1)),(w64 (p3-p2)),p0)
theorem Zdf (p0:Q3 Memb) (p1:Int) (p2:Int) (p3:Int) (r:Q3 Memb) (h:ZW p0 p1 p2 p3=some r):ContractR Tryz.prog 184 [.int .i64 p1,.int .i64 p2,.int .i64 p3,.fn 38 []] 45 3 (List.map Memb.cs p0) (.tup []) (List.map Memb.cs r):=by{
refine PE (R:=fun r=>.tup []) (O:=fun r=>(List.map Memb.cs r)) h mix Tryz.func184 (by kernel_rfl) rfl (by kernel_rfl) fun r h=>?_
unfold ZW at h
refine Zj ?_
refine rg ?_
refine rg ?_
refine bl ?_
refine Zz h fun f2 mf2 hf2 h=>?_
refine Zu (α:=Nat×(Int×Int×(Q3 Memb))) (fun a _=>mkS [(0,.row 0 (0,0)),(2,.int .i64 p2),(4,.fn 38 []),(10,.int .i64 a.2.1),(11,.int .i64 a.2.2.1)] [(0,some ((0,0),.row 45 3 false (List.map Memb.cs a.2.2.2)))] 2) (fun a=>A3 a.1 f2 a.2=some r) (fun a=>a.1) (mf2,(w64 (p2-p1)),(w64 (p3-p2)),p0) 2 h (Zx []) (fun a _ h=>?_)
obtain ⟨mf2,x12,x13,x14⟩:=a
obtain ⟨mf2,rfl,h⟩:=ZA hf2 h
dsimp only at h ⊢
refine Zj ?_
refine rg ?_
refine cS h rfl (fun h=>?_) fun h=>?_
refine bl ?_
refine rg ?_
refine cS h rfl (fun h=>?_) fun h=>?_
refine rg ?_
obtain ⟨r17,h11,h⟩:=bnd h
refine IL (eU _ _ _ _ _ h11) rfl rfl rfl rfl rfl (Zj ?_)
refine rg ?_
exact rn (mf2,(w64 (x12-x13)),x13,r17) h (Zx [])
refine rg ?_
obtain ⟨r18,h12,h⟩:=bnd h
refine IL (eU _ _ _ _ _ h12) rfl rfl rfl rfl rfl (Zj ?_)
refine rg ?_
exact rn (mf2,x12,(w64 (x13-x12)),r18) h (Zx [])
refine rg ?_
obtain ⟨r19,h13,h⟩:=bnd h
refine IL (eU _ _ _ _ _ h13) rfl rfl rfl rfl rfl (Zj ?_)
cases h
exact N6 rfl rfl rfl}
def Zq:Nat->(Q3 Memb)->Int->Int->Int->Q2 (Q3 Memb) | 0,_,_,_,_=>none | mF+1,p0,p1,p2,p3=>if decide ((w64 (p2-p1))=1) then A3 A9 (fun f6 ((x99,x100):Int×Int)=>if decide (x99<x100) then (K7 .u64 (IntKind.wrap .u64 (w64 (x99+x100))) 1).bind fun q105=>(atI p0 (IntKind.wrap .i64 q105)).bind fun e106=>(atI p0 p1).bind fun e107=>(M9 e106 e107).bind fun r108=>if decide (r108<0) then f6 ((w64 ((IntKind.wrap .i64 q105)+1)),x100) else f6 (x99,(IntKind.wrap .i64 q105)) else A3 A9 (fun f8 ((x143,x144):Int×(Q3 Memb))=>if decide (x143<(w64 (x99-1))) then (atI x144 (w64 (x143+1))).bind fun e157=>(atI x144 x143).bind fun e158=>(atI x144 x143).bind fun e159=>(atI (AP x144 x143 e157) (w64 (x143+1))).bind fun e160=>f8 ((w64 (x143+1)),(AP (AP x144 x143 e157) (w64 (x143+1)) e158)) else some x144) (p1,p0)) (p2,p3) else if decide ((w64 (p3-p2))=1) then A3 A9 (fun f14 ((x259,x260):Int×Int)=>if decide (x259<x260) then (K7 .u64 (IntKind.wrap .u64 (w64 (x259+x260))) 1).bind fun q265=>(atI p0 p2).bind fun e266=>(atI p0 (IntKind.wrap .i64 q265)).bind fun e267=>(M9 e266 e267).bind fun r268=>if (!(decide (r268<0))) then f14 ((w64 ((IntKind.wrap .i64 q265)+1)),x260) else f14 (x259,(IntKind.wrap .i64 q265)) else A3 A9 (fun f16 ((x303,x304):Int×(Q3 Memb))=>if decide (x259<x303) then (atI x304 (w64 (x303-1))).bind fun e317=>(atI x304 x303).bind fun e318=>(atI x304 x303).bind fun e319=>(atI (AP x304 x303 e317) (w64 (x303-1))).bind fun e320=>f16 ((w64 (x303-1)),(AP (AP x304 x303 e317) (w64 (x303-1)) e318)) else some x304) (p2,p0)) (p1,p2) else (K7 .u64 (IntKind.wrap .u64 (w64 (p1+p3))) 1).bind fun q321=>letk (fun (x322:Int) (x323:Int)=>A3 A9 (fun f19 ((x342,x343):Int×Int)=>if decide (x342<x343) then (K7 .u64 (IntKind.wrap .u64 (w64 (x342+x343))) 1).bind fun q348=>(atI p0 (w64 ((w64 ((w64 ((IntKind.wrap .i64 q321)+p2))-1))-(IntKind.wrap .i64 q348)))).bind fun e349=>(atI p0 (IntKind.wrap .i64 q348)).bind fun e350=>(M9 e349 e350).bind fun r351=>if (!(decide (r351<0))) then f19 ((w64 ((IntKind.wrap .i64 q348)+1)),x343) else f19 (x342,(IntKind.wrap .i64 q348)) else letk (fun (x352:Bool)=>letk (fun (x354:Q3 Memb)=>letk (fun (x355:Bool)=>letk (fun (x357:Q3 Memb)=>letk (fun (x358:Bool)=>if x358 then (Zq mF x357 (IntKind.wrap .i64 q321) (w64 ((w64 ((IntKind.wrap .i64 q321)+p2))-x342)) p3).bind fun r359=>some r359 else some x357) fun k24=>if decide ((IntKind.wrap .i64 q321)<(w64 ((w64 ((IntKind.wrap .i64 q321)+p2))-x342))) then k24 (decide ((w64 ((w64 ((IntKind.wrap .i64 q321)+p2))-x342))<p3)) else k24 false) fun k23=>if x355 then (Zq mF x354 p1 x342 (IntKind.wrap .i64 q321)).bind fun r360=>k23 r360 else k23 x354) fun k22=>if decide (p1<x342) then k22 (decide (x342<(IntKind.wrap .i64 q321))) else k22 false) fun k21=>if x352 then (ZW p0 x342 p2 (w64 ((w64 ((IntKind.wrap .i64 q321)+p2))-x342))).bind fun r361=>k21 r361 else k21 p0) fun k20=>if decide (x342<p2) then k20 (decide (p2<(w64 ((w64 ((IntKind.wrap .i64 q321)+p2))-x342)))) else k20 false) (x322,x323)) fun k17=>if decide ((IntKind.wrap .i64 q321)<p2) then k17 (w64 ((w64 ((IntKind.wrap .i64 q321)+p2))-p3)) (IntKind.wrap .i64 q321) else k17 p1 p2
theorem oS (mF:Nat):∀ (p0:Q3 Memb) (p1:Int) (p2:Int) (p3:Int) (r:Q3 Memb),Zq mF p0 p1 p2 p3=some r->ContractR Tryz.prog 131 [.int .i64 p1,.int .i64 p2,.int .i64 p3,.fn 38 []] 45 3 (List.map Memb.cs p0) (.tup []) (List.map Memb.cs r):=by{
induction mF with
| zero=>intro p0 p1 p2 p3 r h;cases h
| succ mF ihF=>
intro p0 p1 p2 p3 r h
refine PE (R:=fun r=>.tup []) (O:=fun r=>(List.map Memb.cs r)) h mix Tryz.func131 (by kernel_rfl) rfl (by kernel_rfl) fun r h=>?_
simp only [Zq] at h
refine Zj ?_
refine rg ?_
refine cS h rfl (fun h=>?_) fun h=>?_
refine rg ?_
refine rg ?_
refine bl ?_
refine Zz h fun f6 mf6 hf6 h=>?_
refine Zu (α:=Nat×(Int×Int)) (fun a _=>mkS [(0,.row 0 (0,0)),(1,.int .i64 p1),(4,.fn 38 []),(10,.int .i64 a.2.1),(11,.int .i64 a.2.2)] [(0,some ((0,0),.row 45 3 false (List.map Memb.cs p0)))] 2) (fun a=>A3 a.1 f6 a.2=some r) (fun a=>a.1) (mf6,p2,p3) 2 h (Zx []) (fun a _ h=>?_)
obtain ⟨mf6,x99,x100⟩:=a
obtain ⟨mf6,rfl,h⟩:=ZA hf6 h
dsimp only at h ⊢
refine Zj ?_
refine rg ?_
refine cS h rfl (fun h=>?_) fun h=>?_
refine bl ?_
refine rg ?_
obtain ⟨q105,h93,h⟩:=bnd h
refine VH rfl h93 rfl rfl (Zj ?_)
refine rg ?_
obtain ⟨e106,h94,h⟩:=bnd h
refine ZP rfl h94 rfl rfl rfl (Zj ?_)
refine B6 rfl h94 rfl rfl rfl (Zj ?_)
obtain ⟨e107,h95,h⟩:=bnd h
refine ZP rfl h95 rfl rfl rfl (Zj ?_)
refine B6 rfl h95 rfl rfl rfl (Zj ?_)
obtain ⟨r108,h96,h⟩:=bnd h
refine P3 (Lc:=[]) (args1:=[e106.pv,e107.pv]) (X5 _ _ _ h96) rfl rfl rfl rfl (Zj ?_)
refine cS h rfl (fun h=>?_) fun h=>?_
refine rg ?_
exact rn (mf6,(w64 ((IntKind.wrap .i64 q105)+1)),x100) h (Zx [])
refine rg ?_
exact rn (mf6,x99,(IntKind.wrap .i64 q105)) h (Zx [])
refine rg ?_
refine bl ?_
refine Zz h fun f8 mf8 hf8 h=>?_
refine Zu (α:=Nat×(Int×(Q3 Memb))) (fun a _=>mkS [(0,.row 0 (0,0)),(10,.int .i64 x99),(13,.int .i64 a.2.1)] [(0,some ((0,0),.row 45 3 false (List.map Memb.cs a.2.2)))] 2) (fun a=>A3 a.1 f8 a.2=some r) (fun a=>a.1) (mf8,p1,p0) 2 h (sR []) (fun a _ h=>?_)
obtain ⟨mf8,x143,x144⟩:=a
obtain ⟨mf8,rfl,h⟩:=ZA hf8 h
dsimp only at h ⊢
refine Zj ?_
refine rg ?_
refine cS h rfl (fun h=>?_) fun h=>?_
refine bl ?_
refine rg ?_
obtain ⟨e157,h141,h⟩:=bnd h
refine ZP rfl h141 rfl rfl rfl (Zj ?_)
refine B6 rfl h141 rfl rfl rfl (Zj ?_)
obtain ⟨e158,h142,h⟩:=bnd h
refine ZP rfl h142 rfl rfl rfl (Zj ?_)
refine B6 rfl h142 rfl rfl rfl (Zj ?_)
obtain ⟨e159,h143,h⟩:=bnd h
refine ZP rfl h143 rfl rfl rfl (Zj ?_)
refine FP (e':=e157) rfl h143 rfl rfl rfl rfl rfl rfl (Yk rfl) rfl rfl (Zj ?_)
obtain ⟨e160,h144,h⟩:=bnd h
refine ZP rfl h144 rfl rfl rfl (Zj ?_)
refine FP (e':=e158) rfl h144 rfl rfl rfl rfl rfl rfl (Yk rfl) rfl rfl (Zj ?_)
refine rg ?_
exact rn (mf8,(w64 (x143+1)),(AP (AP x144 x143 e157) (w64 (x143+1)) e158)) h (sR [])
cases h
exact kC rfl rfl rfl
refine rg ?_
refine cS h rfl (fun h=>?_) fun h=>?_
refine rg ?_
refine rg ?_
refine bl ?_
refine Zz h fun f14 mf14 hf14 h=>?_
refine Zu (α:=Nat×(Int×Int)) (fun a _=>mkS [(0,.row 0 (0,0)),(2,.int .i64 p2),(4,.fn 38 []),(14,.int .i64 a.2.1),(15,.int .i64 a.2.2)] [(0,some ((0,0),.row 45 3 false (List.map Memb.cs p0)))] 2) (fun a=>A3 a.1 f14 a.2=some r) (fun a=>a.1) (mf14,p1,p2) 2 h (Zx []) (fun a _ h=>?_)
obtain ⟨mf14,x259,x260⟩:=a
obtain ⟨mf14,rfl,h⟩:=ZA hf14 h
dsimp only at h ⊢
refine Zj ?_
refine rg ?_
refine cS h rfl (fun h=>?_) fun h=>?_
refine bl ?_
refine rg ?_
obtain ⟨q265,h237,h⟩:=bnd h
refine VH rfl h237 rfl rfl (Zj ?_)
refine rg ?_
obtain ⟨e266,h238,h⟩:=bnd h
refine ZP rfl h238 rfl rfl rfl (Zj ?_)
refine B6 rfl h238 rfl rfl rfl (Zj ?_)
obtain ⟨e267,h239,h⟩:=bnd h
refine ZP rfl h239 rfl rfl rfl (Zj ?_)
refine B6 rfl h239 rfl rfl rfl (Zj ?_)
obtain ⟨r268,h240,h⟩:=bnd h
refine P3 (Lc:=[]) (args1:=[e266.pv,e267.pv]) (X5 _ _ _ h240) rfl rfl rfl rfl (Zj ?_)
refine cS h rfl (fun h=>?_) fun h=>?_
refine rg ?_
exact rn (mf14,(w64 ((IntKind.wrap .i64 q265)+1)),x260) h (Zx [])
refine rg ?_
exact rn (mf14,x259,(IntKind.wrap .i64 q265)) h (Zx [])
refine rg ?_
refine bl ?_
refine Zz h fun f16 mf16 hf16 h=>?_
refine Zu (α:=Nat×(Int×(Q3 Memb))) (fun a _=>mkS [(0,.row 0 (0,0)),(14,.int .i64 x259),(17,.int .i64 a.2.1)] [(0,some ((0,0),.row 45 3 false (List.map Memb.cs a.2.2)))] 2) (fun a=>A3 a.1 f16 a.2=some r) (fun a=>a.1) (mf16,p2,p0) 2 h (sR []) (fun a _ h=>?_)
obtain ⟨mf16,x303,x304⟩:=a
obtain ⟨mf16,rfl,h⟩:=ZA hf16 h
dsimp only at h ⊢
refine Zj ?_
refine rg ?_
refine cS h rfl (fun h=>?_) fun h=>?_
refine bl ?_
refine rg ?_
obtain ⟨e317,h285,h⟩:=bnd h
refine ZP rfl h285 rfl rfl rfl (Zj ?_)
refine B6 rfl h285 rfl rfl rfl (Zj ?_)
obtain ⟨e318,h286,h⟩:=bnd h
refine ZP rfl h286 rfl rfl rfl (Zj ?_)
refine B6 rfl h286 rfl rfl rfl (Zj ?_)
obtain ⟨e319,h287,h⟩:=bnd h
refine ZP rfl h287 rfl rfl rfl (Zj ?_)
refine FP (e':=e317) rfl h287 rfl rfl rfl rfl rfl rfl (Yk rfl) rfl rfl (Zj ?_)
obtain ⟨e320,h288,h⟩:=bnd h
refine ZP rfl h288 rfl rfl rfl (Zj ?_)
refine FP (e':=e318) rfl h288 rfl rfl rfl rfl rfl rfl (Yk rfl) rfl rfl (Zj ?_)
refine rg ?_
exact rn (mf16,(w64 (x303-1)),(AP (AP x304 x303 e317) (w64 (x303-1)) e318)) h (sR [])
cases h
exact kC rfl rfl rfl
refine rg ?_
obtain ⟨q321,h289,h⟩:=bnd h
refine VH rfl h289 rfl rfl (Zj ?_)
refine rg ?_
refine rg ?_
refine rg ?_
refine FO h fun k17 hk17 h=>?_
refine DM (α:=Int×Int) (fun a _=>mkS [(0,.row 0 (0,0)),(1,.int .i64 p1),(2,.int .i64 p2),(3,.int .i64 p3),(4,.fn 38 []),(18,.int .i64 (IntKind.wrap .i64 q321)),(19,.int .i64 (w64 ((IntKind.wrap .i64 q321)+p2))),(20,.int .i64 a.1),(21,.int .i64 a.2)] [(0,some ((0,0),.row 45 3 false (List.map Memb.cs p0)))] 2) (fun a=>k17 a.1 a.2=some r) (Zj ?_) (fun a _ h=>?_)
refine cS h rfl (fun h=>?_) fun h=>?_
refine rg ?_
refine rg ?_
exact jn ((w64 ((w64 ((IntKind.wrap .i64 q321)+p2))-p3)),(IntKind.wrap .i64 q321)) h (Zx [])
refine rg ?_
refine rg ?_
exact jn (p1,p2) h (Zx [])
obtain ⟨x322,x323⟩:=a
subst hk17
dsimp only at h ⊢
refine Zj ?_
refine rg ?_
refine bl ?_
refine Zz h fun f19 mf19 hf19 h=>?_
refine Zu (α:=Nat×(Int×Int)) (fun a _=>mkS [(0,.row 0 (0,0)),(1,.int .i64 p1),(2,.int .i64 p2),(3,.int .i64 p3),(4,.fn 38 []),(18,.int .i64 (IntKind.wrap .i64 q321)),(19,.int .i64 (w64 ((IntKind.wrap .i64 q321)+p2))),(20,.int .i64 a.2.1),(21,.int .i64 a.2.2),(22,.int .i64 (w64 ((w64 ((IntKind.wrap .i64 q321)+p2))-1)))] [(0,some ((0,0),.row 45 3 false (List.map Memb.cs p0)))] 2) (fun a=>A3 a.1 f19 a.2=some r) (fun a=>a.1) (mf19,x322,x323) 2 h (Zx []) (fun a _ h=>?_)
obtain ⟨mf19,x342,x343⟩:=a
obtain ⟨mf19,rfl,h⟩:=ZA hf19 h
dsimp only at h ⊢
refine Zj ?_
refine rg ?_
refine cS h rfl (fun h=>?_) fun h=>?_
refine bl ?_
refine rg ?_
obtain ⟨q348,h310,h⟩:=bnd h
refine VH rfl h310 rfl rfl (Zj ?_)
refine rg ?_
obtain ⟨e349,h311,h⟩:=bnd h
refine ZP rfl h311 rfl rfl rfl (Zj ?_)
refine B6 rfl h311 rfl rfl rfl (Zj ?_)
obtain ⟨e350,h312,h⟩:=bnd h
refine ZP rfl h312 rfl rfl rfl (Zj ?_)
refine B6 rfl h312 rfl rfl rfl (Zj ?_)
obtain ⟨r351,h313,h⟩:=bnd h
refine P3 (Lc:=[]) (args1:=[e349.pv,e350.pv]) (X5 _ _ _ h313) rfl rfl rfl rfl (Zj ?_)
refine cS h rfl (fun h=>?_) fun h=>?_
refine rg ?_
exact rn (mf19,(w64 ((IntKind.wrap .i64 q348)+1)),x343) h (Zx [])
refine rg ?_
exact rn (mf19,x342,(IntKind.wrap .i64 q348)) h (Zx [])
refine rg ?_
refine jL h (fun x352=>mkS [(0,.row 0 (0,0)),(1,.int .i64 p1),(2,.int .i64 p2),(3,.int .i64 p3),(4,.fn 38 []),(18,.int .i64 (IntKind.wrap .i64 q321)),(20,.int .i64 x342),(24,.int .i64 (w64 ((w64 ((IntKind.wrap .i64 q321)+p2))-x342))),(185,.bool x352)] [(0,some ((0,0),.row 45 3 false (List.map Memb.cs p0)))] 2) (fun k20 h=>?_) fun x352 h=>?_
refine rg ?_
refine kS 181 h rfl (fun h=>?_) fun h=>?_
exact jn (decide (p2<(w64 ((w64 ((IntKind.wrap .i64 q321)+p2))-x342)))) h (Zx [])
iterate 3 refine Zw rfl (Zj ?_)
exact jn false h (Zx [])
refine jL h (fun x354=>mkS [(0,.row 0 (0,0)),(1,.int .i64 p1),(3,.int .i64 p3),(4,.fn 38 []),(18,.int .i64 (IntKind.wrap .i64 q321)),(20,.int .i64 x342),(24,.int .i64 (w64 ((w64 ((IntKind.wrap .i64 q321)+p2))-x342)))] [(0,some ((0,0),.row 45 3 false (List.map Memb.cs x354)))] 2) (fun k21 h=>?_) fun x354 h=>?_
refine cS h rfl (fun h=>?_) fun h=>?_
refine rg ?_
obtain ⟨r361,h318,h⟩:=bnd h
refine IL (Zdf _ _ _ _ _ h318) rfl rfl rfl rfl rfl (Zj ?_)
exact jn r361 h (Zx [])
exact jn p0 h (Zx [])
refine jL h (fun x355=>mkS [(0,.row 0 (0,0)),(1,.int .i64 p1),(3,.int .i64 p3),(4,.fn 38 []),(18,.int .i64 (IntKind.wrap .i64 q321)),(20,.int .i64 x342),(24,.int .i64 (w64 ((w64 ((IntKind.wrap .i64 q321)+p2))-x342))),(199,.bool x355)] [(0,some ((0,0),.row 45 3 false (List.map Memb.cs x354)))] 2) (fun k22 h=>?_) fun x355 h=>?_
refine rg ?_
refine kS 195 h rfl (fun h=>?_) fun h=>?_
exact jn (decide (x342<(IntKind.wrap .i64 q321))) h (Zx [])
iterate 3 refine Zw rfl (Zj ?_)
exact jn false h (Zx [])
refine jL h (fun x357=>mkS [(0,.row 0 (0,0)),(3,.int .i64 p3),(4,.fn 38 []),(18,.int .i64 (IntKind.wrap .i64 q321)),(24,.int .i64 (w64 ((w64 ((IntKind.wrap .i64 q321)+p2))-x342)))] [(0,some ((0,0),.row 45 3 false (List.map Memb.cs x357)))] 2) (fun k23 h=>?_) fun x357 h=>?_
refine cS h rfl (fun h=>?_) fun h=>?_
refine rg ?_
obtain ⟨r360,h317,h⟩:=bnd h
refine IL (ihF _ _ _ _ _ h317) rfl rfl rfl rfl rfl (Zj ?_)
exact jn r360 h (Zx [])
exact jn x354 h (Zx [])
refine jL h (fun x358=>mkS [(0,.row 0 (0,0)),(3,.int .i64 p3),(4,.fn 38 []),(18,.int .i64 (IntKind.wrap .i64 q321)),(24,.int .i64 (w64 ((w64 ((IntKind.wrap .i64 q321)+p2))-x342))),(213,.bool x358)] [(0,some ((0,0),.row 45 3 false (List.map Memb.cs x357)))] 2) (fun k24 h=>?_) fun x358 h=>?_
refine rg ?_
refine kS 209 h rfl (fun h=>?_) fun h=>?_
exact jn (decide ((w64 ((w64 ((IntKind.wrap .i64 q321)+p2))-x342))<p3)) h (Zx [])
iterate 3 refine Zw rfl (Zj ?_)
exact jn false h (Zx [])
refine cS h rfl (fun h=>?_) fun h=>?_
refine rg ?_
obtain ⟨r359,h316,h⟩:=bnd h
refine IL (ihF _ _ _ _ _ h316) rfl rfl rfl rfl rfl (Zj ?_)
cases h
exact N6 rfl rfl rfl
cases h
exact N6 rfl rfl rfl}
def TS (p0:Q3 Memb) (p1:Int):Q2 (Q3 Memb):=A3 A9 (fun f2 ((x8,x9,x10):Int×Int×(Q3 Memb))=>if decide (x9<=p1) then (ZM x10 x8 x9).bind fun r12=>f2 (x9,(w64 (x9+20)),r12) else (ZM x10 x8 p1).bind fun r13=>A3 A9 (fun f9 ((x29,x30):Int×(Q3 Memb))=>if decide (x29<p1) then A3 A9 (fun f11 ((x53,x54,x55):Int×Int×(Q3 Memb))=>if decide (x54<=p1) then (Zq 64 x55 x53 (w64 (x53+x29)) x54).bind fun r57=>f11 (x54,(w64 (x54+(w64 (2 * x29)))),r57) else letk (fun (x59:Q3 Memb)=>f9 ((w64 (x29 * 2)),x59)) fun k12=>if decide ((w64 (x53+x29))<p1) then (Zq 64 x55 x53 (w64 (x53+x29)) p1).bind fun r60=>k12 r60 else k12 x55) (0,(w64 (2 * x29)),x30) else some x30) (20,r13)) (0,20,p0)
theorem Zdg (p0:Q3 Memb) (p1:Int) (r:Q3 Memb) (h:TS p0 p1=some r):ContractR Tryz.prog 72 [.int .i64 p1,.fn 38 []] 45 3 (List.map Memb.cs p0) (.tup []) (List.map Memb.cs r):=by{
refine PE (R:=fun r=>.tup []) (O:=fun r=>(List.map Memb.cs r)) h mix Tryz.func72 (by kernel_rfl) rfl (by kernel_rfl) fun r h=>?_
unfold TS at h
refine Zj ?_
refine rg ?_
refine rg ?_
refine bl ?_
refine Zz h fun f2 mf2 hf2 h=>?_
refine Zu (α:=Nat×(Int×Int×(Q3 Memb))) (fun a _=>mkS [(0,.row 0 (0,0)),(1,.int .i64 p1),(2,.fn 38 []),(6,.int .i64 20),(7,.int .i64 a.2.1),(8,.int .i64 a.2.2.1)] [(0,some ((0,0),.row 45 3 false (List.map Memb.cs a.2.2.2)))] 2) (fun a=>A3 a.1 f2 a.2=some r) (fun a=>a.1) (mf2,0,20,p0) 2 h (Zx []) (fun a _ h=>?_)
obtain ⟨mf2,x8,x9,x10⟩:=a
obtain ⟨mf2,rfl,h⟩:=ZA hf2 h
dsimp only at h ⊢
refine Zj ?_
refine rg ?_
refine cS h rfl (fun h=>?_) fun h=>?_
refine bl ?_
refine rg ?_
obtain ⟨r12,h6,h⟩:=bnd h
refine IL (oR _ _ _ _ h6) rfl rfl rfl rfl rfl (Zj ?_)
refine rg ?_
refine rg ?_
exact rn (mf2,x9,(w64 (x9+20)),r12) h (Zx [])
refine rg ?_
obtain ⟨r13,h7,h⟩:=bnd h
refine IL (oR _ _ _ _ h7) rfl rfl rfl rfl rfl (Zj ?_)
refine bl ?_
refine Zz h fun f9 mf9 hf9 h=>?_
refine Zu (α:=Nat×(Int×(Q3 Memb))) (fun a _=>mkS [(0,.row 0 (0,0)),(1,.int .i64 p1),(2,.fn 38 []),(6,.int .i64 a.2.1)] [(0,some ((0,0),.row 45 3 false (List.map Memb.cs a.2.2)))] 2) (fun a=>A3 a.1 f9 a.2=some r) (fun a=>a.1) (mf9,20,r13) 2 h (Zx []) (fun a _ h=>?_)
obtain ⟨mf9,x29,x30⟩:=a
obtain ⟨mf9,rfl,h⟩:=ZA hf9 h
dsimp only at h ⊢
refine Zj ?_
refine rg ?_
refine cS h rfl (fun h=>?_) fun h=>?_
refine bl ?_
refine rg ?_
refine bl ?_
refine Zz h fun f11 mf11 hf11 h=>?_
refine Zu (α:=Nat×(Int×Int×(Q3 Memb))) (fun a _=>mkS [(0,.row 0 (0,0)),(1,.int .i64 p1),(2,.fn 38 []),(6,.int .i64 x29),(7,.int .i64 a.2.1),(8,.int .i64 a.2.2.1)] [(0,some ((0,0),.row 45 3 false (List.map Memb.cs a.2.2.2)))] 2) (fun a=>A3 a.1 f11 a.2=some r) (fun a=>a.1) (mf11,0,(w64 (2 * x29)),x30) 2 h (Zx []) (fun a _ h=>?_)
obtain ⟨mf11,x53,x54,x55⟩:=a
obtain ⟨mf11,rfl,h⟩:=ZA hf11 h
dsimp only at h ⊢
refine Zj ?_
refine rg ?_
refine cS h rfl (fun h=>?_) fun h=>?_
refine bl ?_
refine rg ?_
obtain ⟨r57,h29,h⟩:=bnd h
refine IL (oS 64 _ _ _ _ _ h29) rfl rfl rfl rfl rfl (Zj ?_)
refine rg ?_
refine rg ?_
exact rn (mf11,x54,(w64 (x54+(w64 (2 * x29)))),r57) h (Zx [])
refine rg ?_
refine rg ?_
refine jL h (fun x59=>mkS [(0,.row 0 (0,0)),(1,.int .i64 p1),(2,.fn 38 []),(6,.int .i64 x29)] [(0,some ((0,0),.row 45 3 false (List.map Memb.cs x59)))] 2) (fun k12 h=>?_) fun x59 h=>?_
refine cS h rfl (fun h=>?_) fun h=>?_
refine rg ?_
obtain ⟨r60,h31,h⟩:=bnd h
refine IL (oS 64 _ _ _ _ _ h31) rfl rfl rfl rfl rfl (Zj ?_)
exact jn r60 h (Zx [])
exact jn x55 h (Zx [])
refine rg ?_
exact rn (mf9,(w64 (x29 * 2)),x59) h (Zx [])
cases h
exact N6 rfl rfl rfl}
def ZV (p0:Q3 Memb):Q2 (Q3 Memb):=(TS p0 (p0.length:Int)).bind fun r1=>some r1
theorem Zda (p0:Q3 Memb) (r:Q3 Memb) (h:ZV p0=some r):ContractR Tryz.prog 37 [.fn 38 []] 45 3 (List.map Memb.cs p0) (.tup []) (List.map Memb.cs r):=by{
refine PE (R:=fun r=>.tup []) (O:=fun r=>(List.map Memb.cs r)) h mix Tryz.func37 (by kernel_rfl) rfl (by kernel_rfl) fun r h=>?_
unfold ZV at h
refine Zj ?_
refine rg ?_
refine lM Memb.cs p0 ?_
obtain ⟨r1,h1,h⟩:=bnd h
refine IL (Zdg _ _ _ h1) rfl rfl rfl rfl rfl (Zj ?_)
cases h
exact N6 rfl rfl rfl}
def QL (p0:Q3 Memb):Q2 (Q3 Memb):=if decide ((p0.length:Int)<2) then some p0 else A3 A9 (fun f82 (x674:Int)=>if decide (x674<(p0.length:Int)) then (atI p0 x674).bind fun e927=>(atI p0 (w64 (x674-1))).bind fun e928=>(TM e927 e928).bind fun r929=>if r929 then (HT p0 x674).bind fun _=>A3 A9 (fun f97 ((x982,x983,x984):Int×Int×(Q3 Memb))=>if decide (x983<(PG x984 x674)) then letk (fun (x1002:Int) (x1003:Q3 Memb)=>f97 (x1002,(w64 (x983+1)),x1003)) fun k98=>(atQ x984 x674 x983).bind fun e1004=>(atQ x984 x674 (w64 (x983-1))).bind fun e1005=>(TM e1004 e1005).bind fun r1006=>if (!r1006) then (atQ x984 x674 x983).bind fun e1007=>(atI x984 x982).bind fun e1008=>k98 (w64 (x982+1)) (AP x984 x982 e1007) else k98 x982 x984 else (HT x984 x982).bind fun _=>(CL (N7 x984 x982 (⟨(⟨0,(⟨#[]⟩:Q1)⟩:Title),(⟨#[]⟩:Q1)⟩:Memb)) 0 x982).bind fun l1010=>some l1010) (x674,1,p0) else f82 (w64 (x674+1)) else some p0) 1
theorem ZdL (p0:Q3 Memb) (r:Q3 Memb) (h:QL p0=some r):ContractS Tryz.prog 39 [.fn 40 []] 45 3 (List.map Memb.cs p0) (List.map Memb.cs r):=by{
refine kK (O:=fun r=>(List.map Memb.cs r)) h mix Tryz.func39 (by kernel_rfl) rfl (by kernel_rfl) fun r h=>?_
unfold QL at h
refine Zj ?_
refine rg ?_
refine rg ?_
refine lM Memb.cs p0 ?_
refine cS h rfl (fun h=>?_) fun h=>?_
refine rg ?_
cases h
exact PF rfl rfl
refine rg ?_
refine bl ?_
refine Zz h fun f82 mf82 hf82 h=>?_
refine Zu (α:=Nat×Int) (fun a _=>mkS [(0,.row 0 (0,0)),(1,.fn 40 []),(5,.int .i64 a.2)] [(0,some ((0,0),.row 45 3 false (List.map Memb.cs p0)))] 2) (fun a=>A3 a.1 f82 a.2=some r) (fun a=>a.1) (mf82,1) 2 h (Zx []) (fun a _ h=>?_)
obtain ⟨mf82,x674⟩:=a
obtain ⟨mf82,rfl,h⟩:=ZA hf82 h
dsimp only at h ⊢
refine Zj ?_
refine rg ?_
refine lM Memb.cs p0 ?_
refine cS h rfl (fun h=>?_) fun h=>?_
refine bl ?_
refine rg ?_
obtain ⟨e927,h727,h⟩:=bnd h
refine ZP rfl h727 rfl rfl rfl (Zj ?_)
refine B6 rfl h727 rfl rfl rfl (Zj ?_)
obtain ⟨e928,h728,h⟩:=bnd h
refine ZP rfl h728 rfl rfl rfl (Zj ?_)
refine B6 rfl h728 rfl rfl rfl (Zj ?_)
obtain ⟨r929,h729,h⟩:=bnd h
refine P3 (Lc:=[]) (args1:=[e927.pv,e928.pv]) (o7 _ _ _ h729) rfl rfl rfl rfl (Zj ?_)
refine cS h rfl (fun h=>?_) fun h=>?_
refine rg ?_
obtain ⟨_,h730,h⟩:=bnd h
refine W9 rfl h730 rfl rfl rfl (Zj ?_)
refine rg ?_
refine bl ?_
refine Zz h fun f97 mf97 hf97 h=>?_
refine Zu (α:=Nat×(Int×Int×(Q3 Memb))) (fun a _=>mkS [(0,.row 0 (0,0)),(1,.fn 40 []),(5,.int .i64 a.2.1),(6,.suf 0 (0,0) (x674).toNat 3),(7,.int .i64 a.2.2.1)] [(0,some ((0,0),.row 45 3 false (List.map Memb.cs a.2.2.2)))] 2) (fun a=>A3 a.1 f97 a.2=some r) (fun a=>a.1) (mf97,x674,1,p0) 2 h (Zx []) (fun a _ h=>?_)
obtain ⟨mf97,x982,x983,x984⟩:=a
obtain ⟨mf97,rfl,h⟩:=ZA hf97 h
dsimp only at h ⊢
refine Zj ?_
refine rg ?_
refine kH (M:=x984) (f:=Memb.cs) rfl rfl rfl (Zj ?_)
refine cS h rfl (fun h=>?_) fun h=>?_
refine FO h fun k98 hk98 h=>?_
refine DM (α:=Int×(Q3 Memb)) (fun a _=>mkS [(0,.row 0 (0,0)),(1,.fn 40 []),(5,.int .i64 a.1),(6,.suf 0 (0,0) (x674).toNat 3),(7,.int .i64 x983)] [(0,some ((0,0),.row 45 3 false (List.map Memb.cs a.2)))] 2) (fun a=>k98 a.1 a.2=some r) (Zj ?_) (fun a _ h=>?_)
refine bl ?_
refine rg ?_
obtain ⟨e1004,h786,h⟩:=bnd h
refine PH rfl h786 rfl rfl rfl (Zj ?_)
refine B6 rfl (N8 h786) rfl rfl rfl (Zj ?_)
obtain ⟨e1005,h787,h⟩:=bnd h
refine PH rfl h787 rfl rfl rfl (Zj ?_)
refine B6 rfl (N8 h787) rfl rfl rfl (Zj ?_)
obtain ⟨r1006,h788,h⟩:=bnd h
refine P3 (Lc:=[]) (args1:=[e1004.pv,e1005.pv]) (o7 _ _ _ h788) rfl rfl rfl rfl (Zj ?_)
refine cS h rfl (fun h=>?_) fun h=>?_
refine rg ?_
obtain ⟨e1007,h789,h⟩:=bnd h
refine PH rfl h789 rfl rfl rfl (Zj ?_)
refine B6 rfl (N8 h789) rfl rfl rfl (Zj ?_)
obtain ⟨e1008,h790,h⟩:=bnd h
refine ZP rfl h790 rfl rfl rfl (Zj ?_)
refine FP (e':=e1007) rfl h790 rfl rfl rfl rfl rfl rfl (Yk rfl) rfl rfl (Zj ?_)
refine rg ?_
exact jn ((w64 (x982+1)),(AP x984 x982 e1007)) h (Zx [])
exact jn (x982,x984) h (Zx [])
obtain ⟨x1002,x1003⟩:=a
subst hk98
dsimp only at h ⊢
refine Zj ?_
refine rg ?_
exact rn (mf97,x1002,(w64 (x983+1)),x1003) h (Zx [])
refine rg ?_
obtain ⟨_,h791,h⟩:=bnd h
refine W9 rfl h791 rfl rfl rfl (Zj ?_)
refine kI (M:=x984) (f:=Memb.cs) (zr:=(⟨(⟨0,(⟨#[]⟩:Q1)⟩:Title),(⟨#[]⟩:Q1)⟩:Memb)) rfl rfl rfl rfl rfl (Zj ?_)
refine rg ?_
obtain ⟨l1010,h792,h⟩:=bnd h
refine kJ rfl h792 rfl rfl rfl (Zj ?_)
cases h
exact PF rfl rfl
refine rg ?_
exact rn (mf82,(w64 (x674+1))) h (Zx [])
refine rg ?_
cases h
exact PF rfl rfl}
end
namespace VL
section
variable {α:Type}
def QM (le:α->α->Bool) (r:Q3 α->Q3 α) (x:α) (s:Q3 α):Q3 α->Q3 α | []=>x::s | y::t=>if le x y=true then x::r (y::t) else y::QM le r x s t
def AF (le:α->α->Bool):Q3 α->Q3 α->Q3 α | [],t=>t | x::s,t=>QM le (AF le s) x s t
variable {le:α->α->Bool}
theorem I3 (s:Q3 α):AF le s []=s:=by cases s<;>rfl
theorem I4 {x y:α} {s t:Q3 α} (h:le x y=true):AF le (x::s) (y::t)=x::AF le s (y::t):=by
 show QM le (AF le s) x s (y::t)=_
 unfold QM
 rw [if_pos h]
theorem IT {x y:α} {s t:Q3 α} (h:le x y=false):AF le (x::s) (y::t)=y::AF le (x::s) t:=by
 show QM le (AF le s) x s (y::t)=_
 rw [QM,if_neg (by rw [h];decide)]
 rfl
theorem NM:∀ (A B C D:Q3 α),(∀ u ∈ A,∀ v ∈ D,le u v=true)->(∀ v ∈ C,∀ u ∈ B,le u v=false)->AF le (A++B) (C++D)=AF le A C++AF le B D
 | [],B,[],D,_,_=>rfl
 | [],[],v::C,D,_,_=>rfl
 | [],u::B,v::C,D,h1,h2=>by
   rw [H7,FG,IT (h2 v (by simp) u (by simp))]
   have:=NM [] (u::B) C D h1 fun v hv=>h2 v (Yg _ hv)
   rw [H7] at this
   rw [this]
   rfl
 | u::A,B,[],[],_,_=>by rw [YB,I3,I3,I3]
 | u::A,B,[],w::D,h1,h2=>by
   rw [H7,FG,I4 (h1 u (by simp) w (by simp))]
   have:=NM A B [] (w::D) (fun u hu=>h1 u (Yg _ hu)) h2
   rw [H7] at this
   rw [this,I3,I3]
   rfl
 | u::A,B,v::C,D,h1,h2=>by
   rw [FG,FG]
   cases h:le u v with
   | true=>
     rw [I4 h,I4 h]
     have:=NM A B (v::C) D (fun u hu=>h1 u (Yg _ hu)) h2
     rw [FG] at this
     rw [this]
     rfl
   | false=>
     rw [IT h,IT h]
     have:=NM (u::A) B C D h1 fun v hv=>h2 v (Yg _ hv)
     rw [FG] at this
     rw [this]
     rfl
 termination_by A _ C _=>A.length+C.length
theorem TT (ht:∀ a b c,le a b=true->le b c=true->le a c=true) (hl:∀ a b,(le a b||le b a)=true) (x:α):∀ (S T:Q3 α),BY le x (AF le S T)=AF le (BY le x S) T
 | [],[]=>rfl
 | [],b::T=>by
   show BY le x (b::T)=AF le [x] (b::T)
   cases h:le x b with
   | true=>
     rw [I4 h,BY,if_pos h]
     rfl
   | false=>
     rw [IT h,BY,if_neg (by rw [h];decide)]
     have:=TT ht hl x [] T
     exact CA (b :: ·) this
 | a::S,[]=>by rw [I3,I3]
 | a::S,b::T=>by
   have tot:∀ a b,le a b=false->le b a=true:=fun a b h=>by have:=hl a b;rw [h] at this;exact this
   cases hxa:le x a with
   | true=>
     have e:BY le x (a::S)=x::a::S:=by rw [BY,if_pos hxa]
     rw [e]
     cases hab:le a b with
     | true=>
       rw [I4 hab,I4 (ht x a b hxa hab),I4 hab,BY,if_pos hxa]
     | false=>
       rw [IT hab]
       cases hxb:le x b with
       | true=>rw [I4 hxb,IT hab,BY,if_pos hxb]
       | false=>
         rw [IT hxb,BY,if_neg (by rw [hxb];decide)]
         have:=TT ht hl x (a::S) T
         rw [this,e]
   | false=>
     have e:BY le x (a::S)=a::BY le x S:=by rw [BY,if_neg (by rw [hxa];decide)]
     rw [e]
     cases hab:le a b with
     | true=>
       rw [I4 hab,I4 hab,BY,if_neg (by rw [hxa];decide),TT ht hl x S (b::T)]
     | false=>
       have hxb:le x b=false:=by
        cases h:le x b with
        | false=>rfl
        | true=>
          have:=ht x b a h (tot a b hab)
          rw [hxa] at this
          cases this
       rw [IT hab,IT hab,BY,if_neg (by rw [hxb];decide)]
       have:=TT ht hl x (a::S) T
       rw [this,e]
 termination_by S T=>S.length+T.length
theorem eV (ht:∀ a b c,le a b=true->le b c=true->le a c=true) (hl:∀ a b,(le a b||le b a)=true):∀ (A B:Q3 α),AJ le (A++B)=AF le (AJ le A) (AJ le B)
 | [],B=>rfl
 | x::A,B=>by
   show BY le x (AJ le (A++B))=AF le (BY le x (AJ le A)) (AJ le B)
   rw [eV ht hl A B,TT ht hl]
theorem Zrn (ht:∀ a b c,le a b=true->le b c=true->le a c=true) (hl:∀ a b,(le a b||le b a)=true) (A:Q3 α) (y:α):AJ le (A ++ [y])=AF le (AJ le A) [y]:=eV ht hl A [y]
theorem oT {y:α} {A B:Q3 α} (h1:∀ u ∈ A,le u y=true) (h2:∀ u ∈ B,le u y=false):AF le (A++B) [y]=A++y::B:=by{
have e:AF le (A++B) [y]=AF le A []++AF le B [y]:=NM A B [] [y] (fun u hu v hv=>YG.1 hv ▸ h1 u hu) (fun v hv=>by cases hv)
rw [e,I3]
congr 1
cases B with
| nil=>rfl
| cons b B=>rw [IT (h2 b (by simp)),I3]}
theorem Zpl {x:α} {C D:Q3 α} (h1:∀ v ∈ D,le x v=true) (h2:∀ v ∈ C,le x v=false):AF le [x] (C++D)=C++x::D:=by{
have e:AF le [x] (C++D)=C++AF le [x] D:=NM [] [x] C D (fun u hu=>by cases hu) (fun v hv u hu=>YG.1 hu ▸ h2 v hv)
rw [e]
congr 1
cases D with
| nil=>rfl
| cons d D=>rw [I4 (h1 d (by simp))];rfl}
theorem BZ (l:Q3 α):(AJ le l).length=l.length:=(TR le l).length_eq
theorem Zro (S T:Q3 α):(AF le S T).Perm (S++T):=by{
induction S generalizing T with
| nil=>exact .refl _
| cons x S ih=>
  induction T with
  | nil=>rw [I3,YB]
  | cons y T ih2=>
    cases h:le x y with
    | true=>
      rw [I4 h]
      exact (ih (y::T)).cons x
    | false=>
      rw [IT h]
      refine (ih2.cons y).trans ?_
      exact (List.perm_middle (a:=y) (l₁:=x::S) (l₂:=T)).symm}
theorem ZsA (S T:Q3 α):(AF le S T).length=S.length+T.length:=by rw [(Zro S T).length_eq,Yb]
end
end VL
section
open VL
theorem C0 {α:Type} {l A B:Q3 α} {x:α} {n:Int} (h:l=A++x::B) (hn:n=(A.length:Int)):atI l n=some x:=by{
subst h hn
unfold atI
rw [if_pos (by omega),DJ,YP (Yn _),E6]
rfl}
theorem KT {α:Type} {l A B:Q3 α} {x y:α} {n:Int} (h:l=A++x::B) (hn:n=(A.length:Int)):AP l n y=A++y::B:=by{
subst h hn
unfold AP
rw [DJ,MD _ _ (Yn _),E6]
rfl}
theorem DH {a b:Int} (h0:0<=a:=by omega) (h1:0<=b:=by omega) (ha:a<=10000000:=by omega) (hb:b<=10000000:=by omega):w64 (a+b)=a+b:=ZK
theorem D8 {a b:Int} (h0:0<=a:=by omega) (h1:0<=b:=by omega) (ha:a<=10000000:=by omega) (hb:b<=10000000:=by omega):w64 (a-b)=a-b:=ZK
theorem eW (P X Q Y S:Q3 Memb) (hXY:X.length=Y.length) (hL:(P++X++Q++Y++S).length<=1000000) (p1 p2 n:Int) (h1:p1=(P.length:Int)) (h2:p2=((P++X++Q).length:Int)) (hn:n=(X.length:Int)) :
  ZL (P++X++Q++Y++S) p1 p2 n=some (P++Y++Q++X++S):=by{
simp only [Yb] at hL h2
refine ZI ?_
unfold ZL
refine ZF (fun a=>∃ X1 X2 Y1 Y2:Q3 Memb,X=X1++X2/\Y=Y1++Y2/\X1.length=Y1.length/\a.1=(X1.length:Int)/\a.2=P++Y1++X2++Q++X1++Y2++S) (fun a=>X.length-a.1.toNat) ⟨[],X,[],Y,rfl,rfl,rfl,rfl,by simp⟩ (by dsimp only;omega) ?_
rintro ⟨i,l⟩ rec ⟨X1,X2,Y1,Y2,hX,hY,hxy,hi,hl⟩ ih
dsimp only at hi hl ih ⊢
have lX:X.length=X1.length+X2.length:=by rw [hX,Yb]
have lY:Y.length=Y1.length+Y2.length:=by rw [hY,Yb]
refine Zc (fun hlt=>?_) (fun hge=>?_)
obtain ⟨x,X2,rfl⟩:∃ x X',X2=x::X':=by
 cases X2 with
 | nil=>simp at lX;omega
 | cons x X'=>exact ⟨x,X',rfl⟩
obtain ⟨y,Y2,rfl⟩:∃ y Y',Y2=y::Y':=by
 cases Y2 with
 | nil=>simp at lY lX;omega
 | cons y Y'=>exact ⟨y,Y',rfl⟩
simp only [Yr] at lX lY
have e1:w64 (p1+i)=p1+i:=DH
have e2:w64 (p2+i)=p2+i:=DH
have d1:l=(P++Y1)++x::(X2++Q++X1++(y::Y2)++S):=by rw [hl];simp
have d2:l=(P++Y1++(x::X2)++Q++X1)++y::(Y2++S):=by rw [hl];simp
have n1:p1+i=((P++Y1).length:Int):=by simp only [Yb];omega
have n2:p2+i=((P++Y1++(x::X2)++Q++X1).length:Int):=by simp only [Yb,Yr];omega
have d3:AP l (p1+i) y=(P++Y1++(y::X2)++Q++X1)++y::(Y2++S):=by rw [KT d1 n1];simp
have n3:p2+i=((P++Y1++(y::X2)++Q++X1).length:Int):=by rw [n2];simp
rw [e1,e2,DH]
refine Za (C0 d2 n2) (Za (C0 d1 n1) (Za (C0 d1 n1) (Za (C0 d3 n3) ?_)))
refine ih _ ⟨X1 ++ [x],X2,Y1 ++ [y],Y2,by simp [hX],by simp [hY],by simp [hxy],by simp;omega,?_⟩ (by dsimp only;omega)
dsimp only
rw [KT d3 n3]
simp
have z1:X2 = []:=Yl (by omega)
have z2:Y2 = []:=Yl (by omega)
subst z1 z2
refine Zd ?_
rw [hl,hX,hY]
simp}
theorem Zwa (P U V S:Q3 Memb) (hU:0<U.length) (hV:0<V.length) (hL:(P++U++V++S).length<=1000000) (a m b:Int) (ha:a=(P.length:Int)) (hm:m=((P++U).length:Int)) (hb:b=((P++U++V).length:Int)) :
  ZW (P++U++V++S) a m b=some (P++V++U++S):=by{
simp only [Yb] at hL hm hb
refine ZI ?_
unfold ZW
have e1:w64 (m-a)=(U.length:Int):=by rw [D8];omega
have e2:w64 (b-m)=(V.length:Int):=by rw [D8];omega
rw [e1,e2]
refine ZF (fun x=>∃ A U1 V1 B:Q3 Memb,0<U1.length/\0<V1.length/\x.1=(U1.length:Int)/\x.2.1=(V1.length:Int)/\x.2.2=P++A++U1++V1++B++S/\A++V1++U1++B=V++U/\P.length+A.length+U1.length=P.length+U.length) (fun x=>x.1.toNat+x.2.1.toNat)
 ⟨[],U,V,[],hU,hV,rfl,rfl,by simp,by simp,by simp⟩ (by dsimp only;omega) ?_
rintro ⟨i,j,l⟩ rec ⟨A,U1,V1,B,hU1,hV1,hi,hj,hl,hfin,hpos⟩ ih
dsimp only at hi hj hl ih ⊢
have htot:A.length+V1.length+U1.length+B.length=V.length+U.length:=by
 have:=CA List.length hfin
 simpa only [Yb] using this
have e3:w64 (m-i)=m-i:=D8
refine CM (fun hne=>?_) (fun heq=>?_)
refine Zc (fun hlt=>?_) (fun hge=>?_)

have s1:U1=U1.take V1.length++U1.drop V1.length:=(YQ _ _).symm
have l1:(U1.take V1.length).length=V1.length:=by rw [YE];omega
have l2:(U1.drop V1.length).length=U1.length-V1.length:=Yx
generalize hUa:U1.take V1.length=Ua at s1 l1
generalize hUb:U1.drop V1.length=Ub at s1 l2
have hd:l=(P++A)++Ua++Ub++V1++(B++S):=by rw [hl,s1];simp
have hsw:=eW (P++A) Ua Ub V1 (B++S) l1 (by simp only [Yb];omega) (m-i) m j (by simp only [Yb];omega) (by simp only [Yb];omega) (by omega)
rw [e3,D8,hd]
refine Za hsw ?_
refine ih _ ⟨A++V1,Ub,Ua,B,by omega,by omega,by dsimp only;omega,by dsimp only;omega,?_,?_,?_⟩ (by dsimp only;omega)
dsimp only
simp
rw [<- hfin,s1]
simp
rw [Yb]
omega
have s1:V1=V1.take (V1.length-U1.length)++V1.drop (V1.length-U1.length):=(YQ _ _).symm
have l1:(V1.take (V1.length-U1.length)).length=V1.length-U1.length:=by rw [YE];omega
have l2:(V1.drop (V1.length-U1.length)).length=U1.length:=by rw [Yx];omega
generalize hUa:V1.take (V1.length-U1.length)=Va at s1 l1
generalize hUb:V1.drop (V1.length-U1.length)=Vb at s1 l2
have hd:l=(P++A)++U1++Va++Vb++(B++S):=by rw [hl,s1];simp
have e4:w64 (w64 (m+j)-i)=m+j-i:=by rw [DH,D8]
have hsw:=eW (P++A) U1 Va Vb (B++S) (by omega) (by simp only [Yb];omega) (m-i) (m+j-i) i (by simp only [Yb];omega) (by simp only [Yb];omega) (by omega)
rw [e3,e4,D8,hd]
refine Za hsw ?_
refine ih _ ⟨A,Vb,Va,U1++B,by omega,by omega,by dsimp only;omega,by dsimp only;omega,?_,?_,?_⟩ (by dsimp only;omega)
dsimp only
simp
rw [<- hfin,s1]
simp
omega
have hd:l=(P++A)++U1 ++ []++V1++(B++S):=by rw [hl];simp
have hsw:=eW (P++A) U1 [] V1 (B++S) (by omega) (by simp only [Yb,DK];omega) (m-i) m i (by simp only [Yb];omega) (by simp only [Yb,DK];omega) (by omega)
rw [e3,hd]
refine Za hsw (Zd ?_)
have:(P++A)++V1 ++ []++U1++(B++S)=P++(A++V1++U1++B)++S:=by simp
rw [this,hfin]
simp}
end
section
open Go.RowKit
open Go.Sort (grow grow_grow alloc_eq_grow)
def Gw (w w':World):Prop:=∃ (q:Nat) (os:Array Obj),w'=grow (w.drewN q) os
theorem Gw.refl (w:World):Gw w w:=⟨0,#[],by simp [grow,World.drewN]⟩
theorem Gw.alloc {w w':World} (h:Gw w w') (o:Obj):Gw w (w'.alloc o):=by
 obtain ⟨q,os,rfl⟩:=h
 exact ⟨q,os ++ #[o],by rw [alloc_eq_grow,grow_grow]⟩
theorem Gw.drew {w w':World} (h:Gw w w'):Gw w w'.drew:=by
 obtain ⟨q,os,rfl⟩:=h
 exact ⟨q+1,os,rfl⟩
theorem Gw.trans {a b c:World} (h:Gw a b) (k:Gw b c):Gw a c:=by{
obtain ⟨q,os,rfl⟩:=h
obtain ⟨q2,os2,rfl⟩:=k
refine ⟨q+q2,os++os2,?_⟩
simp [grow,World.drewN,Array.append_assoc,J0]}
theorem Gw.below {w w':World} (h:Gw w w'):Below w.heap.size w w':=by{
obtain ⟨q,os,rfl⟩:=h
refine ⟨rfl,rfl,rfl,by simp [grow,World.drewN],fun k hk=>?_⟩
show (w.heap++os)[k]? = w.heap[k]?
rw [Array.getElem?_append_left hk]}
theorem Zlc (a b:Title) (w:World):Calls Tryz.prog 36 #[.agg #[.int .i64 a.space,.string a.name],.agg #[.int .i64 b.space,.string b.name]] w fun e w'=>e = .returned (.int .i64 (Title.cmp a b))/\Gw w w':=by{
go_enter Tryz.func36,Tryz.ntmps36
go_wp2
generalize hw1:(w.alloc _).alloc _=w1
have c0:w1.cell? ⟨w.heap.size,0,none⟩=some (.int .i64 a.space):=by subst hw1;go_simp
have c1:w1.cell? ⟨w.heap.size,1,none⟩=some (.string a.name):=by subst hw1;go_simp
have c2:w1.cell? ⟨w.heap.size+1,0,none⟩=some (.int .i64 b.space):=by subst hw1;go_simp
have c3:w1.cell? ⟨w.heap.size+1,1,none⟩=some (.string b.name):=by subst hw1;go_simp
have hb:Gw w w1:=by subst hw1;exact ((Gw.refl _).alloc _).alloc _
have HB:=Lib.hid hb
clear hw1 hb
go_region_held3 (fun W=>W.cell? ⟨w.heap.size,0,none⟩=some (.int .i64 a.space)/\W.cell? ⟨w.heap.size,1,none⟩=some (.string a.name)/\W.cell? ⟨w.heap.size+1,0,none⟩=some (.int .i64 b.space)/\W.cell? ⟨w.heap.size+1,1,none⟩=some (.string b.name)) (first | exact ⟨c0,c1,c2,c3⟩ | (refine ⟨?_,?_,?_,?_⟩<;>first | exact re1 (((Below.refl _ _).alloc (Yn _) _).drew) (DU (by assumption)) (by assumption))) (first | (go_at_call 35;refine (jH _ _ _).mono ?_;rintro e w' ⟨rfl,rfl⟩) | (go_at_call 71;refine (jI _ _ _).mono ?_;rintro e w' ⟨rfl,rfl⟩)  | (go_at_call 34;refine (jJ _ _ _ [Lib.compareInt a.space b.space,Lib.compareBytes a.name.data.toList b.name.data.toList] _ (by exact SlR.built (fun x:Int=>[.int .i64 x]) (fun _ _ _=>rfl) _ _ rfl (by decide) rfl)).mono ?_;rintro e w' ⟨rfl,rfl⟩))
go_wp2
go_ret
exact ⟨rfl,(HB.out.alloc _).drew⟩}
def D9 (a b:Link):Int:=orI [Lib.compareInt a.kind b.kind,Title.cmp a.title b.title]
def NN (x:Link):Q3 Value:=[.int .i64 x.kind,.int .i64 x.title.space,.string x.title.name]
theorem ZlW (a b:Link) (w:World):Calls Tryz.prog 33 #[.agg (NN a).toArray,.agg (NN b).toArray] w fun e w'=>e = .returned (.int .i64 (D9 a b))/\Gw w w':=by{
unfold NN
go_enter Tryz.func33,Tryz.ntmps33
go_wp2
generalize hw1:(w.alloc _).alloc _=w1
have c0:w1.cell? ⟨w.heap.size,0,none⟩=some (.int .i64 a.kind):=by subst hw1;go_simp
have c1:w1.cell? ⟨w.heap.size,1,none⟩=some (.int .i64 a.title.space):=by subst hw1;go_simp
have c2:w1.cell? ⟨w.heap.size,2,none⟩=some (.string a.title.name):=by subst hw1;go_simp
have c3:w1.cell? ⟨w.heap.size+1,0,none⟩=some (.int .i64 b.kind):=by subst hw1;go_simp
have c4:w1.cell? ⟨w.heap.size+1,1,none⟩=some (.int .i64 b.title.space):=by subst hw1;go_simp
have c5:w1.cell? ⟨w.heap.size+1,2,none⟩=some (.string b.title.name):=by subst hw1;go_simp
have hb:Gw w w1:=by subst hw1;exact ((Gw.refl _).alloc _).alloc _
have HB:=Lib.hid hb
have HF:Hid (∀ W,Gw w1 W->W.cell? ⟨w.heap.size,0,none⟩=some (.int .i64 a.kind)/\W.cell? ⟨w.heap.size,1,none⟩=some (.int .i64 a.title.space)/\W.cell? ⟨w.heap.size,2,none⟩=some (.string a.title.name)/\W.cell? ⟨w.heap.size+1,0,none⟩=some (.int .i64 b.kind)/\W.cell? ⟨w.heap.size+1,1,none⟩=some (.int .i64 b.title.space)/\W.cell? ⟨w.heap.size+1,2,none⟩=some (.string b.title.name)):=Lib.hid fun W hW=>⟨re1 hW.below (DU c0) c0,re1 hW.below (DU c1) c1,re1 hW.below (DU c2) c2,re1 hW.below (DU c3) c3,re1 hW.below (DU c4) c4,re1 hW.below (DU c5) c5⟩
clear hw1 hb
go_region_held3 (fun W=>Gw w1 W/\W.cell? ⟨w.heap.size,0,none⟩=some (.int .i64 a.kind)/\W.cell? ⟨w.heap.size,1,none⟩=some (.int .i64 a.title.space)/\W.cell? ⟨w.heap.size,2,none⟩=some (.string a.title.name)/\W.cell? ⟨w.heap.size+1,0,none⟩=some (.int .i64 b.kind)/\W.cell? ⟨w.heap.size+1,1,none⟩=some (.int .i64 b.title.space)/\W.cell? ⟨w.heap.size+1,2,none⟩=some (.string b.title.name)) (refine ⟨?_,HF.out _ ?_⟩<;>(repeat' first | assumption | exact Gw.refl _ | apply Gw.drew | apply Gw.alloc)) (first | (go_at_call 35;refine (jH _ _ _).mono ?_;rintro e w' ⟨rfl,rfl⟩) | (go_at_call 36;refine (Zlc a.title b.title _).mono ?_;rintro e w2 ⟨rfl,hb2⟩;have hb3:Gw w1 w2:=Gw.trans (by (repeat' first | assumption | exact Gw.refl _ | apply Gw.drew | apply Gw.alloc)) hb2) | (go_at_call 34;refine (jJ _ _ _ [Lib.compareInt a.kind b.kind,Title.cmp a.title b.title] _ (by exact SlR.built (fun x:Int=>[.int .i64 x]) (fun _ _ _=>rfl) _ _ rfl (by decide) rfl)).mono ?_;rintro e w' ⟨rfl,rfl⟩))
go_wp2
go_ret
exact ⟨rfl,HB.out.trans (by (repeat' first | assumption | exact Gw.refl _ | apply Gw.drew | apply Gw.alloc))⟩}
end
end Go.Proofs.YtmgfammllddkhaaGreatDoor
namespace Go.Proofs
open Go.Shelf
def Tryz.sortLink_ren:Go.Shelf.Ren:=⟨fun | 6=>32 | 15=>69 | 14=>68 | 28=>127 | 29=>128 | 20=>119 | 21=>120 | 22=>121 | 23=>122 | 24=>123 | 25=>124 | 26=>125 | 27=>126 | 46=>178 | 47=>179 | 48=>180 | 49=>181 | 50=>182 | 57=>212 | n=>n,fun | 22=>23 | 24=>42 | 25=>68 | 3=>3 | 39=>114 | 0=>0 | 53=>160 | 55=>162 | 4=>4 | 46=>153 | 45=>152 | 50=>157 | 5=>5 | 9=>9 | 66=>191 | 70=>195 | 76=>214 | 77=>139 | n=>n,fun | n=>n⟩
theorem Tryz.sortLink:Go.Proofs.SlLaysF0.n6 Tryz.prog Tryz.sortLink_ren:={
 mixed:=by kernel_rfl
 f6:=⟨Tryz.f32.name,by decide,Tryz.func32.trans (congrArg some (by kernel_rfl))⟩
 f14:=⟨Tryz.f68.name,by decide,Tryz.func68.trans (congrArg some (by kernel_rfl))⟩
 f15:=Tryz.func69.trans (congrArg some (by kernel_rfl))
 f20:=⟨Tryz.f119.name,by decide,Tryz.func119.trans (congrArg some (by kernel_rfl))⟩
 f21:=⟨Tryz.f120.name,by decide,Tryz.func120.trans (congrArg some (by kernel_rfl))⟩
 f22:=⟨Tryz.f121.name,by decide,Tryz.func121.trans (congrArg some (by kernel_rfl))⟩
 f23:=⟨Tryz.f122.name,by decide,Tryz.func122.trans (congrArg some (by kernel_rfl))⟩
 f24:=⟨Tryz.f123.name,by decide,Tryz.func123.trans (congrArg some (by kernel_rfl))⟩
 f25:=⟨Tryz.f124.name,by decide,Tryz.func124.trans (congrArg some (by kernel_rfl))⟩
 f26:=⟨Tryz.f125.name,by decide,Tryz.func125.trans (congrArg some (by kernel_rfl))⟩
 f27:=⟨Tryz.f126.name,by decide,Tryz.func126.trans (congrArg some (by kernel_rfl))⟩
 f28:=Tryz.func127.trans (congrArg some (by kernel_rfl))
 f29:=Tryz.func128.trans (congrArg some (by kernel_rfl))
 f46:=⟨Tryz.f178.name,by decide,Tryz.func178.trans (congrArg some (by kernel_rfl))⟩
 f47:=Tryz.func179.trans (congrArg some (by kernel_rfl))
 f48:=Tryz.func180.trans (congrArg some (by kernel_rfl))
 f49:=⟨Tryz.f181.name,by decide,Tryz.func181.trans (congrArg some (by kernel_rfl))⟩
 f50:=⟨Tryz.f182.name,by decide,Tryz.func182.trans (congrArg some (by kernel_rfl))⟩
 f57:=⟨Tryz.f212.name,by decide,Tryz.func212.trans (congrArg some (by kernel_rfl))⟩
 t0:=Tryz.underlying0
 a0:=Tryz.isAgg0
 z0:=Tryz.sizeOf0
 v0:=Tryz.zeroValue0
 t3:=Tryz.underlying3
 a3:=Tryz.isAgg3
 z3:=Tryz.sizeOf3
 v3:=Tryz.zeroValue3
 t4:=Tryz.underlying4
 a4:=Tryz.isAgg4
 z4:=Tryz.sizeOf4
 v4:=Tryz.zeroValue4
 t5:=Tryz.underlying5
 a5:=Tryz.isAgg5
 z5:=Tryz.sizeOf5
 v5:=Tryz.zeroValue5
 t9:=Tryz.underlying9
 a9:=Tryz.isAgg9
 z9:=Tryz.sizeOf9
 v9:=Tryz.zeroValue9
 t22:=Tryz.underlying23
 a22:=Tryz.isAgg23
 z22:=Tryz.sizeOf23
 v22:=Tryz.zeroValue23
 t25:=Tryz.underlying68
 a25:=Tryz.isAgg68
 z25:=Tryz.sizeOf68
 v25:=Tryz.zeroValue68
 t39:=Tryz.underlying114
 a39:=Tryz.isAgg114
 z39:=Tryz.sizeOf114
 v39:=Tryz.zeroValue114
 t45:=Tryz.underlying152
 a45:=Tryz.isAgg152
 z45:=Tryz.sizeOf152
 v45:=Tryz.zeroValue152
 t46:=Tryz.underlying153
 a46:=Tryz.isAgg153
 z46:=Tryz.sizeOf153
 v46:=Tryz.zeroValue153
 t50:=Tryz.underlying157
 a50:=Tryz.isAgg157
 z50:=Tryz.sizeOf157
 v50:=Tryz.zeroValue157
 t53:=Tryz.underlying160
 a53:=Tryz.isAgg160
 z53:=Tryz.sizeOf160
 v53:=Tryz.zeroValue160
 t55:=Tryz.underlying162
 a55:=Tryz.isAgg162
 z55:=Tryz.sizeOf162
 v55:=Tryz.zeroValue162
 t66:=Tryz.underlying191
 a66:=Tryz.isAgg191
 z66:=Tryz.sizeOf191
 v66:=Tryz.zeroValue191
 t70:=Tryz.underlying195
 a70:=Tryz.isAgg195
 z70:=Tryz.sizeOf195
 v70:=Tryz.zeroValue195
 t76:=Tryz.underlying214
 a76:=Tryz.isAgg214
 z76:=Tryz.sizeOf214
 v76:=Tryz.zeroValue214
 t77:=Tryz.underlying139
 a77:=Tryz.isAgg139
 z77:=Tryz.sizeOf139
 v77:=Tryz.zeroValue139 }
end Go.Proofs
namespace Go.Proofs.YtmgfammllddkhaaGreatDoor
section
open VL Go.RowKit
open Go.Sort
theorem XB (a b:Int):orI [a,b]=IS a b:=by{
unfold orI IS
split
unfold orI
split
rename_i h;rw [h];rfl
rfl
rfl}
theorem titleCmp_laws:CmpLaws Title.cmp:=by{
have h:=cmpInt_laws.lex ZpD (f:=Title.space) (g:=Title.name) (fun x y h1 h2=>by cases x;cases y;simp_all)
have e:Title.cmp=fun x y=>IS (Lib.compareInt x.space y.space) (Lib.compareBytes x.name.data.toList y.name.data.toList):=by
 funext x y
 exact XB _ _
rw [e]
exact h}
theorem linkCmp_laws:CmpLaws D9:=by{
have h:=cmpInt_laws.lex titleCmp_laws (f:=Link.kind) (g:=Link.title) (fun x y h1 h2=>by cases x;cases y;simp_all)
have e:D9=fun x y=>IS (Lib.compareInt x.kind y.kind) (Title.cmp x.title y.title):=by
 funext x y
 exact XB _ _
rw [e]
exact h}
instance:Inhabited Link:=⟨⟨0,⟨0,⟨#[]⟩⟩⟩⟩
def TU (p0:Q3 Link):Q2 (Q3 Link):=if p0.length<4611686018427387904 then some (AJ (leC D9) p0) else none
theorem ZgD (p0:Q3 Link) (r:Q3 Link) (h:TU p0=some r):ContractR Tryz.prog 32 [.fn 33 []] 42 3 (List.map Link.cs p0) (.tup []) (List.map Link.cs r):=by{
unfold TU at h
split at h
rename_i hl
injection h with h
subst h
have hk:∀ x,(NN x).length=3:=fun _=>rfl
have eg:∀ args w,(callFunc 33 args).run Tryz.prog w = .ok (.enter 33 args) w:=enters_of Tryz.func33 (by kernel_rfl) rfl
refine ZrO (enc:=NN) (cf:=D9) (by kernel_rfl) (fun _=>rfl) hk (fun _=>rfl) (fun x p hp=>?_) linkCmp_laws.swo linkCmp_laws.tot (fun cap W A=>AnyF.slices_SortFunc_none { Tryz.sortLink with } A cap _ W) (fun blk off cap d w hH hb hs=>?_) p0 hl
simp [Link.cs] at hp
rcases hp with rfl | rfl | rfl<;>rfl
exact AnyQ.slices_SortFunc_total Tryz.sortLink 3 Tryz.isAgg42 Tryz.sizeOf42 NN hk (fun x v hv=>by simp [NN] at hv;rcases hv with rfl | rfl | rfl<;>rfl) D9 linkCmp_laws.swo 33 #[] blk off cap d w eg (fun m os dk _ x y=>(ZlW x y _).mono fun e w' h=>⟨h.1,h.2⟩) hH hb hs linkCmp_laws.tot
cases h}
end
section
open VL
open Go.Sort
def I5 (a b:Memb):Int:=Title.cmp a.category b.category
theorem oU:SWO (ltOf I5) where
 irrefl x:=titleCmp_laws.swo.irrefl x.category
 trans x y z:=titleCmp_laws.swo.trans x.category y.category z.category
 ntrans x y z:=titleCmp_laws.swo.ntrans x.category y.category z.category
def leM:Memb->Memb->Bool:=leC I5
theorem GG:∀ a b c,leM a b=true->leM b c=true->leM a c=true:=eQ oU
theorem QN:∀ a b,(leM a b||leM b a)=true:=eR oU
theorem Zwc (a b:Int):cmp_Compare_int a b=some (Lib.compareInt a b):=by{
refine ZI ?_
unfold cmp_Compare_int TJ Lib.compareInt
refine Za rfl (Za rfl ?_)
rw [Yh (rfl:a=a),Yh (rfl:b=b)]
refine Zi nofun fun _=>Zi nofun fun _=>?_
refine Zc (fun h=>?_) fun h=>?_
rw [if_pos h];exact Zd rfl
rw [if_neg h]
refine Zc (fun h2=>?_) fun h2=>?_
rw [if_pos h2];exact Zd rfl
rw [if_neg h2];exact Zd rfl}
theorem ZzU (a b:Int):QF [a,b]=some (orI [a,b]):=by{
rw [XB]
unfold IS
refine ZI ?_
unfold QF
refine HY (n:=4611686018427387903) rfl (Zc (fun _=>?_) fun h=>absurd (show (0:Int)<2 by decide) h)
refine Za (v:=a) rfl (CM (fun h=>?_) fun h=>?_)
rw [if_neg h];exact Zd rfl
rw [if_pos h]
refine HY (n:=4611686018427387902) rfl (Zc (fun _=>?_) fun h=>absurd (show (1:Int)<2 by decide) h)
refine Za (v:=b) rfl (CM (fun h=>Zd rfl) fun h=>?_)
rw [h]
exact HY (n:=4611686018427387901) rfl (Zc (fun h=>absurd h (show ¬ (2:Int)<2 by decide)) fun _=>Zd rfl)}
theorem Zl4 (a b:Title):TL a b=some (Title.cmp a b):=by{
unfold TL strings_Compare
rw [Zwc]
show (QF [Lib.compareInt a.space b.space,Lib.compareBytes a.name.data.toList b.name.data.toList]).bind _=_
rw [ZzU]
rfl}
theorem XC (a b:Memb):M9 a b=some (I5 a b):=by
 unfold M9
 rw [Zl4]
 rfl
theorem XD {x y:Memb} (h:¬ I5 x y<0):leM y x=true:=by
 unfold leM leC ltOf
 rw [Yf h]
 rfl
theorem XE {x y:Memb} (h:I5 x y<0):leM y x=false:=by
 unfold leM leC ltOf
 rw [Yh h]
 rfl
theorem Zx8 {l:Q3 Memb} {z y:Memb} (h:(l ++ [z]).Pairwise (fun a b=>leM a b=true)) (hz:leM z y=true):∀ u ∈ l ++ [z],leM u y=true:=fun u hu=>by
 rcases YD.1 hu with hu | hu
 exact GG _ _ _ ((I9.1 h).2.2 u hu z (by simp)) hz
 rw [YG.1 hu]
 exact hz
theorem oV (P U S:Q3 Memb) (hL:(P++U++S).length<=1000000) (a b:Int) (ha:a=(P.length:Int)) (hb:b=((P++U).length:Int)) :
  ZM (P++U++S) a b=some (P++AJ leM U++S):=by{
simp only [Yb] at hL hb
refine ZI ?_
unfold ZM
have e0:w64 (a+1)=a+1:=DH
rw [e0]
cases U with
| nil=>
  simp only [DK] at hb
  refine HY (n:=4611686018427387903) rfl (Zc (fun h=>by omega) fun _=>Zd rfl)
| cons u U=>
  simp only [Yr] at hL hb
  refine ZF (fun x=>∃ U1 U2:Q3 Memb,u::U=U1++U2/\0<U1.length/\x.1=(P.length:Int)+(U1.length:Int)/\x.2=P++AJ leM U1++U2++S) (fun x=>(u::U).length+P.length-x.1.toNat) ⟨[u],U,rfl,by simp,by simp [ha],by simp [AJ,BY]⟩ (by dsimp only;simp only [List.length_cons];omega) ?_
  rintro ⟨i,l⟩ rec ⟨U1,U2,hU,hU1,hi,hl⟩ ih
  dsimp only at hi hl ih ⊢
  have lU:U.length+1=U1.length+U2.length:=by have:=CA List.length hU;simpa only [Yr,Yb] using this
  have lI:(AJ leM U1).length=U1.length:=BZ U1
  refine Zc (fun hlt=>?_) (fun hge=>?_)
  obtain ⟨y,U2,rfl⟩:∃ y U',U2=y::U':=by
   cases U2 with
   | nil=>simp only [DK] at lU;omega
   | cons y U'=>exact ⟨y,U',rfl⟩
  simp only [Yr] at lU
  have hsorted:=QJ GG QN U1
  refine ZF (fun x=>∃ A B:Q3 Memb,AJ leM U1=A++B/\(∀ v ∈ B,leM v y=false)/\x.1=(P.length:Int)+(A.length:Int)/\x.2=P++A++y::B++U2++S) (fun x=>x.1.toNat) ⟨AJ leM U1,[],by simp,by simp,by rw [lI];exact hi,by rw [hl];simp⟩ (by dsimp only;omega) ?_
  rintro ⟨j,l2⟩ rec2 ⟨A,B,hAB,hB,hj,hl2⟩ ih2
  dsimp only at hj hl2 ih2 ⊢
  have lAB:A.length+B.length=U1.length:=by have:=CA List.length hAB;rw [lI,Yb] at this;exact this.symm
  have fin:(∀ v ∈ A,leM v y=true)->Tot (rec (w64 (i+1),l2)) (fun r=>r=P++AJ leM (u::U)++S):=fun hA=>by
   rw [DH]
   refine ih _ ⟨U1 ++ [y],U2,by rw [hU];simp,by simp,by simp;omega,?_⟩ (by dsimp only;simp only [List.length_cons];omega)
   dsimp only
   rw [Zrn GG QN,hAB,oT hA hB,hl2]
   simp
  refine Zt (fun q=>((∀ v ∈ A,leM v y=true)->Tot (q false) (fun r=>r=P++AJ leM (u::U)++S))/\(∀ A' z,A=A' ++ [z]->leM z y=false->Tot (q true) (fun r=>r=P++AJ leM (u::U)++S))) ⟨fun hA=>?_,fun A' z hAz hz=>?_⟩ fun q hq=>?_
  exact Zi nofun fun _=>fin hA
  refine Zi (fun _=>?_) nofun
  subst hAz
  simp only [Yb,YC] at hj lAB
  have e1:w64 (j-1)=j-1:=D8
  have d1:l2=(P++A')++z::(y::B++U2++S):=by rw [hl2];simp
  have d2:l2=(P++A' ++ [z])++y::(B++U2++S):=by rw [hl2];simp
  have n1:j-1=((P++A').length:Int):=by simp only [Yb];omega
  have n2:j=((P++A' ++ [z]).length:Int):=by simp only [Yb,YC];omega
  have d3:AP l2 j z=(P++A')++z::(z::(B++U2++S)):=by rw [KT d2 n2];simp
  rw [e1]
  refine Za (C0 d1 n1) (Za (C0 d2 n2) (Za (C0 d2 n2) (Za (C0 d3 n1) ?_)))
  refine ih2 _ ⟨A',z::B,by rw [hAB];simp,fun v hv=>?_,by dsimp only;omega,?_⟩ (by dsimp only;omega)
  rcases Ys.1 hv with rfl | hv
  exact hz
  exact hB v hv
  dsimp only
  rw [KT d3 n1]
  simp
  refine Zc (fun hgt=>?_) (fun hle=>?_)
  have hA0:A≠[]:=fun h=>by rw [h] at hj;simp only [DK] at hj;omega
  obtain ⟨A',z,hAz⟩:∃ A' z,A=A' ++ [z]:=⟨A.dropLast,A.getLast hA0,(XZ hA0).symm⟩
  have lA:A.length=A'.length+1:=by rw [hAz];simp
  have e1:w64 (j-1)=j-1:=D8
  have d1:l2=(P++A')++z::(y::B++U2++S):=by rw [hl2,hAz];simp
  have d2:l2=(P++A' ++ [z])++y::(B++U2++S):=by rw [hl2,hAz];simp
  have n1:j-1=((P++A').length:Int):=by simp only [Yb];omega
  have n2:j=((P++A' ++ [z]).length:Int):=by simp only [Yb,YC];omega
  rw [e1]
  refine Za (C0 d2 n2) (Za (C0 d1 n1) (Za (XC y z) ?_))
  by_cases hc:I5 y z<0
  rw [Yh hc]
  exact hq.2 A' z hAz (XE hc)
  rw [Yf hc]
  refine hq.1 ?_
  rw [hAB,hAz] at hsorted
  rw [hAz]
  exact Zx8 (I9.1 hsorted).1 (XD hc)
  refine hq.1 fun v hv=>?_
  have:A = []:=Yl (by omega)
  rw [this] at hv
  cases hv
  have z:U2 = []:=Yl (by omega)
  subst z
  rw [YB] at hU
  refine Zd ?_
  rw [hl,hU,YB]}
end
end Go.Proofs.YtmgfammllddkhaaGreatDoor
