/- Literal links: what the reference puts into its lists is -/
import Derived.Test.YtmgfammllddkhaaGreatDoorCO15
set_option linter.unusedSimpArgs false
set_option maxRecDepth 100000
set_option linter.unusedVariables false
namespace Go.Proofs.YtmgfammllddkhaaGreatDoor
section
open VL
def XF {α:Type} (w:Nat) (bf:α->α->Q2 Bool) (eq:α->α->Bool) (p0:Q3 α) (p1:α):Q2 (Q3 α):=A3 A9 (fun f7 (x22:Int)=>letk (fun (x30:Bool)=>if x30 then f7 (w64 (x22+1)) else letk (fun (x32:Bool)=>if x32 then (some p0:Q2 (Q3 α)) else (CL p0 0 x22).bind fun l33=>(A8 w [] l33).bind fun l34=>(A8 w l34 [p1]).bind fun l35=>(CL p0 x22 (p0.length:Int)).bind fun l36=>(A8 w l35 l36).bind fun l37=>(some l37:Q2 (Q3 α))) fun k9=>if (decide (x22<(p0.length:Int))) then (atI p0 x22).bind fun e38=>k9 (eq e38 p1) else k9 false) fun k8=>if (decide (x22<(p0.length:Int))) then (atI p0 x22).bind fun e39=>(bf e39 p1).bind fun r40=>k8 r40 else k8 false) 0
theorem Zs2:H1=XF 32 QG (fun e x=>decide (e=x)):=rfl
theorem Zpw:TQ=XF 40 (fun e x=>some (decide (Title.cmp e.category x.category<0))) (fun e x=>decide (e.category=x.category)):=rfl
theorem eX {α:Type} {A B:Q3 α} {y:α} {n:Nat} (h:A.length=n):atI (A++y::B) (n:Int)=some y:=by
 unfold atI
 rw [if_pos (by omega),DJ,YP (by omega),h,E6]
 rfl
theorem oW {α κ:Type} [DecidableEq κ] {c:κ->κ->Int} {key:α->κ} (w:Nat) {bf:α->α->Q2 Bool} {eq:α->α->Bool} (hb:∀ a b,bf a b=some (decide (c (key a) (key b)<0))) (he:∀ a b,eq a b=decide (key a=key b)) (hw:w<=80) (l:Q3 α) (x:α) (h:l.length<=1000000):XF w bf eq l x=some (DG c key l x):=by{
obtain ⟨A,B,rfl,hA,_,hcase⟩:=XA c key l x
rw [Yb] at h
refine ZI ?_
unfold XF
refine ZF (fun i=>∃ n:Nat,i=(n:Int)/\n<=A.length) (fun i=>A.length-i.toNat) ⟨0,rfl,YJ _⟩ (by omega) ?_
rintro i rec ⟨n,rfl,hn⟩ ih
have hlen:((A++B).length:Int)=(A.length:Int)+(B.length:Int):=by rw [Yb];omega
refine Zt (fun q=>(n<A.length->Tot (q true) fun z=>z=DG c key (A++B) x)/\(n=A.length->Tot (q false) fun z=>z=DG c key (A++B) x)) ⟨fun hlt=>Zi (fun _=>?_) nofun,fun hl=>Zi nofun fun _=>?_⟩ fun k8 hk8=>?_
rw [ZK]
exact ih _ ⟨n+1,by omega,hlt⟩ (by omega)
subst hl
refine Zt (fun q=>((∃ y b,B=y::b/\key y=key x)->Tot (q true) fun z=>z=DG c key (A++B) x)/\((∀ y b,B=y::b->¬ key y=key x)->Tot (q false) fun z=>z=DG c key (A++B) x)) ⟨fun ⟨y,b,h1,h2⟩=>Zi (fun _=>Zd ?_) nofun,fun hno=>Zi nofun fun _=>?_⟩ fun k9 hk9=>?_
rcases hcase with ⟨rfl,_⟩ | ⟨y',b',rfl,_,⟨_,e⟩ | ⟨hk,_⟩⟩
cases h1
exact e.symm
injection h1 with h3 h4
subst h3
exact absurd h2 hk
have e:A++x::B=DG c key (A++B) x:=by
 rcases hcase with ⟨rfl,e⟩ | ⟨y',b',rfl,_,⟨hk,_⟩ | ⟨_,e⟩⟩
 rw [e,YB]
 exact absurd hk (hno y' b' rfl)
 exact e.symm
have s1:CL (A++B) 0 (A.length:Int)=some A:=by
 unfold CL
 rw [if_pos ⟨by omega,by omega,by omega⟩]
 simp
have s2:CL (A++B) (A.length:Int) ((A++B).length:Int)=some B:=by
 unfold CL
 rw [if_pos ⟨by omega,by omega,by omega⟩,DJ,DJ,List.drop_left,H4 (by rw [Yb];omega)]
have cap:∀ u v:Q3 α,u.length+v.length<=1000001->A8 w u v=some (u++v):=fun u v h=>JD 1000001 h (YX (Y8 _ hw) (by decide)) (by decide)
refine Za s1 (Za (cap _ _ (by simp;omega)) (Za (cap _ _ (by simp;omega)) (Za s2 (Za (cap _ _ (by simp;omega)) (Zd ?_)))))
rw [<- e]
simp
cases B with
| nil=>exact Zc (fun h=>absurd h (by simp)) fun _=>hk9.2 fun y b h=>by cases h
| cons y b=>
  refine Zc (fun _=>Za (eX rfl) ?_) fun h=>absurd (by rw [hlen,Yr];omega) h
  rw [he]
  by_cases hk:key y=key x
  rw [Yh hk]
  exact hk9.1 ⟨y,b,rfl,hk⟩
  rw [Yf hk]
  refine hk9.2 fun y' b' h=>?_
  injection h with h1 h2
  rw [<- h1]
  exact hk
by_cases hlt:n<A.length
obtain ⟨A1,y,A2,e,h1⟩:∃ A1 y A2,A=A1++y::A2/\A1.length=n:=⟨A.take n,A[n],A.drop (n+1),by rw [<- Yt hlt,YQ],by rw [YE];omega⟩
refine Zc (fun _=>Za (v:=y) (by rw [e,YM];exact eX h1) (Za (hb y x) ?_)) fun h=>absurd (by rw [hlen];omega) h
rw [Yh (hA y (by rw [e];simp))]
exact hk8.1 hlt
have hn2:n=A.length:=by omega
cases B with
| nil=>exact Zc (fun h=>absurd h (by rw [hlen];simp;omega)) fun _=>hk8.2 hn2
| cons y b=>
  refine Zc (fun _=>Za (eX hn2.symm) (Za (hb y x) ?_)) fun h=>absurd (by rw [hlen,Yr];omega) h
  rcases hcase with ⟨h,_⟩ | ⟨y',b',h,hy,_⟩
  cases h
  injection h with h3 h4
  subst h3
  rw [Yf hy]
  exact hk8.2 hn2}
abbrev B0:Q3 Link->Link->Q3 Link:=DG D9 fun x=>x
abbrev JN:Q3 Memb->Memb->Q3 Memb:=DG Title.cmp Memb.category
theorem Zvu (a b:Link):QG a b=some (decide (D9 a b<0)):=by{
refine ZI ?_
have e:D9 a b=IS (Lib.compareInt a.kind b.kind) (Title.cmp a.title b.title):=XB _ _
unfold QG
refine Zt (fun q=>∀ t,t=decide (D9 a b<0)->Tot (q t) fun z=>z=decide (D9 a b<0)) (fun t ht=>Zd ht) fun k hk=>?_
rw [e] at hk ⊢
unfold IS Lib.compareInt at hk ⊢
by_cases h1:a.kind<b.kind
rw [if_pos h1] at hk ⊢
exact Zc (fun _=>hk _ rfl) fun h=>absurd h1 h
rw [if_neg h1] at hk ⊢
refine Zc (fun h=>absurd h h1) fun _=>?_
by_cases h2:a.kind > b.kind
rw [if_pos h2] at hk ⊢
exact Zc (fun h=>by omega) fun _=>hk _ rfl
rw [if_neg h2] at hk ⊢
refine Zc (fun _=>Za rfl (hk _ rfl)) fun h=>by omega}
theorem eY (l:Q3 Link) (x:Link) (h:l.length<=1000000):H1 l x=some (B0 l x):=by
 rw [Zs2]
 exact oW (key:=fun x:Link=>x) 32 Zvu (fun a b=>rfl) (by decide) l x h
theorem Zpx (l:Q3 Memb) (x:Memb) (h:l.length<=1000000):TQ l x=some (JN l x):=by
 rw [Zpw]
 exact oW (key:=Memb.category) 40 (fun a b=>rfl) (fun a b=>rfl) (by decide) l x h
def AS (t r:Q3 Q4):Q3 (Link ⊕ Memb):=if bad t=true then [] else if ¬ (BF (B8 t)).2=0 then [] else if (BF (B8 t)).1.space=4/\GF t=false then [.inr ⟨(BF (B8 t)).1,MB r⟩] else [.inl ⟨1,(BF (B8 t)).1⟩]
theorem oX (t r:Q3 Q4):(AS t r).length<=1:=by{
unfold AS
split
simp
split
simp
split<;>simp}
theorem Zvv (s:Q3 Q4):(gath AS s).length<=s.length:=by{
induction s with
| nil=>simp [gath]
| cons c l ih=>
  rw [UR]
  split
  split
  simp;omega
  rename_i k _
  have:=oX (l.tail.take k) (l.tail.drop k)
  rw [Yb,Yr]
  omega
  simp;omega}
def lks (E:Q3 (Link ⊕ Memb)):Q3 Link:=E.filterMap Sum.getLeft?
def mbs (E:Q3 (Link ⊕ Memb)):Q3 Memb:=E.filterMap Sum.getRight?
theorem oY (A B:Q3 (Link ⊕ Memb)):lks (A++B)=lks A++lks B:=List.filterMap_append ..
theorem oZ (A B:Q3 (Link ⊕ Memb)):mbs (A++B)=mbs A++mbs B:=List.filterMap_append ..
theorem TV (A:Q3 (Link ⊕ Memb)):(lks A).length<=A.length:=List.length_filterMap_le _ _
theorem TW (A:Q3 (Link ⊕ Memb)):(mbs A).length<=A.length:=List.length_filterMap_le _ _
def DA (q:Q3 Link×Q3 Memb):Link ⊕ Memb->Q3 Link×Q3 Memb | .inl x=>(B0 q.1 x,q.2) | .inr x=>(q.1,JN q.2 x)
theorem TX:∀ (E:Q3 (Link ⊕ Memb)) (q:Q3 Link×Q3 Memb),E.foldl DA q=((lks E).foldl B0 q.1,(mbs E).foldl JN q.2)
 | [],q=>rfl
 | .inl x::E,q=>(TX E _).trans rfl
 | .inr x::E,q=>(TX E _).trans rfl
theorem XG (t p:Q3 Q4) (h:t.length<=1000000):strings_Contains (bs t) (bs p)=some (Lib.contains t p):=by
 unfold strings_Contains
 rw [if_pos (show (bs t).size<4294967281 from by have:(bs t).size=t.length:=rfl;omega)]
 rfl
theorem p6 (s:Q3 Q4) (i:Nat):(s.drop (i+1)).tail=s.drop (i+2):=by
 rw [List.tail_drop]
theorem ZzA (f:Finder) (s:Q3 Q4) (h:s.length<=300000) (hl:f.links.length+s.length<=900000) (hm:f.members.length+s.length<=900000):Q0 f (bs s)=some ⟨f.links++lks (gath AS s),f.members++mbs (gath AS s)⟩:=by{
refine ZI ?_
unfold Q0
refine ZF (fun x=>∃ (s':Q3 Q4) (E:Q3 (Link ⊕ Memb)),x.1=bs s'/\s'.length<=s.length/\x.2.1=f.links++lks E/\x.2.2=f.members++mbs E/\E.length+s'.length<=s.length/\E++gath AS s'=gath AS s) (fun x=>x.1.size) ⟨s,[],rfl,Nat.le_refl _,by simp [lks],by simp [mbs],by simp,rfl⟩ (by dsimp only;have:(bs s).size=s.length:=rfl;omega) ?_
rintro ⟨x,L,M⟩ rec ⟨s',E,hx,h1,hL,hM,h2,h3⟩ ih
dsimp only at hx hL hM ih ⊢
subst hx hL hM
have z:(bs s').size=s'.length:=rfl
refine Za (dB s' [91,91] (by omega)) ?_
rcases g6 AS s' with ⟨g1,g2⟩ | ⟨i,g1,g3,g2⟩
rw [g1]
refine Zc (fun _=>Zd ?_) fun h=>absurd (by decide) h
rw [<- h3,g2,YB]
rw [g1]
refine Zc (fun h=>absurd h (by omega)) fun _=>?_
rw [ZK,ZK]
refine Za (F4 s' (i+2) g3) (Za (F4 s' (i+1) (by omega)) (Za (eM _ (by rw [Yx];omega)) ?_))
have hdl:(s'.drop (i+2)).length=s'.length-(i+2):=Yx
have zd:(bs (s'.drop (i+1))).size=s'.length-(i+1):=by show (s'.drop (i+1)).length=_;rw [Yx]
cases hE:BE (s'.drop (i+2)) with
| none=>
  refine Zc (fun _=>Zd ?_) fun h=>absurd (by decide) h
  rw [hE,g7 AS (s'.drop (i+1)) (by rw [p6];exact hE)] at g2
  rw [<- h3,g2]
  simp
| some n=>
  have hn:=UQ hE
  rw [hE] at g2
  have g2:gath AS s'=AS ((s'.drop (i+2)).take n) ((s'.drop (i+2)).drop n)++gath AS (s'.drop (i+1)):=g2
  generalize hR:s'.drop (i+2)=R at g2 hn hdl hE ⊢
  have nxt:∀ E2,AS (R.take n) (R.drop n)=E2->Tot (rec (bs (s'.drop (i+1)),f.links++lks E++lks E2,f.members++mbs E++mbs E2)) fun z=>z=⟨f.links++lks (gath AS s),f.members++mbs (gath AS s)⟩:=fun E2 h=>by
   have hle:=oX (R.take n) (R.drop n)
   rw [h] at hle g2
   refine ih _ ⟨s'.drop (i+1),E++E2,rfl,by rw [List.length_drop];omega,by rw [oY];simp,by rw [oZ];simp,by rw [List.length_append,List.length_drop];omega,?_⟩ (by dsimp only;rw [zd];omega)
   rw [<- h3,g2,YM]
  have nxt0:AS (R.take n) (R.drop n) = []->Tot (rec (bs (s'.drop (i+1)),f.links++lks E,f.members++mbs E)) fun z=>z=⟨f.links++lks (gath AS s),f.members++mbs (gath AS s)⟩:=fun h=>by
   have:=nxt [] h
   simpa [lks,mbs] using this
  have lE:=TV E
  have mE:=TW E
  refine Zc (fun h=>absurd (show ((n:Nat):Int)<0 from h) (by omega)) fun _=>?_
  have hsub:AH (bs R) 0 (QI (some n))=some (bs (R.take n)):=by
   have:=GD R 0 n (YJ _) (by omega)
   rw [MK] at this
   exact this
  have tl:(R.take n).length<=300000:=by rw [YE];omega
  refine Za hsub ?_
  refine Zt (fun q=>(bad (R.take n)=true->Tot (q true) fun z=>z=⟨f.links++lks (gath AS s),f.members++mbs (gath AS s)⟩)/\(¬ bad (R.take n)=true->Tot (q false) fun z=>z=⟨f.links++lks (gath AS s),f.members++mbs (gath AS s)⟩)) ⟨fun hb=>Zi (fun _=>nxt0 (if_pos hb)) nofun,fun hb=>Zi nofun fun _=>?_⟩ fun k6 hk6=>?_
  have hitm:AS (R.take n) (R.drop n)=if ¬ (BF (B8 (R.take n))).2=0 then [] else if (BF (B8 (R.take n))).1.space=4/\GF (R.take n)=false then [.inr ⟨(BF (B8 (R.take n))).1,MB (R.drop n)⟩] else [.inl ⟨1,(BF (B8 (R.take n))).1⟩]:=if_neg hb
  refine Za (X8 _ tl) ?_
  refine CM (fun he=>nxt0 (hitm.trans (if_pos he))) fun he=>?_
  rw [if_neg (fun h=>h he)] at hitm
  refine Zt (fun q=>(((BF (B8 (R.take n))).1.space=4/\GF (R.take n)=false)->Tot (q true) fun z=>z=⟨f.links++lks (gath AS s),f.members++mbs (gath AS s)⟩)/\(¬ ((BF (B8 (R.take n))).1.space=4/\GF (R.take n)=false)->Tot (q false) fun z=>z=⟨f.links++lks (gath AS s),f.members++mbs (gath AS s)⟩)) ⟨fun hc=>Zi (fun _=>?_) nofun,fun hc=>Zi nofun fun _=>?_⟩ fun k7 hk7=>?_
  rw [if_pos hc] at hitm
  obtain ⟨c,hc1,hc2,_⟩:=KS hn
  have hkey:PZ (bs (R.drop n))=some (MB (R.drop n)):=by
   rw [hc2]
   refine ZzD _ _ ?_
   rw [<- hc2,Yx]
   omega
  refine Za (F4 R n (by omega)) (Za hkey (Za (JD 1000000 (by rw [Yb,YC];omega) (by decide) (by decide)) ?_))
  have t:=nxt _ hitm
  have e5:f.links++lks E++lks [.inr ⟨(BF (B8 (R.take n))).1,MB (R.drop n)⟩]=f.links++lks E:=YB _
  rw [e5] at t
  exact t
  rw [if_neg hc] at hitm
  refine Za (JD 1000000 (by rw [Yb,YC];omega) (by decide) (by decide)) ?_
  have t:=nxt _ hitm
  have e5:f.members++mbs E++mbs [.inl ⟨1,(BF (B8 (R.take n))).1⟩]=f.members++mbs E:=YB _
  rw [e5] at t
  exact t
  refine Zc (fun h4=>?_) fun h4=>hk7.2 fun h=>h4 h.1
  have hco:=ZvF (R.take n)
  obtain ⟨y,hy1,hy2⟩:=Ya.1 hco
  refine Za hy1 (Za hy2 ?_)
  cases hcl:GF (R.take n) with
  | true=>exact hk7.2 fun h=>by rw [hcl] at h;cases h.2
  | false=>exact hk7.1 ⟨h4,hcl⟩
  have hbad:bad (R.take n)=(Lib.contains (R.take n) [91,91]||Lib.contains (R.take n) [10]):=rfl
  refine Za (XG (R.take n) [91,91] (by omega)) (Zi (fun h=>hk6.1 (by rw [hbad,h];rfl)) fun h=>?_)
  rw [h,Bool.false_or] at hbad
  refine Za (XG (R.take n) [10] (by omega)) ?_
  cases hc:Lib.contains (R.take n) [10] with
  | true=>exact hk6.1 (hbad.trans hc)
  | false=>exact hk6.2 (by rw [hbad,hc];decide)}
theorem p7 {s:Q3 Q4} {i:Nat} (h:BE (s.drop i)=none):FC s i=(⟨#[]⟩,0,false):=by
 unfold FC
 rw [UP,h]
theorem p8 {s:Q3 Q4} {i k:Nat} (h:BE (s.drop i)=some k) (hb:bad ((s.drop i).take k)=true):FC s i=(⟨#[]⟩,0,false):=by{
unfold FC
rw [UP,h]
dsimp only
rw [if_pos hb]}
theorem p9 {s:Q3 Q4} {i k:Nat} (h:BE (s.drop i)=some k) (hb:¬ bad ((s.drop i).take k)=true):FC s i=(bs ((s.drop i).take k),((i+k:Nat):Int),true):=by{
unfold FC
rw [UP,h]
dsimp only
rw [if_neg hb]}
theorem ZzB (s:Q3 Q4) (l:Q3 Link) (m:Q3 Memb) (h:s.length<=300000) (hl:l.length+s.length<=900000) (hm:m.length+s.length<=900000):QH (bs s) l m=some ((gath AS s).foldl DA (l,m)):=by{
refine ZI ?_
unfold QH
have z:(bs s).size=s.length:=rfl
refine ZF (fun x=>∃ n:Nat,x.2.2=(n:Int)/\n<=s.length/\x.1.length+(s.length-n)<=900000/\x.2.1.length+(s.length-n)<=900000/\(gath AS (s.drop n)).foldl DA (x.1,x.2.1)=(gath AS s).foldl DA (l,m)) (fun x=>s.length-x.2.2.toNat) ⟨0,rfl,Nat.zero_le _,by omega,by omega,rfl⟩ (by dsimp only;omega) ?_
rintro ⟨L,M,i⟩ rec ⟨n,hi,hn,h1,h2,h3⟩ ih
dsimp only at hi h1 h2 h3 ih ⊢
subst hi
by_cases hlt:n<s.length
rotate_left
refine Zc (fun h=>absurd h (by omega)) fun _=>Zd ?_
rw [<- h3,YI (by omega)]
rfl
refine Zc (fun _=>?_) fun h=>absurd (by omega) h
obtain ⟨c,hc,hd,hh⟩:=KS hlt
rw [hd,UR] at h3
refine Zt (fun q=>∀ E,E.length<=1->(if c=91/\(s.drop (n+1)).head? = some 91 then (match BE (s.drop (n+1)).tail with
  | none=>[]
  | some k=>AS ((s.drop (n+1)).tail.take k) ((s.drop (n+1)).tail.drop k)) else [])=E->Tot (q (E.foldl DA (L,M)).1 (E.foldl DA (L,M)).2) fun z=>z=(gath AS s).foldl DA (l,m)) (fun E hE1 hE=>?_) fun k19 hk19=>?_
rw [ZK]
have e:(gath AS (s.drop (n+1))).foldl DA (E.foldl DA (L,M))=(gath AS s).foldl DA (l,m):=by
 rw [<- h3,<- G3,<- hE]
 congr 1
 split<;>rfl
have b1:(E.foldl DA (L,M)).1.length<=L.length+1/\(E.foldl DA (L,M)).2.length<=M.length+1:=by
 rw [TX]
 have p1:((lks E).foldl B0 L).length<=L.length+(lks E).length:=QK (c:=D9) (key:=fun x:Link=>x) (lks E) L
 have p2:((mbs E).foldl JN M).length<=M.length+(mbs E).length:=QK (c:=Title.cmp) (key:=Memb.category) (mbs E) M
 have:=TV E
 have:=TW E
 dsimp only
 omega
exact ih _ ⟨n+1,by dsimp only;omega,hlt,by dsimp only;omega,by dsimp only;omega,e⟩ (by dsimp only;omega)
have a91:=PS s [91,91] n (by omega) (by omega)
rw [hd,fZ] at a91
refine Za a91 (CM (fun h2=>?_) fun h2=>?_)
exact hk19 [] (YJ _) (if_neg h2)
rw [if_pos h2] at hk19
have hrest:n+2<=s.length:=by
 rcases J3 (n+1) s.length with h | h
 omega
 rw [YI h] at h2
 cases h2.2
have hw:w64 ((n:Int)+2)=((n+2:Nat):Int):=by rw [ZK];omega
rw [hw]
rw [p6] at hk19
refine Za (oD s (n+2) hrest (by omega)) ?_
have hR:(s.drop (n+2)).length=s.length-(n+2):=Yx
cases hE:BE (s.drop (n+2)) with
| none=>
  rw [hE] at hk19
  rw [p7 hE]
  exact Zi (fun _=>hk19 [] (YJ _) rfl) nofun
| some k=>
  rw [hE] at hk19
  have hk:=UQ hE
  have hk19:∀ E,E.length<=1->AS ((s.drop (n+2)).take k) ((s.drop (n+2)).drop k)=E->Tot (k19 (E.foldl DA (L,M)).1 (E.foldl DA (L,M)).2) fun z=>z=(gath AS s).foldl DA (l,m):=hk19
  have tl:((s.drop (n+2)).take k).length<=300000:=by rw [YE];omega
  have hdk:(s.drop (n+2)).drop k=s.drop (n+2+k):=JU
  by_cases hb:bad ((s.drop (n+2)).take k)=true
  rw [p8 hE hb]
  exact Zi (fun _=>hk19 [] (YJ _) (if_pos hb)) nofun
  rw [p9 hE hb]
  dsimp only
  generalize hT:(s.drop (n+2)).take k=T at hk19 tl hb ⊢
  refine Zi nofun fun _=>Za (eN T (by omega)) (Za (dI _ (YX (X7 T) tl)) ?_)
  have hitm:AS T ((s.drop (n+2)).drop k)=if ¬ (BF (B8 T)).2=0 then [] else if (BF (B8 T)).1.space=4/\GF T=false then [.inr ⟨(BF (B8 T)).1,MB ((s.drop (n+2)).drop k)⟩] else [.inl ⟨1,(BF (B8 T)).1⟩]:=if_neg hb
  refine CM (fun he=>hk19 [] (YJ _) (hitm.trans (if_pos he))) fun he=>?_
  rw [if_neg (fun h=>h he)] at hitm
  refine Zt (fun q=>(((BF (B8 T)).1.space=4/\GF T=false)->Tot (q true) fun z=>z=(gath AS s).foldl DA (l,m))/\(¬ ((BF (B8 T)).1.space=4/\GF T=false)->Tot (q false) fun z=>z=(gath AS s).foldl DA (l,m))) ⟨fun hc=>Zi (fun _=>?_) nofun,fun hc=>Zi nofun fun _=>?_⟩ fun k20 hk20=>?_
  rw [if_pos hc,hdk] at hitm
  refine Za (ZzE s (n+2+k) (by omega) (by omega)) (Za (Zpx M _ (by omega)) ?_)
  rw [hdk] at hk19
  exact hk19 _ (Yn _) hitm
  rw [if_neg hc] at hitm
  refine Za (eY L _ (by omega)) ?_
  exact hk19 _ (Yn _) hitm
  refine Zc (fun h4=>Za (ZxJ T (by omega)) ?_) fun h4=>hk20.2 fun h=>h4 h.1
  cases hcl:GF T with
  | true=>exact hk20.2 fun h=>by rw [hcl] at h;cases h.2
  | false=>exact hk20.1 ⟨h4,hcl⟩}
def QO (m:Nat) (f:Finder) (n:Node):Q2 Finder:=if n.kind=1 then Q0 f n.text else if n.kind=6/\¬ n.tag=2 then (AU n.kids).bind fun l=>KQ m f l else some f
def AQ {α β:Type} (step:β->α->Q2 β):Q3 α->β->Q2 β | [],c=>some c | x::l,c=>(step c x).bind fun c'=>AQ step l c'
theorem pA {α β:Type} (step:β->α->Q2 β):∀ (l:Q3 α) (c:β),goL (fun e c k=>(step c e).bind k) (fun c=>some c) l c=AQ step l c
 | [],c=>rfl
 | x::l,c=>by
   show ((step c x).bind fun c'=>goL (fun e c k=>(step c e).bind k) (fun c=>some c) l c')=_
   unfold AQ
   congr 1
   funext c'
   exact pA step l c'
theorem I6 {α:Type} {l:Q3 α} {n:Nat} {e:α} (h:l[n]? = some e):atI l (n:Int)=some e:=by
 unfold atI
 rw [if_pos (by omega),DJ,h]
theorem pB (m:Nat) (f:Finder) (l:Q3 Node) (hl:l.length<=4611686018427387900):KQ (m+1) f l=AQ (QO m) l f:=by{
rw [<- pA]
simp only [KQ]
refine vU l (fun n (c:Finder)=>((n:Int),c.links,c.members)) _ _ hl f (fun n e rec c he hn=>?_) (fun rec c=>?_)
have hlt:=(Yd.1 he).1
dsimp only
rw [if_pos (Yh (show (n:Int)<(l.length:Int) by omega)),I6 he]
have hw:w64 ((n:Int)+1)=((n+1:Nat):Int):=by rw [ZK];rfl
simp only [letk,Option.bind_some,hw,QO]
by_cases h1:e.kind=1
rw [if_pos (Yh h1),if_pos h1]
rw [if_neg (by rw [Yf h1];decide),if_neg h1]
by_cases h6:e.kind=6
rw [if_pos (Yh h6)]
by_cases h2:e.tag=2
rw [Yh h2,if_neg (by decide),if_neg (fun h=>h.2 h2)]
rfl
rw [Yf h2,if_pos (by decide),if_pos ⟨h6,h2⟩]
cases AU e.kids with
| none=>rfl
| some k=>rfl
rw [if_neg (by rw [Yf h6];decide),if_neg (by decide),if_neg (fun h=>h6 h.1)]
rfl
dsimp only
rw [if_neg (by rw [Yf (by omega)];decide)]}
def KU (m:Nat) (f:Finder) (a:Arg):Q2 Finder:=(AU a.name).bind fun l=>(Zo m f l).bind fun f=>(AU a.value).bind fun l=>Zo m f l
def TY (f:Finder) (n:Node):Q2 Finder:=if n.kind=4 then (AU n.kids).bind fun l=>(H0 l).bind fun r=>if r.2=true then (A8 32 f.links [(⟨2,r.1⟩:Link)]).map fun l=>⟨l,f.members⟩ else some f else some f
def QP (m:Nat) (f:Finder) (n:Node):Q2 Finder:=if n.kind=6/\n.tag=2 then some f else (TY f n).bind fun f=>(AU n.kids).bind fun l=>(Zo m f l).bind fun f=>(DP n.args).bind fun l=>if l.length<=4611686018427387900 then AQ (KU m) l f else none
theorem KV {α:Type} {l:Q3 α} {n:Nat} (h:n<l.length):∃ e,l[n]? = some e/\l.drop n=e::l.drop (n+1):=⟨_,Yc h,Yt h⟩
theorem ZxU {β:Type} {m:Nat} {l:Q3 Arg} {c2 c':Finder} {k:Q3 Link->Q3 Memb->Q2 β} {R:β->Prop} (hl:l.length<=4611686018427387900) (h:AQ (KU m) l c2=some c') (hk:Tot (k c'.links c'.members) R) :
  Tot (A3 A9 (fun f22 ((x254,x255,x256):Int×(Q3 Link)×(Q3 Memb))=>
   if (decide (x254<(l.length:Int))) then
    (atI l x254).bind fun e272=>
    (AU e272.name).bind fun l273=>
    (Zo m (⟨x255,x256⟩:Finder) l273).bind fun r274=>
    (AU e272.value).bind fun l275=>
    (Zo m r274 l275).bind fun r276=>
    f22 ((w64 (x254+1)),r276.links,r276.members)
   else
   k x255 x256) (0,c2.links,c2.members)) R:=by{
refine ZF (fun a=>∃ (n:Nat) (c:Finder),a=((n:Int),c.links,c.members)/\n<=l.length/\AQ (KU m) (l.drop n) c=some c') (fun a=>l.length-a.1.toNat) ⟨0,c2,rfl,Nat.zero_le _,h⟩ (by dsimp only;omega) ?_
rintro a rec ⟨n,c,rfl,hn,hc⟩ ih
dsimp only at ih ⊢
refine Zc (fun hlt=>?_) (fun hge=>?_)
obtain ⟨e,he,hd⟩:=KV (show n<l.length by omega)
rw [hd] at hc
obtain ⟨c1,h1,h2⟩:=Ya.1 hc
obtain ⟨l1,h3,h1⟩:=Ya.1 h1
obtain ⟨c3,h4,h1⟩:=Ya.1 h1
obtain ⟨l2,h5,h6⟩:=Ya.1 h1
refine Za (I6 he) (Za h3 (Za h4 (Za h5 (Za h6 ?_))))
rw [ZK]
exact ih _ ⟨n+1,c1,rfl,by omega,h2⟩ (by omega)
obtain rfl:n=l.length:=by omega
rw [GL] at hc
injection hc with hc
subst hc
exact hk}
theorem pC {m:Nat} {f r:Finder} {l:Q3 Node} (hl:l.length<=4611686018427387900) (h:AQ (QP m) l f=some r):Zo (m+1) f l=some r:=by{
refine ZI ?_
simp only [Zo]
refine ZF (fun a=>∃ (n:Nat) (c:Finder),a=((n:Int),c.links,c.members)/\n<=l.length/\AQ (QP m) (l.drop n) c=some r) (fun a=>l.length-a.1.toNat) ⟨0,f,rfl,Nat.zero_le _,h⟩ (by dsimp only;omega) ?_
rintro a rec ⟨n,c,rfl,hn,hc⟩ ih
dsimp only at ih ⊢
refine Zc (fun hlt=>?_) (fun hge=>?_)
·obtain ⟨e,he,hd⟩:=KV (show n<l.length by omega)
 rw [hd] at hc
 obtain ⟨c',h1,h2⟩:=Ya.1 hc
 have next:Tot (rec (w64 ((n:Int)+1),c'.links,c'.members)) (fun x=>x=r):=by
  rw [ZK]
  exact ih _ ⟨n+1,c',rfl,by omega,h2⟩ (by omega)
 refine ZX (Za (I6 he) (ZX ?_))
 unfold QP at h1
 by_cases h6:e.kind=6/\e.tag=2
 ·rw [if_pos h6] at h1
  injection h1 with h1
  subst h1
  rw [if_pos (Yh h6.1),Yh h6.2]
  exact Zi (fun _=>next) nofun
 rw [if_neg h6] at h1
 obtain ⟨c1,h3,h1⟩:=Ya.1 h1
 obtain ⟨ks,h4,h1⟩:=Ya.1 h1
 obtain ⟨c2,h5,h1⟩:=Ya.1 h1
 obtain ⟨al,h7,h1⟩:=Ya.1 h1
 split at h1
 rename_i hal
 have go:Tot (letk (fun (x240:Q3 Link)=>
   (AU e.kids).bind fun l241=>
   (Zo m (⟨x240,c.members⟩:Finder) l241).bind fun r242=>
   (DP e.args).bind fun l243=>
   A3 A9 (fun f22 ((x254,x255,x256):Int×(Q3 Link)×(Q3 Memb))=>
    if (decide (x254<(l243.length:Int))) then
     (atI l243 x254).bind fun e272=>
     (AU e272.name).bind fun l273=>
     (Zo m (⟨x255,x256⟩:Finder) l273).bind fun r274=>
     (AU e272.value).bind fun l275=>
     (Zo m r274 l275).bind fun r276=>
     f22 ((w64 (x254+1)),r276.links,r276.members)
    else
    rec (w64 ((n:Int)+1),x255,x256)) (0,r242.links,r242.members)) fun k21=>
  if (decide (e.kind=4)) then
   (AU e.kids).bind fun l277=>
   (H0 l277).bind fun r278=>
   if r278.2 then
    (A8 32 c.links [(⟨2,r278.1⟩:Link)]).bind fun l279=>
    k21 l279
   else
   k21 c.links
  else
  k21 c.links) (fun x=>x=r):=by
  refine Zt (fun q=>∀ x,(⟨x,c.members⟩:Finder)=c1->Tot (q x) (fun x=>x=r)) (fun x hx=>?_) fun q hq=>?_
  ·rw [hx]
   exact Za h4 (Za h5 (Za h7 (ZxU (k:=fun x y=>rec (w64 ((n:Int)+1),x,y)) hal h1 next)))
  unfold TY at h3
  refine Zc (fun hk=>?_) fun hk=>?_
  rw [if_pos hk] at h3
  obtain ⟨ks',h8,h3⟩:=Ya.1 h3
  obtain ⟨tr,h9,h3⟩:=Ya.1 h3
  refine Za h8 (Za h9 (Zi (fun h10=>?_) fun h10=>?_))
  rw [if_pos h10] at h3
  obtain ⟨l3,h11,h3⟩:=Ye.1 h3
  exact Za h11 (hq _ h3)
  rw [if_neg (by rw [h10];decide)] at h3
  injection h3 with h3
  exact hq _ h3
  rw [if_neg hk] at h3
  injection h3 with h3
  exact hq _ h3
 by_cases hk6:e.kind=6
 have ht:¬ e.tag=2:=fun h=>h6 ⟨hk6,h⟩
 rw [if_pos (Yh hk6),Yf ht]
 exact Zi nofun fun _=>go
 rw [if_neg (by rw [Yf hk6];decide)]
 exact Zi nofun fun _=>go
 cases h1
obtain rfl:n=l.length:=by omega
rw [GL] at hc
injection hc with hc
subst hc
exact Zd rfl}
def Node.pv (x:Node):PV:=.agg x.cs
end
end Go.Proofs.YtmgfammllddkhaaGreatDoor
