/- Made states have pages of known titles only. No program is named. | Made states have nine pages at most. No program is named. | Recent at made states: the end of one list, whatever the number. No program is named. | FeedRecent: what the law computes is true. No program is named. | From a reading of an argument to the words of the walks: structs field by field, slices element by element. No program is named. | Readings of the wiki's types at this translation. Written by types.py. | What lies in memory, seen as values. No program is named. Written by mkencpv.py. | What the rows list of the package's variables, read off the world; lists of integers; the invariant in all later worlds. | FeedRecent in worlds: whatever the lists and the numbers, the law returns true. -/
import Derived.Test.YtjoneoobolnnbaaGreatDoorCF37
import Derived.Test.YtjoneoobolnnbaaGreatDoorCF16
import Derived.Test.YtjoneoobolnnbaaGreatDoorCF35
import Derived.Test.YtjoneoobolnnbaaGreatDoorCF34
import Derived.Test.YtjoneoobolnnbaaGreatDoorCF01
import Derived.ProofKit
import Derived.OpenShut
import Derived.Deep.Slices
import Derived.Deep.Strs
import Derived.Test.YtjoneoobolnnbaaGreatDoorRows
import Derived.Test.YtjoneoobolnnbaaGreatDoorCF02
import Derived.Test.YtjoneoobolnnbaaGreatDoorCF10
import Derived.Test.YtjoneoobolnnbaaGreatDoorCF06
import Derived.MakeChecks
import Derived.FnData
import Derived.ChangeSame
set_option linter.unusedVariables false
namespace Go.Proofs.YtjoneoobolnnbaaGreatDoor
open VL
structure Change.known (c:Change):Prop where
 title:c.kind≠10→c.kind≠6→c.title ∈ ZgP
 dest:c.kind=4→c.to ∈ ZgP
set_option maxHeartbeats 1000000 in
theorem ZsN (s:SrcF) (clock:Int) (hs:s.ok):Tot (Zgd s clock) fun r=>(r.1.tame∧r.1.known)∧r.2.ok:=by
 unfold Zgd
 refine Zi (Zcl s 14 hs (by omega) (by omega)) fun r1 q1=>?_
 refine Zjy 14 rfl q1.1 fun c2 _=>?_
 refine Zi (ZqV _ q1.2) fun r3 q3=>?_
 refine Zi (ZnD _ q3.2) fun r4 q4=>?_
 have ht:(⟨r4.1.space,r4.1.name⟩:Title)≠policyT:=ZhR _ q4.1
 refine ZO (fun k=>∀ l p sd kd us no ts tn os on tx n hi,(⟨ts,tn⟩:Title)≠policyT→(⟨os,on⟩:Title)≠policyT→0≤n→n≤2000→List.length hi≤3→tx.size≤300→(⟨l,p,sd⟩:SrcF).ok→(kd≠10→kd≠6→(⟨ts,tn⟩:Title) ∈ ZgP)→(kd=4→(⟨os,on⟩:Title) ∈ ZgP)→Tot (k l p sd kd us no ts tn os on tx n hi) fun r:Change×SrcF=>(r.1.tame∧r.1.known)∧r.2.ok) ?_ ?_
 ·intro l p sd kd us no ts tn os on tx n hi a1 a2 a3 a4 a5 a6 a7 a8 a9
  exact Zc ⟨⟨⟨a1,a2,a3,a4,a5,a6⟩,⟨a8,a9⟩⟩,a7⟩
 intro k3 hk3
 have hT:(⟨r4.1.space,r4.1.name⟩:Title) ∈ ZgP:=q4.1
 refine ZO (fun k=>∀ b,(b=true→c2≠4)→Tot (k b) fun r:Change×SrcF=>(r.1.tame∧r.1.known)∧r.2.ok) ?_ ?_
 ·intro b hb4
  refine Zbg (fun hb=>?_) fun _=>?_
  ·have h4:=hb4 hb
   refine Zi (ZtC _ q4.2) fun r5 q5=>?_
   refine Zi (ZqX _ q5.2) fun r6 q6=>?_
   refine Zg (fun _=>?_) fun _=>?_
   ·refine Zi (Zcl _ 3 q6.2 (by omega) (by omega)) fun r7 q7=>?_
    exact hk3 _ _ _ _ _ _ _ _ _ _ _ _ _ ht Zdx q7.1.1 (by omega) (by simp) q6.1 q7.2 (fun _ _=>hT) (fun e=>absurd e h4)
   ·exact hk3 _ _ _ _ _ _ _ _ _ _ _ _ _ ht Zdx (by omega) (by omega) (by simp) q6.1 q6.2 (fun _ _=>hT) (fun e=>absurd e h4)
  refine Zg (fun _=>?_) fun h4=>?_
  ·refine Zi (ZnD _ q4.2) fun r5 q5=>?_
   refine Zi (Zcl _ 2 q5.2 (by omega) (by omega)) fun r6 q6=>?_
   exact hk3 _ _ _ _ _ _ _ _ _ _ _ _ _ ht (ZhR _ q5.1) q6.1.1 (by omega) (by simp) (by decide) q6.2 (fun _ _=>hT) (fun _=>q5.1)
  refine Zg (fun _=>?_) fun _=>?_
  ·refine Zi (Zoi _ clock q4.2) fun r5 q5=>?_
   exact hk3 _ _ _ _ _ _ _ _ _ _ _ _ _ ht Zdx (by omega) (by omega) q5.1 (by decide) q5.2 (fun _ _=>hT) (fun e=>absurd e h4)
  refine Zg (fun _=>?_) fun h6=>?_
  ·refine Zi (Zcl _ 2000 q4.2 (by omega) (by omega)) fun r5 q5=>?_
   exact hk3 _ _ _ _ _ _ _ _ _ _ _ _ _ Zdx Zdx (by rw [Zs (by omega) (by omega)];omega) (by rw [Zs (by omega) (by omega)];omega) (by simp) (by decide) q5.2 (fun _ h=>absurd rfl h) (fun e=>absurd e (by decide))
  refine ZO (fun k=>∀ b,Tot (k b) fun r:Change×SrcF=>(r.1.tame∧r.1.known)∧r.2.ok) ?_ ?_
  ·intro b
   refine Zbg (fun _=>?_) fun _=>?_
   ·refine Zg (fun _=>?_) fun _=>?_
    ·exact hk3 _ _ _ _ _ _ _ _ _ _ _ _ _ ht Zdx (by omega) (by omega) (by simp) (by decide) q4.2 (fun _ _=>hT) (fun e=>absurd e h4)
    ·exact hk3 _ _ _ _ _ _ _ _ _ _ _ _ _ ht Zdx (by omega) (by omega) (by simp) (by decide) q4.2 (fun _ _=>hT) (fun e=>absurd e h4)
   refine Zg (fun h10=>?_) fun _=>?_
   ·refine Zi (Zcl _ 4 q4.2 (by omega) (by omega)) fun r5 q5=>?_
    exact hk3 _ _ _ _ _ _ _ _ _ _ _ _ _ Zdx Zdx (by rw [Zs (by omega) (by omega)];omega) (by rw [Zs (by omega) (by omega)];omega) (by simp) (by decide) q5.2 (fun h _=>absurd h10 h) (fun e=>absurd e h4)
   ·exact hk3 _ _ _ _ _ _ _ _ _ _ _ _ _ ht Zdx (by omega) (by omega) (by simp) (by decide) q4.2 (fun _ _=>hT) (fun e=>absurd e h4)
  ·intro k hk
   exact Zg (fun _=>hk _) fun _=>hk _
 ·intro k hk
  exact Zg (fun h=>hk _ fun _=>by omega) fun _=>hk _ fun h=>by
   have:=of_decide_eq_true h
   omega
theorem ZqG (s:SrcF) (clock:Int) (hs:s.ok):Tot (ZeS s clock) fun r=>(∀ c ∈ r.1,c.tame∧c.known)∧r.1.length≤2∧r.2.ok:=by
 unfold ZeS
 refine Zi (Zcl s 6 hs (by omega) (by omega)) fun r hr=>?_
 have hq:0≤Int.tdiv r.1 3∧Int.tdiv r.1 3≤1:=by
  have:=hr.1
  rw [Int.tdiv_eq_ediv_of_nonneg this.1]
  omega
 refine Ztn (by decide) ?_
 have e:IntKind.wrap .i64 (Int.tdiv r.1 3)=Int.tdiv r.1 3:=Zs (by omega) (by omega)
 rw [e]
 refine ZH (fun a:Int×List Int×Int×Int×List Change=>((a.2.2.2.2.length:Int)+a.1≤2∧0≤a.1∧a.1≤2)∧(∀ c ∈ a.2.2.2.2,c.tame∧c.known)∧(⟨a.2.1,a.2.2.1,a.2.2.2.1⟩:SrcF).ok) (fun a=>a.1.toNat) ⟨?_,by simp,hr.2⟩ ?_ ?_
 ·dsimp only
  rw [Zs (by omega) (by omega)]
  simp
  omega
 ·dsimp only
  rw [Zs (by omega) (by omega)]
  omega
 rintro ⟨n,l,p,sd,out⟩ rec ⟨⟨h1,h2,h3⟩,h4,h5⟩ ih
 dsimp only at h1 h2 h3 h4 h5 ⊢
 refine Zg (fun h=>?_) fun h=>?_
 ·refine Zi (ZsN _ clock h5) fun r1 q1=>?_
  refine ZZ 2 (by simp;omega) (by decide) (by decide) ?_
  refine ih _ ⟨?_,?_,q1.2⟩ ?_
  ·dsimp only
   rw [Zs (by omega) (by omega)]
   simp
   omega
  ·intro c hc
   rcases List.mem_append.1 hc with hc | hc
   ·exact h4 c hc
   ·simp at hc
    rw [hc]
    exact q1.1
  ·dsimp only
   rw [Zs (by omega) (by omega)]
   omega
 ·exact Zc ⟨h4,by dsimp only;omega,h5⟩
def Fp (q:Title→Bool) (s:State) (r:State×Int):Prop:=r.2=0→r.1.pages.filter (fun p=>q p.title)=s.pages.filter (fun p=>q p.title)
theorem ZsO {α:Type} {x:Option α} {Q R:α→Prop} (h:Par x Q) (g:∀ v,Q v→R v):Par x R:=fun v e=>g v (h v e)
theorem Zud {t0:ByteArray} {q:Title→Bool} {s:State} {c:Change} {z y:Int} (hv:VS t0 y s) (h:c.kind≠10→c.kind≠6→q c.title=false) (h':c.kind=4→q c.to=false):Par (ZdG s c z) (Fp q s):=by
 by_cases h6:c.kind=6
 ·unfold ZdG
  refine ZW (fun e=>absurd e (by omega)) fun _=>?_
  refine ZW (fun e=>absurd e (by omega)) fun _=>?_
  refine ZW (fun e=>absurd e (by omega)) fun _=>?_
  refine ZW (fun e=>absurd e (by omega)) fun _=>?_
  refine ZW (fun e=>absurd e (by omega)) fun _=>?_
  refine ZW (fun _=>?_) fun e=>absurd h6 e
  exact ZW (fun _=>ZS fun e=>by cases e) fun _=>ZS fun _=>rfl
 ·exact ZsO (ZuN hv h6 (fun e=>h e h6) h') fun v hv e=>(hv e).2
theorem ZsP {t0:ByteArray} {s:State} {l:List Change} {q:Title→Bool} (h:VS t0 s.seq s) (hs:s.seq<1073741824) (hp:∃ p n,Zaf t0=some (p,n,0)) (hl:∀ c ∈ l,c.tame) (hn:l.length≤16)
  (hq:∀ c ∈ l,(c.kind≠10→c.kind≠6→q c.title=false)∧(c.kind=4→q c.to=false)):Par (ZaZ s l) (Fp q s):=by
 have s0:=h.seq0
 refine Zd3 ?_
 unfold ZaZ
 refine Zd (ZrN t0 s h (by omega) hp) ?_
 refine ZD rfl ?_
 have e1:w64 (s.seq+1)=s.seq+1:=Zs (by omega) (by omega)
 refine ZO (fun k=>Tot (k true) (Fp q s)∧Tot (k false) (Fp q s)) ⟨Zal rfl (Zc fun e=>by cases e),?_⟩ fun k hk=>?_
 ·refine ZD rfl ?_
  refine ZH (fun a:Int×Int×Int×List Stored×List Stored×List Proposal×Int×List Watch×List Last=>∃ n:Nat,a.1=n∧n≤l.length∧VS t0 (s.seq+1) ⟨a.2.1,a.2.2.1,a.2.2.2.1,a.2.2.2.2.1,a.2.2.2.2.2.1,a.2.2.2.2.2.2.1,a.2.2.2.2.2.2.2.1,a.2.2.2.2.2.2.2.2⟩∧a.2.1=s.seq∧a.2.2.2.1.filter (fun p=>q p.title)=s.pages.filter (fun p=>q p.title)) (fun a=>((l.length:Int) - a.1).toNat) ⟨0,rfl,Nat.zero_le _,h.mono (by omega),rfl,rfl⟩ (by first | omega | (dsimp only;omega)) ?_
  rintro ⟨i,sq,cl,pg,gn,pr,pd,wt,ls⟩ rec ⟨n,hi,hn',hV,hsq,hc1⟩ ih
  dsimp only at hi hV hsq hc1
  subst hi hsq
  rw [e1]
  refine Zg (fun hlt=>?_) fun hlt=>?_
  ·refine ZF (by omega) hlt fun c hcm hg=>?_
   have get:∀ {f:Change→Option (State×Int)} {R:State×Int→Prop},Tot (f c) R→Tot ((atI l (n:Int)).bind f) R:=fun hf=>Zd (ZlV (by simpa using hg)) hf
   have tame:=hl c hcm
   obtain ⟨z2,z3⟩:=hq c hcm
   refine Zi (ZmG c (by have:=tame.hist;omega)) fun e he=>?_
   refine Za0 (fun hne=>Zc fun e0=>absurd e0 hne) fun h0=>?_
   have cv:=he h0
   refine get ?_
   refine Zi (Zn1 (ZtM hV (by omega) cv tame) (Zud hV z2 z3)) fun r hr=>?_
   refine Za0 (fun hne=>Zc fun e0=>absurd e0 hne) fun h0=>?_
   obtain ⟨k1,k2,-,-⟩:=hr.1 h0
   have y2:=hr.2 h0
   refine get ?_
   refine Zi (Zkf c tame) fun b _=>?_
   refine Zbg (fun _=>Zc fun e0=>by cases e0) fun _=>?_
   refine get ?_
   refine Zi (Zn1 (ZrL k1 (by omega) cv.user) (Zte (q:=q))) fun r2 hr2=>?_
   refine Za0 (fun hne=>Zc fun e0=>absurd e0 hne) fun h0=>?_
   obtain ⟨m1,m2,-⟩:=hr2.1 h0
   obtain ⟨-,x2⟩:=hr2.2 h0
   rw [Zs (by omega) (by omega)]
   refine ih _ ⟨n+1,by dsimp only;omega,by omega,m1,?_,?_⟩ (by first | omega | (dsimp only;omega))
   ·dsimp only at k2 ⊢
    omega
   ·dsimp only at y2 ⊢
    rw [x2,y2,hc1]
  ·exact Zg (fun hc=>absurd hc (by omega)) fun _=>Zc fun _=>hc1
 ·refine Zg (fun _=>hk.1) fun h1=>?_
  rw [decide_eq_false (by omega)]
  exact hk.2
def ZqH:List Title:=policyT::ZgP
def nk (t:Title):Bool:=!decide (t ∈ ZqH)
def MadeK (s:State) (m:Int):Prop:=Made s m∧s.pages.filter (fun p=>nk p.title) = []
theorem ZvJ {t:Title} (h:t ∈ ZgP):nk t=false:=by
 unfold nk ZqH
 simp [h]
theorem MadeK.mono {s:State} {m m':Int} (h:MadeK s m) (hm:m≤m'):MadeK s m':=⟨h.1.mono hm,h.2⟩
theorem MadeK.title {s:State} {m:Int} (h:MadeK s m):∀ p ∈ s.pages,p.title ∈ ZqH:=fun p hp=>by
 have:=List.filter_eq_nil_iff.1 h.2 p hp
 unfold nk at this
 simpa using this
theorem Zue (t:ByteArray):(begun t).pages.filter (fun p=>nk p.title) = []:=by
 unfold begun
 rfl
theorem Znz {s:State} {m:Int} {l:List Change} (h:MadeK s m) (hm:m≤1000) (hl:∀ c ∈ l,c.tame∧c.known) (hn:l.length≤2):Tot (ZaZ s l) fun r=>r.2=0→MadeK r.1 (m+1):=by
 obtain ⟨h1,h2⟩:=h
 obtain ⟨⟨t,ht,hv⟩,g1,g2⟩:=h1
 obtain ⟨p,hp⟩:=Zjq t ht
 refine (Zn1 (Zpt ⟨⟨t,ht,hv⟩,g1,g2⟩ hm (fun c hc=>(hl c hc).1) hn) (ZsP (q:=nk) hv (by omega) ⟨p,0,hp⟩ (fun c hc=>(hl c hc).1) (by omega) fun c hc=>⟨fun a b=>ZvJ ((hl c hc).2.title a b),fun a=>ZvJ ((hl c hc).2.dest a)⟩)).mono fun r hr h0=>?_
 exact ⟨hr.1 h0,(hr.2 h0).trans h2⟩
theorem Zuf (s:State) (r:SrcF) (n m:Int) (h:MadeK s m) (hr:r.ok) (hn:0≤n) (hm:m+n≤1000):Tot (Zhw s r n) fun q=>MadeK q.1 (m+n):=by
 have m0:0≤m:=by obtain ⟨t,ht,hv⟩:=h.1.ex;have:=hv.seq0;have:=h.1.seq;omega
 unfold Zhw
 refine ZH (fun a:Int×List Int×Int×Int×Int×Int×List Stored×List Stored×List Proposal×Int×List Watch×List Last=>(0≤a.1∧a.1≤n)∧(⟨a.2.1,a.2.2.1,a.2.2.2.1⟩:SrcF).ok∧MadeK ⟨a.2.2.2.2.1,a.2.2.2.2.2.1,a.2.2.2.2.2.2.1,a.2.2.2.2.2.2.2.1,a.2.2.2.2.2.2.2.2.1,a.2.2.2.2.2.2.2.2.2.1,a.2.2.2.2.2.2.2.2.2.2.1,a.2.2.2.2.2.2.2.2.2.2.2⟩ (m+n - a.1)) (fun a=>a.1.toNat) ⟨⟨hn,Int.le_refl _⟩,hr,h.mono (by dsimp only;omega)⟩ (by dsimp only;omega) ?_
 rintro ⟨i,l,p,sd,sq,cl,pg,gn,pr,pd,wt,ls⟩ rec ⟨⟨h1,h2⟩,h3,h4⟩ ih
 dsimp only at h1 h2 h3 h4
 refine Zg (fun hlt=>?_) fun hlt=>?_
 ·refine Zam ?_
  refine Zi (ZqG _ cl h3) fun c hc=>?_
  rw [Zs (by omega) (by omega)]
  refine Zi (Znz h4 (by omega) hc.1 hc.2.1) fun r hr=>?_
  refine Zg (fun h0=>?_) fun _=>?_
  ·refine ih _ ⟨⟨by dsimp only;omega,by dsimp only;omega⟩,hc.2.2,(hr h0).mono (by dsimp only;omega)⟩ (by first | omega | (dsimp only;omega))
  ·refine ih _ ⟨⟨by dsimp only;omega,by dsimp only;omega⟩,hc.2.2,h4.mono (by dsimp only;omega)⟩ (by first | omega | (dsimp only;omega))
 ·exact Zc (h4.mono (by omega))
theorem Zug (l:List Int) (hl:l.length≤9223372036854775807):Tot (Zhx l) fun s=>MadeK s 20:=by
 unfold Zhx
 refine Zi (ZtB l hl) fun s hs=>?_
 refine Zi (ZsV s hs) fun r hr=>?_
 obtain ⟨p,hp⟩:=Zjq r.1 hr.1
 have hsz:=ZqN r.1 hr.1
 refine Zd (Zui r.1 hsz ⟨p,0,hp⟩) ?_
 have hb:MadeK (begun r.1) 1:=⟨⟨⟨r.1,hr.1,ZsT r.1 hsz⟩,Int.le_refl _,by show (0:Int)≤4000 * 1;decide⟩,Zue r.1⟩
 refine Zi (Zcl _ 5 hr.2 (by omega) (by omega)) fun q hq=>?_
 rw [Zs (by omega) (by omega)]
 refine ZH (fun a:Int×Int×Int×List Stored×List Stored×List Proposal×Int×List Watch×List Last×List Int×Int×Int=>(0≤a.1∧a.1≤3+q.1)∧(⟨a.2.2.2.2.2.2.2.2.2.1,a.2.2.2.2.2.2.2.2.2.2.1,a.2.2.2.2.2.2.2.2.2.2.2⟩:SrcF).ok∧MadeK ⟨a.2.1,a.2.2.1,a.2.2.2.1,a.2.2.2.2.1,a.2.2.2.2.2.1,a.2.2.2.2.2.2.1,a.2.2.2.2.2.2.2.1,a.2.2.2.2.2.2.2.2.1⟩ (1+a.1)) (fun a=>(3+q.1 - a.1).toNat) ⟨⟨by dsimp only;omega,by dsimp only;omega⟩,hq.2,hb⟩ (by dsimp only;omega) ?_
 rintro ⟨i,sq,cl,pg,gn,pr,pd,wt,ls,li,ps,sd⟩ rec ⟨⟨h1,h2⟩,h3,h4⟩ ih
 dsimp only at h1 h2 h3 h4
 refine Zg (fun hlt=>?_) fun hlt=>?_
 ·refine Zam ?_
  refine Zi (ZqV _ h3) fun u hu=>?_
  refine Zd (v:=ZgP) rfl ?_
  refine ZF h1 (by show i<8;omega) fun e he _=>?_
  refine Zi (ZqX _ hu.2) fun x hx=>?_
  rw [Zs (by omega) (by omega)]
  refine Zi (Znz h4 (by omega) (fun c hc=>?_) (by simp)) fun r hr=>?_
  ·simp at hc
   subst hc
   exact ⟨⟨ZhR e he,Zdx,by simp,by simp,by simp,hx.1⟩,⟨fun _ _=>he,fun e=>by cases e⟩⟩
  refine Zg (fun h0=>?_) fun _=>?_
  ·exact ih _ ⟨⟨by dsimp only;omega,by dsimp only;omega⟩,hx.2,(hr h0).mono (by dsimp only;omega)⟩ (by first | omega | (dsimp only;omega))
  ·exact ih _ ⟨⟨by dsimp only;omega,by dsimp only;omega⟩,hx.2,h4.mono (by dsimp only;omega)⟩ (by first | omega | (dsimp only;omega))
 ·refine Zi (Zcl _ 7 h3 (by omega) (by omega)) fun a ha=>?_
  refine Zi (Zuf _ _ _ (1+i) h4 ha.2 ha.1.1 (by omega)) fun r hr=>?_
  exact Zc (hr.mono (by omega))
theorem ZmF {α:Type} [DecidableEq α]:∀ {l m:List α},l.Nodup→(∀ x ∈ l,x ∈ m)→l.length≤m.length
 | [],_,_,_=>Nat.zero_le _
 | x::l,m,h,hs=>by
   obtain ⟨h1,h2⟩:=List.nodup_cons.1 h
   have hx:=hs x (List.mem_cons_self ..)
   have:=ZmF (l:=l) (m:=m.erase x) h2 fun y hy=>(List.mem_erase_of_ne (fun e=>h1 (by rw [← e];exact hy))).2 (hs y (List.mem_cons_of_mem _ hy))
   rw [List.length_erase_of_mem hx] at this
   have hp:=List.length_pos_of_mem hx
   simp only [List.length_cons]
   omega
theorem ZjE {l:List Title} (h:l.Pairwise tlt):l.Nodup:=h.imp fun {a b} hab e=>by
 rw [e] at hab
 exact Zbf _ hab
theorem MadeK.titles {s:State} {m:Int} (h:MadeK s m):(s.pages.map (·.title)).Pairwise tlt:=by
 obtain ⟨t,ht,hv⟩:=h.1.ex
 exact List.pairwise_map.2 hv.sorted
theorem MadeK.plen {s:State} {m:Int} (h:MadeK s m):s.pages.length≤9:=by
 have:=ZmF (ZjE h.titles) fun x hx=>by
  obtain ⟨p,hp,rfl⟩:=List.mem_map.1 hx
  exact h.title p hp
 rw [List.length_map] at this
 exact this
theorem Zuq {s:State} {u:ByteArray} {P:Policy} {G:List ByteArray} (h:RdAt s u P G) (hl:s.pages.length≤200) (hh:∀ p ∈ s.pages,1≤p.history.length∧p.history.length≤40) (T:List Title) (hT:T.length≤12):Tot (ZdH s u T) fun r=>r.length≤480:=by
 have hh':∀ p ∈ s.pages,1≤p.history.length∧p.history.length≤1000000:=fun p hp=>by
  have:=hh p hp
  omega
 unfold ZdH
 refine ZH (fun a:Int×List Num=>∃ n:Nat,a.1=n∧n≤T.length∧a.2.length≤40 * n) (fun a=>((T.length:Int) - a.1).toNat) ⟨0,rfl,Nat.zero_le _,by simp⟩ (by first | omega | (dsimp only;omega)) ?_
 rintro ⟨i,l⟩ rec ⟨n,e1,hn,hlen⟩ ih
 dsimp only at e1 hlen ⊢
 subst e1
 refine Zg (fun hlt=>?_) fun hlt=>?_
 ·refine ZO (fun k=>∀ l':List Num,l'.length≤40 * (n+1)→Tot (k l') fun r=>r.length≤480) (fun l' hl'=>ih _ ⟨n+1,(Zs (by omega) (by omega)).trans (by omega),by omega,hl'⟩ (by dsimp only;rw [Zs (by omega) (by omega)];omega)) fun k hk=>?_
  refine ZF (by omega) hlt fun t _ _=>?_
  refine Zd (ZpD h (by omega) hh' t) ?_
  refine Zbg (fun _=>hk _ (by omega)) fun hb=>?_
  refine Zi (ZnP s t (by omega) hh') fun r hr=>?_
  have hrl:r.1.history.length≤40:=by
   rcases hr with ⟨_,h2⟩ | ⟨_,h2,_⟩
   ·exfalso
    have:s.pages.any (fun p=>decide (p.title=t))=false:=by
     rw [List.any_eq_false]
     intro p hp
     simpa using h2 p hp
    rw [this] at hb
    cases hb
   ·exact (hh _ h2).2
  refine ZH (fun a:Int×List Num=>∃ m:Nat,a.1=m∧m≤r.1.history.length∧a.2.length≤40 * n+m) (fun a=>((r.1.history.length:Int) - a.1).toNat) ⟨0,rfl,Nat.zero_le _,by dsimp only;omega⟩ (by first | omega | (dsimp only;omega)) ?_
  rintro ⟨j,l2⟩ rec2 ⟨m,e2,hm,hlen2⟩ ih2
  dsimp only at e2 hlen2 ⊢
  subst e2
  refine Zg (fun hlt2=>?_) fun hlt2=>hk _ (by omega)
  refine ZF (by omega) hlt2 fun e _ _=>?_
  refine ZZ 1000 (by simp;omega) (by decide) (by decide) ?_
  refine ih2 _ ⟨m+1,(Zs (by omega) (by omega)).trans (by omega),by omega,by simp;omega⟩ (by dsimp only;rw [Zs (by omega) (by omega)];omega)
 ·refine Zi (Ztu l (by omega)) fun r hr=>?_
  have hr2:=hr.1.length_eq
  refine ZH (fun a:Int×List Item=>∃ m:Nat,a.1=m∧m≤r.length∧a.2.length=m) (fun a=>((r.length:Int) - a.1).toNat) ⟨0,rfl,Nat.zero_le _,rfl⟩ (by first | omega | (dsimp only;omega)) ?_
  rintro ⟨j,l2⟩ rec2 ⟨m,e2,hm,hlen2⟩ ih2
  dsimp only at e2 hlen2 ⊢
  subst e2
  refine Zg (fun hlt2=>?_) fun hlt2=>Zc (by omega)
  refine ZF (by omega) hlt2 fun e _ _=>?_
  refine ZZ 1000 (by simp;omega) (by decide) (by decide) ?_
  refine ih2 _ ⟨m+1,(Zs (by omega) (by omega)).trans (by omega),by omega,by simp;omega⟩ (by dsimp only;rw [Zs (by omega) (by omega)];omega)
theorem Zq5 (l:List Item) (hl:l.length≤1000000):Tot (Za1 l) fun r=>r.length=l.length:=by
 unfold Za1
 rw [Zs (by omega) (by omega)]
 refine ZH (fun a:Int×Int×List Item=>0≤a.1∧a.2.1<(l.length:Int)∧a.2.1=(l.length:Int) - 1 - a.1∧a.2.2.length=l.length) (fun a=>((l.length:Int) - a.1).toNat) ⟨Int.le_refl _,by dsimp only;omega,by dsimp only;omega,rfl⟩ (by first | omega | (dsimp only;omega)) ?_
 rintro ⟨i,j,d⟩ rec ⟨h0,h1,h2,h3⟩ ih
 dsimp only at h0 h1 h2 h3 ⊢
 refine Zg (fun hlt=>?_) fun _=>Zc h3
 refine ZF (by omega) (by omega) fun x _ _=>?_
 refine ZF (by omega) (by omega) fun y _ _=>?_
 refine ZF (by omega) (by omega) fun _ _ _=>?_
 refine ZF (by omega) (by rw [ZlA];omega) fun _ _ _=>?_
 rw [Zs (n:=i+1) (by omega) (by omega),Zs (n:=j - 1) (by omega) (by omega)]
 exact ih _ ⟨by dsimp only;omega,by dsimp only;omega,by dsimp only;omega,by dsimp only;rw [ZlA,ZlA];exact h3⟩ (by first | omega | (dsimp only;omega))
def clip (k:Int) (n:Nat):Int:=if (if (n:Int)<k then (n:Int) else k) > 0 then (if (n:Int)<k then (n:Int) else k) else 0
theorem Zur (k:Int) (n:Nat):0≤clip k n∧clip k n≤n:=by
 unfold clip
 constructor<;>split<;>(try split)<;>omega
theorem ZsY {s:State} {m:Int} {u:ByteArray} (hs:MadeK s m) (hu:u ∈ usersG):∃ R:List Item,R.length≤480∧∀ k:Int,Zch s u k=some (R.take (clip k R.length).toNat):=by
 obtain ⟨t0,ht,hv⟩:=hs.1.ex
 obtain ⟨P,G,hR⟩:=ZwS hv ht hu
 have hp:=hs.plen
 have hh:∀ p ∈ s.pages,1≤p.history.length∧p.history.length≤40:=fun p hp=>⟨(hv.pages p hp).hist.len1,(hv.pages p hp).hist.len2⟩
 obtain ⟨T,hT1,hT2⟩:=Zww (s.pages.map (·.title)) (by rw [List.length_map];omega) (ZjE hs.titles)
 have hT3:=hT2.1.length_eq
 rw [List.length_map] at hT3
 obtain ⟨L,hL1,hL2⟩:=Zuq hR (by omega) hh T (by omega)
 obtain ⟨R,hR1,hR2⟩:=Zq5 L (by omega)
 refine ⟨R,by omega,fun k=>?_⟩
 refine Zb6 ?_
 unfold Zch
 refine ZH (fun a:Int×List Title=>∃ n:Nat,a.1=n∧n≤s.pages.length∧a.2=(s.pages.take n).map (·.title)) (fun a=>((s.pages.length:Int) - a.1).toNat) ⟨0,rfl,Nat.zero_le _,by simp⟩ (by first | omega | (dsimp only;omega)) ?_
 rintro ⟨i,l⟩ rec ⟨n,e1,hn,e2⟩ ih
 dsimp only at e1 e2 ⊢
 subst e1 e2
 refine Zg (fun hlt=>?_) fun hlt=>?_
 ·refine ZF (by omega) hlt fun p _ hg=>?_
  rw [Int.toNat_natCast] at hg
  refine ZZ 1000 (by simp;omega) (by decide) (by decide) ?_
  refine ih _ ⟨n+1,(Zs (by omega) (by omega)).trans (by omega),by omega,?_⟩ (by dsimp only;rw [Zs (by omega) (by omega)];omega)
  dsimp only
  rw [List.take_add_one,hg]
  simp
 ·have:n=s.pages.length:=by omega
  subst this
  rw [List.take_length]
  refine Zd hT1 ?_
  refine Zd hL1 ?_
  refine Zd hR1 ?_
  obtain ⟨c1,c2⟩:=Zur k R.length
  refine ZoY (Int.le_refl _) c1 c2 fun x hx _=>?_
  have hx2:x=R.take (clip k R.length).toNat:=by
   rw [hx]
   simp [clip]
  refine Zd (v:=x) (by unfold Zbd;rw [if_pos (by rw [hx2,List.length_take];omega)]) (Zc hx2)
set_option maxRecDepth 100000 in
theorem Zqe:Zf4=some true:=by
 unfold Zf4
 kernel_rfl
theorem Zqf (l m:List Int) (hl:l.length≤9223372036854775807) (hm:m.length≤9223372036854775807):Tot (Zd2 l m) fun s=>MadeK s 30:=by
 unfold Zd2
 refine Zi (Zug l hl) fun s hs=>?_
 refine Zi (ZtB m hm) fun x hx=>?_
 refine Zi (Zcl x 7 hx (by omega) (by omega)) fun q hq=>?_
 refine ZH (fun a:Int×Int×Int×List Stored×List Stored×List Proposal×Int×List Watch×List Last×List Int×Int×Int=>(0≤a.1∧a.1≤7)∧(⟨a.2.2.2.2.2.2.2.2.2.1,a.2.2.2.2.2.2.2.2.2.2.1,a.2.2.2.2.2.2.2.2.2.2.2⟩:SrcF).ok∧MadeK ⟨a.2.1,a.2.2.1,a.2.2.2.1,a.2.2.2.2.1,a.2.2.2.2.2.1,a.2.2.2.2.2.2.1,a.2.2.2.2.2.2.2.1,a.2.2.2.2.2.2.2.2.1⟩ (27 - a.1)) (fun a=>a.1.toNat) ⟨⟨by dsimp only;omega,by dsimp only;omega⟩,hq.2,hs.mono (by first | omega | (dsimp only;omega))⟩ (by first | omega | (dsimp only;omega)) ?_
 rintro ⟨n,sq,cl,pg,gn,pr,pd,wt,ls,li,ps,sd⟩ rec ⟨⟨h1,h2⟩,h3,h4⟩ ih
 dsimp only at h1 h2 h3 h4
 refine Zg (fun hlt=>?_) fun hlt=>Zc (h4.mono (by omega))
 refine Zam ?_
 refine Zi (Zcl _ 3 h3 (by omega) (by omega)) fun a ha=>?_
 refine ZF ha.1.1 (by simpa using ha.1.2) fun c hc _=>?_
 refine Zi (ZnD _ ha.2) fun t ht=>?_
 rw [Zs (by omega) (by omega)]
 refine Zi (Znz h4 (by omega) (fun d hd=>?_) (by simp)) fun r hr=>?_
 ·simp at hd
  subst hd
  exact ⟨⟨ZhR _ ht.1,Zdx,by simp,by simp,by simp,show (⟨#[]⟩:ByteArray).size≤300 by decide⟩,⟨fun _ _=>ht.1,fun e=>by cases e⟩⟩
 refine Zg (fun h0=>?_) fun _=>?_
 ·exact ih _ ⟨⟨by dsimp only;omega,by dsimp only;omega⟩,ht.2,(hr h0).mono (by first | omega | (dsimp only;omega))⟩ (by first | omega | (dsimp only;omega))
 ·exact ih _ ⟨⟨by dsimp only;omega,by dsimp only;omega⟩,ht.2,h4.mono (by first | omega | (dsimp only;omega))⟩ (by first | omega | (dsimp only;omega))
theorem Zlg (l:List Item) (hl:l.length≤1000000):Zdl l l=some true:=by
 refine Zb6 ?_
 unfold Zdl
 refine Za0 (fun h=>absurd rfl h) fun _=>?_
 refine ZH (fun i:Int=>0≤i∧i≤(l.length:Int)) (fun i=>((l.length:Int) - i).toNat) ⟨Int.le_refl _,by omega⟩ (by first | omega | (dsimp only;omega)) ?_
 rintro i rec ⟨h0,h1⟩ ih
 refine Zg (fun hlt=>?_) fun _=>Zc rfl
 refine ZF h0 hlt fun x _ hx=>?_
 refine ZF h0 hlt fun y _ hy=>?_
 refine Za0 (fun hne=>?_) fun _=>?_
 ·rw [hx] at hy
  injection hy with hy
  exact absurd hy hne
 ·rw [Zs (by omega) (by omega)]
  exact ih _ ⟨by omega,by omega⟩ (by omega)
theorem Zpa (l m:List Int) (who most:Int) (hl:l.length≤9223372036854775807) (hm:m.length≤9223372036854775807):Zdb l m who most=some true:=by
 refine Zb6 ?_
 unfold Zdb
 refine Zi (Zqf l m hl hm) fun s hs=>?_
 refine Zd (v:=usersG) rfl ?_
 refine Zi (ZnC who 4 (by omega) (by omega)) fun w hw=>?_
 refine ZF hw.1 hw.2 fun u hu _=>?_
 obtain ⟨R,hR,hk⟩:=ZsY hs hu
 refine Zd (hk 1000) ?_
 have e1:R.take (clip 1000 R.length).toNat=R:=by
  apply List.take_of_length_le
  unfold clip
  split<;>(try split)<;>omega
 rw [e1]
 refine Zi (ZnC most 12 (by omega) (by omega)) fun q hq=>?_
 rw [Zs (by omega) (by omega)]
 refine Zd (hk (q - 1)) ?_
 refine Zam ?_
 refine Zd Zqe ?_
 refine Zal rfl ?_
 refine ZoY (Int.le_refl _) (by split<;>(try split)<;>omega) (by split<;>(try split)<;>omega) fun x hx _=>?_
 have hx2:x=R.take (clip (q - 1) R.length).toNat:=by
  rw [hx]
  unfold clip
  simp only [Int.toNat_zero,List.drop_zero,Nat.sub_zero]
  refine congrArg (fun n:Int=>List.take n.toNat R) ?_
  split<;>(try split)<;>(try split)<;>omega
 rw [hx2]
 exact Zd (Zlg _ (by rw [List.length_take];omega)) (Zc rfl)
end Go.Proofs.YtjoneoobolnnbaaGreatDoor
namespace Go.Proofs.YtjoneoobolnnbaaGreatDoor
open Go.RowKit Go.ChangeShapes Go.WideShapes Go.Deep
theorem Zhp {α:Type} (f:Nat→Option α):∀ n,(∀ i,i<n→∃ t,f i=some t)→((List.range n).filterMap f).length=n∧∀ i,i<n→((List.range n).filterMap f)[i]? = f i
 | 0,_=>⟨rfl,fun i h=>absurd h (by omega)⟩
 | n+1,h=>by
   obtain ⟨h1,h2⟩:=Zhp f n fun i hi=>h i (by omega)
   obtain ⟨t,ht⟩:=h n (by omega)
   rw [List.range_succ,List.filterMap_append]
   have e:List.filterMap f [n] = [t]:=by simp [ht]
   rw [e]
   refine ⟨by simp [h1],fun i hi=>?_⟩
   rcases Nat.lt_or_ge i n with hl | hl
   ·rw [List.getElem?_append_left (by omega)];exact h2 i hl
   ·obtain rfl:i=n:=by omega
    rw [List.getElem?_append_right (by omega),h1,ht];simp
section
variable {H:Type} {enc:TypeId×Value→H} {P:Program} {W:World}
def Rd (enc:TypeId×Value→H) (P:Program) (W:World) (T:TypeId) (α:Type) [Enc α]:Prop:=
 ∀ fuel cs x,DataW.trod enc P W 0 (fun _=>true) true fuel T cs=some x→∃ t:α,Enc.RT W t cs
theorem ZvF {T:TypeId} (hT:P.underlying T=some (.int .i64)):Rd enc P W T Int:=fun _ _ _ h=>by
 obtain ⟨n,hc,_⟩:=DataW.trod_int hT h
 exact ⟨n,hc⟩
theorem Zsn {S E:TypeId} {α:Type} [Enc α] (hS:P.underlying S=some (.slice E)) (hk:P.cellsOf E=Enc.k α) (h0:0<Enc.k α) (hE:Rd enc P W E α):Rd enc P W S (List α):=fun fuel cs x h=>by
 rcases open_slice hS h with ⟨hc,_⟩ | ⟨a,len,cap,m,n,D,Pl,hc,_,hl,hm,hmm,_,hel⟩
 ·exact ⟨[],none,0,0,hc,SlR.nil W⟩
 ·have hm':m=cap:=by simpa using hmm
  have hx:∀ i,∃ (cs':List Value) (t:Option α),i<len→∃ t',t=some t'∧Enc.RT W t' cs'∧∀ j v,cs'[j]? = some v→W.cell? (a.add (i * P.cellsOf E+j))=some v:=fun i=>by
   by_cases hi:i<len
   ·obtain ⟨cs',h1,h2⟩:=hel i (by omega)
    obtain ⟨t,ht⟩:=hE _ _ _ h2
    obtain ⟨_,hlen,hcell⟩:=World.cells?_some h1
    refine ⟨cs',some t,fun _=>⟨t,rfl,ht,fun j v hj=>?_⟩⟩
    have hjl:j<P.cellsOf E:=by rw [← hlen];exact (List.getElem?_eq_some_iff.1 hj).1
    rw [← Go.Deep.add_add,hcell j hjl,hj]
   ·exact ⟨[],none,fun h=>absurd h hi⟩
  obtain ⟨css,hx⟩:=Classical.axiomOfChoice hx
  obtain ⟨ts,hx⟩:=Classical.axiomOfChoice hx
  refine ⟨(List.range len).filterMap ts,some a,len,cap,hc,?_⟩
  have hlen:((List.range len).filterMap ts).length=len∧∀ i,i<len→((List.range len).filterMap ts)[i]? = ts i:=Zhp ts len fun i hi=>by
   obtain ⟨t,ht,_⟩:=hx i hi
   exact ⟨t,ht⟩
  refine ⟨hlen.1.symm,hl,by unfold maxLen at hm;exact hm,fun hpos=>?_⟩
  obtain ⟨t0,_,hR0,hc0⟩:=hx 0 hpos
  have hl0:=Enc.len hR0
  have hcell0:=hc0 0 ((css 0)[0]'(by omega)) (List.getElem?_eq_getElem (by omega))
  obtain ⟨b,off,spot⟩:=a
  have hspot:spot=none:=by
   simp only [Nat.zero_mul,Nat.add_zero,Addr.add,if_true] at hcell0
   cases spot with
   | none=>rfl
   | some s=>
     exfalso
     unfold World.cell? at hcell0
     split at hcell0<;>simp at hcell0
  subst hspot
  refine ⟨b,off,css,rfl,trivial,?_,fun i x hi=>?_⟩
  ·simp only [Nat.zero_mul,Nat.add_zero,Addr.add,if_true] at hcell0
   exact Zbo hcell0
  ·have hil:i<len:=by rw [← hlen.1];exact (List.getElem?_eq_some_iff.1 hi).1
   obtain ⟨t,ht,hR,hcell⟩:=hx i hil
   rw [hlen.2 i hil,ht] at hi
   obtain rfl:t=x:=by simpa using hi
   refine ⟨hR,fun j v hj=>?_⟩
   have:=hcell j v hj
   rw [hk] at this
   unfold Addr.add at this
   split at this
   ·rename_i h0;rw [Nat.add_assoc,h0];exact this
   ·rw [Nat.add_assoc];exact this
theorem Zpj {α:Type}:∀ {l:List α},l.length=2→∃ a b,l = [a,b]
 | [a,b],_=>⟨a,b,rfl⟩
end
end Go.Proofs.YtjoneoobolnnbaaGreatDoor
namespace Go.Proofs.YtjoneoobolnnbaaGreatDoor
open Go.RowKit Go.ChangeShapes Go.WideShapes Go.Deep
theorem Zs7:Tryz.prog.cellsOf 3=1:=by kernel_rfl
section
variable {H:Type} {enc:TypeId×Value→H} {W:World}
theorem ZwT:Rd enc Tryz.prog W 3 Int:=ZvF Tryz.underlying3
end
end Go.Proofs.YtjoneoobolnnbaaGreatDoor

namespace Go.Proofs.YtjoneoobolnnbaaGreatDoor
open VL Go.RowKit Go.ChangeShapes Go.WideShapes
theorem ZtK {H:Type} {enc:TypeId×Value→H} {W:World}:Rd enc Tryz.prog W 35 (List Int):=Zsn Tryz.underlying35 Zs7 (by decide) ZwT
theorem Ztp {W:World} (h:laidMetH Tryz.prog [("unicode/utf8.acceptRanges",Rows.laid_unicode_utf8_acceptRanges),("transclude/edit.rules",Rows.laid_transclude_edit_rules),("unicode/utf8.first",Rows.laid_unicode_utf8_first)] W) :
  W.cell? ⟨0,0,none⟩=some (.int .i64 5)∧W.cell? ⟨0,1,none⟩=some (.string ⟨#[80,111,108,105,99,121]⟩):=by
 rw [MakeChecks.laidMetH_plain _ _ _ (by kernel_rfl)] at h
 obtain ⟨_,⟨_,_,_,_,_,_,_,_,_,_,⟨g,t,cs,fuel,p,q,hg,ht,hv,hd,_,_⟩,_⟩,_,_⟩:=h
 obtain rfl:=Option.some.inj ((show Tryz.prog.globalNamed "transclude/edit.rules" = some 0 by kernel_rfl).symm.trans hg)
 obtain rfl:=Option.some.inj ((show (Tryz.prog.globals[0]?).map (·.type)=some 29 by kernel_rfl).symm.trans ht)
 obtain ⟨y0,y1,n,ex,hl,h0,h1⟩:=trod_struct2 Tryz.underlying29 hd
 obtain ⟨z,e1,e2,_⟩:=DataW.trod_int Tryz.underlying3 h0
 obtain ⟨s,e3,e4,_⟩:=DataW.trod_string Tryz.underlying9 h1
 have c2:Tryz.prog.cellsOf 29=2:=by kernel_rfl
 have ci:Tryz.prog.cellsOf 3=1:=by kernel_rfl
 have cs1:Tryz.prog.cellsOf 9=1:=by kernel_rfl
 rw [c2] at hl
 rw [ci] at e1
 rw [cs1] at e3
 have hx:=(Prod.mk.inj ex).1
 simp only [Rows.laid_transclude_edit_rules,e2,e4,DataW.agg.injEq,List.cons.injEq,DataW.lit.injEq,Lit.int.injEq,Lit.string.injEq,true_and,and_true] at hx
 obtain ⟨rfl,hs⟩:=hx
 obtain rfl:s=⟨#[80,111,108,105,99,121]⟩:=by
  obtain ⟨⟨l⟩⟩:=s
  exact congrArg (fun l:List UInt8=>(⟨⟨l⟩⟩:ByteArray)) hs.symm
 obtain ⟨x0,x1,hcs⟩:=Zpj hl
 rw [hcs] at e1 e3
 cases (show [x0] = [_] from e1)
 cases (show [x1] = [_] from e3)
 have hc0:=World.var?_cell hg hv 0
 have hc1:=World.var?_cell hg hv 1
 rw [← Array.getElem?_toList,hcs] at hc0 hc1
 exact ⟨hc0,hc1⟩
theorem Zwm {W:World} (hG:Glob W) (hR:W.cell? ⟨0,0,none⟩=some (.int .i64 5)∧W.cell? ⟨0,1,none⟩=some (.string ⟨#[80,111,108,105,99,121]⟩)) (W':World) (hb:Below W.heap.size W W'):WInv.I Tryz.prog W':=
 ⟨hG.imp fun _ hm=>re1 hb (Zbo hm) hm,re1 hb (Zbo hR.1) hR.1,re1 hb (Zbo hR.2) hR.2⟩
end Go.Proofs.YtjoneoobolnnbaaGreatDoor
namespace Go.Proofs.YtjoneoobolnnbaaGreatDoor
open VL Go.RowKit
theorem Zqm {α:Type} [Enc α] {w:World} {A:Option Addr} {n c:Nat} {xs:List α} (h:SlR w A n c xs):xs.length≤9223372036854775807:=by
 obtain ⟨h1,h2,h3,h4⟩:=h
 omega
theorem ZwG {x:Ctx} {p0 p1 p2 p3:PV} {v0 v1 v2 v3:Value} (h0:Rep x p0 v0) (h1:Rep x p1 v1) (h2:Rep x p2 v2) (h3:Rep x p3 v3) (i:Nat) (p:PV) (v:Value)
  (hp : [p0,p1,p2,p3][i]? = some p) (hv : #[v0,v1,v2,v3][i]? = some v):Rep x p v:=by
 match i,hp,hv with
 | 0,hp,hv=>injection hp with hp;injection hv with hv;subst hp hv;exact h0
 | 1,hp,hv=>injection hp with hp;injection hv with hv;subst hp hv;exact h1
 | 2,hp,hv=>injection hp with hp;injection hv with hv;subst hp hv;exact h2
 | 3,hp,hv=>injection hp with hp;injection hv with hv;subst hp hv;exact h3
 | i+4,hp,_=>simp at hp
theorem Zkr {A B:Option Addr} {n m c d:Nat} {l k:List Int} (i0 i1:Int) (W:World) (hl:SlR W A n c l) (hk:SlR W B m d k) (hI:∀ W',Below W.heap.size W W'→WInv.I Tryz.prog W') :
  Calls Tryz.prog 9 #[.slice A n c,.slice B m d,.int .i64 i0,.int .i64 i1] W fun e w'=>e = .returned (.bool true)∧Below W.heap.size W w':=
 ZkL (ZiN l k i0 i1 true (Zpa l k i0 i1 (Zqm hl) (Zqm hk))) rfl (ZwG (ZmB hl) (ZmB hk) (.int _ _) (.int _ _)) hI
end Go.Proofs.YtjoneoobolnnbaaGreatDoor
