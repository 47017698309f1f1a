/- What lies in a slot or in a box made pure; nil in a box as a row of the call's own. No program .. -/
import Derived.Test.YtjoneoobolnnbaaGreatDoorCB02
namespace Go.Proofs.YtjoneoobolnnbaaGreatDoor
namespace VL
open Go.RowKit
theorem ZmA (ob:List (Nat×Option (Gen×VObj))) (u:Nat) (o:Option (Gen×VObj)):Zdk (ZO ob) u o=ZO ((u,o)::ob):=by
 have:=Zfv [(u,o)] ob
 simpa [flips] using this
theorem ZsI {s:FS} {t:Nat} {q:PV} {us:List (Nat×Option (Gen×VObj))} (h:Zqj s.ob (s.tm t)=some (q,us)):Shift s ⟨fun x=>if x=t then q else s.tm x,flips s.ob us,s.ng⟩:=fun r a x hX=>by
 obtain ⟨F',st,hX',hr,_,_⟩:=Zgp (Flip.refl _) hX h (hX.tm t)
 refine ⟨{ x with F:=F' },rfl,hX'.defers,hX'.size,hX'.gr,hX'.gens,fun t'=>?_,hX'.ob,hX'.apart,hX'.flt,hX'.f0,hX'.fnew,hX'.rho,hX'.inv,hX'.keep⟩
 show Rep _ (if t'=t then q else s.tm t') _
 split
 ·rename_i e
  rw [e]
  exact hr
 ·exact hX'.tm t'
theorem ZsJ {s:FS} {u:Nat} {g:Gen} {cs qs:List PV} {us:List (Nat×Option (Gen×VObj))} (h0:s.ob u=some (g,.box cs)) (h:ZfZ s.ob cs=some (qs,us)):Shift s ⟨s.tm,Zdk (flips s.ob us) u (some (g,.box qs)),s.ng⟩:=fun r a x hX=>by
 obtain ⟨_,b,T,vs,e1,e2,e3,e4,e5,e6,e7⟩:=hX.ob u g _ h0
 obtain ⟨F',st,hX',hR,hl,hf⟩:=Zds cs (Flip.refl _) hX (g:=fun j=>vs.getD j undef) h fun j p hj=>by
  have hlt:j<vs.size:=by rw [← e3];exact (List.getElem?_eq_some_iff.1 hj).1
  have:vs[j]? = some (vs.getD j undef):=by simp [Array.getD,hlt]
  exact e5 j p _ hj this
 have hu:(flips s.ob us) u=some (g,.box cs):=by
  rcases hf u with e | ⟨g2,E2,k2,sh2,els2,e,_⟩
  ·rw [e,h0]
  ·rw [h0] at e;cases e
 refine ⟨{ x with F:=F' },rfl,hX'.defers,hX'.size,hX'.gr,hX'.gens,hX'.tm,fun t' g' o' ho=>?_,fun t1 t2 g1 g2 o1 o2 bb hne k1 k2 hb=>?_,hX'.flt,hX'.f0,hX'.fnew,hX'.rho,hX'.inv,hX'.keep⟩
 ·change (if t'=u then some (g,VObj.box qs) else flips s.ob us t')=some (g',o') at ho
  split at ho
  ·injection ho with ho
   injection ho with j1 j2
   subst j1 j2
   obtain ⟨j0,b2,T2,vs2,j1,j2,j3,j4,j5,j6,j7⟩:=hX'.ob u g _ hu
   refine ⟨j0,b,T,vs,e1,e2,by rw [hl,e3],fun p hp=>?_,fun j p v hp hv=>?_,e6,fun o hF=>?_⟩
   ·obtain ⟨j,hj⟩:=List.getElem?_of_mem hp
    exact PV.cell_of_pure (hR j p hj).1
   ·have:=(hR j p hp).2
    rw [Array.getD_eq_getD_getElem?,hv] at this
    exact this
   ·have jb:b2=b:=by
     change x.ρ g=_ at j1
     rw [e1] at j1
     injection j1 with j1
     injection j1 with j1
     injection j1 with j1
     exact j1.symm
    subst jb
    exact j7 o hF
  ·exact hX'.ob t' g' o' ho
 ·change (if t1=u then some (g,VObj.box qs) else flips s.ob us t1)=some (g1,o1) at k1
  change (if t2=u then some (g,VObj.box qs) else flips s.ob us t2)=some (g2,o2) at k2
  have f1:∃ o1',(flips s.ob us) t1=some (g1,o1'):=by
   split at k1
   ·rename_i e;subst e;injection k1 with k1;injection k1 with e3 e4;subst e3;exact ⟨_,hu⟩
   ·exact ⟨_,k1⟩
  have f2:∃ o2',(flips s.ob us) t2=some (g2,o2'):=by
   split at k2
   ·rename_i e;subst e;injection k2 with k2;injection k2 with e3 e4;subst e3;exact ⟨_,hu⟩
   ·exact ⟨_,k2⟩
  obtain ⟨o1',f1⟩:=f1
  obtain ⟨o2',f2⟩:=f2
  exact hX'.apart t1 t2 g1 g2 o1' o2' bb hne f1 f2 hb
theorem ZsK {s:FS} {u w j:Nat} {g:Gen} {cs:List PV} {E k:Nat} (hne:w≠u) (h0:s.ob u=some (g,.box cs)) (h:cs[j]? = some .nil) :
  Shift s ⟨s.tm,Zdk (Zdk s.ob u (some (g,.box (cs.set j (.row w (s.ng,0)))))) w (some ((s.ng,0),.row E k false [])),s.ng+1⟩:=fun r a x hX=>by
 have hnew:¬ x.G (s.ng,0):=fun hg=>by
  rcases hX.gens _ hg with e | ⟨_,e⟩
  ·exact absurd e (Nat.lt_irrefl _)
  ·exact e.elim
 let y:Ctx:=⟨fun g=>x.G g∨g=(s.ng,0),x.F,x.W,fun g=>if g=(s.ng,0) then .slice none 0 0 else x.ρ g⟩
 have st:Step x y:=⟨fun g hg=>⟨.inl hg,if_neg (fun (e:g=(s.ng,0))=>hnew (by rw [← e];exact hg))⟩,fun _ _ h=>h,fun _ _ _ _ h=>h⟩
 have hρ:y.ρ (s.ng,0) = .slice none 0 0:=if_pos rfl
 obtain ⟨hgu,hO⟩:=hX.ob u g _ h0
 have hO2:ObRep y r.W0.heap.size r.D g (.box cs):=hO.step hgu st fun b _=>⟨rfl,fun _ h=>h⟩
 have old:∀ t' g' o',(if t'=w then some ((s.ng,0),VObj.row E k false []) else if t'=u then some (g,VObj.box (cs.set j (.row w (s.ng,0)))) else s.ob t')=some (g',o')→(t'=w∧g'=(s.ng,0)∧o' = .row E k false [])∨(t'=u∧g'=g∧o' = .box (cs.set j (.row w (s.ng,0))))∨s.ob t'=some (g',o'):=fun t' g' o' ho=>by
  split at ho
  ·rename_i e
   injection ho with ho
   injection ho with e1 e2
   exact .inl ⟨e,e1.symm,e2.symm⟩
  ·split at ho
   ·rename_i e
    injection ho with ho
    injection ho with e1 e2
    exact .inr (.inl ⟨e,e1.symm,e2.symm⟩)
   ·exact .inr (.inr ho)
 refine ⟨y,rfl,hX.defers,hX.size,hX.gr,fun g hg=>.inl ?_,fun t'=>(hX.tm t').step st,fun t' g' o' ho=>?_,fun t1 t2 g1 g2 o1 o2 b hne' k1 k2 hb=>?_,hX.flt,hX.f0,hX.fnew,fun g hg=>⟨(st.G g (hX.rho g hg).1).1,(st.G g (hX.rho g hg).1).2.trans (hX.rho g hg).2⟩,hX.inv,hX.keep⟩
 ·rcases hg with hg | rfl
  ·rcases hX.gens g hg with e | ⟨_,e⟩
   ·show g.1<s.ng+1;omega
   ·exact e.elim
  ·exact Nat.lt_succ_self _
 ·rcases old t' g' o' ho with ⟨rfl,rfl,rfl⟩ | ⟨rfl,rfl,rfl⟩ | ho
  ·exact ⟨.inr rfl,by simp,by simp,[],by rw [hρ];exact World.ownsRow_nil _ _ _ _,fun m p v hp=>by simp at hp,fun b hb=>by rw [hρ] at hb;simp [blk] at hb⟩
  ·obtain ⟨b,T,vs,e1,e2,e3,e4,e5,e6,e7⟩:=hO2
   refine ⟨.inl hgu,b,T,vs,e1,e2,by rw [List.length_set];exact e3,fun p hp=>?_,fun i p v hp hv=>?_,e6,e7⟩
   ·rcases List.mem_or_eq_of_mem_set hp with hp | rfl
    ·exact e4 p hp
    ·rfl
   ·by_cases hi:j=i
    ·subst hi
     have hr:=e5 j _ v h hv
     have hlt:j<cs.length:=(List.getElem?_eq_some_iff.1 h).1
     rw [List.getElem?_set_self hlt] at hp
     injection hp with hp
     subst hp
     cases hr
     exact .row w (s.ng,0) none 0 0 (.inr rfl) hρ
    ·rw [List.getElem?_set_ne hi] at hp
     exact e5 i p v hp hv
  ·obtain ⟨h3,h4⟩:=hX.ob t' g' o' ho
   exact ⟨.inl h3,h4.step h3 st fun b _=>⟨rfl,fun _ h=>h⟩⟩
 ·have noB:∀ b,blk (y.ρ (s.ng,0))≠some b:=fun b hb=>by rw [hρ] at hb;simp [blk] at hb
  have tr:∀ t' g' o',((t'=w∧g'=(s.ng,0)∧o' = .row E k false [])∨(t'=u∧g'=g∧o' = .box (cs.set j (.row w (s.ng,0))))∨s.ob t'=some (g',o'))→g'=(s.ng,0)∨∃ o2,s.ob t'=some (g',o2):=fun t' g' o' h=>by
   rcases h with ⟨_,e,_⟩ | ⟨e1,e2,_⟩ | h
   ·exact .inl e
   ·subst e1 e2;exact .inr ⟨_,h0⟩
   ·exact .inr ⟨_,h⟩
  rcases tr _ _ _ (old t1 g1 o1 k1) with rfl | ⟨p1,q1⟩
  ·exact absurd hb (noB b)
  ·rcases tr _ _ _ (old t2 g2 o2 k2) with rfl | ⟨p2,q2⟩
   ·exact noB b
   ·rw [(st.G g1 (hX.ob t1 g1 p1 q1).1).2] at hb
    rw [(st.G g2 (hX.ob t2 g2 p2 q2).1).2]
    exact hX.apart t1 t2 g1 g2 p1 p2 b hne' q1 q2 hb
section
variable {tm:List (Nat×PV)} {ob:List (Nat×Option (Gen×VObj))} {ng:Nat}
theorem ZqZ (t:Nat) {p q:PV} {us:List (Nat×Option (Gen×VObj))} (h0:look tm t=p) (h:Zqj (ZO ob) p=some (q,us)):Shift (mkS tm ob ng) (mkS ((t,q)::tm) (us.reverse++ob) ng):=by
 have:=ZsI (s:=mkS tm ob ng) (t:=t) (q:=q) (us:=us) (by show Zqj (ZO ob) (look tm t)=_;rw [h0];exact h)
 have e:(⟨fun x=>if x=t then q else look tm x,flips (ZO ob) us,ng⟩:FS)=mkS ((t,q)::tm) (us.reverse++ob) ng:=by
  rw [Zfv]
  rfl
 rw [← e]
 exact this
theorem Zfx (u:Nat) {g:Gen} {cs qs:List PV} {us:List (Nat×Option (Gen×VObj))} (h0:ZO ob u=some (g,.box cs)) (h:ZfZ (ZO ob) cs=some (qs,us)):Shift (mkS tm ob ng) (mkS tm ((u,some (g,.box qs))::(us.reverse++ob)) ng):=by
 have:=ZsJ (s:=mkS tm ob ng) (u:=u) (g:=g) (cs:=cs) (qs:=qs) (us:=us) h0 h
 have e:(⟨look tm,Zdk (flips (ZO ob) us) u (some (g,.box qs)),ng⟩:FS)=mkS tm ((u,some (g,.box qs))::(us.reverse++ob)) ng:=by
  rw [Zfv,ZmA]
  rfl
 rw [← e]
 exact this
theorem ZcC (u w j E k:Nat) {g:Gen} {cs:List PV} (hne:(w == u)=false) (h0:ZO ob u=some (g,.box cs)) (h:cs[j]? = some .nil):Shift (mkS tm ob ng) (mkS tm ((w,some ((ng,0),.row E k false []))::(u,some (g,.box (cs.set j (.row w (ng,0)))))::ob) (ng+1)):=by
 have:=ZsK (s:=mkS tm ob ng) (u:=u) (w:=w) (j:=j) (g:=g) (cs:=cs) (E:=E) (k:=k) (by simpa using hne) h0 h
 have e:(⟨look tm,Zdk (Zdk (ZO ob) u (some (g,.box (cs.set j (.row w (ng,0)))))) w (some ((ng,0),.row E k false [])),ng+1⟩:FS)=mkS tm ((w,some ((ng,0),.row E k false []))::(u,some (g,.box (cs.set j (.row w (ng,0)))))::ob) (ng+1):=by
  rw [ZmA,ZmA]
  rfl
 rw [← e]
 exact this
end
end VL
end Go.Proofs.YtjoneoobolnnbaaGreatDoor
namespace Go.Proofs.YtjoneoobolnnbaaGreatDoor
namespace VL
open Go.RowKit
def Zya (σ:List (Gen×Gen)):PV→Option PV
 | .fn f ps=>(Zvl σ ps).map (.fn f)
 | p=>ren σ p
section
variable {σ:List (Gen×Gen)} {x:Ctx}
theorem Zv9 {p q:PV} {v:Value} (h:Zya σ p=some q) (hr:Rep x q v):Rep (Zof σ x) p v:=by
 cases p with
 | fn f ps=>
   simp only [Zya,Option.map_eq_some_iff] at h
   obtain ⟨qs,h1,rfl⟩:=h
   obtain ⟨h2,h3⟩:=ZjM h1
   cases hr with
   | fn _ _ cs hl hh=>
     refine .fn f ps cs (h2.trans hl) fun i p v hp hv=>?_
     obtain ⟨q,hq,hpq⟩:=h3 i p hp
     exact Zly hpq (hh i q v hq hv)
 | _=>exact Zty h hr
end
def ZxQ (σ:List (Gen×Gen)) (tm:List (Nat×PV)):List (Nat×PV)→Prop
 | []=>True
 | (k,v)::r=>Zya σ v=some (look tm k)∧ZxQ σ tm r
theorem Zw (σ:List (Gen×Gen)) {tm tm':List (Nat×PV)} {ob ob':List (Nat×Option (Gen×VObj))} {ng ng':Nat} (h1:ZxQ σ tm tm') (h2:ZqE σ ob ob') (h3:(decide (0<ng')&&σ.all fun q=>decide (q.1.1<ng'))=true):Shift (mkS tm ob ng) (mkS tm' ob' ng'):=fun r a x h=>by
 simp only [Bool.and_eq_true,decide_eq_true_eq,List.all_eq_true] at h3
 have k1:∀ (l:List (Nat×PV)),ZxQ σ tm l→∀ t,look l t = .un∨Zya σ (look l t)=some (look tm t):=fun l=>by
  induction l with
  | nil=>intro _ t;exact .inl rfl
  | cons q l ih=>
    obtain ⟨k,v⟩:=q
    intro hl t
    show (if t=k then v else look l t)=_∨Zya σ (if t=k then v else look l t)=_
    split
    ·rename_i e;subst e;exact .inr hl.1
    ·exact ih hl.2 t
 have k2:∀ (l:List (Nat×Option (Gen×VObj))),ZqE σ ob l→∀ t,ZO l t=none∨(ZqD σ (ZO l t)=ZO ob t∧(ZqD σ (ZO l t)).isSome=true):=fun l=>by
  induction l with
  | nil=>intro _ t;exact .inl rfl
  | cons q l ih=>
    obtain ⟨k,v⟩:=q
    intro hl t
    show (if t=k then v else ZO l t)=_∨(ZqD σ (if t=k then v else ZO l t)=_∧(ZqD σ (if t=k then v else ZO l t)).isSome=true)
    split
    ·rename_i e;subst e;exact .inr hl.1
    ·exact ih hl.2 t
 have k3:∀ t g' o',ZO ob' t=some (g',o')→∃ g o,ZO ob t=some (g,o)∧ZqD σ (some (g',o'))=some (g,o):=fun t g' o' ho=>by
  rcases k2 ob' h2 t with e | ⟨e1,e2⟩
  ·rw [e] at ho;cases ho
  ·rw [ho] at e1 e2
   obtain ⟨⟨g,o⟩,hw⟩:=Option.isSome_iff_exists.1 e2
   exact ⟨g,o,by rw [← e1,hw],hw⟩
 refine ⟨Zof σ x,rfl,h.defers,h.size,h.gr,fun g' hg'=>.inl ?_,fun t=>?_,fun t g' o' ho=>?_,fun t t' g g' o o' b hne e1 e2 hb=>?_,h.flt,h.f0,h.fnew,fun g hg=>?_,h.inv,h.keep⟩
 ·obtain ⟨g,hg,_⟩:=hg'
  unfold toG at hg
  show g'.1<ng'
  split at hg
  ·rename_i e;omega
  ·simp only [Option.map_eq_some_iff] at hg
   obtain ⟨q,hq,_⟩:=hg
   have hm:=List.mem_of_find?_eq_some hq
   have he:=List.find?_some hq
   simp only [beq_iff_eq] at he
   rw [← he]
   exact h3.2 q hm
 ·rcases k1 tm' h1 t with e | e
  ·show Rep _ (look tm' t) _
   rw [e];exact .un _
  ·exact Zv9 e (h.tm t)
 ·obtain ⟨g,o,e1,e2⟩:=k3 t g' o' ho
  exact (Zir e2 (h.ob t g o e1)).2
 ·obtain ⟨g1,o1,q1,q2⟩:=k3 t g o e1
  obtain ⟨g2,o2,q3,q4⟩:=k3 t' g' o' e2
  have r1:=(Zir q2 (h.ob t g1 o1 q1)).1
  have r2:=(Zir q4 (h.ob t' g2 o2 q3)).1
  simp only [Zof,r1,Option.getD_some] at hb
  simp only [Zof,r2,Option.getD_some]
  exact h.apart t t' g1 g2 o1 o2 b hne q1 q3 hb
 ·have h0:=h.inv.2 g hg
  have:toG σ g=some g:=by unfold toG;rw [if_pos h0]
  exact ⟨⟨g,this,(h.rho g hg).1⟩,by simp only [Zof,this,Option.getD_some];exact (h.rho g hg).2⟩
end VL
end Go.Proofs.YtjoneoobolnnbaaGreatDoor
namespace Go.Proofs.YtjoneoobolnnbaaGreatDoor
namespace VL
open Go.RowKit
inductive OC where
 | pv (p:PV)
 | row (E k:Nat) (sh:Bool) (els:List (List PV))
def PV.flat:PV→Bool
 | .bool _ | .int _ _ | .str _ | .sl _ | .nil=>true
 | _=>false
def OC.val (t:Nat) (g:Gen):OC→PV
 | .pv p=>p
 | .row _ _ _ _=>.row t g
def Zbn (κ:Nat→Nat) (ν:Nat→Gen):Nat→List OC→List PV
 | _,[]=>[]
 | c,q::r=>q.val (κ c) (ν c)::Zbn κ ν (c+1) r
def ZfB (κ:Nat→Nat) (ν:Nat→Gen):Nat→List OC→List (Nat×Option (Gen×VObj))
 | _,[]=>[]
 | c,.pv _::r=>ZfB κ ν (c+1) r
 | c,.row E k sh els::r=>(κ c,some (ν c,.row E k sh els))::ZfB κ ν (c+1) r
def Zld (κ:Nat→Nat):Nat→List OC→List (Nat×Option (Gen×VObj))
 | _,[]=>[]
 | c,.pv _::r=>Zld κ (c+1) r
 | c,.row _ _ _ _::r=>(κ c,none)::Zld κ (c+1) r
theorem ZbR (κ:Nat→Nat) (ν:Nat→Gen):∀ (l:List OC) (c0 c:Nat),(Zbn κ ν c0 l)[c]? = (l[c]?).map fun q=>q.val (κ (c0+c)) (ν (c0+c))
 | [],c0,c=>by simp [Zbn]
 | q::r,c0,0=>by simp [Zbn]
 | q::r,c0,c+1=>by
   simp only [Zbn,List.getElem?_cons_succ]
   rw [ZbR κ ν r (c0+1) c]
   have:c0+1+c=c0+(c+1):=by omega
   rw [this]
theorem Zji (κ:Nat→Nat) (ν:Nat→Gen):∀ (l:List OC) (c0:Nat),(Zbn κ ν c0 l).length=l.length
 | [],_=>rfl
 | q::r,c0=>by simp [Zbn,Zji κ ν r]
theorem ZkH {κ:Nat→Nat} {ν:Nat→Gen} {t:Nat} {v:Option (Gen×VObj)}:∀ (l:List OC) (c0:Nat),(t,v) ∈ ZfB κ ν c0 l→∃ c E k sh els,l[c]? = some (.row E k sh els)∧t=κ (c0+c)∧v=some (ν (c0+c),.row E k sh els)
 | [],_,h=>by cases h
 | .pv p::r,c0,h=>by
   obtain ⟨c,E,k,sh,els,h1,h2,h3⟩:=ZkH r (c0+1) h
   have:c0+1+c=c0+(c+1):=by omega
   rw [this] at h2 h3
   exact ⟨c+1,E,k,sh,els,by simpa using h1,h2,h3⟩
 | .row E k sh els::r,c0,h=>by
   rcases List.mem_cons.1 h with h | h
   ·injection h with h1 h2
    exact ⟨0,E,k,sh,els,rfl,h1,h2⟩
   ·obtain ⟨c,E,k,sh,els,h1,h2,h3⟩:=ZkH r (c0+1) h
    have:c0+1+c=c0+(c+1):=by omega
    rw [this] at h2 h3
    exact ⟨c+1,E,k,sh,els,by simpa using h1,h2,h3⟩
theorem ZkI {κ:Nat→Nat} {t:Nat} {v:Option (Gen×VObj)}:∀ (l:List OC) (c0:Nat),(t,v) ∈ Zld κ c0 l→v=none
 | [],_,h=>by cases h
 | .pv p::r,c0,h=>ZkI r (c0+1) h
 | .row E k sh els::r,c0,h=>by
   rcases List.mem_cons.1 h with h | h
   ·injection h with h1 h2
   ·exact ZkI r (c0+1) h
theorem ZnP {κ:Nat→Nat}:∀ (l:List OC) (c0 c:Nat) {E k:Nat} {sh:Bool} {els:List (List PV)},l[c]? = some (.row E k sh els)→(κ (c0+c),none) ∈ Zld κ c0 l
 | [],_,c,_,_,_,_,h=>by simp at h
 | q::r,c0,0,E,k,sh,els,h=>by
   simp at h
   subst h
   exact List.mem_cons_self ..
 | q::r,c0,c+1,E,k,sh,els,h=>by
   have h':r[c]? = some (.row E k sh els):=by simpa using h
   have:=ZnP (κ:=κ) r (c0+1) c h'
   have e:c0+1+c=c0+(c+1):=by omega
   rw [e] at this
   cases q with
   | pv p=>exact this
   | row _ _ _ _=>exact List.mem_cons_of_mem _ this
theorem ZrZ:∀ (us:List (Nat×Option (Gen×VObj))) (f:Nat→Option (Gen×VObj)) (t:Nat),((flips f us) t=f t∧∀ v,(t,v) ∉ us)∨∃ v,(t,v) ∈ us∧(flips f us) t=v
 | [],f,t=>.inl ⟨rfl,fun v h=>by cases h⟩
 | (k,w)::us,f,t=>by
  rcases ZrZ us (Zdk f k w) t with ⟨h1,h2⟩ | ⟨v,h1,h2⟩
  ·by_cases e:t=k
   ·refine .inr ⟨w,by rw [e];exact List.mem_cons_self ..,?_⟩
    show (flips (Zdk f k w) us) t=w
    rw [h1]
    unfold Zdk
    rw [if_pos e]
   ·refine .inl ⟨?_,fun v hv=>?_⟩
    ·show (flips (Zdk f k w) us) t=f t
     rw [h1]
     unfold Zdk
     rw [if_neg e]
    ·rcases List.mem_cons.1 hv with h | h
     ·injection h with h _
      exact e h
     ·exact h2 v h
  ·exact .inr ⟨v,List.mem_cons_of_mem _ h1,h2⟩
theorem Rep.flat_mono {x y:Ctx} {p:PV} {v:Value} (h:Rep x p v) (hp:p.flat=true) (hF:∀ b o,x.F b o→y.F b o) (hW:∀ b o v,x.F b o→x.W.cell? ⟨b,o,none⟩=some v→y.W.cell? ⟨b,o,none⟩=some v):Rep y p v:=by
 cases p with
 | nil=>cases h;exact .nil
 | bool b=>exact h.pure_mono rfl hF hW
 | int k n=>exact h.pure_mono rfl hF hW
 | str s=>exact h.pure_mono rfl hF hW
 | sl els=>exact h.pure_mono rfl hF hW
 | _=>simp [PV.flat] at hp
theorem PV.cell_of_flat {p:PV} (h:p.flat=true):p.cell=true:=by cases p<;>simp_all [PV.flat,PV.cell]
structure ORep (x:Ctx) (B:Nat) (D:Nat→Prop) (g:Gen) (κ:Nat→Nat) (ν:Nat→Gen) (oc:List OC):Prop where
 box:x.G g∧ObRep x B D g (.box (Zbn κ ν 0 oc))
 row:∀ c E k sh els,oc[c]? = some (OC.row E k sh els)→x.G (ν c)∧ObRep x B D (ν c) (.row E k sh els)
 apB:∀ c E k sh els b,oc[c]? = some (OC.row E k sh els)→blk (x.ρ g)=some b→blk (x.ρ (ν c))≠some b
 apR:∀ c c' E k sh els E' k' sh' els' b,c≠c'→oc[c]? = some (OC.row E k sh els)→oc[c']? = some (OC.row E' k' sh' els')→blk (x.ρ (ν c))=some b→blk (x.ρ (ν c'))≠some b
 flat:∀ (c:Nat) (p:PV),oc[c]? = some (OC.pv p)→p.flat=true
def Dp (x:Ctx) (g:Gen) (ν:Nat→Gen) (oc:List OC) (b:Nat):Prop:=blk (x.ρ g)=some b∨∃ c E k sh els,oc[c]? = some (OC.row E k sh els)∧blk (x.ρ (ν c))=some b
def κ0 (c:Nat):Nat:=1000+c
def ν0 (c:Nat):Gen:=(0,1000+c)
structure PreP (x:Ctx) (args:List PV) (j:Nat) (oc:List OC) (vs:Array Value):Prop where
 size:args.length=vs.size
 rep:∀ (i:Nat) (p:PV) (v:Value),args[i]? = some p→vs[i]? = some v→Rep x p v
 ob:ORep x x.W.heap.size (Dp x (0,j) ν0 oc) (0,j) κ0 ν0 oc
 gen:∀ g,x.G g→g.1=0
 flt:∀ b o,x.F b o→b<x.W.heap.size
structure PostP (x y:Ctx) (j:Nat) (oc:List OC) (r:PV) (oc':List OC) (v:Value):Prop where
 step:Step x y
 gr:Gr (Dp x (0,j) ν0 oc) x.W y.W
 fnew:∀ b o,y.F b o→x.F b o∨x.W.heap.size≤b∨Dp x (0,j) ν0 oc b
 flt:∀ b o,y.F b o→b<y.W.heap.size
 rep:Rep y r v
 ob:∃ κ ν,ORep y x.W.heap.size (Dp x (0,j) ν0 oc) (0,j) κ ν oc'
structure ContractP (P:Program) [WInv P] (f:FuncId) (args:List PV) (j:Nat) (oc:List OC) (r:PV) (oc':List OC):Prop where
 isGo:VL.isGo P f=true
 dry:r.dry=true
 calls:∀ (x:Ctx) (vs:Array Value),PreP x args j oc vs→(∀ W',Gr (Dp x (0,j) ν0 oc) x.W W'→WInv.I P W')→Calls P f vs x.W fun e W'=>∃ y v,y.W=W'∧e = .returned v∧PostP x y j oc r oc' v
theorem Zy1 {y:Ctx} {s:FS} {a:Act} {N:Nat} (hs:a.tmps.size=N) {d:Option Tmp} (hd:∀ k,d=some k→k<N) {p:PV} {v:Value} {us:List (Nat×Option (Gen×VObj))} (hp:Rep y p v) (ho:∀ t,Rep y (s.tm t) (a.tmps.getD t undef)) (t':Nat):Rep y ((s.app d ⟨p,us⟩).tm t') ((a.put d v).tmps.getD t' undef):=by
 rw [ZoU hs hd]
 cases d with
 | none=>exact ho t'
 | some q=>
   show Rep y (if t'=q then p else s.tm t') (if t'=q then v else a.tmps.getD t' undef)
   split
   ·exact hp
   ·exact ho t'
section
variable {P:Program} [WInv P] {r:Run} {ops:Array Oper} {o:Oper} {i:Nat} {s s':FS}
theorem Zr0 {f:FuncId} {es:Array Operand} {ts:Array TypeId} {pre post pre' post':List PV} {t:Nat} {g:Gen} {κ:Nat→Nat} {ν:Nat→Gen} {oc oc':List OC} {res:PV} (ho:o.op = .call { callee:=.value (.func f),args:=es,argTypes:=ts })
  (he:es.toList.map (ev s)=pre ++ .ptr t g 0::post) (hob:s.ob t=some (g,.box (Zbn κ ν 0 oc))) (hrow:∀ c E k sh els,oc[c]? = some (OC.row E k sh els)→s.ob (κ c)=some (ν c,.row E k sh els)) (hfl:∀ (c:Nat) (p:PV),oc[c]? = some (OC.pv p)→p.flat=true)
  (hk1:∀ c E k sh els,oc[c]? = some (OC.row E k sh els)→κ c≠t) (hk2:∀ c c' E k sh els E' k' sh' els',c≠c'→oc[c]? = some (OC.row E k sh els)→oc[c']? = some (OC.row E' k' sh' els')→κ c≠κ c')
  (h1:Zf6 s.ob pre=some (pre',[])) (h3:Zf6 s.ob post=some (post',[])) (hn:pre.length<1000) (hc:ContractP P f (pre' ++ .ptr pre.length (0,pre.length) 0::post') pre.length oc res oc') (hI:r.I=WInv.I P) :
  Zsi P r o i s ⟨res,Zld κ 0 oc++(t,some (g,.box (Zbn (fun c=>1000+100 * t+c) (fun c=>(s.ng,i+1000000 * (c+1))) 0 oc')))::ZfB (fun c=>1000+100 * t+c) (fun c=>(s.ng,i+1000000 * (c+1))) 0 oc'⟩:=by
 intro S a x Q hX hiM hi hi2 hd
 have hrep:∀ (j:Nat) (p:PV),(pre ++ .ptr t g 0::post)[j]? = some p→Rep x p ((es.map a.eval).getD j undef):=fun j p hp=>by
  rw [← he,List.getElem?_map] at hp
  cases he:es.toList[j]? with
  | none=>rw [he] at hp;simp at hp
  | some e=>
    rw [he] at hp
    simp only [Option.map_some,Option.some.injEq] at hp
    subst hp
    have hea:es[j]? = some e:=by simpa using he
    have:(es.map a.eval).getD j undef=a.eval e:=by simp [hea]
    rw [this]
    exact Zaz hX e
 obtain ⟨F1,st1,hX1,hR1,_⟩:=ZcR _ (Flip.refl s.ob) hX (g:=fun j=>(es.map a.eval).getD j undef) h1 (fun j p hp=>hrep j p (by
  rw [List.getElem?_append_left (List.getElem?_eq_some_iff.1 hp).1];exact hp))
 change RstX r S s a { x with F:=F1 } at hX1
 obtain ⟨F3,st3,hX3,hR3,_⟩:=ZcR post (Flip.refl s.ob) hX1 (g:=fun j=>(es.map a.eval).getD (pre.length+1+j) undef) h3 (fun j p hp=>((hrep (pre.length+1+j) p (by
  rw [List.getElem?_append_right (by omega)]
  have:pre.length+1+j - pre.length=j+1:=by omega
  rw [this,List.getElem?_cons_succ]
  exact hp)).step st1))
 change RstX r S s a { x with F:=F3 } at hX3
 obtain ⟨hGg,b,T,vs,hρ,hh,hcl,hcc,hcr,hBb,hnF⟩:=hX3.ob t g _ hob
 have hblt:b<x.W.heap.size:=(Array.getElem?_eq_some_iff.1 hh).1
 change x.ρ g=_ at hρ
 have hF13:∀ b o,F1 b o→F3 b o:=fun b o h=>st3.F b o h
 have hpl:pre'.length=pre.length:=ZfQ _ h1
 let z:Ctx:=⟨fun g'=>g'=(0,pre.length)∨∃ c E k sh els,oc[c]? = some (OC.row E k sh els)∧g'=(0,1000+c),F3,x.W,fun g'=>if g'=(0,pre.length) then x.ρ g else x.ρ (ν (g'.2 - 1000))⟩
 have zn:z.ρ (0,pre.length)=x.ρ g:=if_pos rfl
 have zr:∀ c,z.ρ (ν0 c)=x.ρ (ν c):=fun c=>by
  show (if ((0,1000+c):Gen)=(0,pre.length) then x.ρ g else x.ρ (ν (1000+c - 1000)))=_
  rw [if_neg (fun e=>by injection e with _ e;omega)]
  have:1000+c - 1000=c:=by omega
  rw [this]
 have hD:∀ b2,Dp z (0,pre.length) ν0 oc b2↔(blk (x.ρ g)=some b2∨∃ c E k sh els,oc[c]? = some (OC.row E k sh els)∧blk (x.ρ (ν c))=some b2):=fun b2=>by
  unfold Dp
  rw [zn]
  constructor
  ·rintro (h | ⟨c,E,k,sh,els,h,h'⟩)
   ·exact .inl h
   ·rw [zr] at h'
    exact .inr ⟨c,E,k,sh,els,h,h'⟩
  ·rintro (h | ⟨c,E,k,sh,els,h,h'⟩)
   ·exact .inl h
   ·exact .inr ⟨c,E,k,sh,els,h,by rw [zr];exact h'⟩
 have rowR:∀ c E k sh els,oc[c]? = some (OC.row E k sh els)→x.G (ν c)∧ObRep { x with F:=F3 } r.W0.heap.size r.D (ν c) (.row E k sh els):=fun c E k sh els h=>hX3.ob (κ c) (ν c) _ (hrow c E k sh els h)
 have hDlt:∀ b2,Dp z (0,pre.length) ν0 oc b2→b2<x.W.heap.size∧(r.W0.heap.size≤b2∨r.D b2):=fun b2 h=>by
  rcases (hD b2).1 h with h | ⟨c,E,k,sh,els,h,h'⟩
  ·exact (hX3.ob t g _ hob).2.lt b2 h
  ·exact (rowR c E k sh els h).2.lt b2 h'
 have hpre:PreP z (pre' ++ .ptr pre.length (0,pre.length) 0::post') pre.length oc (es.map a.eval):=by
  refine ⟨?_,fun j p v hp hv=>?_,⟨⟨.inl rfl,b,T,vs,zn.trans hρ,hh,?_,fun p hp=>?_,fun j p v hp hv=>?_,.inr ((hD b).2 (.inl (by rw [hρ];rfl))),hnF⟩,fun c E k sh els h=>?_,fun c E k sh els b2 h hb hb2=>?_,fun c c' E k sh els E' k' sh' els' b2 hne h h' hb hb2=>?_,hfl⟩,fun g' hg'=>?_,hX3.flt⟩
  ·have hl:=congrArg List.length he
   simp at hl
   simp [hpl,ZfQ _ h3,hl]
  ·rw [List.getElem?_append,hpl] at hp
   split at hp
   ·obtain ⟨q1,q2⟩:=hR1 j p hp
    rw [Array.getD_eq_getD_getElem?,hv] at q2
    exact q2.clean_mono q1 hF13 (fun _ _ _ _ h=>h)
   ·rename_i hj
    cases hk:j - pre.length with
    | zero=>
      rw [hk] at hp
      simp only [List.getElem?_cons_zero,Option.some.injEq] at hp
      subst hp
      obtain rfl:j=pre.length:=by omega
      have:=hrep pre.length (.ptr t g 0) (by rw [List.getElem?_append_right (Nat.le_refl _),Nat.sub_self];rfl)
      rw [Array.getD_eq_getD_getElem?,hv] at this
      simp only [Option.getD_some] at this
      cases this with
      | ptr _ _ _ b2 _ hb2=>exact .ptr _ _ _ b2 (.inl rfl) (by rw [zn];exact hb2)
    | succ k=>
      rw [hk,List.getElem?_cons_succ] at hp
      obtain ⟨q1,q2⟩:=hR3 k p hp
      have:pre.length+1+k=j:=by omega
      rw [this,Array.getD_eq_getD_getElem?,hv] at q2
      exact q2.clean_mono q1 (fun _ _ h=>h) (fun _ _ _ _ h=>h)
  ·rw [Zji] at hcl ⊢
   exact hcl
  ·obtain ⟨j,hj⟩:=List.getElem?_of_mem hp
   rw [ZbR,Option.map_eq_some_iff] at hj
   obtain ⟨q,hq,rfl⟩:=hj
   cases q with
   | pv p=>exact PV.cell_of_flat (hfl j p hq)
   | row _ _ _ _=>rfl
  ·rw [ZbR,Option.map_eq_some_iff] at hp
   obtain ⟨q,hq,rfl⟩:=hp
   have:=hcr j (q.val (κ (0+j)) (ν (0+j))) v (by rw [ZbR,hq];rfl) hv
   rw [Nat.zero_add] at this ⊢
   cases q with
   | pv p=>exact Rep.flat_mono this (hfl j p hq) (fun _ _ h=>h) (fun _ _ _ _ h=>h)
   | row E k sh els=>
     cases this with
     | row _ _ A n c hG hvv=>exact .row _ _ A n c (.inr ⟨j,E,k,sh,els,hq,rfl⟩) ((zr j).trans hvv)
  ·obtain ⟨_,q1,q2,vs2,q3,q4,q5⟩:=rowR c E k sh els h
   refine ⟨.inr ⟨c,E,k,sh,els,h,rfl⟩,q1,q2,vs2,by rw [zr];exact q3,fun m p v hp hv=>?_,fun b2 hb2=>?_⟩
   ·obtain ⟨e,he,hpe⟩:=List.mem_flatten.1 (List.mem_of_getElem? hp)
    exact (q4 m p v hp hv).pure_mono (q2 e he p hpe) (fun _ _ h=>h) (fun _ _ _ _ h=>h)
   ·rw [zr] at hb2
    exact ⟨.inr ((hD b2).2 (.inr ⟨c,E,k,sh,els,h,hb2⟩)),(q5 b2 hb2).2⟩
  ·rw [zn] at hb
   rw [zr] at hb2
   exact hX3.apart t (κ c) g (ν c) _ _ b2 (fun e=>hk1 c E k sh els h e.symm) hob (hrow c E k sh els h) hb hb2
  ·rw [zr] at hb hb2
   exact hX3.apart (κ c) (κ c') (ν c) (ν c') _ _ b2 (hk2 c c' E k sh els E' k' sh' els' hne h h') (hrow c E k sh els h) (hrow c' E' k' sh' els' h') hb hb2
  ·rcases hg' with rfl | ⟨c,E,k,sh,els,_,rfl⟩<;>rfl
 have hcalls:=hc.calls z _ hpre fun W' hW=>by
  rw [← hI]
  exact hX.inv.1 W' (hX.gr.trans' hW.os hW.tape hW.output hW.size fun b' hb' hD'=>hW.block b' (Nat.lt_of_lt_of_le hb' hX.gr.size) fun hDb=>by
   rcases (hDlt b' hDb).2 with h | h
   ·omega
   ·exact hD' h)
 unfold Oper.wp
 rw [Zfr ho hc.isGo,Oper.upon_enter]
 refine hcalls.mono ?_
 rintro e W' ⟨y,v,rfl,rfl,hpost⟩
 obtain ⟨κ2,ν2,hO⟩:=hpost.ob
 let nm:Nat→Gen:=fun c=>(s.ng,i+1000000 * (c+1))
 let y':Ctx:=⟨fun g'=>x.G g'∨∃ c E k sh els,oc'[c]? = some (OC.row E k sh els)∧g'=nm c,y.F,y.W,fun g'=>if g'.1=s.ng∧g'.2 % 1000000=i∧1000000≤g'.2 then y.ρ (ν2 (g'.2 / 1000000 - 1)) else x.ρ g'⟩
 have yn:∀ c,y'.ρ (nm c)=y.ρ (ν2 c):=fun c=>by
  show (if s.ng=s.ng∧(i+1000000 * (c+1)) % 1000000=i∧1000000≤i+1000000 * (c+1) then y.ρ (ν2 ((i+1000000 * (c+1)) / 1000000 - 1)) else _)=_
  rw [if_pos ⟨rfl,by omega,by omega⟩]
  have:(i+1000000 * (c+1)) / 1000000 - 1=c:=by omega
  rw [this]
 have old:∀ g',x.G g'→y'.ρ g'=x.ρ g':=fun g' hg'=>if_neg fun ⟨e1,e2,e3⟩=>by
  rcases hX.gens g' hg' with e | ⟨_,e⟩
  ·omega
  ·refine hi (hi2 (g'.2 / 1000000 - 1) ?_)
   have:i+1000000 * (g'.2 / 1000000 - 1+1)=g'.2:=by omega
   rw [this]
   exact e
 have k:Step { x with F:=F3 } y':=⟨fun g' hg'=>⟨.inl hg',old g' hg'⟩,fun b o hb=>hpost.step.F b o hb,fun b o v hb hv=>hpost.step.W b o v hb hv⟩
 have notD:∀ t2 g2 o2 b2,t2≠t→(∀ c E k sh els,oc[c]? = some (OC.row E k sh els)→κ c≠t2)→s.ob t2=some (g2,o2)→blk (x.ρ g2)=some b2→¬ Dp z (0,pre.length) ν0 oc b2:=fun t2 g2 o2 b2 n1 n2 h hb hDb=>by
  rcases (hD b2).1 hDb with h' | ⟨c,E,k,sh,els,h',h''⟩
  ·exact hX3.apart t2 t g2 g o2 _ b2 n1 h hob hb h'
  ·exact hX3.apart t2 (κ c) g2 (ν c) o2 _ b2 (fun e=>n2 c E k sh els h' e.symm) h (hrow c E k sh els h') hb h''
 have conv:∀ b2,(x.W.heap.size≤b2∨Dp z (0,pre.length) ν0 oc b2)→(r.W0.heap.size≤b2∨r.D b2):=fun b2 h=>h.elim (fun h=>.inl (Nat.le_trans hX.gr.size h)) fun h=>(hDlt b2 h).2
 have oldOb:∀ t2 g2 o2,t2≠t→(∀ c E k sh els,oc[c]? = some (OC.row E k sh els)→κ c≠t2)→s.ob t2=some (g2,o2)→ObRep y' r.W0.heap.size r.D g2 o2:=fun t2 g2 o2 n1 n2 h=>by
  obtain ⟨q1,q2⟩:=hX3.ob t2 g2 o2 h
  refine q2.step q1 k fun b2 hb2=>?_
  have hlt:=(q2.lt b2 hb2).1
  have hnd:=notD t2 g2 o2 b2 n1 n2 h hb2
  refine ⟨hpost.gr.block b2 hlt hnd,fun o3 ho3=>?_⟩
  rcases hpost.fnew b2 o3 ho3 with h | h | h
  ·exact h
  ·exact absurd hlt (Nat.not_lt.2 h)
  ·exact absurd h hnd
 have newRow:∀ c E k sh els,oc'[c]? = some (OC.row E k sh els)→ObRep y' r.W0.heap.size r.D (nm c) (.row E k sh els):=fun c E k sh els h=>by
  obtain ⟨_,q1,q2,vs2,q3,q4,q5⟩:=hO.row c E k sh els h
  refine ⟨q1,q2,vs2,by rw [yn];exact q3,fun m p v hp hv=>?_,fun b2 hb2=>?_⟩
  ·obtain ⟨e,he,hpe⟩:=List.mem_flatten.1 (List.mem_of_getElem? hp)
   exact (q4 m p v hp hv).pure_mono (q2 e he p hpe) (fun _ _ h=>h) (fun _ _ _ _ h=>h)
  ·rw [yn] at hb2
   exact ⟨conv b2 (q5 b2 hb2).1,(q5 b2 hb2).2⟩
 have hρy:y.ρ (0,pre.length)=x.ρ g:=((hpost.step.G (0,pre.length) (.inl rfl)).2).trans zn
 have newBox:ObRep y' r.W0.heap.size r.D g (.box (Zbn (fun c=>1000+100 * t+c) nm 0 oc')):=by
  obtain ⟨_,b2,T2,vs2,q1,q2,q3,q4,q5,q6,q7⟩:=hO.box
  have hb2:b=b2:=by
   rw [hρy,hρ] at q1
   injection q1 with q1
   injection q1 with q1
   injection q1
  subst hb2
  refine ⟨b,T2,vs2,(old g hGg).trans hρ,q2,?_,fun p hp=>?_,fun j p v hp hv=>?_,hBb,q7⟩
  ·rw [Zji] at q3 ⊢
   exact q3
  ·obtain ⟨j,hj⟩:=List.getElem?_of_mem hp
   rw [ZbR,Option.map_eq_some_iff] at hj
   obtain ⟨q,hq,rfl⟩:=hj
   cases q with
   | pv p=>exact PV.cell_of_flat (hO.flat j p hq)
   | row _ _ _ _=>rfl
  ·rw [ZbR,Option.map_eq_some_iff] at hp
   obtain ⟨q,hq,rfl⟩:=hp
   have:=q5 j (q.val (κ2 (0+j)) (ν2 (0+j))) v (by rw [ZbR,hq];rfl) hv
   rw [Nat.zero_add] at this ⊢
   cases q with
   | pv p=>exact Rep.flat_mono this (hO.flat j p hq) (fun _ _ h=>h) (fun _ _ _ _ h=>h)
   | row E k sh els=>
     cases this with
     | row _ _ A n c hG hvv=>exact .row _ _ A n c (.inr ⟨j,E,k,sh,els,hq,rfl⟩) ((yn j).trans hvv)
 have cases3:∀ t2 g2 o2,(flips s.ob (Zld κ 0 oc++(t,some (g,.box (Zbn (fun c=>1000+100 * t+c) nm 0 oc')))::ZfB (fun c=>1000+100 * t+c) nm 0 oc')) t2=some (g2,o2)→
   (t2≠t∧(∀ c E k sh els,oc[c]? = some (OC.row E k sh els)→κ c≠t2)∧s.ob t2=some (g2,o2))∨(t2=t∧g2=g∧o2 = .box (Zbn (fun c=>1000+100 * t+c) nm 0 oc'))∨∃ c E k sh els,oc'[c]? = some (OC.row E k sh els)∧t2=1000+100 * t+c∧g2=nm c∧o2 = .row E k sh els:=fun t2 g2 o2 h=>by
  rcases ZrZ (Zld κ 0 oc++(t,some (g,.box (Zbn (fun c=>1000+100 * t+c) nm 0 oc')))::ZfB (fun c=>1000+100 * t+c) nm 0 oc') s.ob t2 with ⟨q1,q2⟩ | ⟨w,q1,q2⟩
  ·rw [q1] at h
   refine .inl ⟨fun e=>q2 (some (g,.box (Zbn (fun c=>1000+100 * t+c) nm 0 oc'))) (by rw [e];exact List.mem_append_right _ (List.mem_cons_self ..)),fun c E k sh els hc e=>q2 none ?_,h⟩
   rw [← e]
   have:=ZnP (κ:=κ) oc 0 c hc
   rw [Nat.zero_add] at this
   exact List.mem_append_left _ this
  ·rw [q2] at h
   subst h
   rcases List.mem_append.1 q1 with h | h
   ·exact absurd (ZkI oc 0 h) (by simp)
   ·rcases List.mem_cons.1 h with h | h
    ·injection h with e1 e2
     injection e2 with e2
     injection e2 with e2 e3
     exact .inr (.inl ⟨e1,e2,e3⟩)
    ·obtain ⟨c,E,k,sh,els,e1,e2,e3⟩:=ZkH oc' 0 h
     rw [Nat.zero_add] at e2 e3
     injection e3 with e3
     injection e3 with e3 e4
     exact .inr (.inr ⟨c,E,k,sh,els,e1,e2,e3,e4⟩)
 have oldD:∀ t2 g2 o2 b2,t2≠t→(∀ c E k sh els,oc[c]? = some (OC.row E k sh els)→κ c≠t2)→s.ob t2=some (g2,o2)→blk (y'.ρ g2)=some b2→b2<x.W.heap.size∧¬ Dp z (0,pre.length) ν0 oc b2:=fun t2 g2 o2 b2 n1 n2 h hb=>by
  obtain ⟨q1,q2⟩:=hX3.ob t2 g2 o2 h
  rw [old g2 q1] at hb
  exact ⟨(q2.lt b2 hb).1,notD t2 g2 o2 b2 n1 n2 h hb⟩
 have boxD:∀ b2,blk (y'.ρ g)=some b2→Dp z (0,pre.length) ν0 oc b2:=fun b2 hb=>by
  rw [old g hGg] at hb
  exact (hD b2).2 (.inl hb)
 have rowD:∀ c E k sh els b2,oc'[c]? = some (OC.row E k sh els)→blk (y'.ρ (nm c))=some b2→x.W.heap.size≤b2∨Dp z (0,pre.length) ν0 oc b2:=fun c E k sh els b2 h hb=>by
  rw [yn] at hb
  exact ((hO.row c E k sh els h).2.lt b2 hb).2
 refine ⟨y',rfl,?_⟩
 refine ⟨by rw [Zjs];exact hX.defers,by rw [ZoV];exact hX.size,?_,fun g' hg'=>?_,fun t'=>?_,fun t2 g2 o2 h2=>?_,fun t1 t2 g1 g2 o1 o2 b2 hne q1 q2 hb hb2=>?_,hpost.flt,fun b o hb=>k.F b o (hX3.f0 b o hb),fun b2 o2 hb=>?_,fun g' hg'=>⟨(k.G g' (hX3.rho g' hg').1).1,(k.G g' (hX3.rho g' hg').1).2.trans (hX3.rho g' hg').2⟩,hX.inv,fun b o v hF hv=>k.W b o v (hX3.f0 b o hF) (hX.keep b o v hF hv)⟩
 ·refine hX.gr.trans' hpost.gr.os hpost.gr.tape hpost.gr.output hpost.gr.size fun b' hb' hD'=>hpost.gr.block b' (Nat.lt_of_lt_of_le hb' hX.gr.size) fun hDb=>?_
  rcases (hDlt b' hDb).2 with h | h
  ·omega
  ·exact hD' h
 ·rcases hg' with hg' | ⟨c,E,k,sh,els,_,rfl⟩
  ·exact (hX.gens g' hg').imp id fun ⟨e1,e2⟩=>⟨e1,.inl e2⟩
  ·exact .inr ⟨rfl,.inr (.inr ⟨by show 1000000≤i+1000000 * (c+1);omega,by show (i+1000000 * (c+1)) % 1000000=i;omega⟩)⟩
 ·exact Zy1 hX.size hd (hpost.rep.dry hc.dry) (fun t=>(hX3.tm t).step k) t'
 ·rcases cases3 t2 g2 o2 h2 with ⟨n1,n2,h⟩ | ⟨rfl,rfl,rfl⟩ | ⟨c,E,k',sh,els,h,rfl,rfl,rfl⟩
  ·exact ⟨.inl (hX3.ob t2 g2 o2 h).1,oldOb t2 g2 o2 n1 n2 h⟩
  ·exact ⟨.inl hGg,newBox⟩
  ·exact ⟨.inr ⟨c,E,k',sh,els,h,rfl⟩,newRow c E k' sh els h⟩
 ·rcases cases3 t1 g1 o1 q1 with ⟨n1,n2,h⟩ | ⟨e1,e2,e3⟩ | ⟨c,E,k',sh,els,h,e1,e2,e3⟩
  ·rcases cases3 t2 g2 o2 q2 with ⟨m1,m2,h'⟩ | ⟨f1,f2,f3⟩ | ⟨c',E',k2,sh',els',h',f1,f2,f3⟩
   ·rw [old g1 (hX3.ob t1 g1 o1 h).1] at hb
    rw [old g2 (hX3.ob t2 g2 o2 h').1] at hb2
    exact hX3.apart t1 t2 g1 g2 o1 o2 b2 hne h h' hb hb2
   ·subst f2
    exact (oldD t1 g1 o1 b2 n1 n2 h hb).2 (boxD b2 hb2)
   ·subst f2
    obtain ⟨w1,w2⟩:=oldD t1 g1 o1 b2 n1 n2 h hb
    rcases rowD c' E' k2 sh' els' b2 h' hb2 with w | w
    ·omega
    ·exact w2 w
  ·subst e2
   rcases cases3 t2 g2 o2 q2 with ⟨m1,m2,h'⟩ | ⟨f1,f2,f3⟩ | ⟨c',E',k2,sh',els',h',f1,f2,f3⟩
   ·exact (oldD t2 g2 o2 b2 m1 m2 h' hb2).2 (boxD b2 hb)
   ·exact hne (e1.trans f1.symm)
   ·subst f2
    rw [yn] at hb2
    rw [old g1 hGg,← hρy] at hb
    exact hO.apB c' E' k2 sh' els' b2 h' hb hb2
  ·subst e2
   rcases cases3 t2 g2 o2 q2 with ⟨m1,m2,h'⟩ | ⟨f1,f2,f3⟩ | ⟨c',E',k2,sh',els',h',f1,f2,f3⟩
   ·obtain ⟨w1,w2⟩:=oldD t2 g2 o2 b2 m1 m2 h' hb2
    rcases rowD c E k' sh els b2 h hb with w | w
    ·omega
    ·exact w2 w
   ·subst f2
    rw [yn] at hb
    rw [old g2 hGg,← hρy] at hb2
    exact hO.apB c E k' sh els b2 h hb2 hb
   ·subst f2
    rw [yn] at hb hb2
    exact hO.apR c c' E k' sh els E' k2 sh' els' b2 (fun e=>hne (by rw [e1,f1,e])) h h' hb hb2
 ·rcases hpost.fnew b2 o2 hb with h | h | h
  ·exact hX3.fnew b2 o2 h
  ·exact .inr (.inl (Nat.le_trans hX.gr.size h))
  ·exact .inr (hDlt b2 h).2
end
end VL
end Go.Proofs.YtjoneoobolnnbaaGreatDoor
namespace Go.Proofs.YtjoneoobolnnbaaGreatDoor
namespace VL
open Go.RowKit
def oc1 (f:Nat→Option (Gen×VObj)):PV→Option (Nat×Gen×OC)
 | .row t g=>match Zb5 f t g with
   | some (.row E k sh els)=>some (t,g,.row E k sh els)
   | _=>none
 | .bool b=>some (0,(0,0),.pv (.bool b))
 | .int k n=>some (0,(0,0),.pv (.int k n))
 | .str b=>some (0,(0,0),.pv (.str b))
 | .sl els=>some (0,(0,0),.pv (.sl els))
 | .nil=>some (0,(0,0),.pv .nil)
 | _=>none
def Zta (f:Nat→Option (Gen×VObj)):List PV→Option (List (Nat×Gen×OC))
 | []=>some []
 | p::ps=>match oc1 f p,Zta f ps with
   | some q,some qs=>some (q::qs)
   | _,_=>none
def okK (t:Nat):List (Nat×Gen×OC)→Bool
 | []=>true
 | (_,_,.pv _)::r=>okK t r
 | (k,_,.row _ _ _ _)::r=>k != t&&r.all (fun q=>match q.2.2 with
  | .row _ _ _ _=>q.1 != k
  | .pv _=>true)&&okK t r
def oqκ (oq:List (Nat×Gen×OC)) (c:Nat):Nat:=((oq[c]?).map (·.1)).getD 0
def oqν (oq:List (Nat×Gen×OC)) (c:Nat):Gen:=((oq[c]?).map (·.2.1)).getD (0,0)
theorem Zn4 {f:Nat→Option (Gen×VObj)} {p:PV} {q:Nat×Gen×OC} (h:oc1 f p=some q):p=q.2.2.val q.1 q.2.1∧(∀ E k sh els,q.2.2=OC.row E k sh els→f q.1=some (q.2.1,.row E k sh els))∧∀ p',q.2.2=OC.pv p'→p'.flat=true:=by
 cases p with
 | row t g=>
   simp only [oc1] at h
   split at h
   ·rename_i E k sh els ho
    injection h with h
    subst h
    refine ⟨rfl,fun E' k' sh' els' e=>?_,fun p' e=>by cases e⟩
    injection e with e1 e2 e3 e4
    subst e1 e2 e3 e4
    exact Za0 ho
   ·cases h
 | bool b=>injection h with h;subst h;exact ⟨rfl,(fun _ _ _ _ e=>by cases e),fun p' e=>by cases e;rfl⟩
 | int k n=>injection h with h;subst h;exact ⟨rfl,(fun _ _ _ _ e=>by cases e),fun p' e=>by cases e;rfl⟩
 | str b=>injection h with h;subst h;exact ⟨rfl,(fun _ _ _ _ e=>by cases e),fun p' e=>by cases e;rfl⟩
 | sl els=>injection h with h;subst h;exact ⟨rfl,(fun _ _ _ _ e=>by cases e),fun p' e=>by cases e;rfl⟩
 | nil=>injection h with h;subst h;exact ⟨rfl,(fun _ _ _ _ e=>by cases e),fun p' e=>by cases e;rfl⟩
 | _=>simp [oc1] at h
theorem Ztl {f:Nat→Option (Gen×VObj)}:∀ {cs:List PV} {oq:List (Nat×Gen×OC)},Zta f cs=some oq→cs.length=oq.length∧∀ (c:Nat) (q:Nat×Gen×OC),oq[c]? = some q→∃ p,cs[c]? = some p∧oc1 f p=some q
 | [],oq,h=>by
   injection h with h
   subst h
   exact ⟨rfl,fun c q hq=>by simp at hq⟩
 | p::ps,oq,h=>by
   simp only [Zta] at h
   split at h
   ·rename_i q qs h1 h2
    injection h with h
    subst h
    obtain ⟨h3,h4⟩:=Ztl h2
    refine ⟨by simp [h3],fun c q' hq=>?_⟩
    cases c with
    | zero=>simp at hq;subst hq;exact ⟨p,rfl,h1⟩
    | succ c=>simp at hq ⊢;exact h4 c q' hq
   ·cases h
theorem Zl3 {f:Nat→Option (Gen×VObj)} {cs:List PV} {oq:List (Nat×Gen×OC)} (h:Zta f cs=some oq) :
  cs=Zbn (oqκ oq) (oqν oq) 0 (oq.map (·.2.2))∧(∀ c E k sh els,(oq.map (·.2.2))[c]? = some (OC.row E k sh els)→f (oqκ oq c)=some (oqν oq c,.row E k sh els))∧∀ (c:Nat) (p:PV),(oq.map (·.2.2))[c]? = some (OC.pv p)→p.flat=true:=by
 obtain ⟨h1,h2⟩:=Ztl h
 refine ⟨?_,fun c E k sh els hc=>?_,fun c p hc=>?_⟩
 ·apply List.ext_getElem?
  intro c
  rw [ZbR,List.getElem?_map,Nat.zero_add]
  by_cases hlt:c<oq.length
  ·obtain ⟨q,hq⟩:∃ q,oq[c]? = some q:=⟨_,List.getElem?_eq_getElem hlt⟩
   obtain ⟨p,hp,hq2⟩:=h2 c q hq
   rw [hp,hq,(Zn4 hq2).1]
   unfold oqκ oqν
   rw [hq]
   rfl
  ·rw [List.getElem?_eq_none (by omega),List.getElem?_eq_none (by omega)]
   rfl
 ·rw [List.getElem?_map,Option.map_eq_some_iff] at hc
  obtain ⟨q,hq,e⟩:=hc
  obtain ⟨p,hp,hq2⟩:=h2 c q hq
  have:=(Zn4 hq2).2.1 E k sh els e
  unfold oqκ oqν
  rw [hq]
  exact this
 ·rw [List.getElem?_map,Option.map_eq_some_iff] at hc
  obtain ⟨q,hq,e⟩:=hc
  obtain ⟨p',hp,hq2⟩:=h2 c q hq
  exact (Zn4 hq2).2.2 p e
theorem Zn5 {t:Nat}:∀ {oq:List (Nat×Gen×OC)},okK t oq=true→(∀ (c:Nat) (q:Nat×Gen×OC) E k sh els,oq[c]? = some q→q.2.2=OC.row E k sh els→q.1≠t)∧
  ∀ (c c':Nat) (q q':Nat×Gen×OC) E k sh els E' k' sh' els',c<c'→oq[c]? = some q→oq[c']? = some q'→q.2.2=OC.row E k sh els→q'.2.2=OC.row E' k' sh' els'→q.1≠q'.1
 | [],_=>⟨fun c q _ _ _ _ h=>by simp at h,fun c c' q q' _ _ _ _ _ _ _ _ _ h=>by simp at h⟩
 | (k0,g0,.pv p0)::r,h=>by
  obtain ⟨h1,h2⟩:=Zn5 (oq:=r) h
  refine ⟨fun c q E k sh els hq e=>?_,fun c c' q q' E k sh els E' k' sh' els' hlt hq hq' e e'=>?_⟩
  ·cases c with
   | zero=>simp at hq;subst hq;cases e
   | succ c=>exact h1 c q E k sh els (by simpa using hq) e
  ·cases c with
   | zero=>simp at hq;subst hq;cases e
   | succ c=>
     cases c' with
     | zero=>omega
     | succ c'=>exact h2 c c' q q' E k sh els E' k' sh' els' (by omega) (by simpa using hq) (by simpa using hq') e e'
 | (k0,g0,.row E0 kk0 sh0 els0)::r,h=>by
  simp only [okK,Bool.and_eq_true,bne_iff_ne,ne_eq,List.all_eq_true] at h
  obtain ⟨⟨h3,h4⟩,h5⟩:=h
  obtain ⟨h1,h2⟩:=Zn5 (oq:=r) h5
  refine ⟨fun c q E k sh els hq e=>?_,fun c c' q q' E k sh els E' k' sh' els' hlt hq hq' e e'=>?_⟩
  ·cases c with
   | zero=>simp at hq;subst hq;exact h3
   | succ c=>exact h1 c q E k sh els (by simpa using hq) e
  ·cases c' with
   | zero=>omega
   | succ c'=>
     have hq2:r[c']? = some q':=by simpa using hq'
     cases c with
     | zero=>
       simp at hq
       subst hq
       have:=h4 q' (List.mem_of_getElem? hq2)
       rw [e'] at this
       simp only [bne_iff_ne,ne_eq] at this
       exact fun e=>this e.symm
     | succ c=>exact h2 c c' q q' E k sh els E' k' sh' els' (by omega) (by simpa using hq) hq2 e e'
theorem Zn6 {t:Nat} {oq:List (Nat×Gen×OC)} (h:okK t oq=true):(∀ c E k sh els,(oq.map (·.2.2))[c]? = some (OC.row E k sh els)→oqκ oq c≠t)∧
  ∀ c c' E k sh els E' k' sh' els',c≠c'→(oq.map (·.2.2))[c]? = some (OC.row E k sh els)→(oq.map (·.2.2))[c']? = some (OC.row E' k' sh' els')→oqκ oq c≠oqκ oq c':=by
 obtain ⟨h1,h2⟩:=Zn5 h
 refine ⟨fun c E k sh els hc=>?_,fun c c' E k sh els E' k' sh' els' hne hc hc'=>?_⟩
 ·rw [List.getElem?_map,Option.map_eq_some_iff] at hc
  obtain ⟨q,hq,e⟩:=hc
  unfold oqκ
  rw [hq]
  exact h1 c q E k sh els hq e
 ·rw [List.getElem?_map,Option.map_eq_some_iff] at hc hc'
  obtain ⟨q,hq,e⟩:=hc
  obtain ⟨q',hq',e'⟩:=hc'
  unfold oqκ
  rw [hq,hq']
  rcases Nat.lt_or_gt_of_ne hne with hlt | hlt
  ·exact h2 c c' q q' E k sh els E' k' sh' els' hlt hq hq' e e'
  ·exact fun e0=>h2 c' c q' q E' k' sh' els' E k sh els hlt hq' hq e' e e0.symm
def usP (t:Nat) (g:Gen) (ng i:Nat) (oq:List (Nat×Gen×OC)) (oc':List OC):List (Nat×Option (Gen×VObj)):=
 Zld (oqκ oq) 0 (oq.map (·.2.2))++(t,some (g,.box (Zbn (fun c=>1000+100 * t+c) (fun c=>(ng,i+1000000 * (c+1))) 0 oc')))::ZfB (fun c=>1000+100 * t+c) (fun c=>(ng,i+1000000 * (c+1))) 0 oc'
section
variable {P:Program} [WInv P] {r:Run} {ops:Array Oper} {o:Oper} {i:Nat} {s s':FS}
theorem Ztm {f:FuncId} {es:Array Operand} {ts:Array TypeId} {post post':List PV} {t:Nat} {g:Gen} {cs:List PV} {oq:List (Nat×Gen×OC)} {oc':List OC} {res:PV} (hw:Zp ops s o=some true) (ho:o.op = .call { callee:=.value (.func f),args:=es,argTypes:=ts })
  (he:es.toList.map (ev s) = .ptr t g 0::post) (hob:s.ob t=some (g,.box cs)) (hoq:Zta s.ob cs=some oq) (hk:okK t oq=true) (h3:Zf6 s.ob post=some (post',[])) (hc:ContractP P f (.ptr 0 (0,0) 0::post') 0 (oq.map (·.2.2)) res oc') :
  OpR P ops i o s ⟨res,usP t g s.ng i oq oc'⟩:=.anyx hw fun s' r hA hI=>by
 obtain ⟨e1,e2,_⟩:=Zeg ho hA
 obtain ⟨q1,q2,q3⟩:=Zl3 hoq
 obtain ⟨q4,q5⟩:=Zn6 hk
 have hmem:(PV.ptr t g 0) ∈ es.toList.map (ev s):=by rw [he];exact List.mem_cons_self ..
 have ht:s.ob t=s'.ob t:=e2 _ hmem t (by simp [Zhb,ZfJ,Zcp])
 have hrow:∀ c E k sh els,(oq.map (·.2.2))[c]? = some (OC.row E k sh els)→s.ob (oqκ oq c)=s'.ob (oqκ oq c):=fun c E k sh els h=>by
  refine e2 _ hmem (oqκ oq c) ?_
  have hcell:cs[c]? = some (.row (oqκ oq c) (oqν oq c)):=by
   rw [q1,ZbR,h,Nat.zero_add]
   rfl
  simp only [Zhb,ZfJ,Zcp,List.flatMap_cons,List.flatMap_nil,List.append_nil]
  refine List.mem_append_right _ ?_
  unfold Zp6
  rw [hob]
  exact List.mem_flatMap.2 ⟨_,List.mem_of_getElem? hcell,by simp [Zcp]⟩
 unfold usP
 rw [hA.ng]
 refine Zr0 (pre:=[]) (pre':=[]) (post:=post) (ν:=oqν oq) ho (by rw [e1,he];rfl) (by rw [← ht,hob,← q1]) (fun c E k sh els h=>by rw [← hrow c E k sh els h];exact q2 c E k sh els h) q3 q4 q5 rfl ?_ (by decide) hc hI
 rw [← h3]
 exact (Zdt fun p hp t ht=>e2 p (by rw [he];exact List.mem_cons_of_mem _ hp) t (ZhT ht)).symm
end
section
variable {P:Program} [WInv P] {ops:Array Oper} {draw:Bool} {i:Nat} {L:List Oper} {acc:List (List Nat×List Nat)} {K:FS→Prop} {tm:List (Nat×PV)} {ob:List (Nat×Option (Gen×VObj))} {ng:Nat}
 {d:Option Tmp} {ty:TypeId} {pos:String} {after:Array Edge} {gd:Option (Nat×Bool)}
theorem ZeR {f:FuncId} {es:Array Operand} {ts:Array TypeId} {post post':List PV} {t:Nat} {g:Gen} {cs:List PV} {oq:List (Nat×Gen×OC)} {oc oc':List OC} {res:PV} {us:List (Nat×Option (Gen×VObj))} (hc:ContractP P f (.ptr 0 (0,0) 0::post') 0 oc res oc') (hw:Zp ops (mkS tm ob ng) ⟨d,.call ⟨.value (.func f),es,ts⟩,ty,pos,after,gd⟩=some true)
  (he:es.toList.map (evL tm) = .ptr t g 0::post) (hob:ZO ob t=some (g,.box cs)) (hoq:Zta (ZO ob) cs=some oq) (hoc:oq.map (·.2.2)=oc) (hk:okK t oq=true) (h3:Zf6 (ZO ob) post=some (post',[])) (hus:usP t g ng i oq oc'=us)
  (k:GoL P ops draw (i+1) L (acc ++ [(ZN (mkS tm ob ng) ⟨d,.call ⟨.value (.func f),es,ts⟩,ty,pos,after,gd⟩,us.map (·.1))]) (mkS (ZbZ d res tm) (us.reverse++ob) ng) K):GoL P ops draw i (⟨d,.call ⟨.value (.func f),es,ts⟩,ty,pos,after,gd⟩::L) acc (mkS tm ob ng) K:=by
 subst hoc hus
 refine Zhp (Ztm hw rfl (by rw [ZaD];exact he) hob hoq hk h3 hc) ?_
 rw [Zcg]
 exact k
end
end VL
end Go.Proofs.YtjoneoobolnnbaaGreatDoor
namespace Go.Proofs.YtjoneoobolnnbaaGreatDoor
namespace VL
open Go.RowKit
def Zvk (args:List PV) (j:Nat) (oc:List OC):FS:=⟨fun t=>args.getD t (.tup []),ZO ((j,some ((0,j),.box (Zbn κ0 ν0 0 oc)))::ZfB κ0 ν0 0 oc),1⟩
theorem Zku {κ:Nat→Nat} {ν:Nat→Gen} {t:Nat} {g:Gen} {o:VObj}:∀ (l:List OC) (c0:Nat),ZO (ZfB κ ν c0 l) t=some (g,o)→∃ c E k sh els,l[c]? = some (OC.row E k sh els)∧t=κ (c0+c)∧g=ν (c0+c)∧o = .row E k sh els
 | [],c0,h=>by cases h
 | .pv p::r,c0,h=>by
   obtain ⟨c,E,k,sh,els,h1,h2,h3,h4⟩:=Zku r (c0+1) h
   have e:c0+1+c=c0+(c+1):=by omega
   rw [e] at h2 h3
   exact ⟨c+1,E,k,sh,els,by simpa using h1,h2,h3,h4⟩
 | .row E k sh els::r,c0,h=>by
   change (if t=κ c0 then some (ν c0,VObj.row E k sh els) else ZO (ZfB κ ν (c0+1) r) t)=some (g,o) at h
   split at h
   ·rename_i e
    injection h with h
    injection h with e1 e2
    exact ⟨0,E,k,sh,els,rfl,e,e1.symm,e2.symm⟩
   ·obtain ⟨c,E,k,sh,els,h1,h2,h3,h4⟩:=Zku r (c0+1) h
    have e:c0+1+c=c0+(c+1):=by omega
    rw [e] at h2 h3
    exact ⟨c+1,E,k,sh,els,by simpa using h1,h2,h3,h4⟩
theorem Zlx {args:List PV} {j:Nat} {oc:List OC} {t:Nat} {g:Gen} {o:VObj} (h:(Zvk args j oc).ob t=some (g,o)):(t=j∧g=(0,j)∧o = .box (Zbn κ0 ν0 0 oc))∨∃ c E k sh els,oc[c]? = some (OC.row E k sh els)∧t=1000+c∧g=ν0 c∧o = .row E k sh els:=by
 change (if t=j then some ((0,j),VObj.box (Zbn κ0 ν0 0 oc)) else ZO (ZfB κ0 ν0 0 oc) t)=some (g,o) at h
 split at h
 ·rename_i e
  injection h with h
  injection h with e1 e2
  exact .inl ⟨e,e1.symm,e2.symm⟩
 ·obtain ⟨c,E,k,sh,els,h1,h2,h3,h4⟩:=Zku oc 0 h
  rw [Nat.zero_add] at h2 h3
  exact .inr ⟨c,E,k,sh,els,h1,h2,h3,h4⟩
section
variable {P:Program} [WInv P]
theorem ZkZ (hmix:P.follows .mixedOrders=true) {f:FuncId} {fn:Func} {c:Code} {args:List PV} {j:Nat} {oc oc':List OC} {e:Ex} {s1:FS} {ps cs:List PV} {oq:List (Nat×Gen×OC)} {res:PV}
  (hg:isGo P f=true) (hf:P.funcs[f]? = some fn) (hb:fn.body=some c) (hn:args.length≤fn.ntmps) (hok:Zbq fn.ntmps c=true) (hj:j<1000) (hrun:RunC P c (Zvk args j oc) e s1) (he:e = .normal∨e = .ret)
  (hres:Zgt P s1 fn.results.toList=some ps) (hps:Zf8 ps=res) (hdry:res.dry=true) (hob:s1.ob j=some ((0,j),.box cs)) (hoq:Zta s1.ob cs=some oq) (hk:okK j oq=true) (hoc:oq.map (·.2.2)=oc'):ContractP P f args j oc res oc':=by
 subst hoc hps
 refine ⟨hg,hdry,fun x vs hpre hinv=>?_⟩
 let r:Run:=⟨x.W,Dp x (0,j) ν0 oc,(vs++Array.replicate (fn.ntmps - vs.size) undef).size,x.F,x.G,x.ρ,WInv.I P⟩
 have hNr:r.N=fn.ntmps:=by
  have:=hpre.size
  simp [r]
  omega
 have hX:RstX r (fun _=>False) (Zvk args j oc) { tmps:=vs++Array.replicate (fn.ntmps - vs.size) undef,defers:=[] } x:=by
  refine ⟨rfl,rfl,Gr.refl _ _,fun g hg=>?_,fun t=>?_,fun t g o ho=>?_,fun t t' g g' o o' b hne h1 h2 hb1 hb2=>?_,hpre.flt,fun _ _ h=>h,fun _ _ h=>.inl h,fun _ h=>⟨h,rfl⟩,⟨hinv,hpre.gen⟩,fun _ _ _ _ h=>h⟩
  ·rw [hpre.gen g hg]
   exact .inl Nat.zero_lt_one
  ·show Rep x (args.getD t (.tup [])) _
   rw [Array.getD_eq_getD_getElem?,Array.getElem?_append,List.getD_eq_getElem?_getD]
   by_cases ht:t<vs.size
   ·rw [if_pos ht,List.getElem?_eq_getElem (by rw [hpre.size];exact ht),Array.getElem?_eq_getElem ht]
    exact hpre.rep t _ _ (List.getElem?_eq_getElem (by rw [hpre.size];exact ht)) (Array.getElem?_eq_getElem ht)
   ·rw [if_neg ht,List.getElem?_eq_none (by rw [hpre.size];omega)]
    have:(Array.replicate (fn.ntmps - vs.size) undef)[t - vs.size]?.getD undef=undef:=by
     rw [Array.getElem?_replicate]
     split<;>rfl
    rw [this]
    exact .tup [] #[] rfl (fun i p v hp=>by simp at hp)
  ·rcases Zlx ho with ⟨rfl,rfl,rfl⟩ | ⟨c,E,k,sh,els,h1,rfl,rfl,rfl⟩
   ·exact hpre.ob.box
   ·exact hpre.ob.row c E k sh els h1
  ·rcases Zlx h1 with ⟨rfl,rfl,rfl⟩ | ⟨c,E,k,sh,els,q1,rfl,rfl,rfl⟩
   ·rcases Zlx h2 with ⟨e,_⟩ | ⟨c',E',k',sh',els',w1,rfl,rfl,rfl⟩
    ·exact hne e.symm
    ·exact hpre.ob.apB c' E' k' sh' els' b w1 hb1 hb2
   ·rcases Zlx h2 with ⟨rfl,rfl,rfl⟩ | ⟨c',E',k',sh',els',w1,rfl,rfl,rfl⟩
    ·exact hpre.ob.apB c E k sh els b q1 hb2 hb1
    ·exact hpre.ob.apR c c' E k sh els E' k' sh' els' b (fun e=>hne (by rw [e])) q1 w1 hb1 hb2
 refine calls_of_wp hf hb ?_
 refine (ZiA hmix hrun).1 r _ x _ ⟨rfl,by rw [hNr];exact hok⟩ hX fun a' y hY=>?_
 obtain ⟨ws,h1,h2,h3⟩:=ZdO hY fn.results.toList hres
 have hstep:Step x y:=⟨fun g hg=>hY.rho g hg,fun b o hb=>hY.f0 b o hb,fun b o v hb hv=>hY.keep b o v hb hv⟩
 obtain ⟨q1,q2,q3⟩:=Zl3 hoq
 obtain ⟨q4,q5⟩:=Zn6 hk
 have hO:ORep y x.W.heap.size (Dp x (0,j) ν0 oc) (0,j) (oqκ oq) (oqν oq) (oq.map (·.2.2)):=by
  refine ⟨?_,fun c E k sh els h=>hY.ob _ _ _ (q2 c E k sh els h),fun c E k sh els b h hb1 hb2=>?_,fun c c' E k sh els E' k' sh' els' b hne h h' hb1 hb2=>?_,q3⟩
  ·rw [← q1]
   exact hY.ob j _ _ hob
  ·exact hY.apart j (oqκ oq c) (0,j) (oqν oq c) _ _ b (fun e=>q4 c E k sh els h e.symm) hob (q2 c E k sh els h) hb1 hb2
  ·exact hY.apart (oqκ oq c) (oqκ oq c') (oqν oq c) (oqν oq c') _ _ b (q5 c c' E k sh els E' k' sh' els' hne h h') (q2 c E k sh els h) (q2 c' E' k' sh' els' h') hb1 hb2
 have hend:(results fn a'.tmps).run P y.W = .ok (if ws.length=1 then ws.getD 0 undef else .tuple ws.toArray) y.W:=by
  have:(fn.results.mapM (Zt2 a')).run P y.W = .ok ws.toArray y.W:=by
   rw [Array.mapM_eq_mapM_toList,map_eq_pure_bind,Sem.run_bind,h1]
   rfl
  have e:results fn a'.tmps=(fn.results.mapM (Zt2 a') >>= fun vs=>pure (if h:vs.size=1 then vs[0] else .tuple vs)):=by
   unfold results
   congr 1
  rw [e,Sem.run_bind,this]
  simp only [Result.andThen_ok,Sem.run_pure]
  congr 1
  by_cases hl:ws.length=1
  ·simp [hl]
  ·simp [hl]
 have hfin:∃ v,(results fn a'.tmps).run P y.W = .ok v y.W∧(fun e W'=>∃ y v,y.W=W'∧e=Ending.returned v∧PostP x y j oc (Zf8 ps) (oq.map (·.2.2)) v) (Ending.returned v) y.W:=by
  refine ⟨_,hend,y,_,rfl,rfl,hstep,hY.gr,hY.fnew,hY.flt,?_,_,_,hO⟩
  have hlq:ps.length=ws.length:=h2.symm
  unfold Zf8
  split
  ·rename_i p
   rw [if_pos (by simpa using hlq.symm)]
   exact h3 0 p rfl
  ·rename_i hne
   have hn1:¬ ws.length=1:=fun h=>by
    rw [h] at hlq
    match ps,hlq with
    | [q],_=>exact hne q rfl
   rw [if_neg hn1]
   refine .tup ps ws.toArray (by simpa using hlq) fun j q v hq hv=>?_
   have:=h3 j q hq
   have hv':ws[j]? = some v:=by simpa using hv
   rw [List.getD_eq_getElem?_getD,hv'] at this
   exact this
 rcases he with rfl | rfl
 ·exact ⟨hY.defers,hfin⟩
 ·exact ⟨hY.defers,hfin⟩
def Zyy (P:Program) (rs:List ResultVar) (res:PV) (j:Nat) (oc':List OC):Ex→FS→Prop
 | .exit _,_=>False
 | _,s=>∃ ps cs oq,Zgt P s rs=some ps∧Zf8 ps=res∧s.ob j=some ((0,j),.box cs)∧Zta s.ob cs=some oq∧okK j oq=true∧oq.map (·.2.2)=oc'
omit [WInv P] in
theorem ZhE {s:FS} {rs:List ResultVar} {res:PV} {j:Nat} {oc':List OC} {ps cs:List PV} {oq:List (Nat×Gen×OC)} (h1:Zgt P s rs=some ps) (h2:Zf8 ps=res) (h3:s.ob j=some ((0,j),.box cs)) (h4:Zta s.ob cs=some oq) (h5:okK j oq=true) (h6:oq.map (·.2.2)=oc'):Zyy P rs res j oc' .ret s:=⟨ps,cs,oq,h1,h2,h3,h4,h5,h6⟩
theorem Znf (hmix:P.follows .mixedOrders=true) {f:FuncId} {fn:Func} {c:Code} {args:List PV} {j:Nat} {oc:List OC} {R:PV→List OC→Prop} (hf:P.funcs[f]? = some fn) (hg:isGo P f=true) (hb:fn.body=some c) (hok:(decide (args.length≤fn.ntmps)&&Zbq fn.ntmps c&&decide (j<1000))=true)
  (h:PWs P [c] (fun e s=>∃ res oc',(R res oc'∧res.dry=true)∧Zyy P fn.results.toList res j oc' e s) (mkS (ZfI 0 args) ((j,some ((0,j),.box (Zbn κ0 ν0 0 oc)))::ZfB κ0 ν0 0 oc) 1)):∃ res oc',R res oc'∧ContractP P f args j oc res oc':=by
 simp only [Bool.and_eq_true,decide_eq_true_eq] at hok
 obtain ⟨e,s',h1,res,oc',⟨hR,hd⟩,h2⟩:=ZdM h
 have hsh:Shift (Zvk args j oc) (mkS (ZfI 0 args) ((j,some ((0,j),.box (Zbn κ0 ν0 0 oc)))::ZfB κ0 ν0 0 oc) 1):=Zgq (fun t=>by
  rcases Zfg args 0 t with h | ⟨_,h⟩
  ·exact .inl h
  ·exact .inr h) (fun t=>.inr rfl) (Nat.le_refl _)
 refine ⟨res,oc',hR,?_⟩
 cases e with
 | exit id=>exact h2.elim
 | normal=>
   obtain ⟨ps,cs,oq,q1,q2,q3,q4,q5,q6⟩:=h2
   exact ZkZ hmix hg hf hb hok.1.1 hok.1.2 hok.2 (.shift hsh h1) (.inl rfl) q1 q2 hd q3 q4 q5 q6
 | ret=>
   obtain ⟨ps,cs,oq,q1,q2,q3,q4,q5,q6⟩:=h2
   exact ZkZ hmix hg hf hb hok.1.1 hok.1.2 hok.2 (.shift hsh h1) (.inr rfl) q1 q2 hd q3 q4 q5 q6
theorem Zoe (hmix:P.follows .mixedOrders=true) {f:FuncId} {fn:Func} {c:Code} {args:List PV} {j:Nat} {oc oc':List OC} {res:PV} (hf:P.funcs[f]? = some fn) (hg:isGo P f=true) (hb:fn.body=some c) (hok:(decide (args.length≤fn.ntmps)&&Zbq fn.ntmps c&&decide (j<1000))=true) (hd:res.dry=true)
  (h:PWs P [c] (Zyy P fn.results.toList res j oc') (mkS (ZfI 0 args) ((j,some ((0,j),.box (Zbn κ0 ν0 0 oc)))::ZfB κ0 ν0 0 oc) 1)):ContractP P f args j oc res oc':=by
 obtain ⟨res2,oc2,⟨rfl,rfl⟩,hc⟩:=Znf (R:=fun r o=>r=res∧o=oc') hmix hf hg hb hok (by
  obtain ⟨e,s',h1,h2⟩:=ZdM h
  refine Zxc h1 ?_
  exact ⟨res,oc',⟨⟨rfl,rfl⟩,hd⟩,h2⟩)
 exact hc
end
end VL
end Go.Proofs.YtjoneoobolnnbaaGreatDoor
namespace Go.Proofs.YtjoneoobolnnbaaGreatDoor
namespace VL
open Go.RowKit
section
variable {P:Program} [WInv P] {ops:Array Oper} {draw:Bool} {i:Nat} {L:List Oper} {acc:List (List Nat×List Nat)} {K:FS→Prop} {tm:List (Nat×PV)} {ob:List (Nat×Option (Gen×VObj))} {ng:Nat}
 {d:Option Tmp} {ty T T':TypeId} {pos:String} {after:Array Edge} {gd:Option (Nat×Bool)} {x y:Operand}
theorem Zr3 (hw:Zp ops (mkS tm ob ng) ⟨d,.nilCheck x,ty,pos,after,gd⟩=some true) {cs:List PV} (hv:evL tm x = .cel cs)
  (k:GoL P ops draw (i+1) L (acc ++ [(ZN (mkS tm ob ng) ⟨d,.nilCheck x,ty,pos,after,gd⟩,[])]) (mkS (ZbZ d (.cel cs) tm) ob ng) K):GoL P ops draw i (⟨d,.nilCheck x,ty,pos,after,gd⟩::L) acc (mkS tm ob ng) K:=
 ZcD (us:=[]) hw (.fn (by simp only [act,ZaD,hv])) k
theorem Zrl {len kk:Nat} [h:Ar P T len kk] (hw:Zp ops (mkS tm ob ng) ⟨d,.indexAddr T x y,ty,pos,after,gd⟩=some true) {cs:List PV} {kd:IntKind} {n:Nat} (hx:evL tm x = .cel cs) (hy:evL tm y = .int kd (n:Int)) (hn:n<len)
  (k:GoL P ops draw (i+1) L (acc ++ [(ZN (mkS tm ob ng) ⟨d,.indexAddr T x y,ty,pos,after,gd⟩,[])]) (mkS (ZbZ d (.cel (cs.drop (n * kk))) tm) ob ng) K):GoL P ops draw i (⟨d,.indexAddr T x y,ty,pos,after,gd⟩::L) acc (mkS tm ob ng) K:=by
 refine ZcD (us:=[]) hw (.fn ?_) k
 have:=h.eq
 unfold arI at this
 split at this
 ·rename_i len' E' s b zz ht
  cases hte:tyI P E' with
  | none=>rw [hte] at this;cases this
  | some te=>
    rw [hte] at this
    simp only [Option.map_some,Option.some.injEq,Prod.mk.injEq] at this
    obtain ⟨rfl,h2⟩:=this
    simp only [act,ht,ZaD,hx,hy,ZiC,hte,if_pos hn,h2]
 ·cases this
end
theorem ZsY {cs xs:List PV} (h:cs.length=xs.length):ZdT cs 0 xs=xs:=by
 unfold ZdT
 rw [List.take_zero,List.nil_append,Nat.zero_add,← h,List.drop_length,List.append_nil]
theorem Zp0 (f:Nat→Option (Gen×VObj)):∀ (l:List Bool),ZiX (ZqJ f) (l.map PV.bool)=some (l.map PV.bool)
 | []=>rfl
 | b::l=>by
   have:=Zp0 f l
   simp only [List.map_cons,ZiX,ZqJ,this]
end VL
end Go.Proofs.YtjoneoobolnnbaaGreatDoor
namespace Go.Proofs.YtjoneoobolnnbaaGreatDoor
namespace VL
open Go.RowKit
def Zaj:Nat:=4611686018427387904
def atI {α:Type} (l:List α) (i:Int):Option α:=if 0≤i then l[i.toNat]? else none
def atS (s:ByteArray) (i:Int):Option Int:=if 0≤i then (s[i.toNat]?).map fun c=>(c.toNat:Int) else none
def ZjA {α:Type} (l:List α) (lo hi:Int):Option (List α):=if 0≤lo∧lo≤hi∧hi≤(l.length:Int) then some ((l.drop lo.toNat).take (hi.toNat - lo.toNat)) else none
def Zge (s:ByteArray) (lo hi:Int):Option ByteArray:=if 0≤lo∧lo≤hi∧hi≤(s.size:Int) then some (s.extract lo.toNat hi.toNat) else none
def ZcF {α:Type} (w:Nat) (a b:List α):Option (List α):=if (a.length+b.length) * w≤140737488355328∧a.length+b.length≤9223372036854775807 then some (a++b) else none
def Zns (a b:ByteArray):Option ByteArray:=if a.size+b.size≤9223372036854775807 then some (a++b) else none
def ZaS {α:Type} (l:List α) (i:Int) (x:α):List α:=l.set i.toNat x
def Zzi (k:IntKind) (a b:Int):Option Int:=if b=0 then none else some (k.wrap (Int.tdiv a b))
def Zyb (_:IntKind) (a b:Int):Option Int:=if b=0 then none else some (Int.tmod a b)
def ltS (a b:ByteArray):Bool:=Op.bytesLess a.toList b.toList
abbrev w64 (n:Int):Int:=IntKind.wrap .i64 n
abbrev csS (y:ByteArray):List PV:=[.str y]
abbrev csI (y:Int):List PV:=[.int .i64 y]
abbrev csB (y:Int):List PV:=[.int .u8 y]
def letk {γ β:Type} (k:γ) (f:γ→Option β):Option β:=f k
def ZE {α β:Type}:Nat→((α→Option β)→α→Option β)→α→Option β
 | 0,_,_=>none
 | n+1,f,a=>f (ZE n f) a
theorem bnd {α β:Type} {x:Option α} {f:α→Option β} {r:β} (h:x.bind f=some r):∃ v,x=some v∧f v=some r:=by
 cases x with
 | none=>cases h
 | some v=>exact ⟨v,rfl,h⟩
theorem ifT {β:Type} {b:Bool} {x y:Option β} {r:β} (hb:b=true) (h:(if b=true then x else y)=some r):x=some r:=by rw [if_pos hb] at h;exact h
theorem ifF {β:Type} {b:Bool} {x y:Option β} {r:β} (hb:b=false) (h:(if b=true then x else y)=some r):y=some r:=by rw [if_neg (by rw [hb];simp)] at h;exact h
theorem Zax {γ β:Type} {k:γ} {f:γ→Option β} {r:β} {p:Prop} (h:letk k f=some r) (g:∀ q,q=k→f q=some r→p):p:=g k rfl h
theorem Zn {α β:Type} {n:Nat} {f:(α→Option β)→α→Option β} {a:α} {r:β} {p:Prop} (h:ZE n f a=some r) (g:∀ q m,q=f→ZE m q a=some r→p):p:=g f n rfl h
theorem Zo {α β:Type} {n:Nat} {f q:(α→Option β)→α→Option β} {a:α} {r:β} (e:q=f) (h:ZE n q a=some r):∃ m,n=m+1∧f (ZE m q) a=some r:=by
 cases n with
 | zero=>cases h
 | succ m=>exact ⟨m,rfl,by rw [← e];exact h⟩
theorem Zwi {α β:Type} {f:(α→Option β)→α→Option β} (J:α→Prop) (m:α→Nat) (spec:α→β) (h:∀ a rec,J a→(∀ a',J a'→m a'<m a→rec a'=some (spec a'))→f rec a=some (spec a)):∀ (n:Nat) (a:α),J a→m a<n→ZE n f a=some (spec a)
 | 0,_,_,hm=>absurd hm (Nat.not_lt_zero _)
 | n+1,a,ha,hm=>h a _ ha fun a' ha' hm'=>Zwi J m spec h n a' ha' (by omega)
theorem Zrx {α β:Type} {f:(α→Option β)→α→Option β} (J:α→Prop) (m:α→Nat) (R:β→Prop) (h:∀ a rec,J a→(∀ a',J a'→m a'<m a→∃ b,rec a'=some b∧R b)→∃ b,f rec a=some b∧R b):∀ (n:Nat) (a:α),J a→m a<n→∃ b,ZE n f a=some b∧R b
 | 0,_,_,hm=>absurd hm (Nat.not_lt_zero _)
 | n+1,a,ha,hm=>h a _ ha fun a' ha' hm'=>Zrx J m R h n a' ha' (by omega)
theorem ZkT {α:Type} {l:List α} {i:Int} {e:α} (h:atI l i=some e):0≤i∧l[i.toNat]? = some e:=by
 unfold atI at h
 split at h
 ·exact ⟨by assumption,h⟩
 ·cases h
theorem Zgd {α:Type} (l:List α) (n:Nat):atI l (n:Int)=l[n]?:=by
 unfold atI
 rw [if_pos (by omega)]
 rfl
theorem Zo8 {α β:Type} {f:α→β} {l:List α} {n:Nat} {e:α} (h:l[n]? = some e):(l.map f)[n]? = some (f e):=by rw [List.getElem?_map,h];rfl
theorem Zsa {α:Type} {w:Nat} {a b c:List α} (h:ZcF w a b=some c):(a.length+b.length) * w≤140737488355328∧a.length+b.length≤9223372036854775807∧c=a++b:=by
 unfold ZcF at h
 split at h
 ·injection h with h
  rename_i q
  exact ⟨q.1,q.2,h.symm⟩
 ·cases h
theorem Zwj {α:Type} {l m:List α} {lo hi:Int} (h:ZjA l lo hi=some m):0≤lo∧lo≤hi∧hi≤(l.length:Int)∧m=(l.drop lo.toNat).take (hi.toNat - lo.toNat):=by
 unfold ZjA at h
 split at h
 ·injection h with h
  rename_i q
  exact ⟨q.1,q.2.1,q.2.2,h.symm⟩
 ·cases h
theorem Zwk {l m:ByteArray} {lo hi:Int} (h:Zge l lo hi=some m):0≤lo∧lo≤hi∧hi≤(l.size:Int)∧l.extract lo.toNat hi.toNat=m:=by
 unfold Zge at h
 split at h
 ·injection h with h
  rename_i q
  exact ⟨q.1,q.2.1,q.2.2,h⟩
 ·cases h
theorem Zry {α:Type} {f:α→List PV} {kk:Nat} (hf:∀ x,(f x).length=kk) (l:List α):((l.map f).all fun e=>e.length == kk)=true:=by simp [hf]
def loI (tm:List (Nat×PV)):Option Operand→Option Int
 | none=>some 0
 | some e=>match evL tm e with
   | .int _ n=>some n
   | _=>none
def hiI (tm:List (Nat×PV)) (n:Nat):Option Operand→Option Int
 | none=>some n
 | some e=>match evL tm e with
   | .int _ n=>some n
   | _=>none
theorem Zzj {tm:List (Nat×PV)} {lo:Option Operand} {l:Int} (h:loI tm lo=some l) (h0:0≤l):loV tm lo=some l.toNat:=by
 cases lo with
 | none=>injection h with h;subst h;rfl
 | some e=>
   simp only [loI] at h
   simp only [loV]
   split at h
   ·rename_i he
    injection h with h
    subst h
    rw [he]
    simp [toNat?,h0]
   ·cases h
theorem Zzk {tm:List (Nat×PV)} {hi:Option Operand} {n:Nat} {l:Int} (h:hiI tm n hi=some l) (h0:0≤l):hiV tm n hi=some l.toNat:=by
 cases hi with
 | none=>injection h with h;subst h;rfl
 | some e=>
   simp only [hiI] at h
   simp only [hiV]
   split at h
   ·rename_i he
    injection h with h
    subst h
    rw [he]
    simp [toNat?,h0]
   ·cases h
section
variable {P:Program} [WInv P] {ops:Array Oper} {draw:Bool} {i:Nat} {L:List Oper} {acc:List (List Nat×List Nat)} {K:FS→Prop} {tm:List (Nat×PV)} {ob:List (Nat×Option (Gen×VObj))} {ng:Nat}
 {d:Option Tmp} {ty T T':TypeId} {pos:String} {after:Array Edge} {gd:Option (Nat×Bool)} {x y:Operand} {α:Type} {f:α→List PV}
theorem Zzl (t:Nat) {b:Bool} (hx:look tm t = .bool b) (h1:b=true→GoL P ops draw i L acc (mkS ((t,.bool true)::tm) ob ng) K) (h2:b=false→GoL P ops draw i L acc (mkS ((t,.bool false)::tm) ob ng) K):GoL P ops draw i L acc (mkS tm ob ng) K:=by
 have e:mkS ((t,.bool b)::tm) ob ng=mkS tm ob ng:=by
  unfold mkS
  congr 1
  funext t'
  show (if t'=t then PV.bool b else look tm t')=look tm t'
  split
  ·rename_i h;rw [h,hx]
  ·rfl
 rw [← e]
 cases b
 ·exact h2 rfl
 ·exact h1 rfl
theorem Zsb {E kk by_:Nat} {z:List PV} [Sl P T E kk by_ z] (hw:Zp ops (mkS tm ob ng) ⟨d,.call ⟨.builtin .len,#[x],#[T]⟩,ty,pos,after,gd⟩=some true) {M:List α} (hx:Zlc (ZO ob) (evL tm x)=some (M.map f))
  (k:GoL P ops draw (i+1) L (acc ++ [(ZN (mkS tm ob ng) ⟨d,.call ⟨.builtin .len,#[x],#[T]⟩,ty,pos,after,gd⟩,[])]) (mkS (ZbZ d (.int .i64 (M.length:Int)) tm) ob ng) K):GoL P ops draw i (⟨d,.call ⟨.builtin .len,#[x],#[T]⟩,ty,pos,after,gd⟩::L) acc (mkS tm ob ng) K:=by
 refine ZyV (n:=M.length) hw ?_ k
 cases hp:evL tm x<;>rw [hp] at hx<;>simp only [Zlc] at hx<;>try (cases hx;done)
 ·injection hx with hx;simp only [Zu9,hx,List.length_map]
 ·injection hx with hx
  have:M.length=0:=by rw [← List.length_map (f:=f),← hx];rfl
  simp only [Zu9,this]
 ·simp only [Zu9]
  split at hx
  ·rename_i ho
   injection hx with hx
   rw [hx,List.length_map]
  ·cases hx
theorem Zo9 {E kk by_:Nat} {z:List PV} [Sl P T E kk by_ z] (hw:Zp ops (mkS tm ob ng) ⟨d,.indexAddr T x y,ty,pos,after,gd⟩=some true) {M:List α} {e:α} {kd:IntKind} {q:Int} (he:atI M q=some e) (hx:evL tm x = .sl (M.map f)) (hy:evL tm y = .int kd q) (hl:(f e).length=kk)
  (k:GoL P ops draw (i+1) L (acc ++ [(ZN (mkS tm ob ng) ⟨d,.indexAddr T x y,ty,pos,after,gd⟩,[])]) (mkS (ZbZ d (.cel (f e)) tm) ob ng) K):GoL P ops draw i (⟨d,.indexAddr T x y,ty,pos,after,gd⟩::L) acc (mkS tm ob ng) K:=by
 obtain ⟨h0,h1⟩:=ZkT he
 exact Zel (n:=q.toNat) hw hx (by rw [hy];congr 1;omega) (Zo8 h1) hl k
theorem ZD {E kk by_:Nat} {z:List PV} [Sl P T E kk by_ z] (hw:Zp ops (mkS tm ob ng) ⟨d,.indexAddr T x y,ty,pos,after,gd⟩=some true) {M:List α} {e:α} {kd:IntKind} {q:Int} {t:Nat} {g:Gen} {E':Nat} {sh:Bool} (he:atI M q=some e) (hx:evL tm x = .row t g) (hb:Zb5 (ZO ob) t g=some (.row E' kk sh (M.map f))) (hy:evL tm y = .int kd q)
  (k:GoL P ops draw (i+1) L (acc ++ [(ZN (mkS tm ob ng) ⟨d,.indexAddr T x y,ty,pos,after,gd⟩,[])]) (mkS (ZbZ d (.elp t g q.toNat kk 0) tm) ob ng) K):GoL P ops draw i (⟨d,.indexAddr T x y,ty,pos,after,gd⟩::L) acc (mkS tm ob ng) K:=by
 obtain ⟨h0,h1⟩:=ZkT he
 exact Zq4 (n:=q.toNat) hw hx hb (by rw [hy];congr 1;omega) (by rw [List.length_map];exact (List.getElem?_eq_some_iff.1 h1).1) k
theorem ZaB {agg:Bool} {n:Nat} [h:Ld P T agg n] (hw:Zp ops (mkS tm ob ng) ⟨d,.load T x,ty,pos,after,gd⟩=some true) {M:List α} {e:α} {q:Int} {t:Nat} {g:Gen} {E kk off:Nat} {sh:Bool} {v:PV} (he:atI M q=some e) (hx:evL tm x = .elp t g q.toNat kk off) (hb:Zb5 (ZO ob) t g=some (.row E kk sh (M.map f))) (hv:Zq1 agg n ((f e).drop off)=some v)
  (k:GoL P ops draw (i+1) L (acc ++ [(ZN (mkS tm ob ng) ⟨d,.load T x,ty,pos,after,gd⟩,[])]) (mkS (ZbZ d v tm) ob ng) K):GoL P ops draw i (⟨d,.load T x,ty,pos,after,gd⟩::L) acc (mkS tm ob ng) K:=by
 obtain ⟨h0,h1⟩:=ZkT he
 refine ZnN (cs:=(f e).drop off) hw ?_ hv k
 rw [hx]
 simp only [ZhX,hb,if_true,Zo8 h1,Option.map_some]
theorem Zbc {agg:Bool} {n:Nat} [Ld P T agg n] (hw:Zp ops (mkS tm ob ng) ⟨d,.store T x y,ty,pos,after,gd⟩=some true) {M:List α} {e e':α} {q:Int} {t:Nat} {g:Gen} {E kk off:Nat} {p:PV} {ps qs:List PV} {us:List (Nat×Option (Gen×VObj))} (he:atI M q=some e) (hx:evL tm x = .elp t g q.toNat kk off)
  (hb:Zb5 (ZO ob) t g=some (.row E kk false (M.map f))) (hy:evL tm y=p) (hps:p.cells=ps) (hl:ps.length=n) (hr:ZfZ (ZO ob) ps=some (qs,us)) (hf:off+n≤kk) (hus:us.all (fun q=>q.1 != t)=true) (hs:ZdT (f e) off qs=f e')
  (k:GoL P ops draw (i+1) L (acc ++ [(ZN (mkS tm ob ng) ⟨d,.store T x y,ty,pos,after,gd⟩,us.map (·.1) ++ [t])]) (mkS (ZbZ d .un tm) ((t,some (g,VObj.row E kk false ((ZaS M q e').map f)))::(us.reverse++ob)) ng) K) :
  GoL P ops draw i (⟨d,.store T x y,ty,pos,after,gd⟩::L) acc (mkS tm ob ng) K:=by
 obtain ⟨h0,h1⟩:=ZkT he
 refine Zq3 hw hx hb (Zo8 h1) hy hps hl hr hf hus ?_
 rw [hs,show (M.map f).set q.toNat (f e')=(ZaS M q e').map f from (List.map_set ..).symm]
 simpa using k
theorem Zwl {E kk by_:Nat} {z:List PV} [Sl P T E kk by_ z] {lo hi:Option Operand} (hw:Zp ops (mkS tm ob ng) ⟨d,.slice T x lo hi none,ty,pos,after,gd⟩=some true) {M R:List α} {l h:Int} {us:List (Nat×Option (Gen×VObj))} (hs:ZjA M l h=some R) (hf:∀ x,(f x).length=kk)
  (hx:Zlc (ZO ob) (evL tm x)=some (M.map f)) (hlo:loI tm lo=some l) (hhi:hiI tm M.length hi=some h) (hus:Zva (ZO ob) (evL tm x)=us)
  (k:GoL P ops draw (i+1) L (acc ++ [(ZN (mkS tm ob ng) ⟨d,.slice T x lo hi none,ty,pos,after,gd⟩,us.map (·.1))]) (mkS (ZbZ d (.sl (R.map f)) tm) (us.reverse++ob) ng) K):GoL P ops draw i (⟨d,.slice T x lo hi none,ty,pos,after,gd⟩::L) acc (mkS tm ob ng) K:=by
 obtain ⟨h0,h1,h2,rfl⟩:=Zwj hs
 refine Zxf (l:=l.toNat) (h:=h.toNat) hw hx (Zzj hlo h0) (by rw [List.length_map];exact Zzk hhi (by omega)) (by omega) (by rw [List.length_map];omega) (Zry hf M) hus ?_ k
 rw [List.map_take,List.map_drop]
theorem ZuX (hT:P.underlying T=some .string) {lo hi:Option Operand} (hw:Zp ops (mkS tm ob ng) ⟨d,.slice T x lo hi none,ty,pos,after,gd⟩=some true) {a b:ByteArray} {l h:Int} (hs:Zge a l h=some b) (hx:evL tm x = .str a) (hlo:loI tm lo=some l) (hhi:hiI tm a.size hi=some h)
  (k:GoL P ops draw (i+1) L (acc ++ [(ZN (mkS tm ob ng) ⟨d,.slice T x lo hi none,ty,pos,after,gd⟩,[])]) (mkS (ZbZ d (.str b) tm) ob ng) K):GoL P ops draw i (⟨d,.slice T x lo hi none,ty,pos,after,gd⟩::L) acc (mkS tm ob ng) K:=by
 obtain ⟨h0,h1,h2,h3⟩:=Zwk hs
 exact Zoi hT hw hx (Zzj hlo h0) (Zzk hhi (by omega)) (by omega) (by omega) h3 k
theorem ZuY (hT:P.underlying T=some .string) (hw:Zp ops (mkS tm ob ng) ⟨d,.index T x y,ty,pos,after,gd⟩=some true) {a:ByteArray} {kd:IntKind} {q c:Int} (hn:atS a q=some c) (hx:evL tm x = .str a) (hy:evL tm y = .int kd q)
  (k:GoL P ops draw (i+1) L (acc ++ [(ZN (mkS tm ob ng) ⟨d,.index T x y,ty,pos,after,gd⟩,[])]) (mkS (ZbZ d (.int .u8 c) tm) ob ng) K):GoL P ops draw i (⟨d,.index T x y,ty,pos,after,gd⟩::L) acc (mkS tm ob ng) K:=by
 unfold atS at hn
 split at hn
 ·cases hc:a[q.toNat]? with
  | none=>rw [hc] at hn;cases hn
  | some b=>
    rw [hc] at hn
    injection hn with hn
    subst hn
    exact Zoh hT hw hx (n:=q.toNat) (by rw [hy];congr 1;omega) hc k
 ·cases hn
theorem Zzm (hw:Zp ops (mkS tm ob ng) ⟨d,.binOp .add T x y T',ty,pos,after,gd⟩=some true) {a b c:ByteArray} (hs:Zns a b=some c) (hx:evL tm x = .str a) (hy:evL tm y = .str b)
  (kk:GoL P ops draw (i+1) L (acc ++ [(ZN (mkS tm ob ng) ⟨d,.binOp .add T x y T',ty,pos,after,gd⟩,[])]) (mkS (ZbZ d (.str c) tm) ob ng) K):GoL P ops draw i (⟨d,.binOp .add T x y T',ty,pos,after,gd⟩::L) acc (mkS tm ob ng) K:=by
 unfold Zns at hs
 split at hs
 ·injection hs with hs
  subst hs
  exact Zzw hw hx hy (by assumption) kk
 ·cases hs
theorem Zil {dd:Nat} {E kk by_:Nat} {z:List PV} [Sl P T E kk by_ z] (hw:Zp ops (mkS tm ob ng) ⟨some dd,.call ⟨.builtin .append,#[x,y],#[T,T]⟩,ty,pos,after,gd⟩=some true) {M R:List α} (hs:ZcF by_ [] M=some R) (hf:∀ x,(f x).length=kk) {new:List (List PV)} (hx:evL tm x = .nil) (hy:Zlc (ZO ob) (evL tm y)=some new) (hm:new=M.map f)
  (k:GoL P ops draw (i+1) L (acc ++ [(ZN (mkS tm ob ng) ⟨some dd,.call ⟨.builtin .append,#[x,y],#[T,T]⟩,ty,pos,after,gd⟩,[dd])]) (mkS ((dd,.row dd (ng,i))::tm) ((dd,some ((ng,i),.row E kk false (R.map f)))::ob) ng) K) :
  GoL P ops draw i (⟨some dd,.call ⟨.builtin .append,#[x,y],#[T,T]⟩,ty,pos,after,gd⟩::L) acc (mkS tm ob ng) K:=by
 subst hm
 obtain ⟨h1,h2,rfl⟩:=Zsa hs
 exact ZpP hw hx hy (by simpa using h1) (by simpa using h2) (Zry hf _) k
theorem ZuZ {dd:Nat} {E kk by_:Nat} {z:List PV} [Sl P T E kk by_ z] (hw:Zp ops (mkS tm ob ng) ⟨some dd,.call ⟨.builtin .append,#[x,y],#[T,T]⟩,ty,pos,after,gd⟩=some true) {M0 M R:List α} (hs:ZcF by_ M0 M=some R) (hf:∀ x,(f x).length=kk) {t:Nat} {g:Gen} {sh:Bool} {new:List (List PV)} (hx:evL tm x = .row t g) (ho:Zb5 (ZO ob) t g=some (.row E kk sh (M0.map f))) (hy:Zlc (ZO ob) (evL tm y)=some new) (hm:new=M.map f)
  (k:GoL P ops draw (i+1) L (acc ++ [(ZN (mkS tm ob ng) ⟨some dd,.call ⟨.builtin .append,#[x,y],#[T,T]⟩,ty,pos,after,gd⟩,[t])]) (mkS ((dd,.row t (ng,i))::tm) ((t,some ((ng,i),.row E kk sh (R.map f)))::ob) ng) K) :
  GoL P ops draw i (⟨some dd,.call ⟨.builtin .append,#[x,y],#[T,T]⟩,ty,pos,after,gd⟩::L) acc (mkS tm ob ng) K:=by
 subst hm
 obtain ⟨h1,h2,rfl⟩:=Zsa hs
 exact ZeH hw hx ho hy (by simpa using h1) (by simpa using h2) (Zry hf M) (by rw [← List.map_append];exact k)
theorem Zpa {len:Nat} [h:Ix P T len] (hw:Zp ops (mkS tm ob ng) ⟨d,.index T x y,ty,pos,after,gd⟩=some true) {p:α→PV} {M:List α} {e:α} {cs:List PV} {vs:List Value} {kd:IntKind} {q:Int} (he:atI M q=some e)
  (hx:evL tm x = .agg cs) (hm:cs=M.map p) (hps:ZbL cs=some vs) (hy:evL tm y = .int kd q) (hl:cs.length=len)
  (k:GoL P ops draw (i+1) L (acc ++ [(ZN (mkS tm ob ng) ⟨d,.index T x y,ty,pos,after,gd⟩,[])]) (mkS (ZbZ d (p e) tm) ob ng) K):GoL P ops draw i (⟨d,.index T x y,ty,pos,after,gd⟩::L) acc (mkS tm ob ng) K:=by
 obtain ⟨h0,h1⟩:=ZkT he
 exact ZzO (n:=q.toNat) hw hx hps (by rw [hy];congr 1;omega) hl (by rw [hm];exact Zo8 h1) k
theorem ZwA (hw:Zp ops (mkS tm ob ng) ⟨d,.binOp .rem T x y T',ty,pos,after,gd⟩=some true) {k:IntKind} {a b c:Int} (hs:Zyb k a b=some c) (hx:evL tm x = .int k a) (hy:evL tm y = .int k b)
  (kk:GoL P ops draw (i+1) L (acc ++ [(ZN (mkS tm ob ng) ⟨d,.binOp .rem T x y T',ty,pos,after,gd⟩,[])]) (mkS (ZbZ d (.int k c) tm) ob ng) K):GoL P ops draw i (⟨d,.binOp .rem T x y T',ty,pos,after,gd⟩::L) acc (mkS tm ob ng) K:=by
 unfold Zyb at hs
 split at hs
 ·cases hs
 ·injection hs with hs
  subst hs
  exact Zzy hw hx hy (by assumption) kk
theorem Zzn (hw:Zp ops (mkS tm ob ng) ⟨d,.binOp .quo T x y T',ty,pos,after,gd⟩=some true) {k:IntKind} {a b c:Int} (hs:Zzi k a b=some c) (hx:evL tm x = .int k a) (hy:evL tm y = .int k b)
  (kk:GoL P ops draw (i+1) L (acc ++ [(ZN (mkS tm ob ng) ⟨d,.binOp .quo T x y T',ty,pos,after,gd⟩,[])]) (mkS (ZbZ d (.int k c) tm) ob ng) K):GoL P ops draw i (⟨d,.binOp .quo T x y T',ty,pos,after,gd⟩::L) acc (mkS tm ob ng) K:=by
 unfold Zzi at hs
 split at hs
 ·cases hs
 ·injection hs with hs
  subst hs
  exact Zzz hw hx hy (by assumption) kk
end
section
variable {P:Program} [WInv P] {α:Type} {St:α→Nat→FS} {J:α→Prop} {Q:Ex→FS→Prop} {s:FS} {id:Nat}
theorem Zu0 (h:Q .ret s):Zuf St J Q .ret s:=h
end
class StrT (P:Program) (T:TypeId):Prop where
 eq:P.underlying T=some .string
section
variable {P:Program} [WInv P] {ops:Array Oper} {draw:Bool} {i:Nat} {L:List Oper} {acc:List (List Nat×List Nat)} {K:FS→Prop} {tm:List (Nat×PV)} {ob:List (Nat×Option (Gen×VObj))} {ng:Nat}
 {d:Option Tmp} {ty T T':TypeId} {pos:String} {after:Array Edge} {gd:Option (Nat×Bool)} {x y:Operand} {α:Type} {f:α→List PV}
theorem Zu1 [h:StrT P T] (hw:Zp ops (mkS tm ob ng) ⟨d,.call ⟨.builtin .len,#[x],#[T]⟩,ty,pos,after,gd⟩=some true) {a:ByteArray} (hx:evL tm x = .str a)
  (k:GoL P ops draw (i+1) L (acc ++ [(ZN (mkS tm ob ng) ⟨d,.call ⟨.builtin .len,#[x],#[T]⟩,ty,pos,after,gd⟩,[])]) (mkS (ZbZ d (.int .i64 (a.size:Int)) tm) ob ng) K):GoL P ops draw i (⟨d,.call ⟨.builtin .len,#[x],#[T]⟩,ty,pos,after,gd⟩::L) acc (mkS tm ob ng) K:=ZM h.eq hw hx k
theorem ZZ {dd:Nat} {E kk by_:Nat} {z:List PV} [Sl P T E kk by_ z] {n:Nat} {parts:Array (Nat×Operand)} (M:List α) (hw:Zp ops (mkS tm ob ng) ⟨some dd,.buildSlice T n parts,ty,pos,after,gd⟩=some true) {cs qs:List PV} {us:List (Nat×Option (Gen×VObj))}
  (hf:Zgx (fun i=>some (i * kk,kk)) (List.replicate n z).flatten (evs tm parts.toList)=some cs) (hr:ZfZ (ZO ob) cs=some (qs,us)) (hl:qs.length=n * kk) (hm:n * kk≤16777216) (hc:chunks kk n qs=M.map f)
  (k:GoL P ops draw (i+1) L (acc ++ [(ZN (mkS tm ob ng) ⟨some dd,.buildSlice T n parts,ty,pos,after,gd⟩,us.map (·.1) ++ [dd])]) (mkS ((dd,.row dd (ng,i))::tm) ((dd,some ((ng,i),.row E kk false (M.map f)))::(us.reverse++ob)) ng) K) :
  GoL P ops draw i (⟨some dd,.buildSlice T n parts,ty,pos,after,gd⟩::L) acc (mkS tm ob ng) K:=
 Zk9 hw hf hr hl hm hc (by simpa using k)
end
theorem Zh {p q:Prop} (k:q) (h:q→p:=by
 (intro k)
 (repeat (first
  | refine ZnN rfl rfl rfl ?_
  | refine ZrU rfl (by (conv=>lhs;whnf);try rfl) ?_
  | refine ZlH rfl (by (conv=>lhs;whnf);try rfl) ?_
  | refine Zg1 rfl rfl ?_
  | refine Zsm rfl rfl rfl rfl (by (conv=>lhs;whnf);try rfl) ?_
  | refine Zvm rfl rfl rfl rfl (by (conv=>lhs;whnf);try rfl) ?_
  | refine Zj6 rfl rfl rfl ?_
  | refine ZmC rfl rfl rfl (by (conv=>lhs;whnf);try rfl) (by (conv=>lhs;whnf);try rfl) (by rfl) (by rfl) (Nat.le_of_ble_eq_true rfl) (by (conv=>lhs;whnf);try rfl) ?_
  | refine ZmD rfl rfl ?_
  | refine Zu1 rfl rfl ?_
  | refine Zvn rfl rfl ?_
  | refine ZrV rfl rfl (by (conv=>lhs;whnf);try rfl) ?_
  | refine ZoF rfl rfl rfl ?_
  | refine ZvV rfl (by (conv=>lhs;whnf);try rfl) (by (conv=>lhs;whnf);try rfl) (by rfl) ?_
  | refine ZmB rfl rfl ?_
  | refine Zvy rfl rfl ?_
  | refine Zr3 rfl rfl ?_
  | refine ZkG rfl rfl ?_
  | refine ZrH rfl rfl ?_
  | refine ZrG rfl rfl rfl rfl ?_
  | refine Zn8 ?_
  | refine Zn9 (by kernel_rfl) ?_
  | refine Zor ?_
  | refine ZlB ?_
  | refine Zos ?_
  | refine ZlC ?_
  | refine Zoq ?_
  | refine Zot ?_
  | refine ZjU ?_
  | refine ZrI ?_
  | refine bk_other rfl ?_
  | refine Zou ?_
  | refine ZrJ ?_
  | refine jk_exit ?_
  | refine Zu0 ?_
  | refine pws_label ?_))
 (exact k)):p:=h k
theorem Zs9 {P:Program} [WInv P] {β:Type} {F:Option β} {R:β→PV} {f:FuncId} {fn:Func} {c:Code} {args:List PV} {r:β} (hF:F=some r) (hmix:P.follows .mixedOrders=true) (hf:P.funcs[f]? = some fn) (hg:isGo P f=true) (hb:fn.body=some c) (hok:(decide (args.length≤fn.ntmps)&&Zbq fn.ntmps c)=true)
  (h:∀ r,F=some r→PWs P [c] (Zx9 P fn.results.toList (R r)) (mkS (ZfI 0 args) [] 1)):Zd P f args (R r):=ZbK hmix hf hg hb hok (h r hF)
end VL
end Go.Proofs.YtjoneoobolnnbaaGreatDoor
namespace Go.Proofs.YtjoneoobolnnbaaGreatDoor
namespace VL
open Go.RowKit
def Zub (op:BinOp) (k:IntKind) (a b:Int):Int:=match op with
 | .and=>k.wrap (BitVec.ofInt k.bits a &&& BitVec.ofInt k.bits b).toNat
 | .or=>k.wrap (BitVec.ofInt k.bits a ||| BitVec.ofInt k.bits b).toNat
 | .xor=>k.wrap (BitVec.ofInt k.bits a ^^^ BitVec.ofInt k.bits b).toNat
 | _=>k.wrap (BitVec.ofInt k.bits a &&& ~~~BitVec.ofInt k.bits b).toNat
def Zjf (k:IntKind) (a b:Int):Option Int:=if b<0 then none else some (a.fdiv (2 ^ (min b.toNat k.bits)))
section
variable {P:Program} [WInv P] {ops:Array Oper} {draw:Bool} {i:Nat} {L:List Oper} {acc:List (List Nat×List Nat)} {K:FS→Prop} {tm:List (Nat×PV)} {ob:List (Nat×Option (Gen×VObj))} {ng:Nat}
 {d:Option Tmp} {ty T T':TypeId} {pos:String} {after:Array Edge} {gd:Option (Nat×Bool)} {x y:Operand}
theorem Zj5 (hw:Zp ops (mkS tm ob ng) ⟨d,.binOp .shr T x y T',ty,pos,after,gd⟩=some true) {k k':IntKind} {a b c:Int} (hs:Zjf k a b=some c) (hx:evL tm x = .int k a) (hy:evL tm y = .int k' b)
  (kk:GoL P ops draw (i+1) L (acc ++ [(ZN (mkS tm ob ng) ⟨d,.binOp .shr T x y T',ty,pos,after,gd⟩,[])]) (mkS (ZbZ d (.int k c) tm) ob ng) K):GoL P ops draw i (⟨d,.binOp .shr T x y T',ty,pos,after,gd⟩::L) acc (mkS tm ob ng) K:=by
 unfold Zjf at hs
 split at hs
 ·cases hs
 ·injection hs with hs
  subst hs
  exact ZyC hw hx hy (by assumption) kk
end
theorem Zbx {P:Program} [WInv P] {β:Type} {F:Option β} {R:β→PV} {O:β→List PV} {f:FuncId} {fn:Func} {c:Code} {args:List PV} {j:Nat} {os:List PV} {r:β} (hF:F=some r) (hmix:P.follows .mixedOrders=true) (hf:P.funcs[f]? = some fn) (hg:isGo P f=true) (hb:fn.body=some c) (hok:(decide (args.length≤fn.ntmps)&&Zbq fn.ntmps c)=true)
  (h:∀ r,F=some r→PWs P [c] (Zzv P fn.results.toList (R r) j (O r)) (mkS (ZfI 0 args) [(j,some ((0,j),.box os))] 1)):Contract P f args (some (j,os)) (R r) (O r):=Zob hmix hf hg hb hok (h r hF)
end VL
end Go.Proofs.YtjoneoobolnnbaaGreatDoor
namespace Go.Proofs.YtjoneoobolnnbaaGreatDoor
namespace VL
open Go.RowKit
theorem Zg {n:Int} (h1 : -9223372036854775808≤n) (h2:n≤9223372036854775807):w64 n=n:=by
 show IntKind.wrap .i64 n=n
 rw [IntKind.wrap_i64]
 omega
theorem ZbX {α:Type} {l:List α} {n:Nat} {e:α} (h:l[n]? = some e):atI l (n:Int)=some e:=by rw [Zgd,h]
theorem ZxS {α:Type} {w:Nat} {a b:List α} (h:(a.length+b.length) * w≤140737488355328) (h2:a.length+b.length≤9223372036854775807):ZcF w a b=some (a++b):=by
 unfold ZcF
 rw [if_pos ⟨h,h2⟩]
theorem ZuJ {α:Type} {w:Nat} {a b:List α} (n:Nat) (h:a.length+b.length≤n) (h2:n * w≤140737488355328) (h3:n≤9223372036854775807):ZcF w a b=some (a++b):=
 ZxS (Nat.le_trans (Nat.mul_le_mul_right w h) h2) (Nat.le_trans h h3)
theorem ZxT {a b:ByteArray} (h:a.size+b.size≤9223372036854775807):Zns a b=some (a++b):=by
 unfold Zns
 rw [if_pos h]
theorem ZuK {α:Type} {l:List α} {a b:Nat} (h1:a≤b) (h2:b≤l.length):ZjA l (a:Int) (b:Int)=some ((l.drop a).take (b - a)):=by
 unfold ZjA
 rw [if_pos ⟨by omega,by omega,by omega⟩]
 rfl
theorem ZuL {α:Type} {l:List α} {a:Nat} (h2:a≤l.length):ZjA l (a:Int) (l.length:Int)=some (l.drop a):=by
 rw [ZuK h2 (Nat.le_refl _),List.take_of_length_le (by simp)]
theorem ZxU {α:Type} {l:List α} {a:Nat} (h2:a≤l.length):ZjA l 0 (a:Int)=some (l.take a):=by
 rw [show (0:Int)=((0:Nat):Int) from rfl,ZuK (Nat.zero_le _) h2]
 simp
theorem ZnU {s:ByteArray} {n:Nat} (h:n<s.size):atS s (n:Int)=some ((s[n]).toNat:Int):=by
 unfold atS
 rw [if_pos (by omega)]
 simp [h]
theorem Zm0 {α:Type} {l:List α} {n:Nat} {e:α} (h:l[n]? = some e):l.drop n=e::l.drop (n+1):=by
 obtain ⟨hlt,he⟩:=List.getElem?_eq_some_iff.1 h
 rw [List.drop_eq_getElem_cons hlt,he]
end VL
end Go.Proofs.YtjoneoobolnnbaaGreatDoor
namespace Go.Proofs.YtjoneoobolnnbaaGreatDoor
namespace VL
open Go.RowKit
class GlobT (P:Program) [WInv P] (g:Nat) (cs:outParam (List PV)):Prop where
 eq:∀ W,WInv.I P W→∀ (j:Nat) (q:PV),cs[j]? = some q→∃ u,W.cell? ⟨g,j,none⟩=some u∧∀ x:Ctx,Rep x q u
section
variable {P:Program} [WInv P] {ops:Array Oper} {draw:Bool} {i:Nat} {L:List Oper} {acc:List (List Nat×List Nat)} {K:FS→Prop} {tm:List (Nat×PV)} {ob:List (Nat×Option (Gen×VObj))} {ng:Nat}
 {d:Option Tmp} {ty T:TypeId} {pos:String} {after:Array Edge} {gd:Option (Nat×Bool)}
theorem Zwe {g:Nat} {cs:List PV} [hg:GlobT P g cs] {r:Run} {o:Oper} {s:FS} {ti:TI} {p:PV} (ho:o.op = .load T (.global g)) (ht:tyI P T=some ti) (hp:ZmK ti cs=some p) (hI:r.I=WInv.I P):OpOK P r o i s ⟨p,[]⟩:=by
 intro S a x Q hX hi hd
 have hw:WInv.I P x.W:=by rw [← hI];exact hX.inv.1 _ hX.gr
 obtain ⟨v,h1,h2⟩:=ZeZ (x:=x) (b:=g) (off:=0) ht (fun j q hq=>by
  obtain ⟨u,h3,h4⟩:=hg.eq _ hw j q hq
  exact ⟨u,by rw [Nat.zero_add];exact h3,h4 x⟩) hp
 refine Zaf (v:=v) (W':=x.W) ?_ (hX.val hd h2)
 unfold execOp
 rw [ho]
 simp [Act.eval,h1]
theorem ZxY {g:Nat} {cs:List PV} [GlobT P g cs] {agg:Bool} {n:Nat} [h:Ld P T agg n] (hw:Zp ops (mkS tm ob ng) ⟨d,.load T (.global g),ty,pos,after,gd⟩=some true) {v:PV} (hv:Zq1 agg n cs=some v)
  (k:GoL P ops draw (i+1) L (acc ++ [(ZN (mkS tm ob ng) ⟨d,.load T (.global g),ty,pos,after,gd⟩,[])]) (mkS (ZbZ d v tm) ob ng) K):GoL P ops draw i (⟨d,.load T (.global g),ty,pos,after,gd⟩::L) acc (mkS tm ob ng) K:=by
 obtain ⟨ti,ht,h1,h2⟩:=ZoE (P:=P) (T:=T) (agg:=agg) (n:=n)
 refine Zhp (u:=⟨v,[]⟩) (.any hw fun s' r hA hI=>Zwe (cs:=cs) rfl ht (by rw [Zq2 h1 h2];exact hv) hI) ?_
 rw [Zcg]
 exact k
end
def Tot {α:Type} (x:Option α) (Q:α→Prop):Prop:=∃ v,x=some v∧Q v
section
variable {α β γ:Type}
theorem Tot.mono {x:Option α} {Q R:α→Prop} (h:Tot x Q) (g:∀ v,Q v→R v):Tot x R:=by
 obtain ⟨v,h1,h2⟩:=h
 exact ⟨v,h1,g v h2⟩
theorem Zb {v:α} {Q:α→Prop} (h:Q v):Tot (some v) Q:=⟨v,rfl,h⟩
theorem Zf {x:Option α} {f:α→Option β} {Q:α→Prop} {R:β→Prop} (h:Tot x Q) (k:∀ v,Q v→Tot (f v) R):Tot (x.bind f) R:=by
 obtain ⟨v,h1,h2⟩:=h
 obtain ⟨r,h3,h4⟩:=k v h2
 exact ⟨r,by rw [h1];exact h3,h4⟩
theorem Za {x:Option α} {f:α→Option β} {v:α} {R:β→Prop} (h:x=some v) (k:Tot (f v) R):Tot (x.bind f) R:=by
 rw [h];exact k
theorem Zaw {b:Bool} {x y:Option β} {R:β→Prop} (h1:b=true→Tot x R) (h2:b=false→Tot y R):Tot (if b=true then x else y) R:=by
 cases b
 ·exact h2 rfl
 ·exact h1 rfl
theorem Zc {p:Prop} [Decidable p] {x y:Option β} {R:β→Prop} (h1:p→Tot x R) (h2:¬ p→Tot y R):Tot (if decide p=true then x else y) R:=by
 by_cases h:p
 ·rw [if_pos (decide_eq_true h)];exact h1 h
 ·rw [if_neg (by simpa using h)];exact h2 h
theorem ZQ {p:Prop} [Decidable p] {x y:Option β} {R:β→Prop} (h1:¬ p→Tot x R) (h2:p→Tot y R):Tot (if (!decide p)=true then x else y) R:=by
 by_cases h:p
 ·rw [if_neg (by simpa using h)];exact h2 h
 ·rw [if_pos (by simpa using h)];exact h1 h
theorem Zx {k:γ} {f:γ→Option β} {R:β→Prop} (S:γ→Prop) (hk:S k) (hf:∀ q,S q→Tot (f q) R):Tot (letk k f) R:=hf k hk
theorem ZJ {k:γ} {f:γ→Option β} {R:β→Prop} (h:Tot (f k) R):Tot (letk k f) R:=h
theorem Zj {F:(α→Option β)→α→Option β} {a:α} {R:β→Prop} (J:α→Prop) (m:α→Nat) (h0:J a) (hm:m a≤4611686018427387900) (h:∀ a rec,J a→(∀ a',J a'→m a'<m a→Tot (rec a') R)→Tot (F rec a) R):Tot (ZE Zaj F a) R:=
 Zrx J m R h Zaj a h0 (by unfold Zaj;omega)
theorem Zl {l:List α} {i:Int} {f:α→Option β} {R:β→Prop} (h0:0≤i) (h1:i<(l.length:Int)) (k:∀ e,e ∈ l→l[i.toNat]? = some e→Tot (f e) R):Tot ((atI l i).bind f) R:=by
 obtain ⟨n,rfl⟩:∃ n:Nat,i=(n:Int):=⟨i.toNat,by omega⟩
 have hl:n<l.length:=by omega
 have e:l[n]? = some l[n]:=List.getElem?_eq_getElem hl
 refine Za (v:=l[n]) (ZbX e) (k _ (List.getElem_mem hl) (by simp))
theorem Zfc {l:List α} {a b:Int} {f:List α→Option β} {R:β→Prop} (h0:0≤a) (h1:a≤b) (h2:b≤(l.length:Int)) (k:∀ m:List α,m=(l.drop a.toNat).take (b.toNat - a.toNat)→(m.length:Int)=b - a→Tot (f m) R):Tot ((ZjA l a b).bind f) R:=by
 refine Za (v:=(l.drop a.toNat).take (b.toNat - a.toNat)) (by unfold ZjA;rw [if_pos ⟨h0,h1,h2⟩]) (k _ rfl ?_)
 simp
 omega
theorem ZK {w:Nat} {a b:List α} {f:List α→Option β} {R:β→Prop} (n:Nat) (h:a.length+b.length≤n) (h2:n * w≤140737488355328) (h3:n≤9223372036854775807) (k:Tot (f (a++b)) R):Tot ((ZcF w a b).bind f) R:=
 Za (ZuJ n h h2 h3) k
theorem Zf2 {a b:ByteArray} {f:ByteArray→Option β} {R:β→Prop} (h:a.size+b.size≤9223372036854775807) (k:(a++b).size=a.size+b.size→Tot (f (a++b)) R):Tot ((Zns a b).bind f) R:=
 Za (ZxT h) (k (by rw [ByteArray.size_append]))
theorem Zr8 {k:IntKind} {a b:Int} {f:Int→Option β} {R:β→Prop} (h:b≠0) (g:Tot (f (Int.tmod a b)) R):Tot ((Zyb k a b).bind f) R:=
 Za (by unfold Zyb;rw [if_neg h]) g
theorem Zwf {k:IntKind} {a b:Int} {f:Int→Option β} {R:β→Prop} (h:b≠0) (g:Tot (f (k.wrap (Int.tdiv a b))) R):Tot ((Zzi k a b).bind f) R:=
 Za (by unfold Zzi;rw [if_neg h]) g
theorem Zkn {k:IntKind} {a b:Int} {f:Int→Option β} {R:β→Prop} (h:0≤b) (g:Tot (f (a.fdiv (2 ^ (min b.toNat k.bits)))) R):Tot ((Zjf k a b).bind f) R:=
 Za (by unfold Zjf;rw [if_neg (by omega)]) g
end
end VL
end Go.Proofs.YtjoneoobolnnbaaGreatDoor
namespace Go.Proofs.YtjoneoobolnnbaaGreatDoor
namespace VL
open Go.RowKit
theorem Zmm {h:PV→Option PV}:∀ {a b a' b':List PV},ZiX h a=some a'→ZiX h b=some b'→ZiX h (a++b)=some (a'++b')
 | [],b,a',b',h1,h2=>by
   injection h1 with h1
   subst h1
   exact h2
 | p::ps,b,a',b',h1,h2=>by
   simp only [ZiX] at h1
   split at h1
   ·rename_i q qs e1 e2
    injection h1 with h1
    subst h1
    show (match h p,ZiX h (ps++b) with
     | some q,some qs=>some (q::qs)
     | _,_=>none)=_
    rw [e1,Zmm e2 h2]
    rfl
   ·cases h1
theorem Zmn {f:Nat→Option (Gen×VObj)}:∀ (L:List (List PV)),ZiX (Zqi f) (L.map PV.cel)=some (L.map PV.cel)
 | []=>rfl
 | cs::L=>by
   show (match Zqi f (.cel cs),ZiX (Zqi f) (L.map PV.cel) with
    | some q,some qs=>some (q::qs)
    | _,_=>none)=_
   rw [Zmn L]
   rfl
section
variable {P:Program} [WInv P] {ops:Array Oper} {draw:Bool} {i:Nat} {L:List Oper} {acc:List (List Nat×List Nat)} {K:FS→Prop} {tm:List (Nat×PV)} {ob:List (Nat×Option (Gen×VObj))} {ng:Nat}
 {d:Option Tmp} {ty:TypeId} {pos:String} {after:Array Edge} {gd:Option (Nat×Bool)}
theorem ZgX {e:Operand} {f:FuncId} {Lc:List (List PV)} {es:Array Operand} {ts:Array TypeId} {args1:List PV} {res:PV} (hc:Contract P f (args1++Lc.map .cel) none res []) (hw:Zp ops (mkS tm ob ng) ⟨d,.call ⟨.value e,es,ts⟩,ty,pos,after,gd⟩=some true)
  (hf:evL tm e = .fn f (Lc.map .cel)) (ha:ZiX (frz (ZO ob)) (es.toList.map (evL tm))=some args1) (hp:res.dry=true)
  (k:GoL P ops draw (i+1) L (acc ++ [(ZN (mkS tm ob ng) ⟨d,.call ⟨.value e,es,ts⟩,ty,pos,after,gd⟩,[])]) (mkS (ZbZ d res tm) ob ng) K):GoL P ops draw i (⟨d,.call ⟨.value e,es,ts⟩,ty,pos,after,gd⟩::L) acc (mkS tm ob ng) K:=
 ZtH hc hw hf ha (Zmn Lc) hp k
theorem Zt0 {f g:FuncId} {Lc:List (List PV)} {es:Array Operand} {ts:Array TypeId} {pre pre':List PV} {res:PV} (hc:Contract P f (pre' ++ [.fn g (Lc.map .cel)]) none res []) (hw:Zp ops (mkS tm ob ng) ⟨d,.call ⟨.value (.func f),es,ts⟩,ty,pos,after,gd⟩=some true)
  (he:es.toList.map (evL tm)=pre ++ [.fn g (Lc.map .cel)]) (ha:ZiX (frz (ZO ob)) pre=some pre') (hp:res.dry=true)
  (k:GoL P ops draw (i+1) L (acc ++ [(ZN (mkS tm ob ng) ⟨d,.call ⟨.value (.func f),es,ts⟩,ty,pos,after,gd⟩,[])]) (mkS (ZbZ d res tm) ob ng) K):GoL P ops draw i (⟨d,.call ⟨.value (.func f),es,ts⟩,ty,pos,after,gd⟩::L) acc (mkS tm ob ng) K:=by
 refine ZjO hc hw ?_ hp k
 rw [he]
 refine Zmm ha ?_
 show (match (ZiX (Zqi (ZO ob)) (Lc.map .cel)).map (PV.fn g),(some []:Option (List PV)) with
  | some q,some qs=>some (q::qs)
  | _,_=>none)=_
 rw [Zmn]
 rfl
end
theorem Zjd {P:Program} [WInv P] {β:Type} {F:Option β} {O:β→VObj} {f:FuncId} {fn:Func} {c:Code} {args:List PV} {r:β} (hF:F=some r) (hmix:P.follows .mixedOrders=true) (hf:P.funcs[f]? = some fn) (hg:isGo P f=true) (hb:fn.body=some c) (hok:(decide (args.length≤fn.ntmps)&&Zbq fn.ntmps c)=true)
  (h:∀ r,F=some r→PWs P [c] (Zzx P fn.results.toList (O r)) (mkS (ZfI 0 args) [] 1)):ContractN P f args (O r):=Zom hmix hf hg hb hok (h r hF)
theorem ZbP {P:Program} [WInv P] {β:Type} {F:Option β} {R:β→PV} {O:β→List OC} {f:FuncId} {fn:Func} {c:Code} {args:List PV} {oc:List OC} {r:β} (hF:F=some r) (hmix:P.follows .mixedOrders=true) (hf:P.funcs[f]? = some fn) (hg:isGo P f=true) (hb:fn.body=some c) (hok:(decide (args.length≤fn.ntmps)&&Zbq fn.ntmps c&&decide (0<1000))=true) (hd:(R r).dry=true)
  (h:∀ r,F=some r→PWs P [c] (Zyy P fn.results.toList (R r) 0 (O r)) (mkS (ZfI 0 args) ((0,some ((0,0),.box (Zbn κ0 ν0 0 oc)))::ZfB κ0 ν0 0 oc) 1)):ContractP P f args 0 oc (R r) (O r):=Zoe hmix hf hg hb hok hd (h r hF)
theorem Zc6 {P:Program} {s:FS} {rs:List ResultVar} {res:PV} {j:Nat} {oc':List OC} {ps cs:List PV} {oq:List (Nat×Gen×OC)} (h1:Zgt P s rs=some ps) (h2:Zf8 ps=res) (h3:s.ob j=some ((0,j),.box cs)) (h4:Zta s.ob cs=some oq) (h5:okK j oq=true) (h6:oq.map (·.2.2)=oc'):Zyy P rs res j oc' .normal s:=⟨ps,cs,oq,h1,h2,h3,h4,h5,h6⟩
end VL
end Go.Proofs.YtjoneoobolnnbaaGreatDoor
set_option linter.unusedVariables false
set_option maxHeartbeats 4000000
set_option maxRecDepth 100000
namespace Go.Proofs.YtjoneoobolnnbaaGreatDoor
open VL
instance:VL.StrT Tryz.prog 9:=⟨by kernel_rfl⟩
structure SrcF where
 l:List Int
 pos:Int
 seed:Int
def SrcF.cs (x:SrcF):List PV:=[.sl (List.map csI x.l),.int .i64 x.pos,.int .u64 x.seed]
structure Item where
 title:Title
 number:Int
 user:ByteArray
 note:ByteArray
 minute:Int
 deriving DecidableEq
def Item.cs (x:Item):List PV:=[.int .i64 x.title.space,.str x.title.name,.int .i64 x.number,.str x.user,.str x.note,.int .i64 x.minute]
structure Num where
 item:Item
 seq:Int
def Num.cs (x:Num):List PV:=[.int .i64 x.item.title.space,.str x.item.title.name,.int .i64 x.item.number,.str x.item.user,.str x.item.note,.int .i64 x.item.minute,.int .i64 x.seq]
def Num.pv (x:Num):PV:=.agg x.cs
structure Edit where
 kind:Int
 lines:List ByteArray
def Edit.cs (x:Edit):List PV:=[.int .i64 x.kind,.sl (List.map csS x.lines)]
structure Script where
 edits:List Edit
 deleted:List ByteArray
 insert:List ByteArray
 kept:List ByteArray
instance:VL.GlobT Tryz.prog 0 [.int .i64 5,.str ⟨#[80,111,108,105,99,121]⟩]:=⟨fun W h j q hq=>by
 match j,hq with
 | 0,hq=>injection hq with hq;subst hq;exact ⟨_,h.2.1,fun _=>.int _ _⟩
 | 1,hq=>injection hq with hq;subst hq;exact ⟨_,h.2.2,fun _=>.str _⟩
 | j+2,hq=>simp at hq⟩
end Go.Proofs.YtjoneoobolnnbaaGreatDoor
