/- What holds of a function's result if it returns one; a change leaves the pages of other titles as they are. No program is named. | Functions of the program as Lean functions. Written by fxgen.py. | ProjectHidden: what the law computes is true. No program is named. | ProjectHidden in worlds: whatever the lists and the numbers, the law returns true. -/
import Derived.Test.YtphibahplgmgfaaGreatDoorPB27
import Derived.Test.YtphibahplgmgfaaGreatDoorPB29
import Derived.Test.YtphibahplgmgfaaGreatDoorPB26
import Derived.Test.YtphibahplgmgfaaGreatDoorPB08
import Derived.Test.YtphibahplgmgfaaGreatDoorPB30
namespace Go.Proofs.YtphibahplgmgfaaGreatDoor
open VL
set_option linter.unusedVariables false
def Par {α:Type} (x:Option α) (Q:α→Prop):Prop:=∀ v,x=some v→Q v
section
variable {α β γ:Type}
theorem tot_par {x:Option α} {Q:α→Prop} (h:Tot x Q):Par x Q:=fun v e=>by
 obtain ⟨w,h1,h2⟩:=h
 rw [h1] at e
 injection e with e
 rw [← e]
 exact h2
theorem par_some {v:α} {Q:α→Prop} (h:Q v):Par (some v) Q:=fun w e=>by
 injection e with e
 rw [← e]
 exact h
theorem par_bind {x:Option α} {f:α→Option β} {Q:α→Prop} {R:β→Prop} (h:Par x Q) (k:∀ v,Q v→Par (f v) R):Par (x.bind f) R:=fun w e=>by
 cases x with
 | none=>cases e
 | some v=>exact k v (h v rfl) w e
theorem par_any {x:Option α} {f:α→Option β} {R:β→Prop} (k:∀ v,x=some v→Par (f v) R):Par (x.bind f) R:=par_bind (Q:=fun v=>x=some v) (fun _ e=>e) k
theorem par_if {b:Bool} {x y:Option β} {R:β→Prop} (h1:b=true→Par x R) (h2:b=false→Par y R):Par (if b=true then x else y) R:=by
 cases b
 ·exact h2 rfl
 ·exact h1 rfl
theorem par_ifD {p:Prop} [Decidable p] {x y:Option β} {R:β→Prop} (h1:p→Par x R) (h2:¬ p→Par y R):Par (if decide p=true then x else y) R:=
 par_if (fun e=>h1 (of_decide_eq_true e)) fun e=>h2 (of_decide_eq_false e)
theorem par_let {k:γ} {f:γ→Option β} {R:β→Prop} (S:γ→Prop) (hk:S k) (hf:∀ q,S q→Par (f q) R):Par (letk k f) R:=hf k hk
theorem par_at {l:List α} {i:Int} {f:α→Option β} {R:β→Prop} (k:∀ e,l[i.toNat]? = some e→Par (f e) R):Par ((atI l i).bind f) R:=par_any fun e he=>k e (atI_get he).2
theorem par_app {w:Nat} {a b:List α} {f:List α→Option β} {R:β→Prop} (k:Par (f (a++b)) R):Par ((appL w a b).bind f) R:=par_any fun v hv=>by
 unfold appL at hv
 split at hv
 ·injection hv with hv
  rw [← hv]
  exact k
 ·cases hv
theorem par_fix {F:(α→Option β)→α→Option β} {R:β→Prop} (J:α→Prop) (h:∀ a rec,J a→(∀ a',J a'→Par (rec a') R)→Par (F rec a) R):∀ (n:Nat) (a:α),J a→Par (fixN n F a) R
 | 0,_,_=>fun _ e=>by cases e
 | n+1,a,ha=>h a _ ha fun a' ha'=>par_fix J h n a' ha'
end
def Fr (q:Title→Bool) (s:State) (r:State×Int):Prop:=r.2=0→r.1.clock=s.clock∧r.1.pages.filter (fun p=>q p.title)=s.pages.filter (fun p=>q p.title)
theorem fr_err {q:Title→Bool} {s s':State} {e:Int} (h:e≠0):Fr q s (s',e):=fun h'=>absurd h' h
theorem fr_same {q:Title→Bool} {s:State} {r:State×Int} (h1:r.1.clock=s.clock) (h2:r.1.pages=s.pages):Fr q s r:=fun _=>⟨h1,by rw [h2]⟩
theorem filt_ins {q:Title→Bool} (l:List Stored) (p:Stored) (n:Nat) (h:q p.title=false):(l.take n++p::l.drop n).filter (fun p=>q p.title)=l.filter (fun p=>q p.title):=by
 rw [List.filter_append,List.filter_cons_of_neg (by simp [h]),← List.filter_append,List.take_append_drop]
theorem filt_out {q:Title→Bool} {l:List Stored} {p:Stored} {n:Nat} (hn:l[n]? = some p) (h:q p.title=false):(l.take n++l.drop (n+1)).filter (fun p=>q p.title)=l.filter (fun p=>q p.title):=by
 obtain ⟨hl,rfl⟩:=List.getElem?_eq_some_iff.1 hn
 conv=>rhs;rw [← List.take_append_drop n l,List.drop_eq_getElem_cons hl]
 rw [List.filter_append,List.filter_append,List.filter_cons_of_neg (by simp [h])]
theorem filt_set {q:Title→Bool} {l:List Stored} {p p':Stored} {n:Nat} (hn:l[n]? = some p) (h:q p.title=false) (h':q p'.title=false):(l.set n p').filter (fun p=>q p.title)=l.filter (fun p=>q p.title):=by
 obtain ⟨hl,rfl⟩:=List.getElem?_eq_some_iff.1 hn
 rw [List.set_eq_take_append_cons_drop,if_pos hl,List.filter_append,List.filter_cons_of_neg (by simp [h']),← List.filter_append,filt_out hn h]
theorem fr_put {q:Title→Bool} {s:State} {c:Change} {z:Int} (hl:s.pages.length≤1000000) (h:q c.title=false):Par (r27_put s c z) (Fr q s):=by
 unfold r27_put
 refine par_bind (tot_par (find_t s.pages c.title hl)) fun r hr=>?_
 refine par_ifD (fun h0=>?_) fun h0=>?_
 ·refine par_ifD (fun _=>par_some (fr_err (by decide))) fun _=>?_
  refine par_bind (tot_par (insert_t s.pages _ hl)) fun r hr=>?_
  obtain ⟨n,_,rfl,_,_⟩:=hr
  exact par_some fun _=>⟨rfl,filt_ins _ _ _ h⟩
 ·rcases hr with ⟨rfl,_⟩ | ⟨n,p,rfl,hn,ht⟩
  ·exact absurd (by decide) h0
  refine par_at fun e he=>?_
  refine par_ifD (fun _=>par_some (fr_err (by decide))) fun _=>?_
  refine par_app ?_
  refine par_app ?_
  refine par_app ?_
  refine par_at fun e' he'=>?_
  rw [nil_app] at he' ⊢
  have e1:e'=p:=by
   rw [Int.toNat_natCast,hn] at he'
   injection he' with he'
   exact he'.symm
  subst e1
  refine par_some fun _=>⟨rfl,?_⟩
  unfold setI
  exact filt_set hn (by rw [ht];exact h) (by rw [ht];exact h)
theorem fr_remove {q:Title→Bool} {s:State} {c:Change} (hl:s.pages.length≤1000000) (h:q c.title=false):Par (r27_remove s c) (Fr q s):=by
 unfold r27_remove
 refine par_bind (tot_par (find_t s.pages c.title hl)) fun r hr=>?_
 refine par_ifD (fun h0=>par_some (fr_err (by decide))) fun h0=>?_
 rcases hr with ⟨rfl,_⟩ | ⟨n,p,rfl,hn,ht⟩
 ·exact absurd (by decide) h0
 refine par_ifD (fun _=>par_some (fr_err (by decide))) fun _=>?_
 refine par_app ?_
 refine par_at fun e he=>?_
 refine par_app ?_
 refine par_any fun w hw=>?_
 rw [without_e s.pages n (List.getElem?_eq_some_iff.1 hn).1 hl] at hw
 injection hw with hw
 subst hw
 refine par_any fun d hd=>?_
 exact par_some fun _=>⟨rfl,filt_out hn (by rw [ht];exact h)⟩
theorem fr_restore {q:Title→Bool} {s:State} {c:Change} (hl:s.pages.length≤1000000) (hg:s.gone.length≤1000000) (h:q c.title=false):Par (r27_restore s c) (Fr q s):=by
 unfold r27_restore
 refine par_bind (tot_par (lastGone_t s c.title hg)) fun g hg=>?_
 refine par_any fun r _=>?_
 refine par_ifD (fun _=>par_some (fr_err (by decide))) fun _=>?_
 refine par_ifD (fun _=>par_some (fr_err (by decide))) fun h0=>?_
 rcases hg with rfl | ⟨n,p,rfl,hn,ht⟩
 ·exact absurd (by decide) h0
 refine par_ifD (fun _=>par_some (fr_err (by decide))) fun _=>?_
 refine par_at fun e he=>?_
 rw [Int.toNat_natCast,hn] at he
 injection he with he
 subst he
 refine par_bind (tot_par (insert_t s.pages _ hl)) fun r hr=>?_
 obtain ⟨n,_,rfl,_,_⟩:=hr
 refine par_any fun _ _=>?_
 exact par_some fun _=>⟨rfl,filt_ins _ _ _ (by rw [ht];exact h)⟩
theorem fr_take {q:Title→Bool} {s:State} {c:Change} {z:Int} (hl:s.pages.length≤1000000) (h:q c.title=false):Par (r27_take s c z) (Fr q s):=by
 unfold r27_take
 refine par_any fun r _=>?_
 refine par_ifD (fun _=>par_some (fr_err (by decide))) fun _=>?_
 refine par_at fun e he=>?_
 refine par_ifD (fun _=>par_some (fr_err (by decide))) fun _=>?_
 refine par_ifD (fun _=>par_some (fr_err (by decide))) fun _=>?_
 refine par_app ?_
 refine par_fix (fun _=>True) (fun a rec _ ih=>?_) _ _ trivial
 refine par_ifD (fun _=>par_at fun e he=>ih _ trivial) fun _=>?_
 refine par_bind (tot_par (insert_t s.pages _ hl)) fun r hr=>?_
 obtain ⟨n,_,rfl,_,_⟩:=hr
 exact par_some fun _=>⟨rfl,filt_ins _ _ _ h⟩
theorem fr_move {q:Title→Bool} {s:State} {c:Change} {z:Int} (hl:s.pages.length≤200) (h:q c.title=false) (h':q c.to=false):Par (r27_move s c z) (Fr q s):=by
 unfold r27_move
 refine par_bind (tot_par (find_t s.pages c.title (by omega))) fun r hr=>?_
 refine par_ifD (fun h0=>par_some (fr_err (by decide))) fun h0=>?_
 rcases hr with ⟨rfl,_⟩ | ⟨n,p,rfl,hn,ht⟩
 ·exact absurd (by decide) h0
 have hln:=(List.getElem?_eq_some_iff.1 hn).1
 refine par_any fun r _=>?_
 refine par_ifD (fun _=>par_some (fr_err (by decide))) fun _=>?_
 refine par_let (fun k=>∀ b,Par (k b) (Fr q s)) (fun b=>?_) fun k hk=>?_
 ·refine par_if (fun _=>par_some (fr_err (by decide))) fun _=>?_
  refine par_at fun e he=>?_
  refine par_any fun w hw=>?_
  rw [without_e s.pages n hln (by omega)] at hw
  injection hw with hw
  subst hw
  have hwl:(s.pages.take n++s.pages.drop (n+1)).length≤200:=by simp;omega
  have hwf:=filt_out (q:=q) hn (by rw [ht];exact h)
  refine par_bind (tot_par (insert_t _ _ (by omega))) fun w2 hw2=>?_
  obtain ⟨n2,hn2,rfl,_,_⟩:=hw2
  have hl2:(List.take n2 (s.pages.take n++s.pages.drop (n+1))++(⟨c.to,e.history⟩:Stored)::List.drop n2 (s.pages.take n++s.pages.drop (n+1))).length≤1000000:=by
   rw [List.length_append,List.length_cons,List.length_take,List.length_drop]
   omega
  have hf2:=filt_ins (q:=q) (s.pages.take n++s.pages.drop (n+1)) (⟨c.to,e.history⟩:Stored) n2 h'
  rw [hwf] at hf2
  refine par_let (fun k=>∀ l:List Stored,l.filter (fun p=>q p.title)=s.pages.filter (fun p=>q p.title)→Par (k l) (Fr q s)) (fun l e=>par_any fun d _=>par_some fun _=>⟨rfl,e⟩) fun k hk=>?_
  refine par_ifD (fun _=>?_) fun _=>hk _ hf2
  refine par_any fun x _=>?_
  refine par_bind (tot_par (insert_t _ _ hl2)) fun w3 hw3=>?_
  obtain ⟨n3,hn3,rfl,_,_⟩:=hw3
  exact hk _ ((filt_ins _ _ _ h).trans hf2)
 ·exact par_ifD (fun _=>hk _) fun _=>hk _
theorem fr_watch {q:Title→Bool} {s:State} {c:Change}:Par (r27_watch s c) (Fr q s):=by
 unfold r27_watch
 refine par_fix (fun _=>True) (fun a rec _ ih=>?_) _ _ trivial
 refine par_let (fun k=>∀ b,Par (k b) (Fr q s)) (fun b=>?_) fun k hk=>?_
 ·refine par_if (fun _=>par_any fun _ _=>par_any fun _ _=>ih _ trivial) fun _=>?_
  refine par_let (fun k=>∀ b,Par (k b) (Fr q s)) (fun b=>?_) fun k hk=>?_
  ·refine par_ifD (fun _=>?_) fun _=>?_
   ·refine par_if (fun _=>par_some (fr_err (by decide))) fun _=>?_
    exact par_any fun _ _=>par_any fun _ _=>par_some (fr_same rfl rfl)
   ·refine par_if (fun _=>par_some (fr_err (by decide))) fun _=>?_
    refine par_ifD (fun _=>par_some (fr_err (by decide))) fun _=>?_
    exact par_any fun _ _=>par_any fun _ _=>par_any fun _ _=>par_some (fr_same rfl rfl)
  ·exact par_ifD (fun _=>par_any fun _ _=>hk _) fun _=>hk _
 ·exact par_ifD (fun _=>par_any fun _ _=>par_any fun _ _=>hk _) fun _=>hk _
theorem fr_noted {q:Title→Bool} {s:State} {u:ByteArray} {z:Int}:Par (r27_noted s u z) (Fr q s):=by
 unfold r27_noted
 refine par_ifD (fun _=>par_some (fr_same rfl rfl)) fun _=>?_
 refine par_fix (fun _=>True) (fun a rec _ ih=>?_) _ _ trivial
 refine par_let (fun k=>∀ b,Par (k b) (Fr q s)) (fun b=>?_) fun k hk=>?_
 ·refine par_if (fun _=>par_any fun _ _=>par_any fun _ _=>ih _ trivial) fun _=>?_
  refine par_let (fun k=>∀ b,Par (k b) (Fr q s)) (fun b=>?_) fun k hk=>?_
  ·refine par_let (fun k=>∀ b,Par (k b) (Fr q s)) (fun b2=>?_) fun k hk=>?_
   ·refine par_if (fun _=>par_some (fr_err (by decide))) fun _=>?_
    refine par_any fun _ _=>?_
    refine par_let (fun k=>∀ b,Par (k b) (Fr q s)) (fun b3=>par_any fun _ _=>par_any fun _ _=>par_some (fr_same rfl rfl)) fun k hk=>?_
    exact par_if (fun _=>hk _) fun _=>hk _
   ·exact par_if (fun _=>hk _) fun _=>hk _
  ·exact par_ifD (fun _=>par_any fun _ _=>hk _) fun _=>hk _
 ·exact par_ifD (fun _=>par_any fun _ _=>hk _) fun _=>hk _
theorem fr_propose {q:Title→Bool} {s:State} {c:Change}:Par (r27_propose s c) (Fr q s):=by
 unfold r27_propose
 refine par_let (fun k=>∀ b,Par (k b) (Fr q s)) (fun b=>?_) fun k hk=>?_
 ·exact par_if (fun _=>par_some (fr_err (by decide))) fun _=>par_any fun _ _=>par_any fun _ _=>par_some (fr_same rfl rfl)
 ·exact par_ifD (fun _=>hk _) fun _=>hk _
theorem fr_shut {q:Title→Bool} {s:State} {c:Change} (hl:s.proposals.length≤1000000):Par (r27_shut s c) (Fr q s):=fun v e h0=>by
 obtain ⟨l,_,h⟩:=tot_par (shut_t s c hl) v e h0
 rw [h]
 exact ⟨rfl,rfl⟩
theorem tot_and {α:Type} {x:Option α} {Q R:α→Prop} (h:Tot x Q) (g:Par x R):Tot x fun v=>Q v∧R v:=by
 obtain ⟨v,h1,h2⟩:=h
 exact ⟨v,h1,h2,g v h1⟩
theorem fr_kind {t0:ByteArray} {q:Title→Bool} {s:State} {c:Change} {z y:Int} (hv:VS t0 y s) (h6:c.kind≠6) (h:c.kind≠10→q c.title=false) (h':c.kind=4→q c.to=false):Par (r27_kind s c z) (Fr q s):=by
 have hp:=hv.plen
 have hg:=hv.glen
 have hpr:=hv.prlen
 have un:∀ {x:Option (State×Int)},Par x (Fr q s)→Par (x.bind fun r=>(some (r.1,r.2):Option (State×Int))) (Fr q s):=fun hx=>par_bind hx fun v hv=>par_some hv
 unfold r27_kind
 refine par_ifD (fun e=>un (fr_put (by omega) (h (by omega)))) fun e1=>?_
 refine par_ifD (fun e=>un (fr_remove (by omega) (h (by omega)))) fun e2=>?_
 refine par_ifD (fun e=>un (fr_restore (by omega) (by omega) (h (by omega)))) fun e3=>?_
 refine par_ifD (fun e=>un (fr_move hp (h (by omega)) (h' e))) fun e4=>?_
 refine par_ifD (fun e=>un (fr_take (by omega) (h (by omega)))) fun e5=>?_
 refine par_ifD (fun e=>absurd e h6) fun _=>?_
 refine par_let (fun k=>∀ b,Par (k b) (Fr q s)) (fun b=>?_) fun k hk=>?_
 ·refine par_if (fun _=>un fr_watch) fun _=>?_
  refine par_ifD (fun _=>un fr_propose) fun _=>?_
  exact un (fr_shut (by omega))
 ·exact par_ifD (fun _=>hk _) fun _=>hk _
theorem apply_fr {t0:ByteArray} {s:State} {l:List Change} {q:Title→Bool} (h:VS t0 s.seq s) (hs:s.seq<1073741824) (hp:∃ p n,r12_Parse t0=some (p,n,0)) (hl:∀ c ∈ l,c.tame) (hn:l.length≤16)
  (hq:∀ c ∈ l,c.kind≠6∧(c.kind≠10→q c.title=false)∧(c.kind=4→q c.to=false)):Par (r27_Apply s l) fun r=>r.2=0→r.1.clock=s.clock∧r.1.pages.filter (fun p=>q p.title)=s.pages.filter (fun p=>q p.title):=by
 have s0:=h.seq0
 refine tot_par ?_
 unfold r27_Apply
 refine tot_bindE (valid_e t0 s h (by omega) hp) ?_
 refine tot_ifF rfl ?_
 have e1:w64 (s.seq+1)=s.seq+1:=w64_of (by omega) (by omega)
 refine tot_let (fun k=>Tot (k true) (Fr q s)∧Tot (k false) (Fr q s)) ⟨tot_ifT rfl (tot_some fun e=>by cases e),?_⟩ fun k hk=>?_
 ·refine tot_ifF rfl ?_
  refine tot_loop (fun a:Int×Int×Int×List Stored×List Stored×List Proposal×Int×List Watch×List Last=>∃ n:Nat,a.1=n∧n≤l.length∧VS t0 (s.seq+1) ⟨a.2.1,a.2.2.1,a.2.2.2.1,a.2.2.2.2.1,a.2.2.2.2.2.1,a.2.2.2.2.2.2.1,a.2.2.2.2.2.2.2.1,a.2.2.2.2.2.2.2.2⟩∧a.2.1=s.seq∧a.2.2.1=s.clock∧a.2.2.2.1.filter (fun p=>q p.title)=s.pages.filter (fun p=>q p.title)) (fun a=>((l.length:Int) - a.1).toNat) ⟨0,rfl,Nat.zero_le _,h.mono (by omega),rfl,rfl,rfl⟩ (by first | omega | (dsimp only;omega)) ?_
  rintro ⟨i,sq,cl,pg,gn,pr,pd,wt,ls⟩ rec ⟨n,hi,hn',hV,hsq,hc0,hc1⟩ ih
  dsimp only at hi hV hsq hc0 hc1
  subst hi hsq
  rw [e1]
  refine tot_ifD (fun hlt=>?_) fun hlt=>?_
  ·refine tot_atI (by omega) hlt fun c hcm hg=>?_
   have get:∀ {f:Change→Option (State×Int)} {R:State×Int→Prop},Tot (f c) R→Tot ((atI l (n:Int)).bind f) R:=fun hf=>tot_bindE (atI_some (by simpa using hg)) hf
   have tame:=hl c hcm
   obtain ⟨z1,z2,z3⟩:=hq c hcm
   refine tot_bind (changeV_t c (by have:=tame.hist;omega)) fun e he=>?_
   refine tot_ifN (fun hne=>tot_some fun e0=>absurd e0 hne) fun h0=>?_
   have cv:=he h0
   refine get ?_
   refine tot_bind (tot_and (kind_t hV (by omega) cv tame) (fr_kind hV z1 z2 z3)) fun r hr=>?_
   refine tot_ifN (fun hne=>tot_some fun e0=>absurd e0 hne) fun h0=>?_
   obtain ⟨k1,k2,-,-⟩:=hr.1 h0
   obtain ⟨y1,y2⟩:=hr.2 h0
   refine get ?_
   refine tot_bind (forbidden_t c tame) fun b _=>?_
   refine tot_if (fun _=>tot_some fun e0=>by cases e0) fun _=>?_
   refine get ?_
   refine tot_bind (tot_and (noted_t k1 (by omega) cv.user) (fr_noted (q:=q))) fun r2 hr2=>?_
   refine tot_ifN (fun hne=>tot_some fun e0=>absurd e0 hne) fun h0=>?_
   obtain ⟨m1,m2,-⟩:=hr2.1 h0
   obtain ⟨x1,x2⟩:=hr2.2 h0
   rw [w64_of (by omega) (by omega)]
   refine ih _ ⟨n+1,by dsimp only;omega,by omega,m1,?_,?_,?_⟩ (by first | omega | (dsimp only;omega))
   ·dsimp only at k2 ⊢
    omega
   ·dsimp only at y1 ⊢
    omega
   ·dsimp only at y2 ⊢
    rw [x2,y2,hc1]
  ·exact tot_ifD (fun hc=>absurd hc (by omega)) fun _=>tot_some fun _=>⟨hc0,hc1⟩
 ·refine tot_ifD (fun _=>hk.1) fun h1=>?_
  rw [decide_eq_false (by omega)]
  exact hk.2
end Go.Proofs.YtphibahplgmgfaaGreatDoor
set_option linter.unusedVariables false
set_option maxHeartbeats 4000000
set_option maxRecDepth 100000
namespace Go.Proofs.YtphibahplgmgfaaGreatDoor
open VL
def w31_hides (p0:State) (p1:ByteArray) (p2:List Change):Option Bool:=
 fixN bigN (fun f12 (x82:Int)=>
  if (decide (x82<(p2.length:Int))) then
   (atI p2 x82).bind fun e113=>
   letk (fun (x118:Bool)=>
    if x118 then
     (some false:Option Bool)
    else
    f12 (w64 (x82+1))) fun k14=>
   if (decide (e113.kind=6)) then
    k14 true
   else
   (g2_PolicyPage).bind fun r119=>
   if (decide (e113.title=r119)) then
    k14 true
   else
   if (!decide (e113.kind=10)) then
    (r29_May p0 p1 1 e113.title).bind fun r120=>
    if r120 then
     k14 true
    else
    if (decide (e113.kind=4)) then
     (r29_May p0 p1 1 e113.to).bind fun r121=>
     k14 r121
    else
    k14 false
   else
   if (decide (e113.kind=4)) then
    (r29_May p0 p1 1 e113.to).bind fun r122=>
    k14 r122
   else
   k14 false
  else
  (some true:Option Bool)) 0
theorem w31_hides_c (p0:State) (p1:ByteArray) (p2:List Change) (r:Bool) (hF:w31_hides p0 p1 p2=some r):Contract0 Tryz.prog 35 [p0.pv,.str p1,.sl (List.map Change.cs p2)] (.bool r):=by
 refine cF (fun r=>.bool r) hF mix Tryz.func35 fun r hF=>?_
 unfold w31_hides at hF
 refine runX ?_
 refine rg ?_
 refine rg ?_
 refine bl ?_
 refine fix_elim hF fun f12 mf12 hf12 hF=>?_
 refine pws_loop (α:=Nat×Int) (fun a _=>mkS [(1,.str p1),(2,.sl (List.map Change.cs p2)),(3,.ptr 3 (1,3) 0),(7,.int .i64 a.2)] [(3,some ((1,3),.box [.int .i64 p0.seq,.int .i64 p0.clock,.sl (List.map Stored.cs p0.pages),.sl (List.map Stored.cs p0.gone),.sl (List.map Proposal.cs p0.proposals),.int .i64 p0.proposed,.sl (List.map Watch.cs p0.watches),.sl (List.map Last.cs p0.lasts)]))] 2) (fun a=>fixN a.1 f12 a.2=some r) (fun a=>a.1) (mf12,0) 2 hF (sR [(3,1,0)]) (fun a _ hF=>?_)
 obtain ⟨mf12,x82⟩:=a
 obtain ⟨mf12,rfl,hF⟩:=fix_step hf12 hF
 dsimp only at hF ⊢
 refine runX ?_
 refine rg ?_
 refine g_lenM rfl (M:=p2) (f:=Change.cs) rfl (runX ?_)
 refine cS hF rfl (fun hF=>?_) fun hF=>?_
 ·refine bl ?_
  refine rg ?_
  obtain ⟨e113,h100,hF⟩:=bnd hF
  refine g_indexI (f:=Change.cs) rfl h100 rfl rfl rfl (runX ?_)
  refine jL hF (fun x118=>mkS [(1,.str p1),(2,.sl (List.map Change.cs p2)),(3,.ptr 3 (1,3) 0),(7,.int .i64 x82),(51,.bool x118)] [(3,some ((1,3),.box [.int .i64 p0.seq,.int .i64 p0.clock,.sl (List.map Stored.cs p0.pages),.sl (List.map Stored.cs p0.gone),.sl (List.map Proposal.cs p0.proposals),.int .i64 p0.proposed,.sl (List.map Watch.cs p0.watches),.sl (List.map Last.cs p0.lasts)]))] 2) (fun k14 hF=>?_) fun x118 hF=>?_
  ·refine rg ?_
   refine kS 22 hF rfl (fun hF=>?_) fun hF=>?_
   ·iterate 24 refine g_skip rfl (runX ?_)
    exact jn true hF (sR [(3,1,3)])
   obtain ⟨r119,h105,hF⟩:=bnd hF
   refine g_call (g2_PolicyPage_c _ h105) rfl rfl (runX ?_)
   refine g_eqT (.inl rfl) rfl rfl rfl rfl rfl (fun W=>titleEql e113.title r119 W) (runX ?_)
   refine kS 28 hF rfl (fun hF=>?_) fun hF=>?_
   ·iterate 20 refine g_skip rfl (runX ?_)
    exact jn true hF (sR [(3,1,3)])
   refine kS 32 hF rfl (fun hF=>?_) fun hF=>?_
   ·obtain ⟨r120,h106,hF⟩:=bnd hF
    refine g_call (r29_May_c _ _ _ _ _ h106) rfl rfl (runX ?_)
    refine kS 40 hF rfl (fun hF=>?_) fun hF=>?_
    ·iterate 10 refine g_skip rfl (runX ?_)
     exact jn true hF (sR [(3,1,3)])
    refine kS 44 hF rfl (fun hF=>?_) fun hF=>?_
    ·obtain ⟨r121,h107,hF⟩:=bnd hF
     refine g_call (r29_May_c _ _ _ _ _ h107) rfl rfl (runX ?_)
     exact jn r121 hF (sR [(3,1,3)])
    iterate 5 refine g_skip rfl (runX ?_)
    exact jn false hF (sR [(3,1,3)])
   iterate 5 refine g_skip rfl (runX ?_)
   refine kS 44 hF rfl (fun hF=>?_) fun hF=>?_
   ·obtain ⟨r122,h108,hF⟩:=bnd hF
    refine g_call (r29_May_c _ _ _ _ _ h108) rfl rfl (runX ?_)
    exact jn r122 hF (sR [(3,1,3)])
   iterate 5 refine g_skip rfl (runX ?_)
   exact jn false hF (sR [(3,1,3)])
  refine cS hF rfl (fun hF=>?_) fun hF=>?_
  ·refine rg ?_
   cases hF
   exact rQ
  refine rg ?_
  exact rn (mf12,(w64 (x82+1))) hF (sR [(3,1,3)])
 refine rg ?_
 cases hF
 exact rQ
def w31_ProjectHidden (p0:List Int) (p1:List Int) (p2:Int) (p3:Int):Option Bool:=
 (g2_State p0).bind fun r1=>
 (g2_Users).bind fun r2=>
 (g2_Round p2 4).bind fun r3=>
 (atI r2 r3).bind fun e4=>
 (g2_From p1).bind fun r5=>
 (g2_Changes r5 r1.clock).bind fun r6=>
 (g2_Titles).bind fun r7=>
 (g2_Round p3 8).bind fun r8=>
 (atI r7 r8).bind fun e9=>
 (appL 136 [] [(⟨1,(⟨#[97,110,110]⟩:ByteArray),(⟨#[]⟩:ByteArray),e9,(⟨0,(⟨#[]⟩:ByteArray)⟩:Title),(⟨#[104,105,100,100,101,110]⟩:ByteArray),0,[]⟩:Change)]).bind fun l10=>
 (appL 136 l10 r6.1).bind fun l11=>
 fixN bigN (fun f12 (x101:Int)=>
  if (decide (x101<([r6.1,[(⟨1,(⟨#[97,110,110]⟩:ByteArray),(⟨#[]⟩:ByteArray),e9,(⟨0,(⟨#[]⟩:ByteArray)⟩:Title),(⟨#[104,105,100,100,101,110]⟩:ByteArray),0,[]⟩:Change)],l11].length:Int))) then
   (atI [r6.1,[(⟨1,(⟨#[97,110,110]⟩:ByteArray),(⟨#[]⟩:ByteArray),e9,(⟨0,(⟨#[]⟩:ByteArray)⟩:Title),(⟨#[104,105,100,100,101,110]⟩:ByteArray),0,[]⟩:Change)],l11] x101).bind fun e135=>
   (r27_Apply r1 e135).bind fun r136=>
   letk (fun (x141:Bool)=>
    if x141 then
     (some false:Option Bool)
    else
    f12 (w64 (x101+1))) fun k14=>
   if (decide (r136.2=0)) then
    (w31_hides r1 e4 e135).bind fun r142=>
    if r142 then
     (project_View r1 e4).bind fun r143=>
     (project_View r136.1 e4).bind fun r144=>
     (project_Same r143 r144).bind fun r145=>
     k14 (!r145)
    else
    k14 false
   else
   k14 false
  else
  (w31_awake).bind fun r146=>
  (some r146:Option Bool)) 0
theorem w31_ProjectHidden_c (p0:List Int) (p1:List Int) (p2:Int) (p3:Int) (r:Bool) (hF:w31_ProjectHidden p0 p1 p2 p3=some r):Contract0 Tryz.prog 7 [.sl (List.map csI p0),.sl (List.map csI p1),.int .i64 p2,.int .i64 p3] (.bool r):=by
 refine cF (fun r=>.bool r) hF mix Tryz.func7 fun r hF=>?_
 unfold w31_ProjectHidden at hF
 refine runX ?_
 refine rg ?_
 refine rg ?_
 obtain ⟨r1,h1,hF⟩:=bnd hF
 refine g_call (g2_State_c _ _ h1) rfl rfl (runX ?_)
 obtain ⟨r2,h2,hF⟩:=bnd hF
 refine g_call (g2_Users_c _ h2) rfl rfl (runX ?_)
 obtain ⟨r3,h3,hF⟩:=bnd hF
 refine g_call (g2_Round_c _ _ _ h3) rfl rfl (runX ?_)
 obtain ⟨e4,h4,hF⟩:=bnd hF
 refine g_indexI (f:=csS) rfl h4 rfl rfl rfl (runX ?_)
 refine rg ?_
 obtain ⟨r5,h5,hF⟩:=bnd hF
 refine g_callN (g2_From_c _ _ h5) rfl rfl (runX ?_)
 obtain ⟨r6,h6,hF⟩:=bnd hF
 refine g_call1 (g2_Changes_c _ _ _ h6) rfl rfl rfl rfl rfl (runX ?_)
 refine rg ?_
 obtain ⟨r7,h7,hF⟩:=bnd hF
 refine g_call (g2_Titles_c _ h7) rfl rfl (runX ?_)
 obtain ⟨r8,h8,hF⟩:=bnd hF
 refine g_call (g2_Round_c _ _ _ h8) rfl rfl (runX ?_)
 obtain ⟨e9,h9,hF⟩:=bnd hF
 refine g_indexI (f:=Title.cs) rfl h9 rfl rfl rfl (runX ?_)
 refine g_buildM (M:=([(⟨1,(⟨#[97,110,110]⟩:ByteArray),(⟨#[]⟩:ByteArray),e9,(⟨0,(⟨#[]⟩:ByteArray)⟩:Title),(⟨#[104,105,100,100,101,110]⟩:ByteArray),0,[]⟩:Change)]:List Change)) (f:=Change.cs) rfl rfl rfl rfl (Nat.le_of_ble_eq_true rfl) rfl (runX ?_)
 refine rg ?_
 obtain ⟨l10,h10,hF⟩:=bnd hF
 refine g_appN (f:=Change.cs) rfl h10 (fun _=>rfl) rfl rfl rfl (runX ?_)
 obtain ⟨l11,h11,hF⟩:=bnd hF
 refine g_appR (f:=Change.cs) rfl h11 (fun _=>rfl) rfl rfl rfl rfl (runX ?_)
 refine g_buildM (M:=([r6.1,[(⟨1,(⟨#[97,110,110]⟩:ByteArray),(⟨#[]⟩:ByteArray),e9,(⟨0,(⟨#[]⟩:ByteArray)⟩:Title),(⟨#[104,105,100,100,101,110]⟩:ByteArray),0,[]⟩:Change)],l11]:List (List Change))) (f:=(fun y=>[PV.sl (y.map Change.cs)])) rfl rfl rfl rfl (Nat.le_of_ble_eq_true rfl) rfl (runX ?_)
 refine g_lenM rfl (M:=[r6.1,[(⟨1,(⟨#[97,110,110]⟩:ByteArray),(⟨#[]⟩:ByteArray),e9,(⟨0,(⟨#[]⟩:ByteArray)⟩:Title),(⟨#[104,105,100,100,101,110]⟩:ByteArray),0,[]⟩:Change)],l11]) (f:=(fun y=>[PV.sl (y.map Change.cs)])) rfl (runX ?_)
 refine bl ?_
 refine fix_elim hF fun f12 mf12 hf12 hF=>?_
 refine pws_loop (α:=Nat×Int) (fun a _=>mkS [(9,.ptr 9 (1,9) 0),(10,.str e4),(42,.row 42 (1,42)),(43,.int .i64 ([r6.1,[(⟨1,(⟨#[97,110,110]⟩:ByteArray),(⟨#[]⟩:ByteArray),e9,(⟨0,(⟨#[]⟩:ByteArray)⟩:Title),(⟨#[104,105,100,100,101,110]⟩:ByteArray),0,[]⟩:Change)],l11].length:Int)),(44,.int .i64 a.2)] [(9,some ((1,9),.box [.int .i64 r1.seq,.int .i64 r1.clock,.sl (List.map Stored.cs r1.pages),.sl (List.map Stored.cs r1.gone),.sl (List.map Proposal.cs r1.proposals),.int .i64 r1.proposed,.sl (List.map Watch.cs r1.watches),.sl (List.map Last.cs r1.lasts)])),(42,some ((1,42),.row 74 1 false (List.map (fun y=>[PV.sl (y.map Change.cs)]) [r6.1,[(⟨1,(⟨#[97,110,110]⟩:ByteArray),(⟨#[]⟩:ByteArray),e9,(⟨0,(⟨#[]⟩:ByteArray)⟩:Title),(⟨#[104,105,100,100,101,110]⟩:ByteArray),0,[]⟩:Change)],l11])))] 2) (fun a=>fixN a.1 f12 a.2=some r) (fun a=>a.1) (mf12,0) 2 hF (sR [(9,2,7),(42,5,6)]) (fun a _ hF=>?_)
 obtain ⟨mf12,x101⟩:=a
 obtain ⟨mf12,rfl,hF⟩:=fix_step hf12 hF
 dsimp only at hF ⊢
 refine runX ?_
 refine rg ?_
 refine cS hF rfl (fun hF=>?_) fun hF=>?_
 ·refine bl ?_
  refine rg ?_
  obtain ⟨e135,h122,hF⟩:=bnd hF
  refine g_indexR rfl h122 rfl rfl rfl (runX ?_)
  refine g_loadR rfl h122 rfl rfl rfl (runX ?_)
  refine rg ?_
  obtain ⟨r136,h123,hF⟩:=bnd hF
  refine g_call (r27_Apply_c _ _ _ h123) rfl rfl (runX ?_)
  refine jL hF (fun x141=>mkS [(9,.ptr 9 (1,9) 0),(10,.str e4),(42,.row 42 (1,42)),(43,.int .i64 ([r6.1,[(⟨1,(⟨#[97,110,110]⟩:ByteArray),(⟨#[]⟩:ByteArray),e9,(⟨0,(⟨#[]⟩:ByteArray)⟩:Title),(⟨#[104,105,100,100,101,110]⟩:ByteArray),0,[]⟩:Change)],l11].length:Int)),(44,.int .i64 x101),(71,.bool x141)] [(9,some ((1,9),.box [.int .i64 r1.seq,.int .i64 r1.clock,.sl (List.map Stored.cs r1.pages),.sl (List.map Stored.cs r1.gone),.sl (List.map Proposal.cs r1.proposals),.int .i64 r1.proposed,.sl (List.map Watch.cs r1.watches),.sl (List.map Last.cs r1.lasts)])),(42,some ((1,42),.row 74 1 false (List.map (fun y=>[PV.sl (y.map Change.cs)]) [r6.1,[(⟨1,(⟨#[97,110,110]⟩:ByteArray),(⟨#[]⟩:ByteArray),e9,(⟨0,(⟨#[]⟩:ByteArray)⟩:Title),(⟨#[104,105,100,100,101,110]⟩:ByteArray),0,[]⟩:Change)],l11])))] 2) (fun k14 hF=>?_) fun x141 hF=>?_
  ·refine rg ?_
   refine kS 56 hF rfl (fun hF=>?_) fun hF=>?_
   ·obtain ⟨r142,h128,hF⟩:=bnd hF
    refine g_call (w31_hides_c _ _ _ _ h128) rfl rfl (runX ?_)
    refine kS 62 hF rfl (fun hF=>?_) fun hF=>?_
    ·obtain ⟨r143,h129,hF⟩:=bnd hF
     refine g_call (project_View_c _ _ _ h129) rfl rfl (runX ?_)
     obtain ⟨r144,h130,hF⟩:=bnd hF
     refine g_call (project_View_c _ _ _ h130) rfl rfl (runX ?_)
     obtain ⟨r145,h131,hF⟩:=bnd hF
     refine g_call (project_Same_c _ _ _ h131) rfl rfl (runX ?_)
     exact jn (!r145) hF (sR [(9,1,9),(42,1,42)])
    iterate 8 refine g_skip rfl (runX ?_)
    exact jn false hF (sR [(9,1,9),(42,1,42)])
   iterate 12 refine g_skip rfl (runX ?_)
   exact jn false hF (sR [(9,1,9),(42,1,42)])
  refine cS hF rfl (fun hF=>?_) fun hF=>?_
  ·refine rg ?_
   cases hF
   exact rQ
  refine rg ?_
  exact rn (mf12,(w64 (x101+1))) hF (sR [(9,1,9),(42,1,42)])
 refine rg ?_
 obtain ⟨r146,h132,hF⟩:=bnd hF
 refine g_call (w31_awake_c _ h132) rfl rfl (runX ?_)
 cases hF
 exact rQ
end Go.Proofs.YtphibahplgmgfaaGreatDoor
namespace Go.Proofs.YtphibahplgmgfaaGreatDoor
open VL
set_option linter.unusedVariables false
def hidC (P:Policy) (G:List ByteArray) (c:Change):Prop:=c.kind≠6∧c.title≠policyT∧(c.kind≠10→mayB P G 1 c.title=false)∧(c.kind=4→mayB P G 1 c.to=false)
theorem hides_t {s:State} {u:ByteArray} {P:Policy} {G:List ByteArray} (va:ViewAt s u P G) (x:List Change) (hx:x.length≤1000):Tot (w31_hides s u x) fun b=>b=true→∀ c ∈ x,hidC P G c:=by
 unfold w31_hides
 refine tot_loop (fun i:Int=>(0≤i∧i≤(x.length:Int))∧∀ (j:Nat) c,(j:Int)<i→x[j]? = some c→hidC P G c) (fun i=>((x.length:Int) - i).toNat) ⟨⟨by omega,by omega⟩,fun j c h=>by omega⟩ (by omega) ?_
 rintro i rec ⟨⟨h0,h1⟩,h2⟩ ih
 refine tot_ifD (fun hlt=>?_) fun hlt=>?_
 ·refine tot_atI h0 hlt fun c hc hg=>?_
  refine tot_let (fun k=>∀ b:Bool,(b=false→hidC P G c)→Tot (k b) fun b=>b=true→∀ c ∈ x,hidC P G c) ?_ fun k hk=>?_
  ·intro b hb
   cases b with
   | true=>exact tot_ifT rfl (tot_some fun e=>by cases e)
   | false=>
     refine tot_ifF rfl ?_
     rw [w64_of (by omega) (by omega)]
     refine ih _ ⟨⟨by omega,by omega⟩,fun j c' hj hc'=>?_⟩ (by omega)
     by_cases hji:(j:Int)<i
     ·exact h2 j c' hji hc'
     ·rw [show i.toNat=j by omega,hc'] at hg
      injection hg with hg
      rw [hg]
      exact hb rfl
  ·refine tot_ifD (fun _=>hk _ fun e=>by cases e) fun h6=>?_
   refine tot_bindE (v:=policyT) rfl ?_
   refine tot_ifD (fun _=>hk _ fun e=>by cases e) fun hp=>?_
   refine tot_ifN (fun h10=>?_) fun h10=>?_
   ·refine tot_bindE (may_e va c.title) ?_
    refine tot_if (fun _=>hk _ fun e=>by cases e) fun hm=>?_
    refine tot_ifD (fun h4=>?_) fun h4=>hk _ fun _=>⟨h6,hp,fun _=>hm,fun e=>absurd e h4⟩
    refine tot_bindE (may_e va c.to) ?_
    exact hk _ fun e=>⟨h6,hp,fun _=>hm,fun _=>e⟩
   ·refine tot_ifD (fun h4=>absurd h4 (by omega)) fun h4=>hk _ fun _=>⟨h6,hp,fun e=>absurd h10 e,fun e=>absurd e h4⟩
 ·refine tot_some fun _ c hc=>?_
  obtain ⟨j,hj⟩:=List.getElem?_of_mem hc
  have:=(List.getElem?_eq_some_iff.1 hj).1
  exact h2 j c (by omega) hj
theorem any_filter_policy (l:List Stored):hasPol l = !(l.filter fun p=>decide (p.title=policyT)).isEmpty:=by
 unfold hasPol
 induction l with
 | nil=>rfl
 | cons p l ih=>
   by_cases h:p.title=policyT
   ·rw [List.any_cons,decide_eq_true h,List.filter_cons_of_pos (p:=fun p:Stored=>decide (p.title=policyT)) (decide_eq_true h)]
    rfl
   ·rw [List.any_cons,decide_eq_false h,List.filter_cons_of_neg (p:=fun p:Stored=>decide (p.title=policyT)) (by simpa using h),Bool.false_or,ih]
theorem hidden_view {s t:State} {P0:Policy} {G:List ByteArray} (hc:t.clock=s.clock) (h1:t.pages.filter (fun p=>decide (p.title=policyT))=s.pages.filter fun p=>decide (p.title=policyT))
  (h2:t.pages.filter (fun p=>mayB (polAt P0 s.pages) G 1 p.title)=s.pages.filter fun p=>mayB (polAt P0 s.pages) G 1 p.title):polAt P0 t.pages=polAt P0 s.pages∧viewOf (polAt P0 s.pages) G t=viewOf (polAt P0 s.pages) G s:=by
 constructor
 ·unfold polAt
  rw [any_filter_policy,any_filter_policy,h1]
 ·unfold viewOf viewPg
  rw [h2,hc]
theorem law_hidden (l m:List Int) (who ix:Int) (hl:l.length≤9223372036854775807) (hm:m.length≤9223372036854775807):w31_ProjectHidden l m who ix=some true:=by
 refine tot_eq ?_
 unfold w31_ProjectHidden
 refine tot_bind (state_t l hl) fun s hs=>?_
 refine tot_bindE (v:=usersG) rfl ?_
 refine tot_bind (round_t who 4 (by omega) (by omega)) fun w hw=>?_
 refine tot_atI hw.1 hw.2 fun u hu hgu=>?_
 obtain ⟨t0,P0,G,hv,hP0,hr,hp,va⟩:=made_view hs hu
 have hsq:=hs.seq
 refine tot_bind (from_t m hm) fun src hsrc=>?_
 refine tot_bind (changes_t src s.clock hsrc) fun ch hch=>?_
 refine tot_bindE (v:=titleG) rfl ?_
 refine tot_bind (round_t ix 8 (by omega) (by omega)) fun w hw=>?_
 refine tot_atI hw.1 hw.2 fun t ht hgt=>?_
 have hd:Change.tame ⟨1,⟨#[97,110,110]⟩,⟨#[]⟩,t,⟨0,⟨#[]⟩⟩,⟨#[104,105,100,100,101,110]⟩,0,[]⟩:=⟨titles_ne t ht,zero_ne,Int.le_refl 0,(by show (0:Int)≤2000;decide),Nat.zero_le _,(by show (⟨#[104,105,100,100,101,110]⟩:ByteArray).size≤300;decide)⟩
 generalize (⟨1,⟨#[97,110,110]⟩,⟨#[]⟩,t,⟨0,⟨#[]⟩⟩,⟨#[104,105,100,100,101,110]⟩,0,[]⟩:Change)=d at hd
 refine tot_appL 1 (by simp) (by omega) (by omega) ?_
 refine tot_appL 3 (by have:=hch.2.1;simp only [List.nil_append,List.length_cons,List.length_nil];omega) (by omega) (by omega) ?_
 have hall:∀ x ∈ [ch.1,[d],[] ++ [d]++ch.1],(∀ c ∈ x,c.tame)∧x.length≤3:=by
  intro x hx
  have h2:=hch.2.1
  rcases List.mem_cons.1 hx with rfl | hx
  ·exact ⟨hch.1,by omega⟩
  rcases List.mem_cons.1 hx with rfl | hx
  ·exact ⟨fun c hc=>by rw [List.mem_singleton.1 hc];exact hd,by simp⟩
  rcases List.mem_cons.1 hx with rfl | hx
  ·refine ⟨fun c hc=>?_,by simp only [List.nil_append,List.length_append,List.length_cons,List.length_nil];omega⟩
   rw [List.nil_append] at hc
   rcases List.mem_append.1 hc with hc | hc
   ·rw [List.mem_singleton.1 hc]
    exact hd
   ·exact hch.1 c hc
  cases hx
 have hlen : [ch.1,[d],[] ++ [d]++ch.1].length=3:=rfl
 generalize [ch.1,[d],[] ++ [d]++ch.1]=X at hall hlen
 refine tot_loop (fun i:Int=>0≤i∧i≤(X.length:Int)) (fun i=>((X.length:Int) - i).toNat) ⟨Int.le_refl _,by omega⟩ (by omega) ?_
 rintro i rec ⟨h0,h1⟩ ih
 refine tot_ifD (fun hlt=>?_) fun _=>tot_bindE awake_e (tot_some rfl)
 refine tot_atI h0 hlt fun x hx _=>?_
 obtain ⟨x1,x2⟩:=hall x hx
 refine tot_bind (tot_and (apply_t hv (by omega) ⟨P0,0,hr⟩ x1 (by omega)) (fun v e=>e:Par (r27_Apply s x) fun v=>r27_Apply s x=some v)) fun r hr2=>?_
 refine tot_let (fun k=>Tot (k false) fun r=>r=true) ?_ fun k hk=>?_
 ·refine tot_ifF rfl ?_
  rw [w64_of (by omega) (by omega)]
  exact ih _ ⟨by omega,by omega⟩ (by omega)
 ·refine tot_ifD (fun e0=>?_) fun _=>hk
  obtain ⟨a1,-,-,-⟩:=hr2.1 e0
  refine tot_bind (hides_t va x (by omega)) fun b hb=>?_
  refine tot_if (fun eb=>?_) fun _=>hk
  have hh:=hb eb
  obtain ⟨f1,f2⟩:=apply_fr (q:=mayB (polAt P0 s.pages) G 1) hv (by omega) ⟨P0,0,hr⟩ x1 (by omega) (fun c hc=>⟨(hh c hc).1,(hh c hc).2.2.1,(hh c hc).2.2.2⟩) r hr2.2 e0
  obtain ⟨-,f3⟩:=apply_fr (q:=fun t=>decide (t=policyT)) hv (by omega) ⟨P0,0,hr⟩ x1 (by omega) (fun c hc=>⟨(hh c hc).1,fun _=>decide_eq_false (x1 c hc).title,fun _=>decide_eq_false (x1 c hc).to⟩) r hr2.2 e0
  obtain ⟨g1,g2⟩:=hidden_view f1 f3 f2
  have va2:=vs_view (u:=u) (G:=G) a1 hP0 hr hp (by rw [g1];exact va.gref) (by rw [g1];exact va.gprog) va.vm.groups
  have e1:=va2.view
  rw [g1,g2] at e1
  refine tot_bindE va.view ?_
  refine tot_bindE e1 ?_
  refine tot_bindE (project_same _ _ (.inl (vm_fits va.vm))) ?_
  rw [decide_eq_true rfl]
  exact hk
end Go.Proofs.YtphibahplgmgfaaGreatDoor
namespace Go.Proofs.YtphibahplgmgfaaGreatDoor
open VL Go.RowKit
set_option linter.unusedVariables false
theorem slr_len {α:Type} [Enc α] {w:World} {A:Option Addr} {n c:Nat} {xs:List α} (h:SlR w A n c xs):xs.length≤9223372036854775807:=by
 obtain ⟨h1,h2,h3,h4⟩:=h
 omega
theorem args4 {x:Ctx} {p0 p1 p2 p3:PV} {v0 v1 v2 v3:Value} (h0:Rep x p0 v0) (h1:Rep x p1 v1) (h2:Rep x p2 v2) (h3:Rep x p3 v3) (i:Nat) (p:PV) (v:Value)
  (hp : [p0,p1,p2,p3][i]? = some p) (hv : #[v0,v1,v2,v3][i]? = some v):Rep x p v:=by
 match i,hp,hv with
 | 0,hp,hv=>injection hp with hp;injection hv with hv;subst hp hv;exact h0
 | 1,hp,hv=>injection hp with hp;injection hv with hv;subst hp hv;exact h1
 | 2,hp,hv=>injection hp with hp;injection hv with hv;subst hp hv;exact h2
 | 3,hp,hv=>injection hp with hp;injection hv with hv;subst hp hv;exact h3
 | i+4,hp,_=>simp at hp
theorem projectHidden_any {A B:Option Addr} {n m c d:Nat} {l k:List Int} (i0 i1:Int) (W:World) (hl:SlR W A n c l) (hk:SlR W B m d k) (hI:∀ W',Below W.heap.size W W'→WInv.I Tryz.prog W') :
  Calls Tryz.prog 7 #[.slice A n c,.slice B m d,.int .i64 i0,.int .i64 i1] W fun e w'=>e = .returned (.bool true)∧Below W.heap.size W w':=
 calls_bool (w31_ProjectHidden_c l k i0 i1 true (law_hidden l k i0 i1 (slr_len hl) (slr_len hk))) rfl (args4 (sl_of_SlR hl) (sl_of_SlR hk) (.int _ _) (.int _ _)) hI
end Go.Proofs.YtphibahplgmgfaaGreatDoor
