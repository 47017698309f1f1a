/- Comparing lists by loops. No program is named. | ProjectSame: what the law computes is true. No program is named. | The views of made states, by the program as by the reference. No program is named. | Functions of the program as Lean functions. Written by fxgen.py. | ProjectOnly: what the law computes is true. No program is named. | From a reading of an argument to the words of the walks: structs field by field, slices element by element. No program is named. | Readings of the wiki's types at this translation. Written by types.py. | What lies in memory, seen as values. No program is named. Written by mkencpv.py. | What the rows list of the package's variables, read off the world; lists of integers; the invariant in all later worlds. | Functions of the program as Lean functions. Written by fxgen.py. | ProjectOrder: what the law computes is true. No program is named. -/
import Derived.Test.YtphibahplgmgfaaGreatDoorPB28
import Derived.Test.YtphibahplgmgfaaGreatDoorPB29
import Derived.Test.YtphibahplgmgfaaGreatDoorPB27
import Derived.Test.YtphibahplgmgfaaGreatDoorPB25
import Derived.Test.YtphibahplgmgfaaGreatDoorPB26
import Derived.Test.YtphibahplgmgfaaGreatDoorPB08
import Derived.Test.YtphibahplgmgfaaGreatDoorPB01
import Derived.ProofKit
import Derived.OpenShut
import Derived.Deep.Slices
import Derived.Deep.Strs
import Derived.Test.YtphibahplgmgfaaGreatDoorRows
import Derived.Test.YtphibahplgmgfaaGreatDoorPB02
import Derived.Test.YtphibahplgmgfaaGreatDoorPB07
import Derived.Test.YtphibahplgmgfaaGreatDoorPB04
import Derived.MakeChecks
import Derived.FnData
import Derived.ChangeSame
namespace Go.Proofs.YtphibahplgmgfaaGreatDoor
open VL
set_option linter.unusedVariables false
section
variable {α:Type} [DecidableEq α]
omit [DecidableEq α] in
theorem take_succ_eq {l m:List α} {n:Nat} {a b:α} (h:l.take n=m.take n) (ha:l[n]? = some a) (hb:m[n]? = some b) (e:a=b):l.take (n+1)=m.take (n+1):=by
 rw [List.take_add_one,List.take_add_one,h,ha,hb,e]
theorem eqf_loop (q:α→α→Option Bool) (l m:List α) (hl:l.length=m.length) (hb:l.length≤9223372036854775807) (hq:∀ a ∈ l,∀ b ∈ m,q a b=some (decide (a=b))) :
  fixN 9223372036854775808 (fun f2 (x:Int)=>if (decide (x<(l.length:Int))) then (atI l x).bind fun a=>(atI m x).bind fun b=>(q a b).bind fun r=>if (!r) then (some false:Option Bool) else f2 (w64 (x+1)) else (some true:Option Bool)) 0=some (decide (l=m)):=by
 refine tot_eq ?_
 refine fixN_ex (fun x:Int=>0≤x∧x≤(l.length:Int)∧l.take x.toNat=m.take x.toNat) (fun x=>((l.length:Int) - x).toNat) (fun b=>b=decide (l=m)) ?_ _ _ ⟨Int.le_refl _,by omega,rfl⟩ (by omega)
 intro x rec hx ih
 obtain ⟨h0,h1,h2⟩:=hx
 refine tot_ifD (fun hlt=>?_) fun hlt=>?_
 ·refine tot_atI h0 hlt fun a ha hga=>?_
  refine tot_atI h0 (by omega) fun b hbm hgb=>?_
  refine tot_bindE (hq a ha b hbm) ?_
  refine tot_ifN (fun hne=>?_) fun he=>?_
  ·refine tot_some ?_
   rw [eq_comm,decide_eq_false_iff_not]
   intro e
   subst e
   rw [hga] at hgb
   injection hgb with hgb
   exact hne hgb
  ·rw [w64_of (by omega) (by omega)]
   refine ih _ ⟨by omega,by omega,?_⟩ (by omega)
   rw [show (x+1).toNat=x.toNat+1 by omega]
   exact take_succ_eq h2 hga hgb he
 ·refine tot_some ?_
  rw [eq_comm,decide_eq_true_iff]
  rw [show x.toNat=l.length by omega,List.take_length,hl,List.take_length] at h2
  exact h2
theorem same_loop (l m:List α) (hl:l.length=m.length) (hb:l.length≤9223372036854775807) :
  fixN 9223372036854775808 (fun f2 (x:Int)=>if (decide (x<(l.length:Int))) then (atI l x).bind fun a=>(atI m x).bind fun b=>if (!decide (a=b)) then (some false:Option Bool) else f2 (w64 (x+1)) else (some true:Option Bool)) 0=some (decide (l=m)):=
 eqf_loop (fun a b=>some (decide (a=b))) l m hl hb fun _ _ _ _=>rfl
theorem same_list (l m:List α) (hb:l.length≤9223372036854775807∨m.length≤9223372036854775807) :
  (if (!decide ((l.length:Int)=(m.length:Int))) then (some false:Option Bool) else fixN 9223372036854775808 (fun f2 (x:Int)=>if (decide (x<(l.length:Int))) then (atI l x).bind fun a=>(atI m x).bind fun b=>if (!decide (a=b)) then (some false:Option Bool) else f2 (w64 (x+1)) else (some true:Option Bool)) 0)=some (decide (l=m)):=by
 by_cases h:l.length=m.length
 ·rw [if_neg (by simp [h])]
  exact same_loop l m h (by omega)
 ·rw [if_pos (by simp;omega)]
  rw [decide_eq_false (fun e=>h (by rw [e]))]
end
theorem equal_page (l m:List Page) (hb:l.length≤9223372036854775807∨m.length≤9223372036854775807):slices_Equal_Page l m=some (decide (l=m)):=same_list l m hb
theorem equal_string (l m:List ByteArray) (hb:l.length≤9223372036854775807∨m.length≤9223372036854775807):slices_Equal_string l m=some (decide (l=m)):=same_list l m hb
theorem equal_rule (l m:List Rule) (hb:l.length≤9223372036854775807∨m.length≤9223372036854775807):slices_Equal_Rule l m=some (decide (l=m)):=same_list l m hb
theorem equal_guard (l m:List Guard) (hb:l.length≤9223372036854775807∨m.length≤9223372036854775807):slices_Equal_Guard l m=some (decide (l=m)):=same_list l m hb
theorem equal_asked (l m:List Asked) (hb:l.length≤9223372036854775807∨m.length≤9223372036854775807):slices_Equal_Asked l m=some (decide (l=m)):=same_list l m hb
theorem gsame_string (l m:List ByteArray) (hb:l.length≤9223372036854775807∨m.length≤9223372036854775807):g2_Same_string l m=some (decide (l=m)):=same_list l m hb
structure View.fits (v:View):Prop where
 pages:v.pages.length≤9223372036854775807
 groups:v.groups.length≤9223372036854775807
 fixed:v.fixed.length≤9223372036854775807
 pgroups:v.policy.groups.length≤9223372036854775807
 rules:v.policy.rules.length≤9223372036854775807
 guards:v.policy.guards.length≤9223372036854775807
 members:∀ g ∈ v.policy.groups,g.members.length≤9223372036854775807
abbrev fits2 (a b:View):Prop:=a.fits∨b.fits
theorem same_group (a b:Group) (h:a.members.length≤9223372036854775807∨b.members.length≤9223372036854775807):project_sameGroup a b=some (decide (a=b)):=by
 obtain ⟨an,am⟩:=a
 obtain ⟨bn,bm⟩:=b
 unfold project_sameGroup
 unfold letk
 dsimp only
 by_cases h1:an=bn
 ·rw [if_pos (decide_eq_true h1),equal_string _ _ h]
  subst h1
  simp
 ·rw [if_neg (by simpa using h1)]
  rw [decide_eq_false (fun e=>h1 (congrArg Group.name e))]
theorem same_policy (a b:View) (h:fits2 a b):project_samePolicy a.policy b.policy=some (decide (a.policy=b.policy)):=by
 have e1:slices_EqualFunc_Group a.policy.groups b.policy.groups (fun y0 y1=>project_sameGroup y0 y1)=some (decide (a.policy.groups=b.policy.groups)):=by
  unfold slices_EqualFunc_Group
  by_cases hl:a.policy.groups.length=b.policy.groups.length
  ·rw [if_neg (by simp [hl])]
   refine eqf_loop (fun y0 y1=>project_sameGroup y0 y1) _ _ hl ?_ fun x hx y hy=>same_group x y (h.imp (fun k=>k.members x hx) fun k=>k.members y hy)
   rcases h with h | h
   ·exact h.pgroups
   ·rw [hl];exact h.pgroups
  ·rw [if_pos (by simp;omega)]
   rw [decide_eq_false (fun e=>hl (by rw [e]))]
 have e2:=equal_rule a.policy.rules b.policy.rules (h.imp View.fits.rules View.fits.rules)
 have e3:=equal_guard a.policy.guards b.policy.guards (h.imp View.fits.guards View.fits.guards)
 unfold project_samePolicy letk
 simp only [e1,e2,e3,Option.bind_some]
 obtain ⟨ag,ar,au⟩:=a.policy
 obtain ⟨bg,br,bu⟩:=b.policy
 dsimp only
 by_cases h1:ag=bg<;>by_cases h2:ar=br<;>simp [h1,h2]
theorem project_same (a b:View) (h:fits2 a b):project_Same a b=some (decide (a=b)):=by
 have e1:=equal_page a.pages b.pages (h.imp View.fits.pages View.fits.pages)
 have e2:=same_policy a b h
 have e3:=equal_string a.groups b.groups (h.imp View.fits.groups View.fits.groups)
 have e4:=equal_asked a.fixed b.fixed (h.imp View.fits.fixed View.fits.fixed)
 unfold project_Same letk
 simp only [e1,e2,e3,e4,Option.bind_some]
 obtain ⟨ap,ao,ag,ac,af⟩:=a
 obtain ⟨bp,bo,bg,bc,bf⟩:=b
 dsimp only
 by_cases h1:ap=bp<;>by_cases h2:ao=bo<;>by_cases h3:ag=bg<;>by_cases h4:ac=bc<;>simp [h1,h2,h3,h4]
end Go.Proofs.YtphibahplgmgfaaGreatDoor
namespace Go.Proofs.YtphibahplgmgfaaGreatDoor
open VL
set_option linter.unusedVariables false
set_option maxRecDepth 100000 in
theorem awake_e:w31_awake=some true:=by
 unfold w31_awake
 kernel_rfl
theorem vm_fits {v:View} (h:VM v):v.fits:=by
 obtain ⟨hr,hu,hg,hm⟩:=polsG_le _ h.policy
 have:=h.pages
 have:=h.groups
 refine ⟨by omega,by omega,by rw [h.fixed];exact Nat.zero_le _,by omega,by omega,by omega,fun g hgm=>?_⟩
 have:=hm g hgm
 omega
end Go.Proofs.YtphibahplgmgfaaGreatDoor
namespace Go.Proofs.YtphibahplgmgfaaGreatDoor
open VL
set_option linter.unusedVariables false
set_option maxRecDepth 100000 in
theorem policy_both:∀ t ∈ policyG,∃ p ∈ polsG,r12_Parse t=some (p,0,0)∧policy_Parse t=some (p,0,0):=by
 intro t ht
 unfold policyG at ht
 rcases List.mem_cons.1 ht with e | ht
 ·exact ⟨polS5,.tail _ (.head _),e ▸ refPol0,e ▸ progPol0⟩
 rcases List.mem_cons.1 ht with e | ht
 ·exact ⟨polS8,.tail _ (.tail _ (.head _)),e ▸ refPol1,e ▸ progPol1⟩
 rcases List.mem_cons.1 ht with e | ht
 ·exact ⟨polS11,.tail _ (.tail _ (.tail _ (.head _))),e ▸ refPol2,e ▸ progPol2⟩
 rcases List.mem_cons.1 ht with e | ht
 ·exact ⟨polS23,.tail _ (.tail _ (.tail _ (.tail _ (.head _)))),e ▸ refPol3,e ▸ progPol3⟩
 rcases List.mem_cons.1 ht with e | ht
 ·exact ⟨polS25,.tail _ (.tail _ (.tail _ (.tail _ (.tail _ (.head _))))),e ▸ refPol4,e ▸ progPol4⟩
 rcases List.mem_cons.1 ht with e | ht
 ·exact ⟨polS27,.tail _ (.tail _ (.tail _ (.tail _ (.tail _ (.tail _ (.head _)))))),e ▸ refPol5,e ▸ progPol5⟩
 rcases List.mem_cons.1 ht with e | ht
 ·exact ⟨polS5,.tail _ (.head _),e ▸ refPol6,e ▸ progPol6⟩
 rcases List.mem_cons.1 ht with e | ht
 ·exact ⟨polS31,.tail _ (.tail _ (.tail _ (.tail _ (.tail _ (.tail _ (.tail _ (.head _))))))),e ▸ refPol7,e ▸ progPol7⟩
 cases ht
theorem clone_e (l:List Revision) (h1:1≤l.length) (hl:l.length≤1000000):slices_Clone_Revision l=some l:=by
 refine tot_eq ?_
 unfold slices_Clone_Revision
 refine tot_bindE (v:=()) ?_ ?_
 ·cases l with
  | nil=>cases h1
  | cons=>rfl
 ·refine tot_appL 1000000 (by simpa using hl) (by decide) (by decide) ?_
  exact tot_some rfl
theorem spage_t (s:State) (t:Title) (hl:s.pages.length≤1000000) (hh:∀ p ∈ s.pages,1≤p.history.length∧p.history.length≤1000000):Tot (state_Page s t) fun r=>(r.2=false∧∀ p ∈ s.pages,p.title≠t)∨(r.2=true∧r.1 ∈ s.pages∧r.1.title=t):=by
 unfold state_Page
 refine tot_loop (fun i:Int=>(0≤i∧i≤(s.pages.length:Int))∧∀ (j:Nat) p,(j:Int)<i→s.pages[j]? = some p→p.title≠t) (fun i=>((s.pages.length:Int) - i).toNat) ⟨⟨by omega,by omega⟩,fun j p h=>by omega⟩ (by first | omega | (dsimp only;omega)) ?_
 rintro i rec ⟨⟨h0,h1⟩,h2⟩ ih
 refine tot_ifD (fun hlt=>?_) fun hlt=>?_
 ·refine tot_atI h0 hlt fun e he hg=>?_
  refine tot_ifD (fun ht=>?_) fun ht=>?_
  ·refine tot_bindE (v:=e) ?_ (tot_some (.inr ⟨rfl,he,ht⟩))
   unfold state_ownPage
   rw [clone_e _ (hh e he).1 (hh e he).2]
   rfl
  ·rw [w64_of (by omega) (by omega)]
   refine ih _ ⟨⟨by omega,by omega⟩,fun j p hj hp=>?_⟩ (by omega)
   by_cases hji:(j:Int)<i
   ·exact h2 j p hji hp
   ·rw [show i.toNat=j by omega,hp] at hg
    injection hg with hg
    rw [hg]
    exact ht
 ·refine tot_some (.inl ⟨rfl,fun p hp=>?_⟩)
  obtain ⟨j,hj,rfl⟩:=List.getElem_of_mem hp
  exact h2 j _ (by omega) (List.getElem?_eq_getElem hj)
def hasPol (l:List Stored):Bool:=l.any fun p=>decide (p.title=policyT)
theorem hasPol_none {l:List Stored} (h:∀ p ∈ l,p.title≠policyT):hasPol l=false:=by
 unfold hasPol
 rw [List.any_eq_false]
 intro p hp
 simpa using h p hp
theorem hasPol_some {l:List Stored} {p:Stored} (h:p ∈ l) (ht:p.title=policyT):hasPol l=true:=by
 unfold hasPol
 rw [List.any_eq_true]
 exact ⟨p,h,decide_eq_true ht⟩
theorem vs_hist {t0:ByteArray} {q:Int} {s:State} (hv:VS t0 q s):∀ p ∈ s.pages,1≤p.history.length∧p.history.length≤1000000:=by
 intro p hp
 have hs:=(hv.pages p hp).hist
 have a1:=hs.len1
 have a2:=hs.len2
 exact ⟨a1,by omega⟩
theorem vs_text {t0:ByteArray} {q:Int} {s:State} (hv:VS t0 q s) {p:Stored} (hp:p ∈ s.pages) (ht:p.title=policyT):(curOf p).text=t0:=by
 have:=hv.rule p hp ht
 unfold textOf at this
 have hs:=(hv.pages p hp).hist
 obtain ⟨c,h1,_⟩:=current_e p hs.len1 (by have:=hs.len2;omega)
 unfold curOf
 rw [h1] at this ⊢
 exact this
def polAt (P0:Policy) (l:List Stored):Policy:=if hasPol l=true then P0 else polS0
theorem pol_e {t0:ByteArray} {q:Int} {s:State} {P0:Policy} (hv:VS t0 q s) (hr:r12_Parse t0=some (P0,0,0)) (hp:policy_Parse t0=some (P0,0,0)):r29_PolicyOf s=some (polAt P0 s.pages)∧edit_PolicyOf s=some (polAt P0 s.pages):=by
 have hl:s.pages.length≤1000000:=by have:=hv.plen;omega
 have hh:=vs_hist hv
 constructor
 ·refine tot_eq ?_
  unfold r29_PolicyOf
  refine tot_bindE (v:=policyT) rfl ?_
  unfold r27_Text
  refine tot_bind (Q:=fun r=>(r.2=false∧hasPol s.pages=false)∨(r.2=true∧r.1=t0∧hasPol s.pages=true)) ?_ fun r hr2=>?_
  ·refine tot_bind (page2_t s policyT hl) fun r h=>?_
   rcases h with ⟨rfl,h⟩ | ⟨h1,h2,h3⟩
   ·exact tot_bindE (v:=⟨0,⟨#[]⟩,⟨#[]⟩,⟨#[]⟩,0,0⟩) rfl (tot_some (.inl ⟨rfl,hasPol_none h⟩))
   ·refine tot_bindE (current_is r.1 (hh _ h2).1 (hh _ h2).2) (tot_some (.inr ⟨h1,vs_text hv h2 h3,hasPol_some h2 h3⟩))
  ·rcases hr2 with ⟨h1,h2⟩ | ⟨h1,h2,h3⟩
   ·refine tot_ifT (by rw [h1];rfl) (tot_some ?_)
    unfold polAt
    rw [h2]
    rfl
   ·refine tot_ifF (by rw [h1];rfl) ?_
    rw [h2]
    refine tot_bindE hr ?_
    refine tot_ifF rfl (tot_some ?_)
    unfold polAt
    rw [h3]
    rfl
 ·refine tot_eq ?_
  unfold edit_PolicyOf
  refine tot_bind (spage_t s policyT hl hh) fun r h=>?_
  rcases h with ⟨h1,h⟩ | ⟨h1,h2,h3⟩
  ·refine tot_ifT (by rw [h1];rfl) (tot_some ?_)
   unfold polAt
   rw [hasPol_none h]
   rfl
  ·refine tot_ifF (by rw [h1];rfl) ?_
   refine tot_bindE (scurrent_is r.1 (hh _ h2).1 (hh _ h2).2) ?_
   rw [vs_text hv h2 h3]
   refine tot_bindE hp ?_
   refine tot_ifF rfl (tot_some ?_)
   unfold polAt
   rw [hasPol_some h2 h3]
   rfl
theorem polAt_in {P0:Policy} (h:P0 ∈ polsG) (l:List Stored):polAt P0 l ∈ polsG:=by
 unfold polAt
 split
 ·exact h
 ·exact polsG0
def sameUpTo (x y:Option (List ByteArray)):Bool:=match x,y with | some G,some H=>decide (G=H)&&decide (G.length≤100) | _,_=>false
theorem sameUpTo_t {x y:Option (List ByteArray)} (h:sameUpTo x y=true):∃ G,x=some G∧y=some G∧G.length≤100:=by
 cases x with
 | none=>cases h
 | some G=>
   cases y with
   | none=>cases h
   | some H=>
     simp only [sameUpTo,Bool.and_eq_true,decide_eq_true_eq] at h
     exact ⟨G,rfl,by rw [h.1],h.2⟩
set_option maxRecDepth 100000 in
theorem groups_both_all:polsG.all (fun p=>usersG.all fun u=>sameUpTo (r13_Groups p u) (access_Groups p u))=true:=by kernel_rfl
theorem groups_both (p:Policy) (hp:p ∈ polsG) (u:ByteArray) (hu:u ∈ usersG):∃ G,r13_Groups p u=some G∧access_Groups p u=some G∧G.length≤100:=
 sameUpTo_t (List.all_eq_true.1 (List.all_eq_true.1 groups_both_all p hp) u hu)
structure ViewAt (s:State) (u:ByteArray) (P:Policy) (G:List ByteArray):Prop where
 pol:P ∈ polsG
 ref:r29_PolicyOf s=some P
 prog:edit_PolicyOf s=some P
 gref:r13_Groups P u=some G
 gprog:access_Groups P u=some G
 view:project_View s u=some (viewOf P G s)
 vm:VM (viewOf P G s)
theorem vs_view {t0:ByteArray} {q:Int} {s:State} {P0:Policy} {u:ByteArray} {G:List ByteArray} (hv:VS t0 q s) (hP:P0 ∈ polsG) (hr:r12_Parse t0=some (P0,0,0)) (hp:policy_Parse t0=some (P0,0,0)) (h1:r13_Groups (polAt P0 s.pages) u=some G) (h2:access_Groups (polAt P0 s.pages) u=some G) (h3:G.length≤100):ViewAt s u (polAt P0 s.pages) G:=by
 obtain ⟨e1,e2⟩:=pol_e hv hr hp
 have hin:=polAt_in hP s.pages
 have hR:=(polsG_le _ hin).1
 have hl:=hv.plen
 have hh:=vs_hist hv
 refine ⟨hin,e1,e2,h1,h2,project_view_e e2 h2 (by omega) (by omega) hh,⟨Nat.le_trans viewPg_len hl,fun p hp=>?_,hin,h3,rfl⟩⟩
 unfold viewOf viewPg at hp
 dsimp only at hp
 obtain ⟨p0,hq,rfl⟩:=List.mem_map.1 hp
 have hq:=(List.mem_filter.1 hq).1
 have hs:=(hv.pages p0 hq).hist
 exact (hs.all _ (cur_mem hs.len1)).text
theorem may_e {s:State} {u:ByteArray} {P:Policy} {G:List ByteArray} (h:ViewAt s u P G) (t:Title):r29_May s u 1 t=some (mayB P G 1 t):=by
 have hR:=(polsG_le _ h.pol).1
 refine tot_eq ?_
 unfold r29_May
 refine tot_bindE h.ref ?_
 refine tot_bindE h.gref ?_
 exact tot_bindE (v:=mayB P G 1 t) (by unfold r13_May;rw [if_pos (by omega)]) (tot_some rfl)
theorem readable_t {s:State} {u:ByteArray} {P:Policy} {G:List ByteArray} (h:ViewAt s u P G) (hl:s.pages.length≤1000000) (hh:∀ p ∈ s.pages,1≤p.history.length∧p.history.length≤1000000) (t:Title):project_Readable s u t=some (s.pages.any (fun p=>decide (p.title=t))&&mayB P G 1 t):=by
 have hR:=(polsG_le _ h.pol).1
 refine tot_eq ?_
 unfold project_Readable
 refine tot_bindE h.prog ?_
 refine tot_bind (spage_t s t hl hh) fun r hr=>?_
 refine tot_let0 ?_
 rcases hr with ⟨h1,h2⟩ | ⟨h1,h2,h3⟩
 ·refine tot_ifF h1 (tot_some ?_)
  have:s.pages.any (fun p=>decide (p.title=t))=false:=by
   rw [List.any_eq_false]
   intro p hp
   simpa using h2 p hp
  rw [this]
  rfl
 ·refine tot_ifT h1 ?_
  refine tot_bindE h.gprog ?_
  refine tot_bindE (v:=mayB P G 1 t) (by unfold access_May;rw [if_pos (by omega)]) (tot_some ?_)
  have:s.pages.any (fun p=>decide (p.title=t))=true:=by
   rw [List.any_eq_true]
   exact ⟨_,h2,decide_eq_true h3⟩
  rw [this]
  rfl
end Go.Proofs.YtphibahplgmgfaaGreatDoor
set_option linter.unusedVariables false
set_option maxHeartbeats 4000000
set_option maxRecDepth 100000
namespace Go.Proofs.YtphibahplgmgfaaGreatDoor
open VL
def w31_ProjectOnly (p0:List Int) (p1:Int) (p2:Int):Option Bool:=
 (g2_State p0).bind fun r1=>
 (g2_Users).bind fun r2=>
 (g2_Round p1 4).bind fun r3=>
 (atI r2 r3).bind fun e4=>
 (g2_Titles).bind fun r5=>
 (g2_Round p2 8).bind fun r6=>
 (atI r5 r6).bind fun e7=>
 (r27_Page r1 e7).bind fun r8=>
 (r29_May r1 e4 1 e7).bind fun r9=>
 (project_View r1 e4).bind fun r10=>
 fixN bigN (fun f17 ((x141,x142):Bool×Int)=>
  if (decide (x142<(r10.pages.length:Int))) then
   letk (fun (x168:Bool)=>
    f17 (x168,(w64 (x142+1)))) fun k19=>
   (atI r10.pages x142).bind fun e169=>
   if (decide (e169.title=e7)) then
    letk (fun (x173:Bool)=>
     if x173 then
      (some false:Option Bool)
     else
     k19 true) fun k20=>
    if x141 then
     k20 true
    else
    (atI r10.pages x142).bind fun e174=>
    (r27_Current r8.1).bind fun r175=>
    if (!decide (e174.text=r175.text)) then
     k20 true
    else
    (atI r10.pages x142).bind fun e176=>
    k20 (!decide (e176.revision=(r8.1.history.length:Int)))
   else
   k19 x141
  else
  letk (fun (x180:Bool)=>
   (some x180:Option Bool)) fun k21=>
  (w31_awake).bind fun r181=>
  if r181 then
   if r8.2 then
    if (x141 == r9) then
     (project_Readable r1 e4 e7).bind fun r182=>
     k21 (r182 == x141)
    else
    k21 false
   else
   if (x141 == false) then
    (project_Readable r1 e4 e7).bind fun r183=>
    k21 (r183 == x141)
   else
   k21 false
  else
  k21 false) (false,0)
theorem w31_ProjectOnly_c (p0:List Int) (p1:Int) (p2:Int) (r:Bool) (hF:w31_ProjectOnly p0 p1 p2=some r):Contract0 Tryz.prog 6 [.sl (List.map csI p0),.int .i64 p1,.int .i64 p2] (.bool r):=by
 refine cF (fun r=>.bool r) hF mix Tryz.func6 fun r hF=>?_
 unfold w31_ProjectOnly at hF
 refine runX ?_
 refine rg ?_
 refine rg ?_
 obtain ⟨r1,h1,hF⟩:=bnd hF
 refine g_call (g2_State_c _ _ h1) rfl rfl (runX ?_)
 obtain ⟨r2,h2,hF⟩:=bnd hF
 refine g_call (g2_Users_c _ h2) rfl rfl (runX ?_)
 obtain ⟨r3,h3,hF⟩:=bnd hF
 refine g_call (g2_Round_c _ _ _ h3) rfl rfl (runX ?_)
 obtain ⟨e4,h4,hF⟩:=bnd hF
 refine g_indexI (f:=csS) rfl h4 rfl rfl rfl (runX ?_)
 obtain ⟨r5,h5,hF⟩:=bnd hF
 refine g_call (g2_Titles_c _ h5) rfl rfl (runX ?_)
 obtain ⟨r6,h6,hF⟩:=bnd hF
 refine g_call (g2_Round_c _ _ _ h6) rfl rfl (runX ?_)
 obtain ⟨e7,h7,hF⟩:=bnd hF
 refine g_indexI (f:=Title.cs) rfl h7 rfl rfl rfl (runX ?_)
 refine rg ?_
 obtain ⟨r8,h8,hF⟩:=bnd hF
 refine g_call (r27_Page_c _ _ _ h8) rfl rfl (runX ?_)
 refine rg ?_
 obtain ⟨r9,h9,hF⟩:=bnd hF
 refine g_call (r29_May_c _ _ _ _ _ h9) rfl rfl (runX ?_)
 refine rg ?_
 obtain ⟨r10,h10,hF⟩:=bnd hF
 refine g_call (project_View_c _ _ _ h10) rfl rfl (runX ?_)
 refine rg ?_
 refine rg ?_
 refine bl ?_
 refine fix_elim hF fun f17 mf17 hf17 hF=>?_
 refine pws_loop (α:=Nat×(Bool×Int)) (fun a _=>mkS [(7,.ptr 7 (1,7) 0),(8,.str e4),(9,.ptr 9 (1,9) 0),(10,.ptr 10 (1,10) 0),(11,.bool r8.2),(12,.bool r9),(13,.ptr 13 (1,13) 0),(14,.bool a.2.1),(15,.int .i64 a.2.2)] [(7,some ((1,7),.box [.int .i64 r1.seq,.int .i64 r1.clock,.sl (List.map Stored.cs r1.pages),.sl (List.map Stored.cs r1.gone),.sl (List.map Proposal.cs r1.proposals),.int .i64 r1.proposed,.sl (List.map Watch.cs r1.watches),.sl (List.map Last.cs r1.lasts)])),(9,some ((1,9),.box [.int .i64 e7.space,.str e7.name])),(10,some ((1,10),.box [.int .i64 r8.1.title.space,.str r8.1.title.name,.sl (List.map Revision.cs r8.1.history)])),(13,some ((1,13),.box [.sl (List.map Page.cs r10.pages),.sl (List.map Group.cs r10.policy.groups),.sl (List.map Rule.cs r10.policy.rules),.sl (List.map Guard.cs r10.policy.guards),.sl (List.map csS r10.groups),.int .i64 r10.clock,.sl (List.map Asked.cs r10.fixed)]))] 2) (fun a=>fixN a.1 f17 a.2=some r) (fun a=>a.1) (mf17,false,0) 2 hF (sR [(7,2,12),(9,2,13),(10,3,6),(13,5,3)]) (fun a _ hF=>?_)
 obtain ⟨mf17,x141,x142⟩:=a
 obtain ⟨mf17,rfl,hF⟩:=fix_step hf17 hF
 dsimp only at hF ⊢
 refine runX ?_
 refine rg ?_
 refine g_lenM rfl (M:=r10.pages) (f:=Page.cs) rfl (runX ?_)
 refine cS hF rfl (fun hF=>?_) fun hF=>?_
 ·refine jL hF (fun x168=>mkS [(7,.ptr 7 (1,7) 0),(8,.str e4),(9,.ptr 9 (1,9) 0),(10,.ptr 10 (1,10) 0),(11,.bool r8.2),(12,.bool r9),(13,.ptr 13 (1,13) 0),(14,.bool x168),(15,.int .i64 x142)] [(7,some ((1,7),.box [.int .i64 r1.seq,.int .i64 r1.clock,.sl (List.map Stored.cs r1.pages),.sl (List.map Stored.cs r1.gone),.sl (List.map Proposal.cs r1.proposals),.int .i64 r1.proposed,.sl (List.map Watch.cs r1.watches),.sl (List.map Last.cs r1.lasts)])),(9,some ((1,9),.box [.int .i64 e7.space,.str e7.name])),(10,some ((1,10),.box [.int .i64 r8.1.title.space,.str r8.1.title.name,.sl (List.map Revision.cs r8.1.history)])),(13,some ((1,13),.box [.sl (List.map Page.cs r10.pages),.sl (List.map Group.cs r10.policy.groups),.sl (List.map Rule.cs r10.policy.rules),.sl (List.map Guard.cs r10.policy.guards),.sl (List.map csS r10.groups),.int .i64 r10.clock,.sl (List.map Asked.cs r10.fixed)]))] 2) (fun k19 hF=>?_) fun x168 hF=>?_
  ·refine bl ?_
   refine rg ?_
   obtain ⟨e169,h88,hF⟩:=bnd hF
   refine g_indexI (f:=Page.cs) rfl h88 rfl rfl rfl (runX ?_)
   refine g_eqT (.inl rfl) rfl rfl rfl rfl rfl (fun W=>titleEql e169.title e7 W) (runX ?_)
   refine cS hF rfl (fun hF=>?_) fun hF=>?_
   ·refine jL hF (fun x173=>mkS [(7,.ptr 7 (1,7) 0),(8,.str e4),(9,.ptr 9 (1,9) 0),(10,.ptr 10 (1,10) 0),(11,.bool r8.2),(12,.bool r9),(13,.ptr 13 (1,13) 0),(15,.int .i64 x142),(80,.bool x173)] [(7,some ((1,7),.box [.int .i64 r1.seq,.int .i64 r1.clock,.sl (List.map Stored.cs r1.pages),.sl (List.map Stored.cs r1.gone),.sl (List.map Proposal.cs r1.proposals),.int .i64 r1.proposed,.sl (List.map Watch.cs r1.watches),.sl (List.map Last.cs r1.lasts)])),(9,some ((1,9),.box [.int .i64 e7.space,.str e7.name])),(10,some ((1,10),.box [.int .i64 r8.1.title.space,.str r8.1.title.name,.sl (List.map Revision.cs r8.1.history)])),(13,some ((1,13),.box [.sl (List.map Page.cs r10.pages),.sl (List.map Group.cs r10.policy.groups),.sl (List.map Rule.cs r10.policy.rules),.sl (List.map Guard.cs r10.policy.guards),.sl (List.map csS r10.groups),.int .i64 r10.clock,.sl (List.map Asked.cs r10.fixed)]))] 2) (fun k20 hF=>?_) fun x173 hF=>?_
    ·refine rg ?_
     refine kS 57 hF rfl (fun hF=>?_) fun hF=>?_
     ·iterate 20 refine g_skip rfl (runX ?_)
      exact jn true hF (sR [(7,1,7),(9,1,9),(10,1,10),(13,1,13)])
     obtain ⟨e174,h92,hF⟩:=bnd hF
     refine g_indexI (f:=Page.cs) rfl h92 rfl rfl rfl (runX ?_)
     obtain ⟨r175,h93,hF⟩:=bnd hF
     refine g_call (r27_Current_c _ _ h93) rfl rfl (runX ?_)
     refine kS 69 hF rfl (fun hF=>?_) fun hF=>?_
     ·iterate 10 refine g_skip rfl (runX ?_)
      exact jn true hF (sR [(7,1,7),(9,1,9),(10,1,10),(13,1,13)])
     obtain ⟨e176,h94,hF⟩:=bnd hF
     refine g_indexI (f:=Page.cs) rfl h94 rfl rfl rfl (runX ?_)
     refine g_lenM rfl (M:=r8.1.history) (f:=Revision.cs) rfl (runX ?_)
     exact jn (!decide (e176.revision=(r8.1.history.length:Int))) hF (sR [(7,1,7),(9,1,9),(10,1,10),(13,1,13)])
    refine cS hF rfl (fun hF=>?_) fun hF=>?_
    ·refine rg ?_
     cases hF
     exact rQ
    refine rg ?_
    exact jn true hF (sR [(7,1,7),(9,1,9),(10,1,10),(13,1,13)])
   exact jn x141 hF (sR [(7,1,7),(9,1,9),(10,1,10),(13,1,13)])
  refine rg ?_
  exact rn (mf17,x168,(w64 (x142+1))) hF (sR [(7,1,7),(9,1,9),(10,1,10),(13,1,13)])
 refine jL hF (fun x180=>mkS [(6,.bool x180)] [] 2) (fun k21 hF=>?_) fun x180 hF=>?_
 ·refine rg ?_
  obtain ⟨r181,h98,hF⟩:=bnd hF
  refine g_call (w31_awake_c _ h98) rfl rfl (runX ?_)
  refine kS 82 hF rfl (fun hF=>?_) fun hF=>?_
  ·refine kS 85 hF rfl (fun hF=>?_) fun hF=>?_
   ·refine g_boolE rfl rfl rfl (runX ?_)
    refine kS 90 hF rfl (fun hF=>?_) fun hF=>?_
    ·obtain ⟨r182,h99,hF⟩:=bnd hF
     refine g_call (project_Readable_c _ _ _ _ h99) rfl rfl (runX ?_)
     refine g_boolE rfl rfl rfl (runX ?_)
     exact jn (r182 == x141) hF (sR [])
    iterate 6 refine g_skip rfl (runX ?_)
    exact jn false hF (sR [])
   refine g_skip rfl (runX ?_)
   refine g_boolE rfl rfl rfl (runX ?_)
   refine kS 90 hF rfl (fun hF=>?_) fun hF=>?_
   ·obtain ⟨r183,h100,hF⟩:=bnd hF
    refine g_call (project_Readable_c _ _ _ _ h100) rfl rfl (runX ?_)
    refine g_boolE rfl rfl rfl (runX ?_)
    exact jn (r183 == x141) hF (sR [])
   iterate 6 refine g_skip rfl (runX ?_)
   exact jn false hF (sR [])
  iterate 12 refine g_skip rfl (runX ?_)
  exact jn false hF (sR [])
 cases hF
 exact rQ
end Go.Proofs.YtphibahplgmgfaaGreatDoor
namespace Go.Proofs.YtphibahplgmgfaaGreatDoor
open VL
set_option linter.unusedVariables false
theorem made_view {s:State} {m:Int} {u:ByteArray} (h:Made s m) (hu:u ∈ usersG):∃ t0 P0 G,VS t0 s.seq s∧P0 ∈ polsG∧r12_Parse t0=some (P0,0,0)∧policy_Parse t0=some (P0,0,0)∧ViewAt s u (polAt P0 s.pages) G:=by
 obtain ⟨t0,ht,hv⟩:=h.ex
 obtain ⟨P0,hP,hr,hp⟩:=policy_both t0 ht
 obtain ⟨G,h1,h2,h3⟩:=groups_both _ (polAt_in hP s.pages) u hu
 exact ⟨t0,P0,G,hv,hP,hr,hp,vs_view hv hP hr hp h1 h2 h3⟩
theorem sorted_same {l:List Stored} (h:l.Pairwise fun a b=>tlt a.title b.title) {p q:Stored} (hp:p ∈ l) (hq:q ∈ l) (e:p.title=q.title):p=q:=by
 obtain ⟨i,hi⟩:=List.getElem?_of_mem hp
 obtain ⟨j,hj⟩:=List.getElem?_of_mem hq
 rcases Nat.lt_trichotomy i j with c | c | c
 ·have:=pw_get h c hi hj
  rw [e] at this
  exact absurd this (tlt_irrefl _)
 ·subst c
  rw [hi] at hj
  injection hj
 ·have:=pw_get h c hj hi
  rw [e] at this
  exact absurd this (tlt_irrefl _)
theorem viewPg_any (P:Policy) (G:List ByteArray) (l:List Stored) (t:Title):(viewPg P G l).any (fun e=>decide (e.title=t))=(l.any (fun p=>decide (p.title=t))&&mayB P G 1 t):=by
 induction l with
 | nil=>rfl
 | cons p l ih=>
   have e:viewPg P G (p::l)=(if mayB P G 1 p.title=true then pageOf p::viewPg P G l else viewPg P G l):=by
    unfold viewPg
    by_cases h:mayB P G 1 p.title=true
    ·rw [if_pos h,List.filter_cons_of_pos (p:=fun p:Stored=>mayB P G 1 p.title) h,List.map_cons]
    ·rw [if_neg h,List.filter_cons_of_neg (p:=fun p:Stored=>mayB P G 1 p.title) h]
   rw [e,List.any_cons]
   by_cases ht:p.title=t
   ·rw [decide_eq_true ht,Bool.true_or,Bool.true_and]
    by_cases h:mayB P G 1 p.title=true
    ·rw [if_pos h,List.any_cons,show decide ((pageOf p).title=t)=true from decide_eq_true ht,Bool.true_or,← ht,h]
    ·rw [if_neg h,ih]
     rw [ht,Bool.not_eq_true] at h
     rw [h,Bool.and_false]
   ·rw [decide_eq_false ht,Bool.false_or]
    by_cases h:mayB P G 1 p.title=true
    ·rw [if_pos h,List.any_cons,show decide ((pageOf p).title=t)=false from decide_eq_false ht,Bool.false_or,ih]
    ·rw [if_neg h,ih]
theorem viewPg_sorted (P:Policy) (G:List ByteArray) {l:List Stored} (h:l.Pairwise fun a b=>tlt a.title b.title):(viewPg P G l).Pairwise fun a b=>tlt a.title b.title:=by
 unfold viewPg
 rw [List.pairwise_map]
 exact h.sublist List.filter_sublist
theorem viewPg_mem {P:Policy} {G:List ByteArray} {l:List Stored} {e:Page} (h:e ∈ viewPg P G l):∃ p ∈ l,mayB P G 1 p.title=true∧e=pageOf p:=by
 unfold viewPg at h
 obtain ⟨p,hp,rfl⟩:=List.mem_map.1 h
 obtain ⟨h1,h2⟩:=List.mem_filter.1 hp
 exact ⟨p,h1,h2,rfl⟩
theorem cur_number {c q:Int} {p:Stored} (h:HistOK c q p.history):(curOf p).number=(p.history.length:Int):=by
 have h1:=h.len1
 unfold curOf
 rw [List.getLast?_eq_getElem?]
 obtain ⟨r,hr⟩:∃ r,p.history[p.history.length - 1]? = some r:=⟨_,List.getElem?_eq_getElem (by omega)⟩
 rw [hr]
 have:=h.num _ r hr
 show r.number=_
 omega
theorem law_only (l:List Int) (who ix:Int) (hl:l.length≤9223372036854775807):w31_ProjectOnly l who ix=some true:=by
 refine tot_eq ?_
 unfold w31_ProjectOnly
 refine tot_bind (state_t l hl) fun s hs=>?_
 refine tot_bindE (v:=usersG) rfl ?_
 refine tot_bind (round_t who 4 (by omega) (by omega)) fun w hw=>?_
 refine tot_atI hw.1 hw.2 fun u hu hgu=>?_
 refine tot_bindE (v:=titleG) rfl ?_
 refine tot_bind (round_t ix 8 (by omega) (by omega)) fun w hw=>?_
 refine tot_atI hw.1 hw.2 fun t ht hgt=>?_
 obtain ⟨t0,P0,G,hv,hP0,-,-,va⟩:=made_view hs hu
 generalize polAt P0 s.pages=P at va
 have hpl:=hv.plen
 have hh:=vs_hist hv
 refine tot_bind (page2_t s t (by omega)) fun r hr=>?_
 refine tot_bindE (may_e va t) ?_
 refine tot_bindE va.view ?_
 have hra:=readable_t va (by omega) hh t
 have hpg:(viewOf P G s).pages=viewPg P G s.pages:=rfl
 have hvl:=viewPg_len (P:=P) (G:=G) (l:=s.pages)
 have hany:=viewPg_any P G s.pages t
 have hsort:=viewPg_sorted P G hv.sorted
 rw [hpg]
 refine tot_loop (fun a:Bool×Int=>(0≤a.2∧a.2≤((viewPg P G s.pages).length:Int))∧a.1=((viewPg P G s.pages).take a.2.toNat).any (fun e=>decide (e.title=t))) (fun a=>(((viewPg P G s.pages).length:Int) - a.2).toNat) ⟨⟨Int.le_refl _,by dsimp only;omega⟩,rfl⟩ (by dsimp only;omega) ?_
 rintro ⟨f,i⟩ rec ⟨⟨h0,h1⟩,h2⟩ ih
 dsimp only at h0 h1 h2
 refine tot_ifD (fun hlt=>?_) fun hlt=>?_
 ·refine tot_let (fun k=>∀ b,b=((viewPg P G s.pages).take (i.toNat+1)).any (fun e=>decide (e.title=t))→Tot (k b) fun r=>r=true) ?_ fun k hk=>?_
  ·intro b hb
   rw [w64_of (by omega) (by omega)]
   exact ih _ ⟨⟨by dsimp only;omega,by dsimp only;omega⟩,by dsimp only;rw [show (i+1).toNat=i.toNat+1 by omega];exact hb⟩ (by first | omega | (dsimp only;omega))
  ·refine tot_atI h0 hlt fun e he hg=>?_
   have hat:((viewPg P G s.pages).take (i.toNat+1)).any (fun e=>decide (e.title=t))=(((viewPg P G s.pages).take i.toNat).any (fun e=>decide (e.title=t))||decide (e.title=t)):=any_take hg
   have again:∀ {f:Page→Option Bool} {R:Bool→Prop},Tot (f e) R→Tot ((atI (viewPg P G s.pages) i).bind f) R:=fun hf=>tot_atI h0 hlt fun e' _ hg'=>by
    rw [hg] at hg'
    injection hg' with q
    rw [← q]
    exact hf
   refine tot_ifD (fun hte=>?_) fun hte=>?_
   ·have hf:f=false:=by
     rw [h2,List.any_eq_false]
     intro e' he'
     obtain ⟨j,hj⟩:=List.getElem?_of_mem he'
     rw [List.getElem?_take] at hj
     split at hj
     ·rename_i hji
      have:=pw_get hsort hji hj hg
      intro c
      rw [of_decide_eq_true c,hte] at this
      exact tlt_irrefl _ this
     ·cases hj
    subst hf
    obtain ⟨p,hp,hm,rfl⟩:=viewPg_mem he
    have hpt:p.title=t:=hte
    have hrp:r.2=true∧r.1=p:=by
     rcases hr with ⟨rfl,hn⟩ | ⟨q1,q2,q3⟩
     ·exact absurd hpt (hn p hp)
     ·exact ⟨q1,sorted_same hv.sorted q2 hp (by rw [q3,hpt])⟩
    refine tot_let (fun k=>Tot (k false) fun r=>r=true) ?_ fun k hk2=>?_
    ·refine tot_ifF rfl (hk _ ?_)
     rw [hat,show decide ((pageOf p).title=t)=true from decide_eq_true hte,Bool.or_true]
    ·refine tot_ifF rfl (again ?_)
     rw [hrp.2]
     refine tot_bindE (current_is p (hh p hp).1 (hh p hp).2) ?_
     refine tot_ifN (fun c=>absurd rfl c) fun _=>again ?_
     rw [show decide ((pageOf p).revision=(p.history.length:Int))=true from decide_eq_true (cur_number (hv.pages p hp).hist)]
     exact hk2
   ·refine hk _ ?_
    rw [hat,decide_eq_false hte,Bool.or_false]
    exact h2
 ·have hf:f=(s.pages.any (fun p=>decide (p.title=t))&&mayB P G 1 t):=by
   rw [h2,show i.toNat=(viewPg P G s.pages).length by omega,List.take_length]
   exact hany
  refine tot_let0 ?_
  refine tot_bindE awake_e ?_
  refine tot_ifT rfl ?_
  rcases hr with ⟨rfl,hn⟩ | ⟨q1,q2,q3⟩
  ·have ha:s.pages.any (fun p=>decide (p.title=t))=false:=by
    rw [List.any_eq_false]
    intro p hp
    simpa using hn p hp
   rw [ha,Bool.false_and] at hf hra
   subst hf
   refine tot_ifF rfl ?_
   refine tot_ifT rfl ?_
   exact tot_bindE hra (tot_some rfl)
  ·have ha:s.pages.any (fun p=>decide (p.title=t))=true:=by
    rw [List.any_eq_true]
    exact ⟨_,q2,decide_eq_true q3⟩
   rw [ha,Bool.true_and] at hf hra
   subst hf
   refine tot_ifT q1 ?_
   refine tot_ifT (by simp) ?_
   exact tot_bindE hra (tot_some (by simp))
end Go.Proofs.YtphibahplgmgfaaGreatDoor
namespace Go.Proofs.YtphibahplgmgfaaGreatDoor
open Go.RowKit Go.ChangeShapes Go.WideShapes Go.Deep
theorem filterMap_all {α:Type} (f:Nat→Option α):∀ n,(∀ i,i<n→∃ t,f i=some t)→((List.range n).filterMap f).length=n∧∀ i,i<n→((List.range n).filterMap f)[i]? = f i
 | 0,_=>⟨rfl,fun i h=>absurd h (by omega)⟩
 | n+1,h=>by
   obtain ⟨h1,h2⟩:=filterMap_all f n fun i hi=>h i (by omega)
   obtain ⟨t,ht⟩:=h n (by omega)
   rw [List.range_succ,List.filterMap_append]
   have e:List.filterMap f [n] = [t]:=by simp [ht]
   rw [e]
   refine ⟨by simp [h1],fun i hi=>?_⟩
   rcases Nat.lt_or_ge i n with hl | hl
   ·rw [List.getElem?_append_left (by omega)];exact h2 i hl
   ·obtain rfl:i=n:=by omega
    rw [List.getElem?_append_right (by omega),h1,ht];simp
section
variable {H:Type} {enc:TypeId×Value→H} {P:Program} {W:World}
def Rd (enc:TypeId×Value→H) (P:Program) (W:World) (T:TypeId) (α:Type) [Enc α]:Prop:=
 ∀ fuel cs x,DataW.trod enc P W 0 (fun _=>true) true fuel T cs=some x→∃ t:α,Enc.RT W t cs
theorem rd_int {T:TypeId} (hT:P.underlying T=some (.int .i64)):Rd enc P W T Int:=fun _ _ _ h=>by
 obtain ⟨n,hc,_⟩:=DataW.trod_int hT h
 exact ⟨n,hc⟩
theorem rd_slice {S E:TypeId} {α:Type} [Enc α] (hS:P.underlying S=some (.slice E)) (hk:P.cellsOf E=Enc.k α) (h0:0<Enc.k α) (hE:Rd enc P W E α):Rd enc P W S (List α):=fun fuel cs x h=>by
 rcases open_slice hS h with ⟨hc,_⟩ | ⟨a,len,cap,m,n,D,Pl,hc,_,hl,hm,hmm,_,hel⟩
 ·exact ⟨[],none,0,0,hc,SlR.nil W⟩
 ·have hm':m=cap:=by simpa using hmm
  have hx:∀ i,∃ (cs':List Value) (t:Option α),i<len→∃ t',t=some t'∧Enc.RT W t' cs'∧∀ j v,cs'[j]? = some v→W.cell? (a.add (i * P.cellsOf E+j))=some v:=fun i=>by
   by_cases hi:i<len
   ·obtain ⟨cs',h1,h2⟩:=hel i (by omega)
    obtain ⟨t,ht⟩:=hE _ _ _ h2
    obtain ⟨_,hlen,hcell⟩:=World.cells?_some h1
    refine ⟨cs',some t,fun _=>⟨t,rfl,ht,fun j v hj=>?_⟩⟩
    have hjl:j<P.cellsOf E:=by rw [← hlen];exact (List.getElem?_eq_some_iff.1 hj).1
    rw [← Go.Deep.add_add,hcell j hjl,hj]
   ·exact ⟨[],none,fun h=>absurd h hi⟩
  obtain ⟨css,hx⟩:=Classical.axiomOfChoice hx
  obtain ⟨ts,hx⟩:=Classical.axiomOfChoice hx
  refine ⟨(List.range len).filterMap ts,some a,len,cap,hc,?_⟩
  have hlen:((List.range len).filterMap ts).length=len∧∀ i,i<len→((List.range len).filterMap ts)[i]? = ts i:=filterMap_all ts len fun i hi=>by
   obtain ⟨t,ht,_⟩:=hx i hi
   exact ⟨t,ht⟩
  refine ⟨hlen.1.symm,hl,by unfold maxLen at hm;exact hm,fun hpos=>?_⟩
  obtain ⟨t0,_,hR0,hc0⟩:=hx 0 hpos
  have hl0:=Enc.len hR0
  have hcell0:=hc0 0 ((css 0)[0]'(by omega)) (List.getElem?_eq_getElem (by omega))
  obtain ⟨b,off,spot⟩:=a
  have hspot:spot=none:=by
   simp only [Nat.zero_mul,Nat.add_zero,Addr.add,if_true] at hcell0
   cases spot with
   | none=>rfl
   | some s=>
     exfalso
     unfold World.cell? at hcell0
     split at hcell0<;>simp at hcell0
  subst hspot
  refine ⟨b,off,css,rfl,trivial,?_,fun i x hi=>?_⟩
  ·simp only [Nat.zero_mul,Nat.add_zero,Addr.add,if_true] at hcell0
   exact cell_lt hcell0
  ·have hil:i<len:=by rw [← hlen.1];exact (List.getElem?_eq_some_iff.1 hi).1
   obtain ⟨t,ht,hR,hcell⟩:=hx i hil
   rw [hlen.2 i hil,ht] at hi
   obtain rfl:t=x:=by simpa using hi
   refine ⟨hR,fun j v hj=>?_⟩
   have:=hcell j v hj
   rw [hk] at this
   unfold Addr.add at this
   split at this
   ·rename_i h0;rw [Nat.add_assoc,h0];exact this
   ·rw [Nat.add_assoc];exact this
theorem list2 {α:Type}:∀ {l:List α},l.length=2→∃ a b,l = [a,b]
 | [a,b],_=>⟨a,b,rfl⟩
end
end Go.Proofs.YtphibahplgmgfaaGreatDoor
namespace Go.Proofs.YtphibahplgmgfaaGreatDoor
open Go.RowKit Go.ChangeShapes Go.WideShapes Go.Deep
theorem cellsInt:Tryz.prog.cellsOf 3=1:=by kernel_rfl
section
variable {H:Type} {enc:TypeId×Value→H} {W:World}
theorem rdInt:Rd enc Tryz.prog W 3 Int:=rd_int Tryz.underlying3
end
end Go.Proofs.YtphibahplgmgfaaGreatDoor

namespace Go.Proofs.YtphibahplgmgfaaGreatDoor
open VL Go.RowKit Go.ChangeShapes Go.WideShapes
set_option linter.unusedVariables false
theorem rdInts {H:Type} {enc:TypeId×Value→H} {W:World}:Rd enc Tryz.prog W 30 (List Int):=rd_slice Tryz.underlying30 cellsInt (by decide) rdInt
theorem rules_of {W:World} (h:laidMetH Tryz.prog [("unicode/utf8.acceptRanges",Rows.laid_unicode_utf8_acceptRanges),("transclude/edit.rules",Rows.laid_transclude_edit_rules),("unicode/utf8.first",Rows.laid_unicode_utf8_first)] W) :
  W.cell? ⟨0,0,none⟩=some (.int .i64 5)∧W.cell? ⟨0,1,none⟩=some (.string ⟨#[80,111,108,105,99,121]⟩):=by
 rw [MakeChecks.laidMetH_plain _ _ _ (by kernel_rfl)] at h
 obtain ⟨_,⟨_,_,_,_,_,_,_,_,_,_,⟨g,t,cs,fuel,p,q,hg,ht,hv,hd,_,_⟩,_⟩,_,_⟩:=h
 obtain rfl:=Option.some.inj ((show Tryz.prog.globalNamed "transclude/edit.rules" = some 0 by kernel_rfl).symm.trans hg)
 obtain rfl:=Option.some.inj ((show (Tryz.prog.globals[0]?).map (·.type)=some 29 by kernel_rfl).symm.trans ht)
 obtain ⟨y0,y1,n,ex,hl,h0,h1⟩:=trod_struct2 Tryz.underlying29 hd
 obtain ⟨z,e1,e2,_⟩:=DataW.trod_int Tryz.underlying3 h0
 obtain ⟨s,e3,e4,_⟩:=DataW.trod_string Tryz.underlying9 h1
 have c2:Tryz.prog.cellsOf 29=2:=by kernel_rfl
 have ci:Tryz.prog.cellsOf 3=1:=by kernel_rfl
 have cs1:Tryz.prog.cellsOf 9=1:=by kernel_rfl
 rw [c2] at hl
 rw [ci] at e1
 rw [cs1] at e3
 have hx:=(Prod.mk.inj ex).1
 simp only [Rows.laid_transclude_edit_rules,e2,e4,DataW.agg.injEq,List.cons.injEq,DataW.lit.injEq,Lit.int.injEq,Lit.string.injEq,true_and,and_true] at hx
 obtain ⟨rfl,hs⟩:=hx
 obtain rfl:s=⟨#[80,111,108,105,99,121]⟩:=by
  obtain ⟨⟨l⟩⟩:=s
  exact congrArg (fun l:List UInt8=>(⟨⟨l⟩⟩:ByteArray)) hs.symm
 obtain ⟨x0,x1,hcs⟩:=list2 hl
 rw [hcs] at e1 e3
 cases (show [x0] = [_] from e1)
 cases (show [x1] = [_] from e3)
 have hc0:=World.var?_cell hg hv 0
 have hc1:=World.var?_cell hg hv 1
 rw [← Array.getElem?_toList,hcs] at hc0 hc1
 exact ⟨hc0,hc1⟩
theorem inv_of {W:World} (hG:Glob W) (hR:W.cell? ⟨0,0,none⟩=some (.int .i64 5)∧W.cell? ⟨0,1,none⟩=some (.string ⟨#[80,111,108,105,99,121]⟩)) (W':World) (hb:Below W.heap.size W W'):WInv.I Tryz.prog W':=
 ⟨hG.imp fun _ hm=>re1 hb (cell_lt hm) hm,re1 hb (cell_lt hR.1) hR.1,re1 hb (cell_lt hR.2) hR.2⟩
end Go.Proofs.YtphibahplgmgfaaGreatDoor
set_option linter.unusedVariables false
set_option maxHeartbeats 4000000
set_option maxRecDepth 100000
namespace Go.Proofs.YtphibahplgmgfaaGreatDoor
open VL
def w31_ProjectOrder (p0:List Int) (p1:ByteArray):Option Bool:=
 if (decide (50<(p1.size:Int))) then
  (w31_awake).bind fun r2=>
  (some r2:Option Bool)
 else
 (g2_State p0).bind fun r3=>
 (project_View r3 (⟨#[]⟩:ByteArray)).bind fun r4=>
 fixN bigN (fun f12 (x30:Int)=>
  if (decide (x30<(r4.pages.length:Int))) then
   (atI r4.pages (w64 (x30 - 1))).bind fun e40=>
   (atI r4.pages x30).bind fun e41=>
   letk (fun (x42:Bool)=>
    if x42 then
     (some false:Option Bool)
    else
    f12 (w64 (x30+1))) fun k14=>
   if (decide (e41.title.space<e40.title.space)) then
    k14 true
   else
   if (decide (e40.title.space=e41.title.space)) then
    k14 (!ltS e40.title.name e41.title.name)
   else
   k14 false
  else
  (catS (⟨#[65,32]⟩:ByteArray) p1).bind fun s43=>
  (project_View r3 s43).bind fun r44=>
  letk (fun (x48:Bool)=>
   (some x48:Option Bool)) fun k15=>
  (w31_awake).bind fun r49=>
  if r49 then
   (g2_Same_string r4.groups [(⟨#[97,108,108]⟩:ByteArray)]).bind fun r50=>
   if r50 then
    (project_Same r4 r44).bind fun r51=>
    k15 r51
   else
   k15 false
  else
  k15 false) 1
theorem w31_ProjectOrder_c (p0:List Int) (p1:ByteArray) (r:Bool) (hF:w31_ProjectOrder p0 p1=some r):Contract0 Tryz.prog 9 [.sl (List.map csI p0),.str p1] (.bool r):=by
 refine cF (fun r=>.bool r) hF mix Tryz.func9 fun r hF=>?_
 unfold w31_ProjectOrder at hF
 refine runX ?_
 refine rg ?_
 refine rg ?_
 refine cS hF rfl (fun hF=>?_) fun hF=>?_
 ·refine rg ?_
  obtain ⟨r2,h2,hF⟩:=bnd hF
  refine g_call (w31_awake_c _ h2) rfl rfl (runX ?_)
  cases hF
  exact rQ
 refine rg ?_
 obtain ⟨r3,h3,hF⟩:=bnd hF
 refine g_call (g2_State_c _ _ h3) rfl rfl (runX ?_)
 refine rg ?_
 obtain ⟨r4,h4,hF⟩:=bnd hF
 refine g_call (project_View_c _ _ _ h4) rfl rfl (runX ?_)
 refine rg ?_
 refine bl ?_
 refine fix_elim hF fun f12 mf12 hf12 hF=>?_
 refine pws_loop (α:=Nat×Int) (fun a _=>mkS [(1,.str p1),(5,.ptr 5 (1,5) 0),(6,.ptr 6 (1,6) 0),(7,.int .i64 a.2)] [(5,some ((1,5),.box [.int .i64 r3.seq,.int .i64 r3.clock,.sl (List.map Stored.cs r3.pages),.sl (List.map Stored.cs r3.gone),.sl (List.map Proposal.cs r3.proposals),.int .i64 r3.proposed,.sl (List.map Watch.cs r3.watches),.sl (List.map Last.cs r3.lasts)])),(6,some ((1,6),.box [.sl (List.map Page.cs r4.pages),.sl (List.map Group.cs r4.policy.groups),.sl (List.map Rule.cs r4.policy.rules),.sl (List.map Guard.cs r4.policy.guards),.sl (List.map csS r4.groups),.int .i64 r4.clock,.sl (List.map Asked.cs r4.fixed)]))] 2) (fun a=>fixN a.1 f12 a.2=some r) (fun a=>a.1) (mf12,1) 2 hF (sR [(5,3,2),(6,4,2)]) (fun a _ hF=>?_)
 obtain ⟨mf12,x30⟩:=a
 obtain ⟨mf12,rfl,hF⟩:=fix_step hf12 hF
 dsimp only at hF ⊢
 refine runX ?_
 refine rg ?_
 refine g_lenM rfl (M:=r4.pages) (f:=Page.cs) rfl (runX ?_)
 refine cS hF rfl (fun hF=>?_) fun hF=>?_
 ·refine bl ?_
  refine rg ?_
  obtain ⟨e40,h27,hF⟩:=bnd hF
  refine g_indexI (f:=Page.cs) rfl h27 rfl rfl rfl (runX ?_)
  obtain ⟨e41,h28,hF⟩:=bnd hF
  refine g_indexI (f:=Page.cs) rfl h28 rfl rfl rfl (runX ?_)
  refine jL hF (fun x42=>mkS [(1,.str p1),(5,.ptr 5 (1,5) 0),(6,.ptr 6 (1,6) 0),(7,.int .i64 x30),(57,.bool x42)] [(5,some ((1,5),.box [.int .i64 r3.seq,.int .i64 r3.clock,.sl (List.map Stored.cs r3.pages),.sl (List.map Stored.cs r3.gone),.sl (List.map Proposal.cs r3.proposals),.int .i64 r3.proposed,.sl (List.map Watch.cs r3.watches),.sl (List.map Last.cs r3.lasts)])),(6,some ((1,6),.box [.sl (List.map Page.cs r4.pages),.sl (List.map Group.cs r4.policy.groups),.sl (List.map Rule.cs r4.policy.rules),.sl (List.map Guard.cs r4.policy.guards),.sl (List.map csS r4.groups),.int .i64 r4.clock,.sl (List.map Asked.cs r4.fixed)]))] 2) (fun k14 hF=>?_) fun x42 hF=>?_
  ·refine rg ?_
   refine kS 44 hF rfl (fun hF=>?_) fun hF=>?_
   ·iterate 12 refine g_skip rfl (runX ?_)
    exact jn true hF (sR [(5,1,5),(6,1,6)])
   refine kS 50 hF rfl (fun hF=>?_) fun hF=>?_
   ·exact jn (!ltS e40.title.name e41.title.name) hF (sR [(5,1,5),(6,1,6)])
   iterate 5 refine g_skip rfl (runX ?_)
   exact jn false hF (sR [(5,1,5),(6,1,6)])
  refine cS hF rfl (fun hF=>?_) fun hF=>?_
  ·refine rg ?_
   cases hF
   exact rQ
  refine rg ?_
  exact rn (mf12,(w64 (x30+1))) hF (sR [(5,1,5),(6,1,6)])
 refine rg ?_
 obtain ⟨s43,h29,hF⟩:=bnd hF
 refine g_catI rfl h29 rfl rfl (runX ?_)
 obtain ⟨r44,h30,hF⟩:=bnd hF
 refine g_call (project_View_c _ _ _ h30) rfl rfl (runX ?_)
 refine jL hF (fun x48=>mkS [(4,.bool x48)] [] 2) (fun k15 hF=>?_) fun x48 hF=>?_
 ·refine rg ?_
  obtain ⟨r49,h34,hF⟩:=bnd hF
  refine g_call (w31_awake_c _ h34) rfl rfl (runX ?_)
  refine kS 63 hF rfl (fun hF=>?_) fun hF=>?_
  ·refine g_buildM (M:=([(⟨#[97,108,108]⟩:ByteArray)]:List ByteArray)) (f:=csS) rfl rfl rfl rfl (Nat.le_of_ble_eq_true rfl) rfl (runX ?_)
   obtain ⟨r50,h35,hF⟩:=bnd hF
   refine g_look (g2_Same_string_c _ _ _ h35) rfl rfl rfl (runX ?_)
   refine kS 69 hF rfl (fun hF=>?_) fun hF=>?_
   ·obtain ⟨r51,h36,hF⟩:=bnd hF
    refine g_call (project_Same_c _ _ _ h36) rfl rfl (runX ?_)
    exact jn r51 hF (sR [])
   iterate 3 refine g_skip rfl (runX ?_)
   exact jn false hF (sR [])
  iterate 7 refine g_skip rfl (runX ?_)
  exact jn false hF (sR [])
 cases hF
 exact rQ
end Go.Proofs.YtphibahplgmgfaaGreatDoor
namespace Go.Proofs.YtphibahplgmgfaaGreatDoor
open VL
set_option linter.unusedVariables false
theorem anon1 (u y:ByteArray) (x:List ByteArray):access_Groups_1 y false u x=access_Groups_1 y false ⟨#[]⟩ x:=rfl
theorem anon_groups (P:Policy) (u:ByteArray) (h:isName u=false):access_Groups P u=access_Groups P ⟨#[]⟩:=by
 have e1:policy_IsName u=some false:=by unfold policy_IsName;rw [h]
 have e2:policy_IsName ⟨#[]⟩=some false:=rfl
 unfold access_Groups
 rw [e1,e2,Option.bind_some,Option.bind_some]
 simp only [anon1 u]
set_option maxRecDepth 100000 in
theorem anon_all:polsG.all (fun p=>decide (access_Groups p ⟨#[]⟩=some [⟨#[97,108,108]⟩]))=true:=by kernel_rfl
theorem anon_name (t:ByteArray):isName ((⟨#[65,32]⟩:ByteArray)++t)=false:=by
 unfold isName
 rw [Bool.and_eq_false_iff]
 left
 rw [decide_eq_false_iff_not]
 intro h
 have e:((⟨#[65,32]⟩:ByteArray)++t).data.toList.headD 0=65:=by
  rw [ByteArray.data_append,Array.toList_append]
  rfl
 rw [e] at h
 have:=h.2.2.1
 exact absurd this (by decide)
theorem law_order (l:List Int) (t:ByteArray) (hl:l.length≤9223372036854775807):w31_ProjectOrder l t=some true:=by
 refine tot_eq ?_
 unfold w31_ProjectOrder
 refine tot_ifD (fun _=>tot_bindE awake_e (tot_some rfl)) fun ht=>?_
 refine tot_bind (state_t l hl) fun s hs=>?_
 obtain ⟨t0,P0,G,hv,hP0,-,-,va⟩:=made_view (u:=⟨#[]⟩) hs (.head _)
 generalize polAt P0 s.pages=P at va
 have hpl:=hv.plen
 have hh:=vs_hist hv
 refine tot_bindE va.view ?_
 have hsort:=viewPg_sorted P G hv.sorted
 have hvl:=viewPg_len (P:=P) (G:=G) (l:=s.pages)
 have hpg:(viewOf P G s).pages=viewPg P G s.pages:=rfl
 have hG:G = [⟨#[97,108,108]⟩]:=by
  have:=of_decide_eq_true (List.all_eq_true.1 anon_all P va.pol)
  rw [va.gprog] at this
  injection this
 rw [hpg]
 refine tot_loop (fun i:Int=>1≤i∧i≤((viewPg P G s.pages).length:Int)+1) (fun i=>(((viewPg P G s.pages).length:Int)+1 - i).toNat) ⟨by omega,by omega⟩ (by omega) ?_
 rintro i rec ⟨h0,h1⟩ ih
 refine tot_ifD (fun hlt=>?_) fun hlt=>?_
 ·rw [w64_of (by omega) (by omega)]
  refine tot_atI (by omega) (by omega) fun a _ ha=>?_
  refine tot_atI (by omega) hlt fun b _ hb=>?_
  have hab:tlt a.title b.title:=pw_get hsort (by omega) ha hb
  rw [tlt_iff] at hab
  refine tot_let (fun k=>Tot (k false) fun r=>r=true) ?_ fun k hk=>?_
  ·refine tot_ifF rfl ?_
   rw [w64_of (by omega) (by omega)]
   exact ih _ ⟨by omega,by omega⟩ (by omega)
  ·refine tot_ifD (fun c=>absurd c (by omega)) fun _=>?_
   refine tot_ifD (fun c=>?_) fun _=>hk
   have hlt:ltS a.title.name b.title.name=true:=by
    rcases hab with h | h
    ·omega
    ·exact h.2
   rw [hlt]
   exact hk
 ·refine tot_catS (by show 2+t.size≤_;omega) fun _=>?_
  have e:=project_view_e (u:=(⟨#[65,32]⟩:ByteArray)++t) va.prog (by rw [anon_groups P _ (anon_name t)];exact va.gprog) (by have:=(polsG_le _ va.pol).1;omega) (by omega) hh
  refine tot_bindE e ?_
  refine tot_let0 ?_
  refine tot_bindE awake_e ?_
  refine tot_ifT rfl ?_
  refine tot_bindE (gsame_string _ _ (.inr (by decide))) ?_
  refine tot_ifT (decide_eq_true hG) ?_
  exact tot_bindE (project_same _ _ (.inl (vm_fits va.vm))) (tot_some (decide_eq_true rfl))
end Go.Proofs.YtphibahplgmgfaaGreatDoor
