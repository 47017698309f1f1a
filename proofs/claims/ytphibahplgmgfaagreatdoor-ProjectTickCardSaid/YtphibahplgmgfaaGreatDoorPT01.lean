/- Functions of the program as Lean functions. Written by fxgen.py. | ProjectTick: what the law computes is true. No program is named. | ProjectTick in worlds: whatever the lists and the numbers, the law returns true. -/
import Derived.Test.YtphibahplgmgfaaGreatDoorPB29
import Derived.Test.YtphibahplgmgfaaGreatDoorPB08
import Derived.Test.YtphibahplgmgfaaGreatDoorPB30
set_option linter.unusedVariables false
set_option maxHeartbeats 4000000
set_option maxRecDepth 100000
namespace Go.Proofs.YtphibahplgmgfaaGreatDoor
open VL
def w31_ProjectTick (p0:List Int) (p1:Int) (p2:Int):Option Bool:=
 (g2_State p0).bind fun r1=>
 (g2_Users).bind fun r2=>
 (g2_Round p1 4).bind fun r3=>
 (atI r2 r3).bind fun e4=>
 (g2_Round p2 9000).bind fun r5=>
 (r27_Apply r1 [(⟨6,(⟨#[]⟩:ByteArray),(⟨#[]⟩:ByteArray),(⟨0,(⟨#[]⟩:ByteArray)⟩:Title),(⟨0,(⟨#[]⟩:ByteArray)⟩:Title),(⟨#[]⟩:ByteArray),(w64 (1+r5)),[]⟩:Change)]).bind fun r6=>
 (project_View r1 e4).bind fun r7=>
 (project_View r6.1 e4).bind fun r8=>
 (project_Same r7 r8).bind fun r9=>
 letk (fun (x12:Bool)=>
  (some x12:Option Bool)) fun k1=>
 (w31_awake).bind fun r13=>
 if r13 then
  if (decide (r6.2=0)) then
   if (!r9) then
    (project_Same r7 (⟨r8.pages,r8.policy,r8.groups,(w64 (r8.clock - (w64 (1+r5)))),r8.fixed⟩:View)).bind fun r14=>
    k1 r14
   else
   k1 false
  else
  k1 false
 else
 k1 false
theorem w31_ProjectTick_c (p0:List Int) (p1:Int) (p2:Int) (r:Bool) (hF:w31_ProjectTick p0 p1 p2=some r):Contract0 Tryz.prog 8 [.sl (List.map csI p0),.int .i64 p1,.int .i64 p2] (.bool r):=by
 refine cF (fun r=>.bool r) hF mix Tryz.func8 fun r hF=>?_
 unfold w31_ProjectTick at hF
 refine runX ?_
 refine rg ?_
 refine rg ?_
 obtain ⟨r1,h1,hF⟩:=bnd hF
 refine g_call (g2_State_c _ _ h1) rfl rfl (runX ?_)
 obtain ⟨r2,h2,hF⟩:=bnd hF
 refine g_call (g2_Users_c _ h2) rfl rfl (runX ?_)
 obtain ⟨r3,h3,hF⟩:=bnd hF
 refine g_call (g2_Round_c _ _ _ h3) rfl rfl (runX ?_)
 obtain ⟨e4,h4,hF⟩:=bnd hF
 refine g_indexI (f:=csS) rfl h4 rfl rfl rfl (runX ?_)
 refine rg ?_
 obtain ⟨r5,h5,hF⟩:=bnd hF
 refine g_call (g2_Round_c _ _ _ h5) rfl rfl (runX ?_)
 refine rg ?_
 refine g_buildM (M:=([(⟨6,(⟨#[]⟩:ByteArray),(⟨#[]⟩:ByteArray),(⟨0,(⟨#[]⟩:ByteArray)⟩:Title),(⟨0,(⟨#[]⟩:ByteArray)⟩:Title),(⟨#[]⟩:ByteArray),(w64 (1+r5)),[]⟩:Change)]:List Change)) (f:=Change.cs) rfl rfl rfl rfl (Nat.le_of_ble_eq_true rfl) rfl (runX ?_)
 obtain ⟨r6,h6,hF⟩:=bnd hF
 refine g_call (r27_Apply_c _ _ _ h6) rfl rfl (runX ?_)
 refine rg ?_
 obtain ⟨r7,h7,hF⟩:=bnd hF
 refine g_call (project_View_c _ _ _ h7) rfl rfl (runX ?_)
 obtain ⟨r8,h8,hF⟩:=bnd hF
 refine g_call (project_View_c _ _ _ h8) rfl rfl (runX ?_)
 refine rg ?_
 obtain ⟨r9,h9,hF⟩:=bnd hF
 refine g_call (project_Same_c _ _ _ h9) rfl rfl (runX ?_)
 refine rg ?_
 refine jL hF (fun x12=>mkS [(6,.bool x12)] [] 2) (fun k1 hF=>?_) fun x12 hF=>?_
 ·refine rg ?_
  obtain ⟨r13,h12,hF⟩:=bnd hF
  refine g_call (w31_awake_c _ h12) rfl rfl (runX ?_)
  refine kS 48 hF rfl (fun hF=>?_) fun hF=>?_
  ·refine kS 52 hF rfl (fun hF=>?_) fun hF=>?_
   ·refine kS 56 hF rfl (fun hF=>?_) fun hF=>?_
    ·obtain ⟨r14,h13,hF⟩:=bnd hF
     refine g_call (project_Same_c _ _ _ h13) rfl rfl (runX ?_)
     exact jn r14 hF (sR [])
    iterate 3 refine g_skip rfl (runX ?_)
    exact jn false hF (sR [])
   iterate 5 refine g_skip rfl (runX ?_)
   exact jn false hF (sR [])
  iterate 7 refine g_skip rfl (runX ?_)
  exact jn false hF (sR [])
 cases hF
 exact rQ
end Go.Proofs.YtphibahplgmgfaaGreatDoor
namespace Go.Proofs.YtphibahplgmgfaaGreatDoor
open VL
set_option linter.unusedVariables false
def tickC (n:Int):Change:=⟨6,⟨#[]⟩,⟨#[]⟩,⟨0,⟨#[]⟩⟩,⟨0,⟨#[]⟩⟩,⟨#[]⟩,n,[]⟩
theorem valid_tick (n:Int) (h1:1≤n) (h2:n≤9000):r26_Valid (tickC n)=some 0:=by
 refine tot_eq ?_
 unfold r26_Valid
 refine tot_bindE (v:=true) rfl ?_
 refine tot_ifF rfl ?_
 have hw:r26_within (tickC n)=if decide (1≤n)=true then some (decide (n≤52596000)) else some false:=rfl
 refine tot_bindE (v:=true) (by rw [hw,if_pos (decide_eq_true h1),decide_eq_true (by omega)]) ?_
 refine tot_ifF rfl ?_
 exact ⟨0,by rfl,rfl⟩
def tickS (s:State) (n:Int):State:=⟨s.seq+1,s.clock+n,s.pages,s.gone,s.proposals,s.proposed,s.watches,s.lasts⟩
theorem tick_e {t0:ByteArray} {s:State} (h:VS t0 s.seq s) (hp:∃ p n,r12_Parse t0=some (p,n,0)) (n:Int) (h1:1≤n) (h2:n≤9000) (hc:s.clock≤80000) (hs:s.seq≤1000):r27_Apply s [tickC n]=some (tickS s n,0):=by
 have s0:=h.seq0
 have c0:=h.clock0
 have e1:w64 (s.seq+1)=s.seq+1:=w64_of (by omega) (by omega)
 refine tot_eq ?_
 unfold r27_Apply
 refine tot_bindE (valid_e t0 s h (by omega) hp) ?_
 refine tot_ifF rfl ?_
 refine tot_let (fun k=>Tot (k false) fun r=>r=(tickS s n,0)) ?_ fun k hk=>tot_ifF rfl hk
 refine tot_ifF rfl ?_
 refine tot_loop (fun a:Int×Int×Int×List Stored×List Stored×List Proposal×Int×List Watch×List Last=>a=(0,s.seq,s.clock,s.pages,s.gone,s.proposals,s.proposed,s.watches,s.lasts)∨a=(1,s.seq,s.clock+n,s.pages,s.gone,s.proposals,s.proposed,s.watches,s.lasts)) (fun a=>(1 - a.1).toNat) (.inl rfl) (by show (1 - (0:Int)).toNat≤4611686018427387900;decide) ?_
 rintro a rec ha ih
 rw [e1]
 rcases ha with rfl | rfl
 ·refine tot_ifT rfl ?_
  refine tot_bindE (v:=tickC n) rfl ?_
  refine tot_bindE (valid_tick n h1 h2) ?_
  refine tot_ifF rfl ?_
  refine tot_bindE (v:=tickC n) rfl ?_
  refine tot_bindE (v:=(⟨s.seq,s.clock+n,s.pages,s.gone,s.proposals,s.proposed,s.watches,s.lasts⟩,0)) ?_ ?_
  ·refine tot_eq ?_
   unfold r27_kind
   refine tot_ifF rfl (tot_ifF rfl (tot_ifF rfl (tot_ifF rfl (tot_ifF rfl (tot_ifT rfl ?_)))))
   have ew:w64 (52595999 - s.clock)=52595999 - s.clock:=w64_of (by omega) (by omega)
   dsimp only [tickC]
   rw [ew,w64_of (by omega) (by omega)]
   exact tot_ifF (decide_eq_false (by omega)) (tot_some rfl)
  ·refine tot_ifF rfl ?_
   refine tot_bindE (v:=tickC n) rfl ?_
   refine tot_bindE (v:=false) rfl ?_
   refine tot_ifF rfl ?_
   refine tot_bindE (v:=tickC n) rfl ?_
   refine tot_bindE (v:=(⟨s.seq,s.clock+n,s.pages,s.gone,s.proposals,s.proposed,s.watches,s.lasts⟩,0)) rfl ?_
   refine tot_ifF rfl ?_
   exact ih _ (.inr rfl) (by show (1 - (1:Int)).toNat<(1 - (0:Int)).toNat;decide)
 ·refine tot_ifF rfl ?_
  exact tot_ifF (decide_eq_false (by omega)) (tot_some rfl)
theorem tick_view {s:State} {u:ByteArray} {G:List ByteArray} (n:Int) (hl:s.pages.length≤1000000) (hh:∀ p ∈ s.pages,1≤p.history.length∧p.history.length≤1000000) {t0:ByteArray} {q:Int} {P0:Policy} (hv:VS t0 q s) (hr:r12_Parse t0=some (P0,0,0)) (hp:policy_Parse t0=some (P0,0,0)) (h:ViewAt s u (polAt P0 s.pages) G) :
  project_View (tickS s n) u=some (viewOf (polAt P0 s.pages) G (tickS s n)):=by
 have hR:=(polsG_le _ h.pol).1
 refine project_view_e ?_ h.gprog (by omega) hl hh
 have h0:=h.prog
 unfold edit_PolicyOf at h0 ⊢
 exact h0
theorem law_tick (l:List Int) (who mn:Int) (hl:l.length≤9223372036854775807):w31_ProjectTick l who mn=some true:=by
 refine tot_eq ?_
 unfold w31_ProjectTick
 refine tot_bind (state_t l hl) fun s hs=>?_
 refine tot_bindE (v:=usersG) rfl ?_
 refine tot_bind (round_t who 4 (by omega) (by omega)) fun w hw=>?_
 refine tot_atI hw.1 hw.2 fun u hu hgu=>?_
 obtain ⟨t0,P0,G,hv,hP0,hr,hp,va⟩:=made_view hs hu
 have hpl:=hv.plen
 have hh:=vs_hist hv
 have hsq:=hs.seq
 have hcl:=hs.clock
 have hc0:=hv.clock0
 refine tot_bind (round_t mn 9000 (by omega) (by omega)) fun n0 hn=>?_
 have en:w64 (1+n0)=1+n0:=w64_of (by omega) (by omega)
 rw [en]
 refine tot_bindE (tick_e hv ⟨P0,0,hr⟩ (1+n0) (by omega) (by omega) (by omega) (by omega)) ?_
 refine tot_bindE va.view ?_
 refine tot_bindE (tick_view (1+n0) (by omega) hh hv hr hp va) ?_
 have f1:=vm_fits va.vm
 refine tot_bindE (project_same _ _ (.inl f1)) ?_
 refine tot_let0 ?_
 refine tot_bindE awake_e ?_
 refine tot_ifT rfl ?_
 refine tot_ifT rfl ?_
 have hne:viewOf (polAt P0 s.pages) G s≠viewOf (polAt P0 s.pages) G (tickS s (1+n0)):=fun e=>by
  have:s.clock=s.clock+(1+n0):=congrArg View.clock e
  omega
 refine tot_ifT (by rw [decide_eq_false hne];rfl) ?_
 have ec:w64 ((viewOf (polAt P0 s.pages) G (tickS s (1+n0))).clock - (1+n0))=s.clock:=by
  show w64 (s.clock+(1+n0) - (1+n0))=s.clock
  rw [w64_of (by omega) (by omega)]
  omega
 rw [ec]
 refine tot_bindE (project_same _ _ (.inl f1)) (tot_some ?_)
 exact decide_eq_true rfl
end Go.Proofs.YtphibahplgmgfaaGreatDoor
namespace Go.Proofs.YtphibahplgmgfaaGreatDoor
open VL Go.RowKit
set_option linter.unusedVariables false
theorem slr_len {α:Type} [Enc α] {w:World} {A:Option Addr} {n c:Nat} {xs:List α} (h:SlR w A n c xs):xs.length≤9223372036854775807:=by
 obtain ⟨h1,h2,h3,h4⟩:=h
 omega
theorem args3 {x:Ctx} {p0 p1 p2:PV} {v0 v1 v2:Value} (h0:Rep x p0 v0) (h1:Rep x p1 v1) (h2:Rep x p2 v2) (i:Nat) (p:PV) (v:Value)
  (hp : [p0,p1,p2][i]? = some p) (hv : #[v0,v1,v2][i]? = some v):Rep x p v:=by
 match i,hp,hv with
 | 0,hp,hv=>injection hp with hp;injection hv with hv;subst hp hv;exact h0
 | 1,hp,hv=>injection hp with hp;injection hv with hv;subst hp hv;exact h1
 | 2,hp,hv=>injection hp with hp;injection hv with hv;subst hp hv;exact h2
 | i+3,hp,_=>simp at hp
theorem projectTick_any {A:Option Addr} {n c:Nat} {l:List Int} (i0 i1:Int) (W:World) (hl:SlR W A n c l) (hI:∀ W',Below W.heap.size W W'→WInv.I Tryz.prog W') :
  Calls Tryz.prog 8 #[.slice A n c,.int .i64 i0,.int .i64 i1] W fun e w'=>e = .returned (.bool true)∧Below W.heap.size W w':=
 calls_bool (w31_ProjectTick_c l i0 i1 true (law_tick l i0 i1 (slr_len hl))) rfl (args3 (sl_of_SlR hl) (.int _ _) (.int _ _)) hI
end Go.Proofs.YtphibahplgmgfaaGreatDoor
