/- A body does in the world what it does to the state; what is said of a function. No program is named. | How a body is run by hand: states that are written out, one rule an operation. No program is named. | One rule for each form of operation. No program is named. | Rules for plain operations: numbers, strings, comparisons. No program is named. | States that are written out, again: what may be let go; counting. No program is named. | Calls with an object behind a pointer, and functions that take one. No program is named. | Rules for division, bits, shifts, conversion of numbers, min and max. No program is named. | An element of an array that is no place (a list of constants). No program is named. | Functions of which it is only said that they return something of a kind. No program is named. | The generations of what is known get new names. No program is named. | Functions that hand back an object of their own. No program is named. | Functions that turn a row of plain values; calls that only look at what is handed in; function values. No program is named. | Rows whose cells lead to other objects of the call: elements, lengths, parts, append. No program is named. | Rows whose cells lead to other objects: stores, append, fronts, literals. No program is named. | Rows whose cells lead to other objects: fronts of them, literals, and a plain row taken as one. No program is named. | The objects of one function under the names of another. No program is named. | From contracts about worlds to contracts about values, and back; a row that is shown. No program is named. | A literal list of strings. No program is named. | What lies in a slot or in a box made pure; nil in a box as a row of the call's own. No program is named. -/
import Derived.Test.YtjblgpmagampbaaGreatDoorCP01
namespace Go.Proofs.YtjblgpmagampbaaGreatDoor
namespace VL
open Go.RowKit
section
variable {P:Program} [WInv P] {r:Run} {ops:Array Oper} {fp:Nat→Option (List Nat×List Nat)}
def Zfc (n:Nat) (listed:Array Bool):List Nat:=(List.range n).filter fun i=>!listed.getD i true
theorem ZgE {n i:Nat} {listed:Array Bool}:i ∈ Zfc n listed↔i<n∧listed.getD i true=false:=by
 unfold Zfc
 simp
theorem ZmU {n i:Nat} {listed:Array Bool} (hs:listed.size=n) (hi:i ∈ Zfc n listed):Zfc n (listed.setIfInBounds i true)=(Zfc n listed).erase i:=by
 have hnd:(Zfc n listed).Nodup:=List.nodup_range.sublist List.filter_sublist
 rw [List.Nodup.erase_eq_filter hnd]
 unfold Zfc
 rw [List.filter_filter]
 refine List.filter_congr fun j hj=>?_
 have hjn:j<n:=by simpa using hj
 rw [Array.getD_eq_getD_getElem?,Array.getD_eq_getD_getElem?]
 by_cases e:j=i
 ·subst e
  rw [Array.getElem?_setIfInBounds_self_of_lt (by rw [hs];exact hjn)]
  simp
 ·rw [Array.getElem?_setIfInBounds_ne (fun h=>e h.symm)]
  simp [e]
theorem Zqt (hI:r.I=WInv.I P) (hdraw:Zj4 ops fp=true) (hM:ops.size≤1000000) (hN:∀ (i:Nat) (o:Oper),ops[i]? = some o→∀ k,o.dst=some k→k<r.N) {send:FS} {Q:Exit→Act→World→Prop} (hQ:∀ a' y S',RstX r S' send a' y→Q .normal a' y.W) :
  ∀ (fuel:Nat) (listed:Array Bool) {s:FS} {a:Act} {x:Ctx},listed.size=ops.size→(Zfc ops.size listed).length≤fuel→
   (∀ i o,ops[i]? = some o→listed.getD i true=true→∀ e ∈ o.after.toList,Region.binds .any e=true→listed.getD e.on false=true)→
   RunO P ops fp (Zfc ops.size listed) s send→RstX r (fun j=>listed.getD j false=true∨1000000≤j∧listed.getD (j % 1000000) false=true) s a x→wpAny P .any ops Q fuel listed a x.W:=by
 have hd:∀ i o,ops[i]? = some o→(∀ e ∈ o.after.toList,Region.binds .any e=true→e.on<i)∧∀ k,k<i→indep ops fp k i=true∨reach ops ops.size k i=true:=fun i o ho=>by
  unfold Zj4 at hdraw
  have hin:i<ops.size:=(Array.getElem?_eq_some_iff.1 ho).1
  have:=List.all_eq_true.1 hdraw i (List.mem_range.2 hin)
  rw [ho] at this
  simp only [Option.map_some,Option.getD_some,Bool.and_eq_true,List.all_eq_true] at this
  refine ⟨fun e he hb=>?_,fun k hk=>?_⟩
  ·have:=this.1 e he
   rw [hb] at this
   simpa using this
  ·have:=this.2 k (List.mem_range.2 hk)
   simpa using this
 have hready:∀ (listed:Array Bool),listed.size=ops.size→∀ i,i ∈ Zfc ops.size listed→∃ j,j ∈ Region.ready .any ops listed:=fun listed hs i=>by
  induction i using Nat.strongRecOn with
  | _ i ih=>
    intro hi
    obtain ⟨hin,hil⟩:=ZgE.1 hi
    by_cases hall:∃ o,ops[i]? = some o∧∀ e ∈ o.after.toList,Region.binds .any e=true→listed.getD e.on false=true
    ·obtain ⟨o,ho,hall⟩:=hall
     refine ⟨i,?_⟩
     unfold Region.ready
     simp only [List.mem_filter,List.mem_range,Bool.and_eq_true,Bool.not_eq_true']
     refine ⟨hin,hil,?_⟩
     rw [ho]
     simp only [Option.map_some,Option.getD_some]
     rw [← Array.all_toList,List.all_eq_true]
     intro e he
     by_cases hb:Region.binds .any e=true
     ·simp [hall e he hb]
     ·simp [hb]
    ·have ho:ops[i]? = some ops[i]:=Array.getElem?_eq_getElem hin
     have:∃ e ∈ (ops[i]).after.toList,Region.binds .any e=true∧¬ listed.getD e.on false=true:=by
      refine Classical.byContradiction fun hno=>hall ⟨_,ho,fun e he hb=>Classical.byContradiction fun h=>hno ⟨e,he,hb,h⟩⟩
     obtain ⟨e,he,hb,hl⟩:=this
     have hlt:=(hd i _ ho).1 e he hb
     refine ih e.on hlt (ZgE.2 ⟨by omega,?_⟩)
     have he2:e.on<listed.size:=by omega
     rw [Array.getD_eq_getD_getElem?,Array.getElem?_eq_getElem he2] at hl ⊢
     simpa using hl
 intro fuel
 induction fuel with
 | zero=>
   intro listed s a x hs hl _ hrun hX
   have hnil:Zfc ops.size listed = []:=List.eq_nil_of_length_eq_zero (Nat.le_zero.1 hl)
   rw [hnil] at hrun
   cases hrun
   refine ⟨?_,hQ _ _ _ hX⟩
   rcases hr:Region.ready .any ops listed with _ | ⟨j,l⟩
   ·rfl
   ·have:j ∈ Region.ready .any ops listed:=by rw [hr];exact List.mem_cons_self ..
    unfold Region.ready at this
    simp only [List.mem_filter,List.mem_range,Bool.and_eq_true,Bool.not_eq_true'] at this
    have hm:=(ZgE (n:=ops.size)).2 ⟨this.1,this.2.1⟩
    rw [hnil] at hm
    cases hm
 | succ fuel ih=>
   intro listed s a x hs hl hdown hrun hX
   refine ⟨fun hr=>?_,fun i hi=>?_⟩
   ·have hnil:Zfc ops.size listed = []:=by
     rcases he:Zfc ops.size listed with _ | ⟨j,l⟩
     ·rfl
     ·obtain ⟨k,hk⟩:=hready listed hs j (by rw [he];exact List.mem_cons_self ..)
      rw [hr] at hk
      cases hk
    rw [hnil] at hrun
    cases hrun
    exact hQ _ _ _ hX
   ·unfold Region.ready at hi
    simp only [List.mem_filter,List.mem_range,Bool.and_eq_true,Bool.not_eq_true'] at hi
    obtain ⟨hin,hil,hie⟩:=hi
    have hm:i ∈ Zfc ops.size listed:=ZgE.2 ⟨hin,hil⟩
    have ho:ops[i]? = some ops[i]:=Array.getElem?_eq_getElem hin
    have hedges:∀ o,ops[i]? = some o→∀ e ∈ o.after.toList,Region.binds .any e=true→listed.getD e.on false=true:=fun o ho e he hb=>by
     rw [ho] at hie
     simp only [Option.map_some,Option.getD_some] at hie
     rw [← Array.all_toList,List.all_eq_true] at hie
     have:=hie e he
     rw [hb] at this
     simpa using this
    have hpw:(Zfc ops.size listed).Pairwise (· < ·):=List.Pairwise.filter _ List.pairwise_lt_range
    obtain ⟨o,u,ho',h1,_,h2⟩:=front hrun hm hpw fun k hk hlt=>by
     obtain ⟨hkn,hkl⟩:=ZgE.1 hk
     rcases (hd i _ ho).2 k hlt with h | h
     ·exact h
     ·have:=ZhS hdown hs _ k i h hedges
      have hk2:k<listed.size:=by omega
      rw [Array.getD_eq_getD_getElem?,Array.getElem?_eq_getElem hk2] at this hkl
      simp only [Option.getD_some] at this hkl
      rw [this] at hkl
      cases hkl
    have hi2:i<listed.size:=by omega
    have hS:¬ listed.getD i false=true:=by
     rw [Array.getD_eq_getD_getElem?,Array.getElem?_eq_getElem hi2] at hil ⊢
     simp only [Option.getD_some] at hil ⊢
     rw [hil]
     simp
    refine ZlP hI ho' h1 hX (by omega) (fun h=>h.elim hS fun h=>by omega) (fun k hk=>?_) (hN _ _ ho') fun a' y hY=>?_
    ·rcases hk with hk | hk
     ·have hbig:¬ i+1000000 * (k+1)<listed.size:=by omega
      rw [Array.getD_eq_getD_getElem?,Array.getElem?_eq_none (by omega)] at hk
      cases hk
     ·have e:(i+1000000 * (k+1)) % 1000000=i:=by omega
      rw [e] at hk
      exact .inl hk.2
    have mono:∀ j,listed.getD j false=true→(listed.setIfInBounds i true).getD j false=true:=fun j hj=>by
     rw [Array.getD_eq_getD_getElem?]
     by_cases e2:j=i
     ·rw [e2,Array.getElem?_setIfInBounds_self_of_lt hi2];rfl
     ·rw [Array.getElem?_setIfInBounds_ne (fun h=>e2 h.symm),← Array.getD_eq_getD_getElem?];exact hj
    have self:(listed.setIfInBounds i true).getD i false=true:=by
     rw [Array.getD_eq_getD_getElem?,Array.getElem?_setIfInBounds_self_of_lt hi2];rfl
    rw [← ZmU hs hm] at h2
    refine ih (listed.setIfInBounds i true) (by simpa using hs) ?_ (fun j oj hoj hj e he hb=>?_) h2 (hY.moreS fun j hj=>?_)
    ·rw [ZmU hs hm,List.length_erase_of_mem hm]
     omega
    ·have key:listed.getD e.on false=true:=by
      by_cases e1:j=i
      ·subst e1
       exact hedges oj hoj e he hb
      ·rw [Array.getD_eq_getD_getElem?,Array.getElem?_setIfInBounds_ne (fun h=>e1 h.symm)] at hj
       exact hdown j oj hoj (by rw [Array.getD_eq_getD_getElem?];exact hj) e he hb
     rw [Array.getD_eq_getD_getElem?] at key ⊢
     by_cases e2:e.on=i
     ·rw [e2,Array.getElem?_setIfInBounds_self_of_lt hi2];rfl
     ·rw [Array.getElem?_setIfInBounds_ne (fun h=>e2 h.symm)];exact key
    ·rcases hj with (hj | hj) | hj | hj
     ·exact .inl (mono j hj)
     ·exact .inr ⟨hj.1,mono _ hj.2⟩
     ·exact .inl (hj ▸ self)
     ·exact .inr ⟨hj.1,by rw [hj.2];exact self⟩
end
theorem RstX.regionEnd {r:Run} {S:Nat→Prop} {s:FS} {a:Act} {x:Ctx} (h:RstX r S s a x):RstX r (fun _=>False) ⟨s.tm,s.ob,s.ng+1⟩ a x:=
 ⟨h.defers,h.size,h.gr,fun g hg=>.inl (by rcases h.gens g hg with e | ⟨e,_⟩<;>show g.1<s.ng+1<;>omega),h.tm,h.ob,h.apart,h.flt,h.f0,h.fnew,h.rho,h.inv,h.keep⟩
theorem ZnB (id:Nat) (e:Ex) (Q:Exit→Act→World→Prop) (a:Act) (w:World) (h:Q (e.block id).to a w):Exit.inBlock id Q e.to a w:=by
 cases e with
 | exit k=>
   simp only [Ex.block] at h
   show if k=id then Q .normal a w else Q (.exit k) a w
   split at h
   ·rename_i hk;rw [if_pos hk];exact h
   ·rename_i hk;rw [if_neg hk];exact h
 | _=>exact h
theorem Zlm {e:Ex} (he:e≠.normal) {K:Act→World→Prop} {Q:Exit→Act→World→Prop} {a:Act} {w:World} (h:Q e.to a w):Exit.then K Q e.to a w:=by
 cases e with
 | normal=>exact absurd rfl he
 | _=>exact h
section
variable {P:Program} [WInv P]
theorem Zdu (hmix:P.follows .mixedOrders=true) {c:Code} {s s1:FS} {e:Ex} (h:RunC P c s e s1) :
  (∀ (r:Run) (a:Act) (x:Ctx) (Q:Exit→Act→World→Prop),(r.I=WInv.I P∧Zaz r.N c=true)→RstX r (fun _=>False) s a x→(∀ a' y,RstX r (fun _=>False) s1 a' y→Q e.to a' y.W)→c.wp P Q a x.W)∧
  ∀ d,c = .loop d→∃ n,∀ (r:Run) (a:Act) (x:Ctx) (Q:Exit→Act→World→Prop),(r.I=WInv.I P∧Zaz r.N d=true)→RstX r (fun _=>False) s a x→(∀ a' y,RstX r (fun _=>False) s1 a' y→Q e.to a' y.W)→Code.rounds P d Q n a x.W:=by
 induction h with
 | skip=>exact ⟨fun r a x Q _ hX hQ=>wp_skip (hQ _ _ hX),fun d hd=>by cases hd⟩
 | label=>exact ⟨fun r a x Q _ hX hQ=>wp_label (hQ _ _ hX),fun d hd=>by cases hd⟩
 | ret=>exact ⟨fun r a x Q _ hX hQ=>wp_ret (hQ _ _ hX),fun d hd=>by cases hd⟩
 | exit=>exact ⟨fun r a x Q _ hX hQ=>wp_exit (hQ _ _ hX),fun d hd=>by cases hd⟩
 | seqN h k ih1 ih2=>
   refine ⟨fun r a x Q hok hX hQ=>?_,fun d hd=>by cases hd⟩
   simp only [Zaz,Bool.and_eq_true] at hok
   exact wp_seq (ih1.1 r a x _ ⟨hok.1,hok.2.1⟩ hX fun a' y hY=>ih2.1 r a' y Q ⟨hok.1,hok.2.2⟩ hY hQ)
 | seqX h he ih=>
   refine ⟨fun r a x Q hok hX hQ=>?_,fun d hd=>by cases hd⟩
   simp only [Zaz,Bool.and_eq_true] at hok
   exact wp_seq (ih.1 r a x _ ⟨hok.1,hok.2.1⟩ hX fun a' y hY=>Zlm he (hQ a' y hY))
 | cond hc h ih=>
   rename_i co cx cy s s1 e t
   refine ⟨fun r a x Q hok hX hQ=>?_,fun d hd=>by cases hd⟩
   simp only [Zaz,Bool.and_eq_true] at hok
   have hr:=ZE hX co
   rw [hc] at hr
   generalize hv:a.eval co=v at hr
   cases hr
   exact wp_cond hv (ih.1 r a x Q (by cases t<;>simp [hok.1,hok.2.1,hok.2.2]) hX hQ)
 | block h ih=>
   refine ⟨fun r a x Q hok hX hQ=>?_,fun d hd=>by cases hd⟩
   simp only [Zaz] at hok
   exact wp_block (ih.1 r a x _ hok hX fun a' y hY=>ZnB _ _ _ _ _ (hQ a' y hY))
 | loopN h k ih1 ih2=>
   rename_i c s s1 s2 e
   have hL:∃ n,∀ (r:Run) (a:Act) (x:Ctx) (Q:Exit→Act→World→Prop),(r.I=WInv.I P∧Zaz r.N c=true)→RstX r (fun _=>False) s a x→(∀ a' y,RstX r (fun _=>False) s2 a' y→Q e.to a' y.W)→Code.rounds P c Q n a x.W:=by
    obtain ⟨n,hn⟩:=ih2.2 c rfl
    refine ⟨n+1,fun r a x Q hok hX hQ=>?_⟩
    rw [rounds_succ]
    exact ih1.1 r a x _ hok hX fun a' y hY=>hn r a' y Q hok hY hQ
   refine ⟨fun r a x Q hok hX hQ=>?_,fun d hd=>by cases hd;exact hL⟩
   obtain ⟨n,hn⟩:=hL
   exact wp_loop_rounds n (hn r a x Q hok hX hQ)
 | loopX h he ih=>
   rename_i c s s1 e
   have hL:∀ (r:Run) (a:Act) (x:Ctx) (Q:Exit→Act→World→Prop),(r.I=WInv.I P∧Zaz r.N c=true)→RstX r (fun _=>False) s a x→(∀ a' y,RstX r (fun _=>False) s1 a' y→Q e.to a' y.W)→Code.rounds P c Q 1 a x.W:=fun r a x Q hok hX hQ=>by
    rw [rounds_succ]
    exact ih.1 r a x _ hok hX fun a' y hY=>Zlm he (hQ a' y hY)
   exact ⟨fun r a x Q hok hX hQ=>wp_loop_rounds 1 (hL r a x Q hok hX hQ),fun d hd=>by cases hd;exact ⟨1,hL⟩⟩
 | region fp h hd=>
   rename_i id ops draw s s1
   refine ⟨fun r a x Q hok hX hQ=>?_,fun d hd=>by cases hd⟩
   have hN:∀ (i:Nat) (o:Oper),ops[i]? = some o→∀ k,o.dst=some k→k<r.N:=fun i o ho k hk=>by
    simp only [Zaz,Bool.and_eq_true] at hok
    have:=Array.all_eq_true.1 hok.2.2 i (Array.getElem?_eq_some_iff.1 ho).1
    rw [(Array.getElem?_eq_some_iff.1 ho).2,hk] at this
    simpa using this
   have hM:ops.size≤1000000:=by
    simp only [Zaz,Bool.and_eq_true,decide_eq_true_eq] at hok
    exact hok.2.1
   cases draw with
   | false=>exact wp_region (ZpC hok.1 h hN hX List.nodup_range (fun i hi=>by have:=List.mem_range.1 hi;omega) (fun _ _=>⟨fun h=>h,fun _ h=>h⟩) fun a' y S' hY=>hQ a' y hY.regionEnd)
   | true=>
     refine wp_region_any hmix ?_
     have hX':RstX r (fun _=>False) s a { x with W:={ x.W with drawn:=x.W.drawn+1 } }:=hX.world rfl rfl rfl rfl
     have hleft:Zfc ops.size (Array.replicate ops.size false)=List.range ops.size:=by
      unfold Zfc
      refine List.filter_eq_self.2 fun i hi=>?_
      have:i<ops.size:=by simpa using hi
      simp [Array.getD_eq_getD_getElem?,this]
     refine Zqt hok.1 (hd rfl) hM hN (fun a' y S' hY=>hQ a' y hY.regionEnd) ops.size (Array.replicate ops.size false) (by simp) (by rw [hleft];simp) (fun i o ho hi=>?_) (by rw [hleft];exact h) (hX'.moreS fun i hi=>hi.elim)
     have:i<ops.size:=(Array.getElem?_eq_some_iff.1 ho).1
     simp [Array.getD_eq_getD_getElem?,this] at hi
 | shift hs h ih=>
   refine ⟨fun r a x Q hok hX hQ=>?_,fun d hd=>?_⟩
   ·obtain ⟨y,hy,hY⟩:=hs r a x hX
    rw [← hy]
    exact ih.1 r a y Q hok hY hQ
   ·obtain ⟨n,hn⟩:=ih.2 d hd
    refine ⟨n,fun r a x Q hok hX hQ=>?_⟩
    obtain ⟨y,hy,hY⟩:=hs r a x hX
    rw [← hy]
    exact hn r a y Q hok hY hQ
theorem Zln {f:Nat→Option (Gen×VObj)} {p q:PV} {us:List (Nat×Option (Gen×VObj))} (h:Zjn f p=some (q,us)):q.pure=true:=by
 cases p<;>simp only [Zjn] at h<;>first
  | (cases h;done)
  | (injection h with h;injection h with e1 e2;subst e1;rfl)
  | (split at h
     ·injection h with h;injection h with e1 e2;subst e1;rfl
     ·cases h)
theorem ZfC {f:Nat→Option (Gen×VObj)}:∀ (ps:List PV) {qs:List PV} {us:List (Nat×Option (Gen×VObj))} (_:Zdy f ps=some (qs,us)),qs.all PV.pure=true
 | [],qs,us,h=>by
   simp only [Zdy,Option.some.injEq,Prod.mk.injEq] at h
   rw [← h.1];rfl
 | p::ps,qs,us,h=>by
   simp only [Zdy] at h
   split at h
   ·rename_i q us1 qs2 us2 h1 h2
    injection h with h
    injection h with e1 e2
    subst e1
    rw [List.all_cons,Zln h1,ZfC ps h2];rfl
   ·cases h
def ZoT (obj:Option (Nat×List PV)) (t:Nat):Option (Gen×VObj):=match obj with
 | some (j,os)=>if t=j then some ((0,j),.box os) else none
 | none=>none
def Zkt (args:List PV) (obj:Option (Nat×List PV)):FS:=⟨fun t=>args.getD t (.tup []),ZoT obj,1⟩
def ZrY (P:Program) (s:FS):ResultVar→Option PV
 | .tmp t=>some (s.tm t)
 | .cell a T=>match tyI P T,ZeD s.ob (s.tm a) with
   | some ti,some cs=>Zh1 ti cs
   | _,_=>none
def ZbX (P:Program) (s:FS):List ResultVar→Option (List PV)
 | []=>some []
 | v::vs=>match ZrY P s v,ZbX P s vs with
   | some p,some ps=>some (p::ps)
   | _,_=>none
def Zmn (a:Act):ResultVar→Sem Value
 | .tmp t=>pure (a.tmps.getD t undef)
 | .cell b t=>do loadVar t (← asAddr (a.tmps.getD b undef))
theorem ZoU {f:Nat→Option (Gen×VObj)} {p q:PV} {us:List (Nat×Option (Gen×VObj))} (h:res f p=some (q,us)):q.clean=true:=by
 cases p with
 | agg ps=>
   simp only [res] at h
   cases h1:Zdy f ps with
   | none=>rw [h1] at h;simp at h
   | some z=>
     obtain ⟨qs,us'⟩:=z
     rw [h1] at h
     simp only [Option.map_some,Option.some.injEq,Prod.mk.injEq] at h
     obtain ⟨rfl,rfl⟩:=h
     exact ZfC ps h1
 | _=>
   simp only [res] at h
   have:=Zln h
   cases q<;>first | exact this | (simp [PV.pure] at this)
def ZbY:List PV→PV
 | [p]=>p
 | ps=>.tup ps
omit [WInv P] in
theorem Zbs {r:Run} {S:Nat→Prop} {s:FS} {a:Act} {x:Ctx} (hX:RstX r S s a x):∀ (vs:List ResultVar) {ps:List PV} (_:ZbX P s vs=some ps),
  ∃ ws:List Value,(vs.mapM (Zmn a)).run P x.W = .ok ws x.W∧ws.length=ps.length∧∀ (j:Nat) (p:PV),ps[j]? = some p→Rep x p (ws.getD j undef)
 | [],ps,h=>by
   simp only [ZbX,Option.some.injEq] at h
   subst h
   exact ⟨[],by rw [List.mapM_nil];rfl,rfl,fun j p hp=>by simp at hp⟩
 | v::vs,ps,h=>by
   simp only [ZbX] at h
   split at h
   ·rename_i p ps' h1 h2
    injection h with h
    subst h
    obtain ⟨ws,h3,h4,h5⟩:=Zbs hX vs h2
    have hv:∃ w,(Zmn a v).run P x.W = .ok w x.W∧Rep x p w:=by
     cases v with
     | tmp t=>
       simp only [ZrY,Option.some.injEq] at h1
       subst h1
       exact ⟨_,rfl,hX.tm t⟩
     | cell b T=>
       simp only [ZrY] at h1
       split at h1
       ·rename_i ti cs ht hr
        obtain ⟨bb,off,hv,hc⟩:=Zfl hX hr (hX.tm b)
        obtain ⟨w,h6,h7⟩:=Zc9 ht hc h1
        refine ⟨w,?_,h7⟩
        unfold Zmn
        simp only [hv]
        have h6':(loadVar T ⟨bb,off,none⟩).run P x.W = .ok w x.W:=by simpa [Instr.loadAt,Instr.sureAddr] using h6
        simp [asAddr,h6']
       ·cases h1
    obtain ⟨w,h6,h7⟩:=hv
    refine ⟨w::ws,?_,by simp [h4],fun j q hq=>?_⟩
    ·rw [List.mapM_cons,Sem.run_bind,h6]
     simp only [Result.andThen_ok,Sem.run_bind,h3,Sem.run_pure]
    ·cases j with
     | zero=>simp at hq;subst hq;exact h7
     | succ j=>exact h5 j q (by simpa using hq)
   ·cases h
theorem Zhg {obj:Option (Nat×List PV)} {t:Nat} {g:Gen} {o:VObj} (h:ZoT obj t=some (g,o)):∃ os,obj=some (t,os)∧g=(0,t)∧o = .box os:=by
 unfold ZoT at h
 split at h
 ·rename_i j os
  split at h
  ·rename_i e
   subst e
   injection h with h
   injection h with e1 e2
   exact ⟨os,rfl,e1.symm,e2.symm⟩
  ·cases h
 ·cases h
theorem ZeH (hmix:P.follows .mixedOrders=true) {f:FuncId} {fn:Func} {c:Code} {args:List PV} {obj:Option (Nat×List PV)} {e:Ex} {s1:FS} {ps qs:List PV} {us us2:List (Nat×Option (Gen×VObj))} {obj' obj2:List PV}
  (hg:isGo P f=true) (hf:P.funcs[f]? = some fn) (hb:fn.body=some c) (hn:args.length≤fn.ntmps) (hok:Zaz fn.ntmps c=true) (hrun:RunC P c (Zkt args obj) e s1) (he:e = .normal∨e = .ret)
  (hres:ZbX P s1 fn.results.toList=some ps) (hpub:ZeW s1.ob ps=some (qs,us))
  (hobj:∀ j os,obj=some (j,os)→s1.ob j=some ((0,j),.box obj2)∧Zdy s1.ob obj2=some (obj',us2)) (hnone:obj=none→obj' = []) :
  Contract P f args obj (ZbY qs) obj':=by
 have hclean:(ZbY qs).result=true∧obj'.all PV.pure=true∧True:=by
  refine ⟨?_,?_,trivial⟩
  ·have h1:∀ (l:List PV) {qs:List PV} {us:List (Nat×Option (Gen×VObj))},ZeW s1.ob l=some (qs,us)→qs.all PV.clean=true:=fun l=>by
    induction l with
    | nil=>intro qs us h;simp only [ZeW,Option.some.injEq,Prod.mk.injEq] at h;rw [← h.1];rfl
    | cons p l ih=>
      intro qs us h
      simp only [ZeW] at h
      split at h
      ·rename_i q us1 qs2 us2 h1 h2
       injection h with h
       injection h with e1 e2
       subst e1
       rw [List.all_cons,ih h2,Bool.and_true]
       exact ZoU h1
      ·cases h
   have:=h1 ps hpub
   unfold ZbY
   split
   ·rename_i p
    have hp:p.clean=true:=by simpa using this
    cases p<;>first | exact hp | (simp [PV.clean,PV.pure] at hp)
   ·exact this
  ·cases obj with
   | none=>rw [hnone rfl];rfl
   | some q=>exact ZfC _ (hobj q.1 q.2 rfl).2
 refine ⟨hg,hclean.1,hclean.2.1,fun x vs hpre hinv=>?_⟩
 let r:Run:=⟨x.W,Dof x obj,(vs++Array.replicate (fn.ntmps - vs.size) undef).size,x.F,x.G,x.ρ,WInv.I P⟩
 have hNr:r.N=fn.ntmps:=by
  have:=hpre.size
  simp [r]
  omega
 have hX:RstX r (fun _=>False) (Zkt args obj) { tmps:=vs++Array.replicate (fn.ntmps - vs.size) undef,defers:=[] } x:=by
  refine ⟨rfl,rfl,Gr.refl _ _,fun g hg=>?_,fun t=>?_,fun t g o ho=>?_,fun t t' g g' o o' b hne h1 h2=>?_,hpre.flt,fun _ _ h=>h,fun _ _ h=>.inl h,fun _ h=>⟨h,rfl⟩,⟨hinv,fun g hg=>by obtain ⟨j,os,_,rfl⟩:=hpre.gen g hg;rfl⟩,fun _ _ _ _ h=>h⟩
  ·obtain ⟨j,os,_,rfl⟩:=hpre.gen g hg
   exact .inl Nat.zero_lt_one
  ·show Rep x (args.getD t (.tup [])) _
   rw [Array.getD_eq_getD_getElem?,Array.getElem?_append,List.getD_eq_getElem?_getD]
   by_cases ht:t<vs.size
   ·rw [if_pos ht,List.getElem?_eq_getElem (by rw [hpre.size];exact ht),Array.getElem?_eq_getElem ht]
    exact hpre.rep t _ _ (List.getElem?_eq_getElem (by rw [hpre.size];exact ht)) (Array.getElem?_eq_getElem ht)
   ·rw [if_neg ht,List.getElem?_eq_none (by rw [hpre.size];omega)]
    have:(Array.replicate (fn.ntmps - vs.size) undef)[t - vs.size]?.getD undef=undef:=by
     rw [Array.getElem?_replicate]
     split<;>rfl
    rw [this]
    exact .tup [] #[] rfl (fun i p v hp=>by simp at hp)
  ·obtain ⟨os,h1,rfl,rfl⟩:=Zhg ho
   have:=hpre.ob t os h1
   exact ⟨this.1,this.2⟩
  ·obtain ⟨os,h3,_,_⟩:=Zhg h1
   obtain ⟨os',h4,_,_⟩:=Zhg h2
   rw [h3] at h4
   injection h4 with h4
   injection h4 with h4
   exact absurd h4 hne
 refine calls_of_wp hf hb ?_
 refine (Zdu hmix hrun).1 r _ x _ ⟨rfl,by rw [hNr];exact hok⟩ hX fun a' y hY=>?_
 obtain ⟨ws,h1,h2,h3⟩:=Zbs hY fn.results.toList hres
 obtain ⟨F1,st1,hY1,hR1,hf1⟩:=Zcb ps (Flip.refl s1.ob) hY (g:=fun j=>ws.getD j undef) hpub h3
 obtain ⟨F2,st2,hY2,hob⟩:∃ F2,Step { y with F:=F1 } { y with F:=F2 }∧(∃ s2,RstX r (fun _=>False) s2 a' { y with F:=F2 })∧∀ j os,obj=some (j,os)→ObRep { y with F:=F2 } x.W.heap.size (Dof x obj) (0,j) (.box obj'):=by
  cases hobj2:obj with
  | none=>exact ⟨F1,Step.refl _,⟨_,hY1⟩,fun j os h=>by cases h⟩
  | some q=>
    obtain ⟨j,os⟩:=q
    obtain ⟨g1,g2⟩:=hobj j os hobj2
    have g3:=hf1.box g1
    obtain ⟨_,b,T,cv,q1,q2,q3,q4,q5,q6,q7⟩:=hY1.ob j _ _ g3
    obtain ⟨F2,st2,hY2,hR2,hl2,hf2⟩:=Zcd obj2 hf1 hY1 (g:=fun j=>cv.getD j undef) g2 (fun j p hp=>by
     have hlt:j<cv.size:=by rw [← q3];exact (List.getElem?_eq_some_iff.1 hp).1
     have:cv.getD j undef=cv[j]:=by simp [hlt]
     rw [this]
     exact q5 j p _ hp (Array.getElem?_eq_getElem hlt))
    refine ⟨F2,st2,⟨_,hY2⟩,fun j' os' h=>?_⟩
    injection h with h
    injection h with e1 e2
    subst e1 e2
    obtain ⟨_,b2,T2,cv2,w1,w2,w3,w4,w5,w6,w7⟩:=hY2.ob j _ _ (hf2.box g1)
    change y.ρ (0,j)=_ at q1 w1
    rw [q1] at w1
    injection w1 with w1
    injection w1 with w1
    injection w1 with w1
    subst w1
    refine ⟨b,T,cv,q1,q2,by rw [hl2,q3],fun p hp=>?_,fun k p v hp hv=>?_,?_,w7⟩
    ·obtain ⟨k,hk⟩:=List.getElem?_of_mem hp
     exact PV.cell_of_pure (hR2 k p hk).1
    ·have:=(hR2 k p hp).2
     rw [Array.getD_eq_getD_getElem?,hv] at this
     exact this
    ·rw [← hobj2];exact q6
 obtain ⟨s2,hY2⟩:=hY2
 have hstep:Step x { y with F:=F2 }:=by
  refine ⟨fun g hg=>hY2.rho g hg,fun b o hb=>hY2.f0 b o hb,fun b o v hb hv=>?_⟩
  have hlt:=hpre.flt b o hb
  have hnD:¬ Dof x obj b:=fun ⟨j,os,ho,hbk⟩=>by
   obtain ⟨_,b2,T,cv,q1,_,_,_,_,_,q7⟩:=hpre.ob j os ho
   rw [q1] at hbk
   obtain rfl:b2=b:=by simpa [blk] using hbk
   exact q7 o hb
  exact (World.cell?_of_block (hY2.gr.block b hlt hnD)).trans hv
 have hfn:∀ b o,F2 b o→x.F b o∨x.W.heap.size≤b:=fun b o hF=>by
  rcases hY2.fnew b o hF with h | h | h
  ·exact .inl h
  ·exact .inr h
  ·obtain ⟨j,os,h,hbk⟩:=h
   obtain ⟨b2,T,cv,q1,_,_,_,_,_,q7⟩:=hob j os h
   have e:y.ρ (0,j)=x.ρ (0,j):=(hstep.G (0,j) (hpre.ob j os h).1).2
   change blk (x.ρ (0,j))=some b at hbk
   change y.ρ (0,j)=_ at q1
   rw [← e,q1] at hbk
   obtain rfl:b2=b:=by simpa [blk] using hbk
   exact absurd hF (q7 o)
 have hend:(results fn a'.tmps).run P y.W = .ok (if ws.length=1 then ws.getD 0 undef else .tuple ws.toArray) y.W:=by
  have:(fn.results.mapM (Zmn a')).run P y.W = .ok ws.toArray y.W:=by
   rw [Array.mapM_eq_mapM_toList,map_eq_pure_bind,Sem.run_bind,h1]
   rfl
  have e:results fn a'.tmps=(fn.results.mapM (Zmn a') >>= fun vs=>pure (if h:vs.size=1 then vs[0] else .tuple vs)):=by
   unfold results
   congr 1
  rw [e,Sem.run_bind,this]
  simp only [Result.andThen_ok,Sem.run_pure]
  congr 1
  by_cases hl:ws.length=1
  ·simp [hl]
  ·simp [hl]
 have hfin:∃ v,(results fn a'.tmps).run P y.W = .ok v y.W∧(fun e W'=>∃ y v,y.W=W'∧e=Ending.returned v∧Post x y obj (ZbY qs) obj' v) (Ending.returned v) y.W:=by
  refine ⟨_,hend,{ y with F:=F2 },_,rfl,rfl,hstep,hY2.gr,hfn,hY2.flt,?_,hob⟩
  have hR:∀ (j:Nat) (q:PV),qs[j]? = some q→Rep { y with F:=F2 } q (ws.getD j undef):=fun j q hq=>(hR1 j q hq).2.step st2
  have hlq:qs.length=ws.length:=by rw [Zd5 _ hpub,h2]
  unfold ZbY
  split
  ·rename_i p
   rw [if_pos (by simpa using hlq.symm)]
   exact hR 0 p rfl
  ·rename_i hne
   have hn1:¬ ws.length=1:=fun h=>by
    rw [h] at hlq
    match qs,hlq with
    | [q],_=>exact hne q rfl
   rw [if_neg hn1]
   refine .tup qs ws.toArray (by simpa using hlq) fun j q v hq hv=>?_
   have:=hR j q hq
   have hv':ws[j]? = some v:=by simpa using hv
   rw [List.getD_eq_getElem?_getD,hv'] at this
   exact this
 rcases he with rfl | rfl
 ·exact ⟨hY.defers,hfin⟩
 ·exact ⟨hY.defers,hfin⟩
end
end VL
end Go.Proofs.YtjblgpmagampbaaGreatDoor
namespace Go.Proofs.YtjblgpmagampbaaGreatDoor
namespace VL
open Go.RowKit
def look:List (Nat×PV)→Nat→PV
 | [],_=>.un
 | (k,v)::r,t=>if t=k then v else look r t
def Zg:List (Nat×Option (Gen×VObj))→Nat→Option (Gen×VObj)
 | [],_=>none
 | (k,v)::r,t=>if t=k then v else Zg r t
def mkS (tm:List (Nat×PV)) (ob:List (Nat×Option (Gen×VObj))) (ng:Nat):FS:=⟨look tm,Zg ob,ng⟩
def evL (tm:List (Nat×PV)):Operand→PV
 | .tmp t=>look tm t
 | .const v=>ZcS v
 | .func f=>.fn f []
 | .global _=>.un
theorem ZB (tm:List (Nat×PV)) (ob:List (Nat×Option (Gen×VObj))) (ng:Nat):ev (mkS tm ob ng)=evL tm:=by funext e;cases e<;>rfl
def Zau (d:Option Tmp) (v:PV) (tm:List (Nat×PV)):List (Nat×PV):=match d with
 | some d=>(d,v)::tm
 | none=>tm
theorem ZcM:∀ (us ob:List (Nat×Option (Gen×VObj))),flips (Zg ob) us=Zg (us.reverse++ob)
 | [],ob=>rfl
 | q::us,ob=>by
   show flips (Zba (Zg ob) q.1 q.2) us=_
   have:Zba (Zg ob) q.1 q.2=Zg (q::ob):=rfl
   rw [this,ZcM us (q::ob)]
   simp
theorem Zac (tm:List (Nat×PV)) (ob:List (Nat×Option (Gen×VObj))) (ng:Nat) (d:Option Tmp) (v:PV) (us:List (Nat×Option (Gen×VObj))) :
  (mkS tm ob ng).app d ⟨v,us⟩=mkS (Zau d v tm) (us.reverse++ob) ng:=by
 unfold FS.app mkS
 simp only [FS.mk.injEq,and_true]
 constructor
 ·cases d<;>rfl
 ·exact ZcM us ob
def PW (P:Program) [WInv P] (c:Code) (Q:Ex→FS→Prop) (s:FS):Prop:=∃ e s',RunC P c s e s'∧Q e s'
def GoL (P:Program) [WInv P] (ops:Array Oper) (draw:Bool) (i:Nat) (L:List Oper) (acc:List (List Nat×List Nat)) (s:FS) (K:FS→Prop):Prop:=
 acc.length=i→ops.toList.drop i=L→∃ (fps:List (List Nat×List Nat)) (s':FS),(∀ fp:Nat→Option (List Nat×List Nat),(∀ j,j<fps.length→fp (i+j)=none∨fp (i+j)=fps[j]?)→RunO P ops fp ((List.range L.length).map (i + ·)) s s')∧
  fps.length=L.length∧(draw=true→Zj4 ops (fun j=>(acc++fps)[j]?)=true)∧K s'
section
variable {P:Program} [WInv P] {ops:Array Oper} {draw:Bool} {i:Nat} {L:List Oper} {acc:List (List Nat×List Nat)} {s:FS} {K:FS→Prop} {Q:Ex→FS→Prop}
theorem ZpD (K W:List Nat):Zp5 (some (K,W)) K W=true:=by
 simp [Zp5]
theorem ZrB (hd:draw=true→Zj4 ops (fun j=>acc[j]?)=true) (h:K s):GoL P ops draw i [] acc s K:=fun _ _=>
 ⟨[],s,fun _ _=>.nil,rfl,by simpa using hd,h⟩
theorem ZbR {o:Oper} {u:Upd} (h:OpR P ops i o s u) (k:GoL P ops draw (i+1) L (acc ++ [(Zr s o,u.obs.map (·.1))]) (s.app o.dst u) K):GoL P ops draw i (o::L) acc s K:=fun hacc hL=>by
 have h2:ops.toList.drop (i+1)=L:=by rw [← List.drop_drop,hL];rfl
 obtain ⟨fps,s',h3,h4,h5,h6⟩:=k (by simp [hacc]) h2
 have ho:ops[i]? = some o:=by
  have:(ops.toList.drop i)[0]? = some o:=by rw [hL];rfl
  rw [List.getElem?_drop] at this
  simpa using this
 refine ⟨(Zr s o,u.obs.map (·.1))::fps,s',fun fp hfp=>?_,by simp [h4],by simpa using h5,h6⟩
 have e:(List.range (o::L).length).map (i + ·)=i::(List.range L.length).map (i+1 + ·):=by
  rw [List.length_cons,List.range_succ_eq_map,List.map_cons,List.map_map,Nat.add_zero]
  congr 1
  refine List.map_congr_left fun j _=>?_
  simp only [Function.comp]
  omega
 rw [e]
 refine .cons ho h ?_ (h3 fp fun j hj=>?_)
 ·rcases hfp 0 (by simp) with h | h
  ·rw [Nat.add_zero] at h;rw [h];rfl
  ·rw [Nat.add_zero] at h;rw [h];exact ZpD _ _
 ·have:=hfp (j+1) (by simpa using hj)
  have e2:i+(j+1)=i+1+j:=by omega
  rw [e2] at this
  simpa using this
theorem ZpE {id:Nat} (h:GoL P ops draw 0 ops.toList [] s fun s'=>Q .normal ⟨s'.tm,s'.ob,s'.ng+1⟩):PW P (.region id ops draw) Q s:=by
 obtain ⟨fps,s',h1,h2,h3,h4⟩:=h rfl rfl
 cases draw with
 | false=>
   refine ⟨.normal,_,.region (fun _=>none) ?_ (fun h=>by cases h),h4⟩
   have:=h1 (fun _=>none) fun j _=>.inl rfl
   simpa using this
 | true=>
   refine ⟨.normal,_,.region (fun j=>fps[j]?) ?_ (fun _=>by simpa using h3 rfl),h4⟩
   have:=h1 (fun j=>fps[j]?) fun j _=>.inr (by simp)
   simpa using this
theorem ZmA {a:Code} {Q':Ex→FS→Prop} (h:PW P a Q s) (hq:∀ e s,Q e s→Q' e s):PW P a Q' s:=by
 obtain ⟨e,s',h1,h2⟩:=h
 exact ⟨e,s',h1,hq _ _ h2⟩
def Ztk (N:FS→Prop) (Q:Ex→FS→Prop):Ex→FS→Prop
 | .normal,s=>N s
 | e,s=>Q e s
theorem Zsn {a b:Code} (h:PW P a (Ztk (PW P b Q) Q) s):PW P (.seq a b) Q s:=by
 obtain ⟨e,s',h1,h2⟩:=h
 cases e with
 | normal=>
   obtain ⟨e2,s2,h3,h4⟩:=h2
   exact ⟨e2,s2,.seqN h1 h3,h4⟩
 | exit id=>exact ⟨_,s',.seqX h1 (by simp),h2⟩
 | ret=>exact ⟨_,s',.seqX h1 (by simp),h2⟩
end
def PWs (P:Program) [WInv P]:List Code→(Ex→FS→Prop)→FS→Prop
 | [],Q,s=>Q .normal s
 | c::cs,Q,s=>PW P c (Ztk (PWs P cs Q) Q) s
section
variable {P:Program} [WInv P] {ops:Array Oper} {draw:Bool} {s:FS} {Q:Ex→FS→Prop} {cs:List Code}
theorem Zx (h:Q .normal s):PWs P [] Q s:=h
theorem Zh {a b:Code} (h:PWs P (a::b::cs) Q s):PWs P (.seq a b::cs) Q s:=by
 refine Zsn (ZmA h fun e s h=>?_)
 cases e<;>exact h
theorem Zn1 {id:Nat} (h:GoL P ops draw 0 ops.toList [] s fun s'=>PWs P cs Q ⟨s'.tm,s'.ob,s'.ng+1⟩):PWs P (.region id ops draw::cs) Q s:=ZpE h
theorem Zz (h:PWs P cs Q s):PWs P (.skip::cs) Q s:=⟨_,_,.skip,h⟩
theorem ZaY (h:Q .ret s):PWs P (.ret::cs) Q s:=⟨_,_,.ret,h⟩
theorem ZaR {id:Nat} (h:Q (.exit id) s):PWs P (.exit id::cs) Q s:=⟨_,_,.exit,h⟩
theorem Zii {c:Operand} {x y:Code} {t:Bool} (hc:ev s c = .bool t) (h:PWs P ((if t then x else y)::cs) Q s):PWs P (.cond c x y::cs) Q s:=by
 obtain ⟨e,s',h1,h2⟩:=h
 exact ⟨e,s',.cond hc h1,h2⟩
theorem ZqY {c:Operand} {x y:Code} (hc:ev s c = .bool true) (h:PWs P (x::cs) Q s):PWs P (.cond c x y::cs) Q s:=Zii hc h
theorem ZpF {c:Operand} {x y:Code} (hc:ev s c = .bool false) (h:PWs P (y::cs) Q s):PWs P (.cond c x y::cs) Q s:=Zii hc h
theorem ZpG {c:Operand} {x y:Code} {t:Bool} (hc:ev s c = .bool t) (h1:t=true→PWs P (x::cs) Q s) (h2:t=false→PWs P (y::cs) Q s):PWs P (.cond c x y::cs) Q s:=by
 cases t
 ·exact Zii hc (h2 rfl)
 ·exact Zii hc (h1 rfl)
def ZlQ (id:Nat) (N:FS→Prop) (Q:Ex→FS→Prop):Ex→FS→Prop
 | .normal,s=>N s
 | .exit k,s=>if k=id then N s else Q (.exit k) s
 | .ret,s=>Q .ret s
theorem ZcN {id:Nat} {N:FS→Prop} (h:N s):ZlQ id N Q (.exit id) s:=by show if id=id then N s else _;rw [if_pos rfl];exact h
theorem ZJ {id:Nat} {N:FS→Prop} (h:N s):ZlQ id N Q .normal s:=h
theorem ZpH {id:Nat} {N:FS→Prop} (h:Q .ret s):ZlQ id N Q .ret s:=h
theorem ZbI {c:Code} (h:PWs P [c] Q s):PW P c Q s:=ZmA h fun e s h=>by cases e<;>exact h
theorem ZU {id:Nat} {c:Code} (h:PWs P [c] (ZlQ id (PWs P cs Q) Q) s):PWs P (.block id c::cs) Q s:=by
 obtain ⟨e,s',h1,h2⟩:=ZbI h
 refine ⟨e.block id,s',.block h1,?_⟩
 cases e with
 | exit k=>
   simp only [Ex.block]
   change (if k=id then PWs P cs Q s' else Q (.exit k) s') at h2
   split
   ·rename_i hk;rw [if_pos hk] at h2;exact h2
   ·rename_i hk;rw [if_neg hk] at h2;exact h2
 | normal=>exact h2
 | ret=>exact h2
def ZlR {α:Type} (St:α→Nat→FS) (J:α→Prop) (m:α→Nat) (a:α) (Q:Ex→FS→Prop):Ex→FS→Prop
 | .normal,s=>∃ a' ng,J a'∧m a'<m a∧Shift s (St a' ng)
 | e,s=>Q e s
theorem Zq {α:Type} {c:Code} (St:α→Nat→FS) (J:α→Prop) (m:α→Nat) (a0:α) (ng0:Nat) (h0:J a0) (hs:Shift s (St a0 ng0)) (round:∀ a ng,J a→PWs P [c] (ZlR St J m a Q) (St a ng)) :
  PWs P (.loop c::cs) Q s:=by
 have key:∀ n a ng,m a=n→J a→∃ e s',RunC P (.loop c) (St a ng) e s'∧e≠.normal∧Q e s':=fun n=>by
  induction n using Nat.strongRecOn with
  | _ n ih=>
    intro a ng hn hJ
    obtain ⟨e,s',h1,h2⟩:=ZbI (round a ng hJ)
    cases e with
    | normal=>
      obtain ⟨a',ng',h3,h4,h5⟩:=h2
      obtain ⟨e2,s2,h6,h7,h8⟩:=ih (m a') (hn ▸ h4) a' ng' rfl h3
      exact ⟨e2,s2,.loopN h1 (.shift h5 h6),h7,h8⟩
    | exit id=>exact ⟨_,s',.loopX h1 (by simp),by simp,h2⟩
    | ret=>exact ⟨_,s',.loopX h1 (by simp),by simp,h2⟩
 obtain ⟨e,s',h1,h2,h3⟩:=key _ a0 ng0 rfl h0
 refine ⟨e,s',.shift hs h1,?_⟩
 cases e with
 | normal=>exact absurd rfl h2
 | _=>exact h3
theorem ZR {α:Type} {St:α→Nat→FS} {J:α→Prop} {m:α→Nat} {a:α} (a':α) (ng:Nat) (h1:J a') (h2:m a'<m a) (h3:Shift s (St a' ng)):ZlR St J m a Q .normal s:=⟨a',ng,h1,h2,h3⟩
theorem Zgo {α:Type} {St:α→Nat→FS} {J:α→Prop} {m:α→Nat} {a:α} {id:Nat} (h:Q (.exit id) s):ZlR St J m a Q (.exit id) s:=h
theorem ZpI {α:Type} {St:α→Nat→FS} {J:α→Prop} {m:α→Nat} {a:α} (h:Q .ret s):ZlR St J m a Q .ret s:=h
theorem ZcO {s s1:FS} (h1:∀ t,s1.tm t = .un∨s1.tm t=s.tm t) (h2:∀ t,s1.ob t=none∨s1.ob t=s.ob t) (h3:s.ng≤s1.ng):Shift s s1:=fun r a x h=>⟨x,rfl,by
 refine ⟨h.defers,h.size,h.gr,fun g hg=>.inl ?_,fun t=>?_,fun t g o ho=>?_,fun t t' g g' o o' b hne e1 e2=>?_,h.flt,h.f0,h.fnew,h.rho,h.inv,h.keep⟩
 ·rcases h.gens g hg with e | ⟨_,e⟩
  ·omega
  ·exact e.elim
 ·rcases h1 t with e | e
  ·rw [e];exact .un _
  ·rw [e];exact h.tm t
 ·rcases h2 t with e | e
  ·rw [e] at ho;cases ho
  ·rw [e] at ho;exact h.ob t g o ho
 ·rcases h2 t with e | e
  ·rw [e] at e1;cases e1
  ·rcases h2 t' with e' | e'
   ·rw [e'] at e2;cases e2
   ·rw [e] at e1;rw [e'] at e2;exact h.apart t t' g g' o o' b hne e1 e2⟩
theorem Shift.refl (s:FS):Shift s s:=fun _ _ x h=>⟨x,rfl,h⟩
theorem Shift.trans {s s1 s2:FS} (h:Shift s s1) (k:Shift s1 s2):Shift s s2:=fun r a x hx=>by
 obtain ⟨y,h1,h2⟩:=h r a x hx
 obtain ⟨z,h3,h4⟩:=k r a y h2
 exact ⟨z,h3.trans h1,h4⟩
def ZsE (P:Program) (rs:List ResultVar) (res:PV):Ex→FS→Prop
 | .exit _,_=>False
 | _,s=>∃ ps qs us,ZbX P s rs=some ps∧ZeW s.ob ps=some (qs,us)∧ZbY qs=res
omit [WInv P] in
theorem ZdW {rs:List ResultVar} {res:PV} {ps qs:List PV} {us:List (Nat×Option (Gen×VObj))} (h1:ZbX P s rs=some ps) (h2:ZeW s.ob ps=some (qs,us)) (h3:ZbY qs=res):ZsE P rs res .ret s:=⟨ps,qs,us,h1,h2,h3⟩
def ZcP:Nat→List PV→List (Nat×PV)
 | _,[]=>[]
 | i,p::ps=>(i,p)::ZcP (i+1) ps
theorem Zce:∀ (args:List PV) (i t:Nat),look (ZcP i args) t = .un∨(i≤t∧look (ZcP i args) t=args.getD (t - i) (.tup []))
 | [],i,t=>.inl rfl
 | p::ps,i,t=>by
   show (if t=i then p else look (ZcP (i+1) ps) t)=_∨(_∧(if t=i then p else look (ZcP (i+1) ps) t)=_)
   by_cases e:t=i
   ·rw [if_pos e]
    right
    refine ⟨by omega,?_⟩
    rw [e,Nat.sub_self]
    rfl
   ·rw [if_neg e]
    rcases Zce ps (i+1) t with h | ⟨h1,h2⟩
    ·exact .inl h
    ·right
     refine ⟨by omega,?_⟩
     rw [h2]
     have:t - i=(t - (i+1))+1:=by omega
     rw [this]
     rfl
theorem Zbq (hmix:P.follows .mixedOrders=true) {f:FuncId} {fn:Func} {c:Code} {args:List PV} {res:PV} (hf:P.funcs[f]? = some fn) (hg:isGo P f=true) (hb:fn.body=some c) (hok:(decide (args.length≤fn.ntmps)&&Zaz fn.ntmps c)=true)
  (h:PWs P [c] (ZsE P fn.results.toList res) (mkS (ZcP 0 args) [] 1)):Contract P f args none res []:=by
 simp only [Bool.and_eq_true,decide_eq_true_eq] at hok
 obtain ⟨e,s',h1,h2⟩:=ZbI h
 have hsh:Shift (Zkt args none) (mkS (ZcP 0 args) [] 1):=ZcO (fun t=>by
  rcases Zce args 0 t with h | ⟨_,h⟩
  ·exact .inl h
  ·exact .inr h) (fun t=>.inl rfl) (Nat.le_refl _)
 cases e with
 | exit id=>exact h2.elim
 | normal=>
   obtain ⟨ps,qs,us,h3,h4,h5⟩:=h2
   subst h5
   exact ZeH (us2:=[]) (obj2:=[]) hmix hg hf hb hok.1 hok.2 (.shift hsh h1) (.inl rfl) h3 h4 (fun j os h=>by cases h) (fun _=>rfl)
 | ret=>
   obtain ⟨ps,qs,us,h3,h4,h5⟩:=h2
   subst h5
   exact ZeH (us2:=[]) (obj2:=[]) hmix hg hf hb hok.1 hok.2 (.shift hsh h1) (.inr rfl) h3 h4 (fun j os h=>by cases h) (fun _=>rfl)
end
end VL
end Go.Proofs.YtjblgpmagampbaaGreatDoor
namespace Go.Proofs.YtjblgpmagampbaaGreatDoor
namespace VL
open Go.RowKit
class Ze (P:Program) (T:TypeId) (z:outParam (List PV)):Prop where
 eq:(tyI P T).map (·.zero)=some z
class Ld (P:Program) (T:TypeId) (agg:outParam Bool) (n:outParam Nat):Prop where
 eq:(tyI P T).map (fun ti=>(TypeDesc.isAgg ti.desc,ti.size))=some (agg,n)
class Fld (P:Program) (T:TypeId) (f:Nat) (off:outParam Nat) (agg:outParam Bool) (n:outParam Nat):Prop where
 eq:(fieldAt P T f).map (fun q=>(q.1,TypeDesc.isAgg q.2.desc,q.2.size))=some (off,agg,n)
 pos:(n == 0)=false
def slI (P:Program) (T:TypeId):Option (TypeId×TI):=match tyI P T with
 | some ⟨.slice E,_,_,_⟩=>(tyI P E).map fun te=>(E,te)
 | _=>none
class Sl (P:Program) (T:TypeId) (E k by_:outParam Nat) (z:outParam (List PV)):Prop where
 eq:(slI P T).map (fun q=>(q.1,q.2.size,q.2.bytes,q.2.zero))=some (E,k,by_,z)
 pos:(k == 0)=false
 len:z.length=k
def arI (P:Program) (T:TypeId):Option (Nat×TI):=match tyI P T with
 | some ⟨.array len E,_,_,_⟩=>(tyI P E).map fun te=>(len,te)
 | _=>none
class Ar (P:Program) (T:TypeId) (len k:outParam Nat):Prop where
 eq:(arI P T).map (fun q=>(q.1,q.2.size))=some (len,k)
def stI (P:Program) (T:TypeId):Option (List (Option (Nat×Nat))×List PV):=match tyI P T with
 | some ⟨.struct fs,_,_,z⟩=>if fs.toList.all fun f=>(tyI P f.type).isSome then some ((List.range fs.size).map (ZhT P fs),z) else none
 | _=>none
class St (P:Program) (T:TypeId) (pl:outParam (List (Option (Nat×Nat)))) (z:outParam (List PV)):Prop where
 eq:stI P T=some (pl,z)
class Az (P:Program) (T:TypeId) (k:outParam Nat) (z:outParam (List PV)):Prop where
 eq:(arI P T).map (fun q=>q.2.size)=some k
 zero:(tyI P T).map (·.zero)=some z
def ZlI (agg:Bool) (n:Nat) (cs:List PV):Option PV:=if agg then (if n≤cs.length then some (.agg (cs.take n)) else none) else cs[0]?
def evs (tm:List (Nat×PV)):List (Nat×Operand)→List (Nat×PV)
 | []=>[]
 | (i,e)::r=>(i,evL tm e)::evs tm r
theorem ZlJ (tm:List (Nat×PV)):∀ (l:List (Nat×Operand)),(l.map fun q=>(q.1,evL tm q.2))=evs tm l
 | []=>rfl
 | (i,e)::r=>by simp [evs,ZlJ tm r]
theorem Zi3 {P:Program} {T:TypeId} {agg:Bool} {n:Nat} [h:Ld P T agg n]:∃ ti,tyI P T=some ti∧TypeDesc.isAgg ti.desc=agg∧ti.size=n:=by
 have:=h.eq
 cases ht:tyI P T with
 | none=>rw [ht] at this;cases this
 | some ti=>
   rw [ht] at this
   simp only [Option.map_some,Option.some.injEq,Prod.mk.injEq] at this
   exact ⟨ti,rfl,this.1,this.2⟩
theorem Za7 {P:Program} {T:TypeId} {E k by_:Nat} {z:List PV} [h:Sl P T E k by_ z]:∃ s b zz te,tyI P T=some ⟨.slice E,s,b,zz⟩∧tyI P E=some te∧te.size=k∧te.bytes=by_∧te.zero=z∧0<k∧z.length=k:=by
 have:=h.eq
 unfold slI at this
 split at this
 ·rename_i E' s b zz ht
  cases hte:tyI P E' with
  | none=>rw [hte] at this;cases this
  | some te=>
    rw [hte] at this
    simp only [Option.map_some,Option.some.injEq,Prod.mk.injEq] at this
    obtain ⟨rfl,h2,h3,h4⟩:=this
    have hp:=h.pos
    simp only [beq_eq_false_iff_ne,ne_eq] at hp
    exact ⟨s,b,zz,te,ht,hte,h2,h3,h4,by omega,h.len⟩
 ·cases this
theorem Zps {ti:TI} {agg:Bool} {n:Nat} (h1:TypeDesc.isAgg ti.desc=agg) (h2:ti.size=n) (cs:List PV):Zh1 ti cs=ZlI agg n cs:=by
 unfold Zh1 ZlI
 rw [h1,h2]
section
variable {P:Program} [WInv P] {ops:Array Oper} {draw:Bool} {i:Nat} {L:List Oper} {acc:List (List Nat×List Nat)} {K:FS→Prop} {tm:List (Nat×PV)} {ob:List (Nat×Option (Gen×VObj))} {ng:Nat}
 {d:Option Tmp} {ty:TypeId} {pos:String} {after:Array Edge} {gd:Option (Nat×Bool)} {T:TypeId} {x y:Operand}
theorem Zby {o:Oper} {v:PV} {us:List (Nat×Option (Gen×VObj))} (hw:Zb ops (mkS tm ob ng) o=some true) (ha:ActR P i o (mkS tm ob ng) ⟨v,us⟩)
  (k:GoL P ops draw (i+1) L (acc ++ [(Zr (mkS tm ob ng) o,us.map (·.1))]) (mkS (Zau o.dst v tm) (us.reverse++ob) ng) K):GoL P ops draw i (o::L) acc (mkS tm ob ng) K:=by
 refine ZbR (.act hw ha) ?_
 rw [Zac]
 exact k
theorem ZI {o:Oper} (hw:Zb ops (mkS tm ob ng) o=some false) (k:GoL P ops draw (i+1) L (acc ++ [(Zr (mkS tm ob ng) o,[])]) (mkS (Zau o.dst (.tup []) tm) ob ng) K):GoL P ops draw i (o::L) acc (mkS tm ob ng) K:=by
 refine ZbR (.skip hw) ?_
 rw [Zac]
 exact k
theorem Zm (hw:Zb ops (mkS tm ob ng) ⟨d,.move x,ty,pos,after,gd⟩=some true) {v:PV} (hv:evL tm x=v)
  (k:GoL P ops draw (i+1) L (acc ++ [(Zr (mkS tm ob ng) ⟨d,.move x,ty,pos,after,gd⟩,[])]) (mkS (Zau d v tm) ob ng) K):GoL P ops draw i (⟨d,.move x,ty,pos,after,gd⟩::L) acc (mkS tm ob ng) K:=
 Zby (us:=[]) (v:=v) hw (.fn (by simp only [act,ZB,hv])) k
theorem Zn (hw:Zb ops (mkS tm ob ng) ⟨d,.assign x,ty,pos,after,gd⟩=some true) {v:PV} (hv:evL tm x=v)
  (k:GoL P ops draw (i+1) L (acc ++ [(Zr (mkS tm ob ng) ⟨d,.assign x,ty,pos,after,gd⟩,[])]) (mkS (Zau d v tm) ob ng) K):GoL P ops draw i (⟨d,.assign x,ty,pos,after,gd⟩::L) acc (mkS tm ob ng) K:=
 Zby (us:=[]) (v:=v) hw (.fn (by simp only [act,ZB,hv])) k
theorem ZaL {c:Operand} (hw:Zb ops (mkS tm ob ng) ⟨d,.pick c x y,ty,pos,after,gd⟩=some true) {t:Bool} {v:PV} (hc:evL tm c = .bool t) (hv:(if t then evL tm x else evL tm y)=v)
  (k:GoL P ops draw (i+1) L (acc ++ [(Zr (mkS tm ob ng) ⟨d,.pick c x y,ty,pos,after,gd⟩,[])]) (mkS (Zau d v tm) ob ng) K):GoL P ops draw i (⟨d,.pick c x y,ty,pos,after,gd⟩::L) acc (mkS tm ob ng) K:=
 Zby (us:=[]) (v:=v) hw (.fn (by simp only [act,ZB,hc,hv])) k
theorem ZcK {dd:Nat} {z:List PV} [Ze P T z] (hw:Zb ops (mkS tm ob ng) ⟨some dd,.alloc T,ty,pos,after,gd⟩=some true) (hz:z.all PV.cell=true)
  (k:GoL P ops draw (i+1) L (acc ++ [(Zr (mkS tm ob ng) ⟨some dd,.alloc T,ty,pos,after,gd⟩,[dd])]) (mkS ((dd,.ptr dd (ng,i) 0)::tm) ((dd,some ((ng,i),.box z))::ob) ng) K) :
  GoL P ops draw i (⟨some dd,.alloc T,ty,pos,after,gd⟩::L) acc (mkS tm ob ng) K:=by
 refine Zby (us:=[(dd,some ((ng,i),.box z))]) hw (.fn ?_) k
 have:=Ze.eq (P:=P) (T:=T) (z:=z)
 cases ht:tyI P T with
 | none=>rw [ht] at this;cases this
 | some ti=>
   rw [ht] at this
   simp only [Option.map_some,Option.some.injEq] at this
   subst this
   simp only [act,ht,hz,if_true]
   rfl
theorem Zjw {dd:Nat} (hw:Zb ops (mkS tm ob ng) ⟨some dd,.box T x,ty,pos,after,gd⟩=some true) {p:PV} {cs:List PV} (hv:evL tm x=p) (hc:p.cells=cs) (hz:cs.all PV.cell=true)
  (k:GoL P ops draw (i+1) L (acc ++ [(Zr (mkS tm ob ng) ⟨some dd,.box T x,ty,pos,after,gd⟩,[dd])]) (mkS ((dd,.ptr dd (ng,i) 0)::tm) ((dd,some ((ng,i),.box cs))::ob) ng) K) :
  GoL P ops draw i (⟨some dd,.box T x,ty,pos,after,gd⟩::L) acc (mkS tm ob ng) K:=by
 refine Zby (us:=[(dd,some ((ng,i),.box cs))]) hw (.fn ?_) k
 subst hc
 subst hv
 simp only [act,ZB,hz,if_true]
 rfl
theorem ZA {agg:Bool} {n:Nat} [h:Ld P T agg n] (hw:Zb ops (mkS tm ob ng) ⟨d,.load T x,ty,pos,after,gd⟩=some true) {cs:List PV} {v:PV} (hr:ZeD (Zg ob) (evL tm x)=some cs) (hv:ZlI agg n cs=some v)
  (k:GoL P ops draw (i+1) L (acc ++ [(Zr (mkS tm ob ng) ⟨d,.load T x,ty,pos,after,gd⟩,[])]) (mkS (Zau d v tm) ob ng) K):GoL P ops draw i (⟨d,.load T x,ty,pos,after,gd⟩::L) acc (mkS tm ob ng) K:=by
 refine Zby (us:=[]) hw (.fn ?_) k
 obtain ⟨ti,ht,h1,h2⟩:=Zi3 (P:=P) (T:=T) (agg:=agg) (n:=n)
 have hr':ZeD (mkS tm ob ng).ob (ev (mkS tm ob ng) x)=some cs:=by rw [ZB];exact hr
 simp only [act,ht,hr',Zps h1 h2,hv,Option.map_some]
theorem Zap {agg:Bool} {n:Nat} [Ld P T agg n] (hw:Zb ops (mkS tm ob ng) ⟨d,.store T x y,ty,pos,after,gd⟩=some true) {t:Nat} {g:Gen} {off:Nat} {cs:List PV} {p:PV} {ps:List PV} (hx:evL tm x = .ptr t g off) (hb:ZG (Zg ob) t g=some (.box cs))
  (hy:evL tm y=p) (hps:p.cells=ps) (hl:ps.length=n) (hz:ps.all PV.cell=true) (hf:off+n≤cs.length) {cs':List PV} (hcs:Zaa cs off ps=cs')
  (k:GoL P ops draw (i+1) L (acc ++ [(Zr (mkS tm ob ng) ⟨d,.store T x y,ty,pos,after,gd⟩,[t])]) (mkS (Zau d .un tm) ((t,some (g,.box cs'))::ob) ng) K):GoL P ops draw i (⟨d,.store T x y,ty,pos,after,gd⟩::L) acc (mkS tm ob ng) K:=by
 refine Zby (us:=[(t,some (g,.box cs'))]) hw (.fn ?_) k
 obtain ⟨ti,ht,h1,h2⟩:=Zi3 (P:=P) (T:=T) (agg:=agg) (n:=n)
 have hb':ZG (mkS tm ob ng).ob t g=some (.box cs):=hb
 have hc:(p.cells.all PV.cell=true∧off+ti.size≤cs.length):=by rw [hps,h2];exact ⟨hz,hf⟩
 have hl':p.cells.length=ti.size:=by rw [hps,h2];exact hl
 simp only [act,ht,ZB,hx,hy,hb',if_pos hc,if_pos hl']
 rw [hps,hcs]
theorem Zi4 {agg:Bool} {n:Nat} [Ld P T agg n] (hw:Zb ops (mkS tm ob ng) ⟨d,.store T x y,ty,pos,after,gd⟩=some true) {t:Nat} {g:Gen} {E q kk off:Nat} {els:List (List PV)} {e:List PV} {p:PV} {ps qs:List PV} {us:List (Nat×Option (Gen×VObj))}
  (hx:evL tm x = .elp t g q kk off) (hb:ZG (Zg ob) t g=some (.row E kk false els)) (he:els[q]? = some e) (hy:evL tm y=p) (hps:p.cells=ps) (hl:ps.length=n) (hr:Zdy (Zg ob) ps=some (qs,us)) (hf:off+n≤kk) (hus:us.all (fun q=>q.1 != t)=true)
  (k:GoL P ops draw (i+1) L (acc ++ [(Zr (mkS tm ob ng) ⟨d,.store T x y,ty,pos,after,gd⟩,(us ++ [(t,some (g,VObj.row E kk false (els.set q (Zaa e off qs))))]).map (·.1))]) (mkS (Zau d .un tm) ((us ++ [(t,some (g,VObj.row E kk false (els.set q (Zaa e off qs))))]).reverse++ob) ng) K) :
  GoL P ops draw i (⟨d,.store T x y,ty,pos,after,gd⟩::L) acc (mkS tm ob ng) K:=by
 refine Zby hw (.fn ?_) k
 obtain ⟨ti,ht,h1,h2⟩:=Zi3 (P:=P) (T:=T) (agg:=agg) (n:=n)
 have hb':ZG (mkS tm ob ng).ob t g=some (.row E kk false els):=hb
 have hr':Zdy (mkS tm ob ng).ob p.cells=some (qs,us):=by rw [hps];exact hr
 have hl':p.cells.length=ti.size:=by rw [hps,h2];exact hl
 have hc:True∧off+ti.size≤kk∧us.all (fun q=>q.1 != t)=true:=⟨trivial,by rw [h2];exact hf,hus⟩
 simp only [act,ht,ZB,hx,hy,hb',hr',he,if_pos hl',if_pos hc]
omit [WInv P] in
theorem ZqQ {f off:Nat} {agg:Bool} {n:Nat} [h:Fld P T f off agg n]:∃ ti,fieldAt P T f=some (off,ti)∧TypeDesc.isAgg ti.desc=agg∧ti.size=n∧¬ ti.size=0:=by
 have:=h.eq
 cases hf:fieldAt P T f with
 | none=>rw [hf] at this;cases this
 | some q=>
   obtain ⟨o,ti⟩:=q
   rw [hf] at this
   simp only [Option.map_some,Option.some.injEq,Prod.mk.injEq] at this
   obtain ⟨rfl,h1,h2⟩:=this
   refine ⟨ti,rfl,h1,h2,fun e=>?_⟩
   have hp:=h.pos
   rw [← h2,e] at hp
   cases hp
def ZtO (off:Nat):PV→Option PV
 | .ptr t g o=>some (.ptr t g (o+off))
 | .elp t g i k o=>some (.elp t g i k (o+off))
 | .cel cs=>some (.cel (cs.drop off))
 | _=>none
theorem Zi {f off:Nat} {agg:Bool} {n:Nat} [Fld P T f off agg n] (hw:Zb ops (mkS tm ob ng) ⟨d,.fieldAddr T x f,ty,pos,after,gd⟩=some true) {v:PV} (hv:ZtO off (evL tm x)=some v)
  (k:GoL P ops draw (i+1) L (acc ++ [(Zr (mkS tm ob ng) ⟨d,.fieldAddr T x f,ty,pos,after,gd⟩,[])]) (mkS (Zau d v tm) ob ng) K):GoL P ops draw i (⟨d,.fieldAddr T x f,ty,pos,after,gd⟩::L) acc (mkS tm ob ng) K:=by
 refine Zby (us:=[]) hw (.fn ?_) k
 obtain ⟨ti,h1,h2,h3,h4⟩:=ZqQ (P:=P) (T:=T) (f:=f) (off:=off) (agg:=agg) (n:=n)
 simp only [act,h1,ZB,if_neg h4]
 unfold ZtO at hv
 split at hv<;>first | (cases hv;done) | (rename_i he;injection hv with hv;subst hv;simp only [he])
theorem ZbP {k:IntKind} {n:Nat}:toNat? (.int k (n:Int))=some n:=by simp [toNat?]
theorem Zdx {E kk by_:Nat} {z:List PV} [Sl P T E kk by_ z] (hw:Zb ops (mkS tm ob ng) ⟨d,.indexAddr T x y,ty,pos,after,gd⟩=some true) {els:List (List PV)} {e:List PV} {kd:IntKind} {n:Nat} (hx:evL tm x = .sl els) (hy:evL tm y = .int kd (n:Int)) (he:els[n]? = some e) (hl:e.length=kk)
  (k:GoL P ops draw (i+1) L (acc ++ [(Zr (mkS tm ob ng) ⟨d,.indexAddr T x y,ty,pos,after,gd⟩,[])]) (mkS (Zau d (.cel e) tm) ob ng) K):GoL P ops draw i (⟨d,.indexAddr T x y,ty,pos,after,gd⟩::L) acc (mkS tm ob ng) K:=by
 refine Zby (us:=[]) hw (.fn ?_) k
 obtain ⟨s,b,zz,te,h1,h2,h3,_,_,_,_⟩:=Za7 (P:=P) (T:=T) (E:=E) (k:=kk) (by_:=by_) (z:=z)
 have hl':e.length=te.size:=by rw [h3];exact hl
 simp only [act,h1,ZB,hx,hy,ZbP,h2,he,if_pos hl']
theorem Zaf {E kk by_:Nat} {z:List PV} [Sl P T E kk by_ z] (hw:Zb ops (mkS tm ob ng) ⟨d,.indexAddr T x y,ty,pos,after,gd⟩=some true) {t:Nat} {g:Gen} {E':Nat} {sh:Bool} {els:List (List PV)} {kd:IntKind} {n:Nat} (hx:evL tm x = .row t g) (hb:ZG (Zg ob) t g=some (.row E' kk sh els)) (hy:evL tm y = .int kd (n:Int)) (hn:n<els.length)
  (k:GoL P ops draw (i+1) L (acc ++ [(Zr (mkS tm ob ng) ⟨d,.indexAddr T x y,ty,pos,after,gd⟩,[])]) (mkS (Zau d (.elp t g n kk 0) tm) ob ng) K):GoL P ops draw i (⟨d,.indexAddr T x y,ty,pos,after,gd⟩::L) acc (mkS tm ob ng) K:=by
 refine Zby (us:=[]) hw (.fn ?_) k
 obtain ⟨s,b,zz,te,h1,h2,h3,_,_,_,_⟩:=Za7 (P:=P) (T:=T) (E:=E) (k:=kk) (by_:=by_) (z:=z)
 have hb':ZG (mkS tm ob ng).ob t g=some (.row E' kk sh els):=hb
 simp only [act,h1,ZB,hx,hy,ZbP,h2,hb',if_pos (And.intro hn h3.symm)]
def loV (tm:List (Nat×PV)):Option Operand→Option Nat
 | none=>some 0
 | some l=>toNat? (evL tm l)
def hiV (tm:List (Nat×PV)) (n:Nat):Option Operand→Option Nat
 | none=>some n
 | some l=>toNat? (evL tm l)
theorem Zsg {E kk by_:Nat} {z:List PV} [Sl P T E kk by_ z] {lo hi:Option Operand} (hw:Zb ops (mkS tm ob ng) ⟨d,.slice T x lo hi none,ty,pos,after,gd⟩=some true) {els els':List (List PV)} {l h:Nat} {us:List (Nat×Option (Gen×VObj))} (hx:Zgr (Zg ob) (evL tm x)=some els)
  (hlo:loV tm lo=some l) (hhi:hiV tm els.length hi=some h) (h1:l≤h) (h2:h≤els.length) (h3:(els.all fun e=>e.length == kk)=true) (hus:Zp8 (Zg ob) (evL tm x)=us) (hr:(els.drop l).take (h - l)=els')
  (k:GoL P ops draw (i+1) L (acc ++ [(Zr (mkS tm ob ng) ⟨d,.slice T x lo hi none,ty,pos,after,gd⟩,us.map (·.1))]) (mkS (Zau d (.sl els') tm) (us.reverse++ob) ng) K):GoL P ops draw i (⟨d,.slice T x lo hi none,ty,pos,after,gd⟩::L) acc (mkS tm ob ng) K:=by
 refine Zby hw (.fn ?_) k
 obtain ⟨s,b,zz,te,q1,q2,q3,_,_,_,_⟩:=Za7 (P:=P) (T:=T) (E:=E) (k:=kk) (by_:=by_) (z:=z)
 have hx':Zgr (mkS tm ob ng).ob (evL tm x)=some els:=hx
 have hus':Zp8 (mkS tm ob ng).ob (evL tm x)=us:=hus
 have hc:l≤h∧h≤els.length∧(tyI P E).any (fun te=>els.all fun e=>e.length == te.size)=true:=⟨h1,h2,by rw [q2];simp only [Option.any_some,q3];exact h3⟩
 cases lo<;>cases hi<;>simp only [loV,hiV] at hlo hhi<;>simp only [act,q1,ZB,hx']<;>(try rw [hlo])<;>(try rw [hhi])<;>(try (injection hlo with hlo;rw [hlo]))<;>(try (injection hhi with hhi;rw [hhi]))<;>first | (simp only [if_pos hc,hus',hr];done) | (simp only [hus',hr];rw [if_pos ⟨hc.1,Nat.le_refl _,hc.2.2⟩])
theorem ZgT {E kk by_:Nat} {z:List PV} [Sl P T E kk by_ z] (hw:Zb ops (mkS tm ob ng) ⟨d,.call ⟨.builtin .len,#[x],#[T]⟩,ty,pos,after,gd⟩=some true) {n:Nat} (hx:Zp7 (Zg ob) (evL tm x)=some n)
  (k:GoL P ops draw (i+1) L (acc ++ [(Zr (mkS tm ob ng) ⟨d,.call ⟨.builtin .len,#[x],#[T]⟩,ty,pos,after,gd⟩,[])]) (mkS (Zau d (.int .i64 (n:Int)) tm) ob ng) K):GoL P ops draw i (⟨d,.call ⟨.builtin .len,#[x],#[T]⟩,ty,pos,after,gd⟩::L) acc (mkS tm ob ng) K:=by
 refine Zby (us:=[]) hw (.fn ?_) k
 obtain ⟨s,b,zz,te,q1,q2,q3,_,_,_,_⟩:=Za7 (P:=P) (T:=T) (E:=E) (k:=kk) (by_:=by_) (z:=z)
 have hx':Zp7 (mkS tm ob ng).ob (evL tm x)=some n:=hx
 simp only [act,Zng,q1,ZB,hx']
theorem ZlK {dd:Nat} {E kk by_:Nat} {z:List PV} [Sl P T E kk by_ z] (hw:Zb ops (mkS tm ob ng) ⟨some dd,.call ⟨.builtin .append,#[x,y],#[T,T]⟩,ty,pos,after,gd⟩=some true) {new:List (List PV)} (hx:evL tm x = .nil) (hy:Zgr (Zg ob) (evL tm y)=some new) (hb:new.length * by_≤140737488355328) (hl:new.length≤9223372036854775807) (ha:(new.all fun e=>e.length == kk)=true)
  (k:GoL P ops draw (i+1) L (acc ++ [(Zr (mkS tm ob ng) ⟨some dd,.call ⟨.builtin .append,#[x,y],#[T,T]⟩,ty,pos,after,gd⟩,[dd])]) (mkS ((dd,.row dd (ng,i))::tm) ((dd,some ((ng,i),.row E kk false new))::ob) ng) K) :
  GoL P ops draw i (⟨some dd,.call ⟨.builtin .append,#[x,y],#[T,T]⟩,ty,pos,after,gd⟩::L) acc (mkS tm ob ng) K:=by
 refine Zby (us:=[(dd,some ((ng,i),.row E kk false new))]) hw (.fn ?_) k
 obtain ⟨s,b,zz,te,q1,q2,q3,q4,q5,q6,q7⟩:=Za7 (P:=P) (T:=T) (E:=E) (k:=kk) (by_:=by_) (z:=z)
 have hy':Zgr (mkS tm ob ng).ob (evL tm y)=some new:=hy
 have hc:new.length * te.bytes≤140737488355328∧new.length≤9223372036854775807∧0<te.size∧te.zero.length=te.size∧(new.all fun e=>e.length == te.size)=true:=by
  rw [q3,q4,q5]
  exact ⟨hb,hl,q6,q7,ha⟩
 simp only [act,Zft,q1,ZB,hx,hy',q2,if_pos hc,if_true]
 rw [q3]
 rfl
theorem Za2 {dd:Nat} {E kk by_:Nat} {z:List PV} [Sl P T E kk by_ z] (hw:Zb ops (mkS tm ob ng) ⟨some dd,.call ⟨.builtin .append,#[x,y],#[T,T]⟩,ty,pos,after,gd⟩=some true) {t:Nat} {g:Gen} {sh:Bool} {els new:List (List PV)} (hx:evL tm x = .row t g) (ho:ZG (Zg ob) t g=some (.row E kk sh els)) (hy:Zgr (Zg ob) (evL tm y)=some new)
  (hb:(els.length+new.length) * by_≤140737488355328) (hl:els.length+new.length≤9223372036854775807) (ha:(new.all fun e=>e.length == kk)=true)
  (k:GoL P ops draw (i+1) L (acc ++ [(Zr (mkS tm ob ng) ⟨some dd,.call ⟨.builtin .append,#[x,y],#[T,T]⟩,ty,pos,after,gd⟩,[t])]) (mkS ((dd,.row t (ng,i))::tm) ((t,some ((ng,i),.row E kk sh (els++new)))::ob) ng) K) :
  GoL P ops draw i (⟨some dd,.call ⟨.builtin .append,#[x,y],#[T,T]⟩,ty,pos,after,gd⟩::L) acc (mkS tm ob ng) K:=by
 refine Zby (us:=[(t,some ((ng,i),.row E kk sh (els++new)))]) hw (.fn ?_) k
 obtain ⟨s,b,zz,te,q1,q2,q3,q4,q5,q6,q7⟩:=Za7 (P:=P) (T:=T) (E:=E) (k:=kk) (by_:=by_) (z:=z)
 have hy':Zgr (mkS tm ob ng).ob (evL tm y)=some new:=hy
 have ho':ZG (mkS tm ob ng).ob t g=some (.row E kk sh els):=ho
 have hc:True∧kk=te.size∧(els.length+new.length) * te.bytes≤140737488355328∧els.length+new.length≤9223372036854775807∧0<te.size∧te.zero.length=te.size∧(new.all fun e=>e.length == te.size)=true:=by
  rw [q3,q4,q5]
  exact ⟨trivial,rfl,hb,hl,q6,q7,ha⟩
 simp only [act,Zft,q1,ZB,hx,hy',ho',q2,if_true]
 rw [if_pos ⟨trivial,hc.2⟩]
 rfl
theorem ZP {dd:Nat} {E kk by_:Nat} {z:List PV} [Sl P T E kk by_ z] {n:Nat} {parts:Array (Nat×Operand)} (hw:Zb ops (mkS tm ob ng) ⟨some dd,.buildSlice T n parts,ty,pos,after,gd⟩=some true) {cs qs:List PV} {els:List (List PV)} {us:List (Nat×Option (Gen×VObj))}
  (hf:ZdZ (fun i=>some (i * kk,kk)) (List.replicate n z).flatten (evs tm parts.toList)=some cs) (hr:Zdy (Zg ob) cs=some (qs,us)) (hl:qs.length=n * kk) (hm:n * kk≤16777216) (hc:chunks kk n qs=els)
  (k:GoL P ops draw (i+1) L (acc ++ [(Zr (mkS tm ob ng) ⟨some dd,.buildSlice T n parts,ty,pos,after,gd⟩,(us ++ [(dd,some ((ng,i),VObj.row E kk false els))]).map (·.1))]) (mkS ((dd,.row dd (ng,i))::tm) ((us ++ [(dd,some ((ng,i),VObj.row E kk false els))]).reverse++ob) ng) K) :
  GoL P ops draw i (⟨some dd,.buildSlice T n parts,ty,pos,after,gd⟩::L) acc (mkS tm ob ng) K:=by
 refine Zby hw (.fn ?_) k
 obtain ⟨s,b,zz,te,q1,q2,q3,q4,q5,q6,q7⟩:=Za7 (P:=P) (T:=T) (E:=E) (k:=kk) (by_:=by_) (z:=z)
 have hr':Zdy (mkS tm ob ng).ob cs=some (qs,us):=hr
 have hcc:qs.length=n * kk∧n * kk≤16777216∧0<kk:=⟨hl,hm,q6⟩
 simp only [act,q1,ZB,q2,ZlJ,q3,q5,hf,hr',if_pos hcc,hc]
 rfl
theorem Zbg {pl:List (Option (Nat×Nat))} {z:List PV} [h:St P T pl z] {parts:Array (Nat×Operand)} (hw:Zb ops (mkS tm ob ng) ⟨d,.build T parts,ty,pos,after,gd⟩=some true) {cs:List PV} (hf:ZdZ (fun i=>(pl[i]?).join) z (evs tm parts.toList)=some cs)
  (k:GoL P ops draw (i+1) L (acc ++ [(Zr (mkS tm ob ng) ⟨d,.build T parts,ty,pos,after,gd⟩,[])]) (mkS (Zau d (.agg cs) tm) ob ng) K):GoL P ops draw i (⟨d,.build T parts,ty,pos,after,gd⟩::L) acc (mkS tm ob ng) K:=by
 refine Zby (us:=[]) hw (.fn ?_) k
 have:=h.eq
 unfold stI at this
 split at this
 ·rename_i fs s b zz ht
  split at this
  ·rename_i hall
   injection this with this
   injection this with e1 e2
   subst e1 e2
   have hpl:(fun i=>(((List.range fs.size).map (ZhT P fs))[i]?).join)=ZhT P fs:=by
    funext i
    rw [List.getElem?_map]
    by_cases hi:i<fs.size
    ·rw [List.getElem?_range hi];rfl
    ·rw [List.getElem?_eq_none (by simpa using hi)]
     unfold ZhT
     rw [Array.getElem?_eq_none (by omega)]
     rfl
   rw [hpl] at hf
   simp only [act,ht,ZB,ZlJ,if_pos hall,hf,Option.map_some]
  ·cases this
 ·cases this
theorem Zj2 {kk:Nat} {z:List PV} [h:Az P T kk z] {parts:Array (Nat×Operand)} (hw:Zb ops (mkS tm ob ng) ⟨d,.build T parts,ty,pos,after,gd⟩=some true) {cs:List PV} (hf:ZdZ (fun i=>some (i * kk,kk)) z (evs tm parts.toList)=some cs)
  (k:GoL P ops draw (i+1) L (acc ++ [(Zr (mkS tm ob ng) ⟨d,.build T parts,ty,pos,after,gd⟩,[])]) (mkS (Zau d (.agg cs) tm) ob ng) K):GoL P ops draw i (⟨d,.build T parts,ty,pos,after,gd⟩::L) acc (mkS tm ob ng) K:=by
 refine Zby (us:=[]) hw (.fn ?_) k
 have h1:=h.eq
 have h2:=h.zero
 unfold arI at h1
 split at h1
 ·rename_i len' E' s b zz ht
  rw [ht] at h2
  simp only [Option.map_some,Option.some.injEq] at h2
  subst h2
  cases hte:tyI P E' with
  | none=>rw [hte] at h1;cases h1
  | some te=>
    rw [hte] at h1
    simp only [Option.map_some,Option.some.injEq] at h1
    simp only [act,ht,ZB,ZlJ,hte,h1,hf,Option.map_some]
 ·cases h1
theorem Zez {kx:Nat} (hw:Zb ops (mkS tm ob ng) ⟨d,.extract x kx,ty,pos,after,gd⟩=some true) {vs:List PV} {v:PV} (hx:evL tm x = .tup vs) (hv:vs[kx]? = some v)
  (k:GoL P ops draw (i+1) L (acc ++ [(Zr (mkS tm ob ng) ⟨d,.extract x kx,ty,pos,after,gd⟩,[])]) (mkS (Zau d v tm) ob ng) K):GoL P ops draw i (⟨d,.extract x kx,ty,pos,after,gd⟩::L) acc (mkS tm ob ng) K:=
 Zby (us:=[]) hw (.fn (by simp only [act,ZB,hx,hv,Option.map_some])) k
theorem Ze0 {f:FuncId} {es:Array Operand} {ts:Array TypeId} {args:List PV} {us:List (Nat×Option (Gen×VObj))} {res:PV} (hc:Contract P f args none res []) (hw:Zb ops (mkS tm ob ng) ⟨d,.call ⟨.value (.func f),es,ts⟩,ty,pos,after,gd⟩=some true)
  (ha:ZeW (Zg ob) (es.toList.map (evL tm))=some (args,us))
  (k:GoL P ops draw (i+1) L (acc ++ [(Zr (mkS tm ob ng) ⟨d,.call ⟨.value (.func f),es,ts⟩,ty,pos,after,gd⟩,us.map (·.1))]) (mkS (Zau d res tm) (us.reverse++ob) ng) K):GoL P ops draw i (⟨d,.call ⟨.value (.func f),es,ts⟩,ty,pos,after,gd⟩::L) acc (mkS tm ob ng) K:=by
 refine ZbR (.call hw rfl (by rw [ZB];exact ha) hc) ?_
 rw [Zac]
 exact k
theorem Zmy {o:Oper} (hw:Zb ops (mkS tm ob ng) o=some true) {v:Value} {p:PV} (hp:∀ e ∈ o.op.operands,(plain (evL tm e)).isSome=true) (hs:∀ cs b,o.op≠.select cs b) (h:∀ w,(execOp (fun e=>(plain (evL tm e)).getD undef) o).run P w = .ok (.value v) w) (hv:ZcS v=p)
  (k:GoL P ops draw (i+1) L (acc ++ [(Zr (mkS tm ob ng) o,[])]) (mkS (Zau o.dst p tm) ob ng) K):GoL P ops draw i (o::L) acc (mkS tm ob ng) K:=by
 subst hv
 refine Zby (us:=[]) hw (.plain (fun e he=>by rw [ZB];exact hp e he) hs fun w=>?_) k
 have:cv (mkS tm ob ng)=fun e=>(plain (evL tm e)).getD undef:=by
  funext e
  unfold cv
  rw [ZB]
 rw [this]
 exact h w
end
end VL
end Go.Proofs.YtjblgpmagampbaaGreatDoor
namespace Go.Proofs.YtjblgpmagampbaaGreatDoor
namespace VL
open Go.RowKit
theorem Za {P:Program} [WInv P] {draw:Bool} {s:FS} {Q:Ex→FS→Prop} {cs:List Code} {id:Nat} {l:List Oper} (h:GoL P l.toArray draw 0 l [] s fun s'=>PWs P cs Q ⟨s'.tm,s'.ob,s'.ng+1⟩):PWs P (.region id l.toArray draw::cs) Q s:=
 Zn1 h
theorem Zo {P:Program} [WInv P] {Q:Ex→FS→Prop} {cs:List Code} {tm:List (Nat×PV)} {ob:List (Nat×Option (Gen×VObj))} {ng:Nat} {c:Operand} {x y:Code} {t:Bool} (hc:evL tm c = .bool t) (ht:t=true) (h:PWs P (x::cs) Q (mkS tm ob ng)):PWs P (.cond c x y::cs) Q (mkS tm ob ng):=
 ZqY (by rw [ZB,hc,ht]) h
theorem Zf {P:Program} [WInv P] {Q:Ex→FS→Prop} {cs:List Code} {tm:List (Nat×PV)} {ob:List (Nat×Option (Gen×VObj))} {ng:Nat} {c:Operand} {x y:Code} {t:Bool} (hc:evL tm c = .bool t) (ht:t=false) (h:PWs P (y::cs) Q (mkS tm ob ng)):PWs P (.cond c x y::cs) Q (mkS tm ob ng):=
 ZpF (by rw [ZB,hc,ht]) h
theorem ZoA {P:Program} [WInv P] {Q:Ex→FS→Prop} {cs:List Code} {tm:List (Nat×PV)} {ob:List (Nat×Option (Gen×VObj))} {ng:Nat} {c:Operand} {x y:Code} {t:Bool} (hc:evL tm c = .bool t) (h1:t=true→PWs P (x::cs) Q (mkS tm ob ng)) (h2:t=false→PWs P (y::cs) Q (mkS tm ob ng)):PWs P (.cond c x y::cs) Q (mkS tm ob ng):=
 ZpG (by rw [ZB,hc]) h1 h2
section
variable {P:Program} [WInv P] {ops:Array Oper} {draw:Bool} {i:Nat} {L:List Oper} {acc:List (List Nat×List Nat)} {K:FS→Prop} {tm:List (Nat×PV)} {ob:List (Nat×Option (Gen×VObj))} {ng:Nat}
 {d:Option Tmp} {ty T T':TypeId} {pos:String} {after:Array Edge} {gd:Option (Nat×Bool)} {x y:Operand}
theorem Zdg {op:Op} (hop:op.operands = #[x,y]) (hs:∀ cs b,op≠.select cs b) (hw:Zb ops (mkS tm ob ng) ⟨d,op,ty,pos,after,gd⟩=some true) {p q:PV} {v w:Value} {r:Value} {pv:PV} (hx:evL tm x=p) (hy:evL tm y=q) (hp:plain p=some v) (hq:plain q=some w)
  (h:∀ (ρ:Operand→Value) (W:World),ρ x=v→ρ y=w→(execOp ρ ⟨d,op,ty,pos,after,gd⟩).run P W = .ok (.value r) W) (hv:ZcS r=pv)
  (k:GoL P ops draw (i+1) L (acc ++ [(Zr (mkS tm ob ng) ⟨d,op,ty,pos,after,gd⟩,[])]) (mkS (Zau d pv tm) ob ng) K):GoL P ops draw i (⟨d,op,ty,pos,after,gd⟩::L) acc (mkS tm ob ng) K:=by
 refine Zmy hw (fun e he=>?_) hs (fun W=>h _ W (by rw [hx,hp];rfl) (by rw [hy,hq];rfl)) hv k
 rw [hop] at he
 simp at he
 rcases he with rfl | rfl
 ·rw [hx,hp];rfl
 ·rw [hy,hq];rfl
theorem Zki {op:Op} (hop:op.operands = #[x]) (hs:∀ cs b,op≠.select cs b) (hw:Zb ops (mkS tm ob ng) ⟨d,op,ty,pos,after,gd⟩=some true) {p:PV} {v:Value} {r:Value} {pv:PV} (hx:evL tm x=p) (hp:plain p=some v)
  (h:∀ (ρ:Operand→Value) (W:World),ρ x=v→(execOp ρ ⟨d,op,ty,pos,after,gd⟩).run P W = .ok (.value r) W) (hv:ZcS r=pv)
  (k:GoL P ops draw (i+1) L (acc ++ [(Zr (mkS tm ob ng) ⟨d,op,ty,pos,after,gd⟩,[])]) (mkS (Zau d pv tm) ob ng) K):GoL P ops draw i (⟨d,op,ty,pos,after,gd⟩::L) acc (mkS tm ob ng) K:=by
 refine Zmy hw (fun e he=>?_) hs (fun W=>h _ W (by rw [hx,hp];rfl)) hv k
 rw [hop] at he
 simp at he
 subst he
 rw [hx,hp];rfl
def ZoB (op:BinOp) (k:IntKind) (a b:Int):Option Value:=match op with
 | .add=>some (.int k (k.wrap (a+b)))
 | .sub=>some (.int k (k.wrap (a - b)))
 | .mul=>some (.int k (k.wrap (a * b)))
 | .eql=>some (.bool (decide (a=b)))
 | .neq=>some (.bool (!decide (a=b)))
 | .lss=>some (.bool (decide (a<b)))
 | .leq=>some (.bool (decide (a≤b)))
 | .gtr=>some (.bool (decide (b<a)))
 | .geq=>some (.bool (decide (b≤a)))
 | _=>none
omit [WInv P] in
theorem Znu {op:BinOp} {k:IntKind} {a b:Int} {r:Value} (h:ZoB op k a b=some r) (T:TypeId) (ρ:Operand→Value) (W:World) (hx:ρ x = .int k a) (hy:ρ y = .int k b):(execOp ρ ⟨d,.binOp op T x y T',ty,pos,after,gd⟩).run P W = .ok (.value r) W:=by
 unfold ZoB at h
 cases op<;>first
  | (cases h;done)
  | (injection h with h
     subst h
     simp only [execOp,hx,hy,eqGuard,binOp,Op.intArith,Op.intCmp]
     simp
     try rfl)
theorem ZL {op:BinOp} (hw:Zb ops (mkS tm ob ng) ⟨d,.binOp op T x y T',ty,pos,after,gd⟩=some true) {k:IntKind} {a b:Int} {r:Value} {pv:PV} (hx:evL tm x = .int k a) (hy:evL tm y = .int k b) (hv:ZoB op k a b=some r) (hp:ZcS r=pv)
  (kk:GoL P ops draw (i+1) L (acc ++ [(Zr (mkS tm ob ng) ⟨d,.binOp op T x y T',ty,pos,after,gd⟩,[])]) (mkS (Zau d pv tm) ob ng) K):GoL P ops draw i (⟨d,.binOp op T x y T',ty,pos,after,gd⟩::L) acc (mkS tm ob ng) K:=
 Zdg rfl (fun _ _ h=>by cases h) hw hx hy (v:=.int k a) (w:=.int k b) rfl rfl (fun ρ W h1 h2=>Znu hv T ρ W h1 h2) hp kk
theorem Ztv (hw:Zb ops (mkS tm ob ng) ⟨d,.binOp .add T x y T',ty,pos,after,gd⟩=some true) {a b:Int} (hx:evL tm x = .int .i64 a) (hy:evL tm y = .int .i64 b) (h1 : -9223372036854775808≤a+b) (h2:a+b≤9223372036854775807)
  (kk:GoL P ops draw (i+1) L (acc ++ [(Zr (mkS tm ob ng) ⟨d,.binOp .add T x y T',ty,pos,after,gd⟩,[])]) (mkS (Zau d (.int .i64 (a+b)) tm) ob ng) K):GoL P ops draw i (⟨d,.binOp .add T x y T',ty,pos,after,gd⟩::L) acc (mkS tm ob ng) K:=by
 refine ZL hw hx hy rfl ?_ kk
 show PV.int .i64 (IntKind.i64.wrap (a+b))=_
 rw [IntKind.wrap_i64]
 congr 1
 omega
theorem Zkj (hw:Zb ops (mkS tm ob ng) ⟨d,.binOp .sub T x y T',ty,pos,after,gd⟩=some true) {a b:Int} (hx:evL tm x = .int .i64 a) (hy:evL tm y = .int .i64 b) (h1 : -9223372036854775808≤a - b) (h2:a - b≤9223372036854775807)
  (kk:GoL P ops draw (i+1) L (acc ++ [(Zr (mkS tm ob ng) ⟨d,.binOp .sub T x y T',ty,pos,after,gd⟩,[])]) (mkS (Zau d (.int .i64 (a - b)) tm) ob ng) K):GoL P ops draw i (⟨d,.binOp .sub T x y T',ty,pos,after,gd⟩::L) acc (mkS tm ob ng) K:=by
 refine ZL hw hx hy rfl ?_ kk
 show PV.int .i64 (IntKind.i64.wrap (a - b))=_
 rw [IntKind.wrap_i64]
 congr 1
 omega
theorem ZsO (hw:Zb ops (mkS tm ob ng) ⟨d,.binOp .add T x y T',ty,pos,after,gd⟩=some true) {a b c:Nat} (hx:evL tm x = .int .i64 (a:Int)) (hy:evL tm y = .int .i64 (b:Int)) (hc:a+b=c) (h2:c≤9223372036854775807)
  (kk:GoL P ops draw (i+1) L (acc ++ [(Zr (mkS tm ob ng) ⟨d,.binOp .add T x y T',ty,pos,after,gd⟩,[])]) (mkS (Zau d (.int .i64 (c:Int)) tm) ob ng) K):GoL P ops draw i (⟨d,.binOp .add T x y T',ty,pos,after,gd⟩::L) acc (mkS tm ob ng) K:=by
 refine Ztv hw hx hy (by omega) (by omega) ?_
 have:(a:Int)+(b:Int)=((c:Nat):Int):=by omega
 rw [this]
 exact kk
def ZoC (op:BinOp) (a b:ByteArray):Option Value:=match op with
 | .eql=>some (.bool (decide (a=b)))
 | .neq=>some (.bool (!decide (a=b)))
 | .lss=>some (.bool (Op.bytesLess a.toList b.toList))
 | .leq=>some (.bool (Op.bytesLess a.toList b.toList||decide (a=b)))
 | .gtr=>some (.bool (!(Op.bytesLess a.toList b.toList||decide (a=b))))
 | .geq=>some (.bool (!Op.bytesLess a.toList b.toList))
 | _=>none
omit [WInv P] in
theorem Znv {op:BinOp} {a b:ByteArray} {r:Value} (h:ZoC op a b=some r) (T:TypeId) (ρ:Operand→Value) (W:World) (hx:ρ x = .string a) (hy:ρ y = .string b):(execOp ρ ⟨d,.binOp op T x y T',ty,pos,after,gd⟩).run P W = .ok (.value r) W:=by
 have e:=ZpS a b
 unfold ZoC at h
 cases op<;>first
  | (cases h;done)
  | (injection h with h
     subst h
     simp only [execOp,hx,hy,eqGuard,binOp,Op.stringOp,e]
     simp)
theorem ZhU {op:BinOp} (hw:Zb ops (mkS tm ob ng) ⟨d,.binOp op T x y T',ty,pos,after,gd⟩=some true) {a b:ByteArray} {r:Value} {pv:PV} (hx:evL tm x = .str a) (hy:evL tm y = .str b) (hv:ZoC op a b=some r) (hp:ZcS r=pv)
  (kk:GoL P ops draw (i+1) L (acc ++ [(Zr (mkS tm ob ng) ⟨d,.binOp op T x y T',ty,pos,after,gd⟩,[])]) (mkS (Zau d pv tm) ob ng) K):GoL P ops draw i (⟨d,.binOp op T x y T',ty,pos,after,gd⟩::L) acc (mkS tm ob ng) K:=
 Zdg rfl (fun _ _ h=>by cases h) hw hx hy (v:=.string a) (w:=.string b) rfl rfl (fun ρ W h1 h2=>Znv hv T ρ W h1 h2) hp kk
theorem Ztw (hw:Zb ops (mkS tm ob ng) ⟨d,.binOp .add T x y T',ty,pos,after,gd⟩=some true) {a b:ByteArray} (hx:evL tm x = .str a) (hy:evL tm y = .str b) (hl:a.size+b.size≤9223372036854775807)
  (kk:GoL P ops draw (i+1) L (acc ++ [(Zr (mkS tm ob ng) ⟨d,.binOp .add T x y T',ty,pos,after,gd⟩,[])]) (mkS (Zau d (.str (a++b)) tm) ob ng) K):GoL P ops draw i (⟨d,.binOp .add T x y T',ty,pos,after,gd⟩::L) acc (mkS tm ob ng) K:=by
 refine Zdg rfl (fun _ _ h=>by cases h) hw hx hy (v:=.string a) (w:=.string b) (r:=.string (a++b)) rfl rfl (fun ρ W h1 h2=>?_) rfl kk
 have:¬ (((a.size+b.size:Nat):Int) > IntKind.i64.max):=by
  have:IntKind.i64.max=9223372036854775807:=rfl
  omega
 simp only [execOp,h1,h2,eqGuard,binOp,Op.stringOp,if_neg this]
 simp
theorem Zqg (hw:Zb ops (mkS tm ob ng) ⟨d,.unOp .not T x,ty,pos,after,gd⟩=some true) {b:Bool} (hx:evL tm x = .bool b)
  (kk:GoL P ops draw (i+1) L (acc ++ [(Zr (mkS tm ob ng) ⟨d,.unOp .not T x,ty,pos,after,gd⟩,[])]) (mkS (Zau d (.bool (!b)) tm) ob ng) K):GoL P ops draw i (⟨d,.unOp .not T x,ty,pos,after,gd⟩::L) acc (mkS tm ob ng) K:=by
 refine Zki rfl (fun _ _ h=>by cases h) hw hx (v:=.bool b) (r:=.bool (!b)) rfl (fun ρ W h1=>?_) rfl kk
 simp [execOp,h1,Op.unary]
class EqT (P:Program) (T:TypeId):Prop where
 guard:P.eqGuardType P.depth T=false
theorem Ziw [h:EqT P T] {op:BinOp} (hop:op = .eql∨op = .neq) (hw:Zb ops (mkS tm ob ng) ⟨d,.binOp op T x y T',ty,pos,after,gd⟩=some true) {cx cy:List PV} {vx vy:List Value} {b:Bool} (hx:evL tm x = .agg cx) (hy:evL tm y = .agg cy) (hpx:Zbi cx=some vx) (hpy:Zbi cy=some vy)
  (hr:∀ W,(binOp op T (.agg vx.toArray) (.agg vy.toArray)).run P W = .ok (.bool b) W)
  (kk:GoL P ops draw (i+1) L (acc ++ [(Zr (mkS tm ob ng) ⟨d,.binOp op T x y T',ty,pos,after,gd⟩,[])]) (mkS (Zau d (.bool b) tm) ob ng) K):GoL P ops draw i (⟨d,.binOp op T x y T',ty,pos,after,gd⟩::L) acc (mkS tm ob ng) K:=by
 refine Zdg rfl (fun _ _ h=>by cases h) hw hx hy (v:=.agg vx.toArray) (w:=.agg vy.toArray) (r:=.bool b) (by simp [plain,hpx]) (by simp [plain,hpy]) (fun ρ W h1 h2=>?_) rfl kk
 have hg:(eqGuard op T x y (.agg vx.toArray) (.agg vy.toArray)).run P W = .ok () W:=by
  unfold eqGuard
  rcases hop with rfl | rfl<;>simp [h.guard]
 simp only [execOp,h1,h2,Sem.run_bind,hg,Result.andThen_ok,hr]
 simp
theorem Ze8 (hT:P.underlying T=some .string) (hw:Zb ops (mkS tm ob ng) ⟨d,.call ⟨.builtin .len,#[x],#[T]⟩,ty,pos,after,gd⟩=some true) {a:ByteArray} (hx:evL tm x = .str a)
  (k:GoL P ops draw (i+1) L (acc ++ [(Zr (mkS tm ob ng) ⟨d,.call ⟨.builtin .len,#[x],#[T]⟩,ty,pos,after,gd⟩,[])]) (mkS (Zau d (.int .i64 (a.size:Int)) tm) ob ng) K):GoL P ops draw i (⟨d,.call ⟨.builtin .len,#[x],#[T]⟩,ty,pos,after,gd⟩::L) acc (mkS tm ob ng) K:=by
 refine Zki (x:=x) rfl (fun _ _ h=>by cases h) hw hx (v:=.string a) (r:=.int .i64 (a.size:Int)) rfl (fun ρ W h1=>?_) rfl k
 simp [execOp,resolve,invoke,builtin,Builtin.len_,run_underlying hT,goInt]
 rw [h1]
 simp
theorem Zkk (hT:P.underlying T=some .string) (hw:Zb ops (mkS tm ob ng) ⟨d,.index T x y,ty,pos,after,gd⟩=some true) {a:ByteArray} {kd:IntKind} {n:Nat} {c:UInt8} (hx:evL tm x = .str a) (hy:evL tm y = .int kd (n:Int)) (hn:a[n]? = some c)
  (k:GoL P ops draw (i+1) L (acc ++ [(Zr (mkS tm ob ng) ⟨d,.index T x y,ty,pos,after,gd⟩,[])]) (mkS (Zau d (.int .u8 (c.toNat:Int)) tm) ob ng) K):GoL P ops draw i (⟨d,.index T x y,ty,pos,after,gd⟩::L) acc (mkS tm ob ng) K:=by
 refine Zdg rfl (fun _ _ h=>by cases h) hw hx hy (v:=.string a) (w:=.int kd n) (r:=.int .u8 (c.toNat:Int)) rfl rfl (fun ρ W h1 h2=>?_) rfl k
 simp [execOp,Instr.index,asIntOf,h1,h2,run_underlying hT,hn]
theorem Zkl (hT:P.underlying T=some .string) {lo hi:Option Operand} (hw:Zb ops (mkS tm ob ng) ⟨d,.slice T x lo hi none,ty,pos,after,gd⟩=some true) {a b:ByteArray} {l h:Nat} (hx:evL tm x = .str a) (hlo:loV tm lo=some l) (hhi:hiV tm a.size hi=some h) (h1:l≤h) (h2:h≤a.size) (hb:a.extract l h=b)
  (k:GoL P ops draw (i+1) L (acc ++ [(Zr (mkS tm ob ng) ⟨d,.slice T x lo hi none,ty,pos,after,gd⟩,[])]) (mkS (Zau d (.str b) tm) ob ng) K):GoL P ops draw i (⟨d,.slice T x lo hi none,ty,pos,after,gd⟩::L) acc (mkS tm ob ng) K:=by
 subst hb
 have hn:∀ {e:Operand} {m:Nat},toNat? (evL tm e)=some m→∃ kd,evL tm e = .int kd (m:Int):=fun {e m} h=>by
  unfold toNat? at h
  split at h
  ·rename_i kd q hq
   split at h
   ·injection h with h
    exact ⟨kd,by rw [hq];congr 1;omega⟩
   ·cases h
  ·cases h
 refine Zmy (v:=.string (a.extract l h)) hw (fun e he=>?_) (fun _ _ h=>by cases h) (fun W=>?_) rfl k
 ·simp only [Op.operands] at he
  simp at he
  rcases he with rfl | he | he
  ·rw [hx];rfl
  ·subst he
   obtain ⟨kd,h3⟩:=hn hlo
   rw [h3];rfl
  ·subst he
   obtain ⟨kd,h3⟩:=hn hhi
   rw [h3];rfl
 ·cases lo with
  | none=>
    simp only [loV,Option.some.injEq] at hlo
    subst hlo
    cases hi with
    | none=>
      simp only [hiV,Option.some.injEq] at hhi
      subst hhi
      simp [execOp,Instr.sliceAt,Instr.slice,hx,plain,Zgz,run_underlying hT,Instr.sliceBounds]
    | some e=>
      obtain ⟨kd,h3⟩:=hn hhi
      simp [execOp,Instr.sliceAt,Instr.slice,hx,h3,plain,Zgz,run_underlying hT,Instr.sliceBounds,Instr.sliceBound,asIntOf,h2]
  | some e'=>
    obtain ⟨kd',h3'⟩:=hn hlo
    cases hi with
    | none=>
      simp only [hiV,Option.some.injEq] at hhi
      subst hhi
      simp [execOp,Instr.sliceAt,Instr.slice,hx,h3',plain,Zgz,run_underlying hT,Instr.sliceBounds,Instr.sliceBound,asIntOf,h1]
    | some e=>
      obtain ⟨kd,h3⟩:=hn hhi
      simp [execOp,Instr.sliceAt,Instr.slice,hx,h3,h3',plain,Zgz,run_underlying hT,Instr.sliceBounds,Instr.sliceBound,asIntOf,h1,h2]
end
end VL
end Go.Proofs.YtjblgpmagampbaaGreatDoor
namespace Go.Proofs.YtjblgpmagampbaaGreatDoor
namespace VL
open Go.RowKit
theorem Zad {P:Program} [WInv P] {Q:Ex→FS→Prop} {cs:List Code} {s s1:FS} (h:Shift s s1) (k:PWs P cs Q s1) (hne:cs≠[]):PWs P cs Q s:=by
 cases cs with
 | nil=>exact absurd rfl hne
 | cons c cs=>
   obtain ⟨e,s',h1,h2⟩:=k
   exact ⟨e,s',.shift h h1,h2⟩
theorem Zoj {s:FS} {t u:Nat} {E k:Nat} (h:s.tm t = .nil):Shift s ⟨fun x=>if x=t then .row u (s.ng,0) else s.tm x,Zba s.ob u (some ((s.ng,0),.row E k false [])),s.ng+1⟩:=fun r a x hX=>by
 have hnew:¬ x.G (s.ng,0):=fun hg=>by
  rcases hX.gens _ hg with e | ⟨_,e⟩
  ·exact absurd e (Nat.lt_irrefl _)
  ·exact e.elim
 let y:Ctx:=⟨fun g=>x.G g∨g=(s.ng,0),x.F,x.W,fun g=>if g=(s.ng,0) then .slice none 0 0 else x.ρ g⟩
 have st:Step x y:=⟨fun g hg=>⟨.inl hg,if_neg (fun (e:g=(s.ng,0))=>hnew (by rw [← e];exact hg))⟩,fun _ _ h=>h,fun _ _ _ _ h=>h⟩
 have hρ:y.ρ (s.ng,0) = .slice none 0 0:=if_pos rfl
 refine ⟨y,rfl,hX.defers,hX.size,hX.gr,fun g hg=>.inl ?_,fun t'=>?_,fun t' g o ho=>?_,fun t1 t2 g1 g2 o1 o2 b hne h1 h2 hb=>?_,hX.flt,hX.f0,hX.fnew,fun g hg=>⟨(st.G g (hX.rho g hg).1).1,(st.G g (hX.rho g hg).1).2.trans (hX.rho g hg).2⟩,hX.inv,hX.keep⟩
 ·rcases hg with hg | rfl
  ·rcases hX.gens g hg with e | ⟨_,e⟩
   ·show g.1<s.ng+1;omega
   ·exact e.elim
  ·exact Nat.lt_succ_self _
 ·show Rep y (if t'=t then .row u (s.ng,0) else s.tm t') _
  split
  ·rename_i e
   subst e
   have hr:=hX.tm t'
   rw [h] at hr
   generalize a.tmps.getD t' undef=v at hr
   cases hr
   exact .row u (s.ng,0) none 0 0 (.inr rfl) hρ
  ·exact (hX.tm t').step st
 ·change (if t'=u then some ((s.ng,0),VObj.row E k false []) else s.ob t')=some (g,o) at ho
  split at ho
  ·injection ho with ho
   injection ho with e1 e2
   subst e1 e2
   exact ⟨.inr rfl,by simp,by simp,[],by rw [hρ];exact World.ownsRow_nil _ _ _ _,fun m p v hp=>by simp at hp,fun b hb=>by rw [hρ] at hb;simp [blk] at hb⟩
  ·obtain ⟨h3,h4⟩:=hX.ob t' g o ho
   exact ⟨.inl h3,h4.step h3 st fun b _=>⟨rfl,fun _ h=>h⟩⟩
 ·change (if t1=u then some ((s.ng,0),VObj.row E k false []) else s.ob t1)=some (g1,o1) at h1
  change (if t2=u then some ((s.ng,0),VObj.row E k false []) else s.ob t2)=some (g2,o2) at h2
  split at h1
  ·injection h1 with h1
   injection h1 with e1 e2
   subst e1
   rw [hρ] at hb
   simp [blk] at hb
  ·split at h2
   ·injection h2 with h2
    injection h2 with e1 e2
    subst e1
    rw [hρ]
    simp [blk]
   ·rw [(st.G g1 (hX.ob t1 g1 o1 h1).1).2] at hb
    rw [(st.G g2 (hX.ob t2 g2 o2 h2).1).2]
    exact hX.apart t1 t2 g1 g2 o1 o2 b hne h1 h2 hb
section
variable {P:Program} [WInv P] {ops:Array Oper} {draw:Bool} {i:Nat} {L:List Oper} {acc:List (List Nat×List Nat)} {K:FS→Prop} {tm:List (Nat×PV)} {ob:List (Nat×Option (Gen×VObj))} {ng:Nat}
 {d:Option Tmp} {ty T T':TypeId} {pos:String} {after:Array Edge} {gd:Option (Nat×Bool)} {x y:Operand}
theorem Zc {cs:List Code} {Q:Ex→FS→Prop} (h:PWs P cs Q (mkS tm ob (ng+1))):GoL P ops false i [] acc (mkS tm ob ng) (fun s'=>PWs P cs Q ⟨s'.tm,s'.ob,s'.ng+1⟩):=ZrB (fun h=>by cases h) h
theorem ZbS {cs:List Code} {Q:Ex→FS→Prop} (hd:Zj4 ops (fun j=>acc[j]?)=true) (h:PWs P cs Q (mkS tm ob (ng+1))):GoL P ops true i [] acc (mkS tm ob ng) (fun s'=>PWs P cs Q ⟨s'.tm,s'.ob,s'.ng+1⟩):=ZrB (fun _=>hd) h
theorem Zmc (hw:Zb ops (mkS tm ob ng) ⟨d,.binOp .add T x (.const (.int .i64 1)) T',ty,pos,after,gd⟩=some true) {a:Nat} (hx:evL tm x = .int .i64 (a:Int)) (h2:a+1≤9223372036854775807)
  (kk:GoL P ops draw (i+1) L (acc ++ [(Zr (mkS tm ob ng) ⟨d,.binOp .add T x (.const (.int .i64 1)) T',ty,pos,after,gd⟩,[])]) (mkS (Zau d (.int .i64 ((a+1:Nat):Int)) tm) ob ng) K):GoL P ops draw i (⟨d,.binOp .add T x (.const (.int .i64 1)) T',ty,pos,after,gd⟩::L) acc (mkS tm ob ng) K:=
 ZsO (b:=1) hw hx rfl rfl h2 kk
end
end VL
end Go.Proofs.YtjblgpmagampbaaGreatDoor
namespace Go.Proofs.YtjblgpmagampbaaGreatDoor
namespace VL
open Go.RowKit
section
variable {P:Program} [WInv P] {ops:Array Oper} {draw:Bool} {i:Nat} {L:List Oper} {acc:List (List Nat×List Nat)} {K:FS→Prop} {tm:List (Nat×PV)} {ob:List (Nat×Option (Gen×VObj))} {ng:Nat}
 {d:Option Tmp} {ty:TypeId} {pos:String} {after:Array Edge} {gd:Option (Nat×Bool)} {s:FS}
theorem ZrM {f:FuncId} {es:Array Operand} {ts:Array TypeId} {pre post pre' post':List PV} {t:Nat} {g:Gen} {cs qs obj':List PV} {us1 us2 us3:List (Nat×Option (Gen×VObj))} {res:PV}
  (hc:Contract P f (pre' ++ .ptr pre.length (0,pre.length) 0::post') (some (pre.length,qs)) res obj') (hw:Zb ops (mkS tm ob ng) ⟨d,.call ⟨.value (.func f),es,ts⟩,ty,pos,after,gd⟩=some true)
  (he:es.toList.map (evL tm)=pre ++ .ptr t g 0::post) (hob:ZG (Zg ob) t g=some (.box cs)) (h1:ZeW (Zg ob) pre=some (pre',us1)) (h2:Zdy (Zg ob) cs=some (qs,us2)) (h3:ZeW (Zg ob) post=some (post',us3))
  (k:GoL P ops draw (i+1) L (acc ++ [(Zr (mkS tm ob ng) ⟨d,.call ⟨.value (.func f),es,ts⟩,ty,pos,after,gd⟩,(us1++(us2++us3) ++ [(t,some (g,VObj.box obj'))]).map (·.1))])
   (mkS (Zau d res tm) ((us1++(us2++us3) ++ [(t,some (g,VObj.box obj'))]).reverse++ob) ng) K):GoL P ops draw i (⟨d,.call ⟨.value (.func f),es,ts⟩,ty,pos,after,gd⟩::L) acc (mkS tm ob ng) K:=by
 refine ZbR (.callO hw rfl (by rw [ZB];exact he) hob h1 h2 h3 rfl hc) ?_
 rw [Zac]
 exact k
theorem ZrN {f:FuncId} {es:Array Operand} {ts:Array TypeId} {post post':List PV} {t:Nat} {g:Gen} {cs qs obj':List PV} {us2 us3:List (Nat×Option (Gen×VObj))} {res:PV}
  (hc:Contract P f (.ptr 0 (0,0) 0::post') (some (0,qs)) res obj') (hw:Zb ops (mkS tm ob ng) ⟨d,.call ⟨.value (.func f),es,ts⟩,ty,pos,after,gd⟩=some true)
  (he:es.toList.map (evL tm) = .ptr t g 0::post) (hob:ZG (Zg ob) t g=some (.box cs)) (h2:Zdy (Zg ob) cs=some (qs,us2)) (h3:ZeW (Zg ob) post=some (post',us3))
  (k:GoL P ops draw (i+1) L (acc ++ [(Zr (mkS tm ob ng) ⟨d,.call ⟨.value (.func f),es,ts⟩,ty,pos,after,gd⟩,(us2++us3 ++ [(t,some (g,VObj.box obj'))]).map (·.1))])
   (mkS (Zau d res tm) ((us2++us3 ++ [(t,some (g,VObj.box obj'))]).reverse++ob) ng) K):GoL P ops draw i (⟨d,.call ⟨.value (.func f),es,ts⟩,ty,pos,after,gd⟩::L) acc (mkS tm ob ng) K:=
 ZrM (pre:=[]) (pre':=[]) (us1:=[]) hc hw he hob rfl h2 h3 k
def Zty (P:Program) (rs:List ResultVar) (res:PV) (j:Nat) (obj':List PV) (e:Ex) (s:FS):Prop:=
 ZsE P rs res e s∧∃ obj2 us2,s.ob j=some ((0,j),.box obj2)∧Zdy s.ob obj2=some (obj',us2)
omit [WInv P] in
theorem ZoD {rs:List ResultVar} {res:PV} {j:Nat} {obj' obj2 ps qs:List PV} {us us2:List (Nat×Option (Gen×VObj))} (h1:ZbX P s rs=some ps) (h2:ZeW s.ob ps=some (qs,us)) (h3:ZbY qs=res)
  (h4:s.ob j=some ((0,j),.box obj2)) (h5:Zdy s.ob obj2=some (obj',us2)):Zty P rs res j obj' .ret s:=⟨ZdW h1 h2 h3,_,_,h4,h5⟩
theorem Zko (hmix:P.follows .mixedOrders=true) {f:FuncId} {fn:Func} {c:Code} {args:List PV} {j:Nat} {os obj':List PV} {res:PV} (hf:P.funcs[f]? = some fn) (hg:isGo P f=true) (hb:fn.body=some c) (hok:(decide (args.length≤fn.ntmps)&&Zaz fn.ntmps c)=true)
  (h:PWs P [c] (Zty P fn.results.toList res j obj') (mkS (ZcP 0 args) [(j,some ((0,j),.box os))] 1)):Contract P f args (some (j,os)) res obj':=by
 simp only [Bool.and_eq_true,decide_eq_true_eq] at hok
 obtain ⟨e,s',h1,h2⟩:=ZbI h
 have hsh:Shift (Zkt args (some (j,os))) (mkS (ZcP 0 args) [(j,some ((0,j),.box os))] 1):=ZcO (fun t=>by
  rcases Zce args 0 t with h | ⟨_,h⟩
  ·exact .inl h
  ·exact .inr h) (fun t=>by
   by_cases e:t=j
   ·right
    show (if t=j then _ else _)=(if t=j then _ else _)
    rw [if_pos e,if_pos e]
   ·left
    show (if t=j then _ else _)=_
    rw [if_neg e];rfl) (Nat.le_refl _)
 obtain ⟨h2,obj2,us2,ho1,ho2⟩:=h2
 have hobj:∀ j' os',some (j,os)=some (j',os')→s'.ob j'=some ((0,j'),.box obj2)∧Zdy s'.ob obj2=some (obj',us2):=fun j' os' h=>by
  injection h with h
  injection h with e1 e2
  subst e1
  exact ⟨ho1,ho2⟩
 cases e with
 | exit id=>exact h2.elim
 | normal=>
   obtain ⟨ps,qs,us,h3,h4,h5⟩:=h2
   subst h5
   exact ZeH hmix hg hf hb hok.1 hok.2 (.shift hsh h1) (.inl rfl) h3 h4 hobj (fun h=>by cases h)
 | ret=>
   obtain ⟨ps,qs,us,h3,h4,h5⟩:=h2
   subst h5
   exact ZeH hmix hg hf hb hok.1 hok.2 (.shift hsh h1) (.inr rfl) h3 h4 hobj (fun h=>by cases h)
end
end VL
end Go.Proofs.YtjblgpmagampbaaGreatDoor
namespace Go.Proofs.YtjblgpmagampbaaGreatDoor
namespace VL
open Go.RowKit
section
variable {P:Program} [WInv P] {ops:Array Oper} {draw:Bool} {i:Nat} {L:List Oper} {acc:List (List Nat×List Nat)} {K:FS→Prop} {tm:List (Nat×PV)} {ob:List (Nat×Option (Gen×VObj))} {ng:Nat}
 {d:Option Tmp} {ty T T':TypeId} {pos:String} {after:Array Edge} {gd:Option (Nat×Bool)} {x y:Operand}
theorem Zak (hw:Zb ops (mkS tm ob ng) ⟨d,.nilCheck x,ty,pos,after,gd⟩=some true) {t:Nat} {g:Gen} {o:Nat} (hv:evL tm x = .ptr t g o)
  (k:GoL P ops draw (i+1) L (acc ++ [(Zr (mkS tm ob ng) ⟨d,.nilCheck x,ty,pos,after,gd⟩,[])]) (mkS (Zau d (.ptr t g o) tm) ob ng) K):GoL P ops draw i (⟨d,.nilCheck x,ty,pos,after,gd⟩::L) acc (mkS tm ob ng) K:=
 Zby (us:=[]) hw (.fn (by simp only [act,ZB,hv])) k
theorem ZtG (hw:Zb ops (mkS tm ob ng) ⟨d,.binOp .rem T x y T',ty,pos,after,gd⟩=some true) {k:IntKind} {a b:Int} (hx:evL tm x = .int k a) (hy:evL tm y = .int k b) (h0:b≠0)
  (kk:GoL P ops draw (i+1) L (acc ++ [(Zr (mkS tm ob ng) ⟨d,.binOp .rem T x y T',ty,pos,after,gd⟩,[])]) (mkS (Zau d (.int k (a.tmod b)) tm) ob ng) K):GoL P ops draw i (⟨d,.binOp .rem T x y T',ty,pos,after,gd⟩::L) acc (mkS tm ob ng) K:=by
 refine Zdg rfl (fun _ _ h=>by cases h) hw hx hy (v:=.int k a) (w:=.int k b) (r:=.int k (a.tmod b)) rfl rfl (fun ρ W h1 h2=>?_) rfl kk
 simp [execOp,h1,h2,eqGuard,binOp,Op.intDiv,h0]
def ZtH (op:BinOp) (k:IntKind) (a b:Int):Option Int:=match op with
 | .and=>some (k.wrap (BitVec.ofInt k.bits a &&& BitVec.ofInt k.bits b).toNat)
 | .or=>some (k.wrap (BitVec.ofInt k.bits a ||| BitVec.ofInt k.bits b).toNat)
 | .xor=>some (k.wrap (BitVec.ofInt k.bits a ^^^ BitVec.ofInt k.bits b).toNat)
 | .andNot=>some (k.wrap (BitVec.ofInt k.bits a &&& ~~~BitVec.ofInt k.bits b).toNat)
 | _=>none
theorem Zrz {op:BinOp} (hw:Zb ops (mkS tm ob ng) ⟨d,.binOp op T x y T',ty,pos,after,gd⟩=some true) {k:IntKind} {a b c:Int} (hx:evL tm x = .int k a) (hy:evL tm y = .int k b) (h0:ZtH op k a b=some c)
  (kk:GoL P ops draw (i+1) L (acc ++ [(Zr (mkS tm ob ng) ⟨d,.binOp op T x y T',ty,pos,after,gd⟩,[])]) (mkS (Zau d (.int k c) tm) ob ng) K):GoL P ops draw i (⟨d,.binOp op T x y T',ty,pos,after,gd⟩::L) acc (mkS tm ob ng) K:=by
 refine Zdg rfl (fun _ _ h=>by cases h) hw hx hy (v:=.int k a) (w:=.int k b) (r:=.int k c) rfl rfl (fun ρ W h1 h2=>?_) rfl kk
 cases op<;>first
  | (cases h0;done)
  | (injection h0 with h0
     subst h0
     simp [execOp,h1,h2,eqGuard,binOp,Op.intBits])
theorem Ztj (hw:Zb ops (mkS tm ob ng) ⟨d,.binOp .shr T x y T',ty,pos,after,gd⟩=some true) {k k':IntKind} {a b:Int} (hx:evL tm x = .int k a) (hy:evL tm y = .int k' b) (h0:¬ b<0)
  (kk:GoL P ops draw (i+1) L (acc ++ [(Zr (mkS tm ob ng) ⟨d,.binOp .shr T x y T',ty,pos,after,gd⟩,[])]) (mkS (Zau d (.int k (a.fdiv (2 ^ (min b.toNat k.bits)))) tm) ob ng) K):GoL P ops draw i (⟨d,.binOp .shr T x y T',ty,pos,after,gd⟩::L) acc (mkS tm ob ng) K:=by
 refine Zdg rfl (fun _ _ h=>by cases h) hw hx hy (v:=.int k a) (w:=.int k' b) (r:=.int k (a.fdiv (2 ^ (min b.toNat k.bits)))) rfl rfl (fun ρ W h1 h2=>?_) rfl kk
 simp [execOp,h1,h2,eqGuard,binOp,Op.shift,h0]
class Kd (P:Program) (T:TypeId) (k:outParam IntKind):Prop where
 eq:P.underlying T=some (.int k)
theorem ZrA {k k':IntKind} [h':Kd P T' k'] [h:Kd P T k] (hw:Zb ops (mkS tm ob ng) ⟨d,.convert T T' x,ty,pos,after,gd⟩=some true) {a:Int} (hx:evL tm x = .int k a)
  (kk:GoL P ops draw (i+1) L (acc ++ [(Zr (mkS tm ob ng) ⟨d,.convert T T' x,ty,pos,after,gd⟩,[])]) (mkS (Zau d (.int k' (k'.wrap a)) tm) ob ng) K):GoL P ops draw i (⟨d,.convert T T' x,ty,pos,after,gd⟩::L) acc (mkS tm ob ng) K:=by
 refine Zki rfl (fun _ _ h=>by cases h) hw hx (v:=.int k a) (r:=.int k' (k'.wrap a)) rfl (fun ρ W h1=>?_) rfl kk
 simp [execOp,h1,convert,run_underlying h.eq,run_underlying h'.eq,Conv.intToInt]
theorem ZfU (hw:Zb ops (mkS tm ob ng) ⟨d,.binOp .sub T x y T',ty,pos,after,gd⟩=some true) {a:Nat} (hx:evL tm x = .int .i64 ((a+1:Nat):Int)) (hy:evL tm y = .int .i64 1) (h2:a≤9223372036854775806)
  (kk:GoL P ops draw (i+1) L (acc ++ [(Zr (mkS tm ob ng) ⟨d,.binOp .sub T x y T',ty,pos,after,gd⟩,[])]) (mkS (Zau d (.int .i64 (a:Int)) tm) ob ng) K):GoL P ops draw i (⟨d,.binOp .sub T x y T',ty,pos,after,gd⟩::L) acc (mkS tm ob ng) K:=by
 refine Zkj hw hx hy (by omega) (by omega) ?_
 have:((a+1:Nat):Int) - 1=(a:Int):=by omega
 rw [this]
 exact kk
end
end VL
end Go.Proofs.YtjblgpmagampbaaGreatDoor
namespace Go.Proofs.YtjblgpmagampbaaGreatDoor
namespace VL
open Go.RowKit
def ixI (P:Program) (T:TypeId):Option Nat:=match P.underlying T with
 | some (.array len E)=>match P.underlying E,tyI P E with
   | some de,some te=>if TypeDesc.isAgg de=false∧te.size=1 then some len else none
   | _,_=>none
 | _=>none
class Ix (P:Program) (T:TypeId) (len:outParam Nat):Prop where
 eq:ixI P T=some len
theorem Zfe:∀ {cs:List PV} {vs:List Value} {n:Nat} {p:PV},Zbi cs=some vs→cs[n]? = some p→∃ r,vs[n]? = some r∧ZcS r=p
 | [],_,n,p,h,hn=>by simp at hn
 | c::cs,vs,n,p,h,hn=>by
   simp only [Zbi] at h
   split at h
   ·rename_i v vs' h1 h2
    injection h with h
    subst h
    cases n with
    | zero=>
      simp only [List.getElem?_cons_zero,Option.some.injEq] at hn
      subst hn
      refine ⟨v,rfl,?_⟩
      cases c<;>first | (cases h1;done) | (injection h1 with h1;subst h1;rfl)
    | succ n=>
      obtain ⟨r,h3,h4⟩:=Zfe h2 (n:=n) (by simpa using hn)
      exact ⟨r,by simpa using h3,h4⟩
   ·cases h
section
variable {P:Program} [WInv P] {ops:Array Oper} {draw:Bool} {i:Nat} {L:List Oper} {acc:List (List Nat×List Nat)} {K:FS→Prop} {tm:List (Nat×PV)} {ob:List (Nat×Option (Gen×VObj))} {ng:Nat}
 {d:Option Tmp} {ty T T':TypeId} {pos:String} {after:Array Edge} {gd:Option (Nat×Bool)} {x y:Operand}
theorem ZtQ {len:Nat} [h:Ix P T len] (hw:Zb ops (mkS tm ob ng) ⟨d,.index T x y,ty,pos,after,gd⟩=some true) {cs:List PV} {vs:List Value} {kd:IntKind} {n:Nat} {pv:PV}
  (hx:evL tm x = .agg cs) (hps:Zbi cs=some vs) (hy:evL tm y = .int kd (n:Int)) (hl:cs.length=len) (hr:cs[n]? = some pv)
  (k:GoL P ops draw (i+1) L (acc ++ [(Zr (mkS tm ob ng) ⟨d,.index T x y,ty,pos,after,gd⟩,[])]) (mkS (Zau d pv tm) ob ng) K):GoL P ops draw i (⟨d,.index T x y,ty,pos,after,gd⟩::L) acc (mkS tm ob ng) K:=by
 have:=h.eq
 unfold ixI at this
 split at this
 ·rename_i len' E hu
  split at this
  ·rename_i de te hd1 hte
   split at this
   ·rename_i hc
    injection this with this
    subst this
    obtain ⟨inf,_,q1,q2,_,q4,_⟩:=Zt hte
    obtain ⟨r,hr1,hr2⟩:=Zfe hps hr
    have hn:n<len':=by rw [← hl];exact (List.getElem?_eq_some_iff.1 hr).1
    refine Zdg (x:=x) (y:=y) rfl (fun _ _ h=>by cases h) hw hx hy (v:=.agg vs.toArray) (w:=.int kd n) (r:=r) (by simp [plain,hps]) rfl (fun ρ W h3 h4=>?_) hr2 k
    have hag:(isAgg E).run P W = .ok false W:=by
     unfold isAgg
     have hd2:=hc.1
     cases de<;>first | (cases hd2;done) | simp [run_underlying hd1]
    simp [execOp,Instr.index,asIntOf,h3,h4,run_underlying hu,hn,part,hag,sizeOf,typeInfo,q2,q4,hc.2,hr1]
   ·cases this
  ·cases this
 ·cases this
end
end VL
end Go.Proofs.YtjblgpmagampbaaGreatDoor
namespace Go.Proofs.YtjblgpmagampbaaGreatDoor
namespace VL
open Go.RowKit
section
variable {P:Program} [WInv P]
theorem ZrQ {c:Code} {s s':FS} {e:Ex} {Q:Ex→FS→Prop} (h:RunC P c s e s') (hq:Q e s'):PWs P [c] Q s:=⟨e,s',h,by cases e<;>exact hq⟩
def ZoH {α:Type} (St:α→Nat→FS) (J:α→Prop) (Q:Ex→FS→Prop):Ex→FS→Prop
 | .normal,s=>∃ a ng,J a∧Shift s (St a ng)
 | e,s=>Q e s
theorem ZaV {α:Type} {c c2:Code} {cs:List Code} {Q:Ex→FS→Prop} {s:FS} (St:α→Nat→FS) (J:α→Prop) (h:PWs P [c] (ZoH St J Q) s) (k:∀ a ng,J a→PWs P (c2::cs) Q (St a ng)):PWs P (c::c2::cs) Q s:=by
 refine ZmA (ZbI h) fun e s' h=>?_
 cases e with
 | normal=>
   obtain ⟨a,ng,h1,h2⟩:=h
   exact Zad h2 (k a ng h1) (by simp)
 | exit id=>exact h
 | ret=>exact h
theorem Zc1 {α:Type} {St:α→Nat→FS} {J:α→Prop} {Q:Ex→FS→Prop} {s:FS} (a:α) (ng:Nat) (h1:J a) (h3:Shift s (St a ng)):ZoH St J Q .normal s:=⟨a,ng,h1,h3⟩
end
end VL
end Go.Proofs.YtjblgpmagampbaaGreatDoor
namespace Go.Proofs.YtjblgpmagampbaaGreatDoor
namespace VL
open Go.RowKit
def toG (σ:List (Gen×Gen)) (g:Gen):Option Gen:=if g.1=0 then some g else (σ.find? fun q=>q.1 == g).map (·.2)
def Zm7 (σ:List (Gen×Gen)):PV→Option PV
 | .ptr t g o=>(toG σ g).map fun g=>.ptr t g o
 | .elp t g i k o=>(toG σ g).map fun g=>.elp t g i k o
 | .row t g=>(toG σ g).map fun g=>.row t g
 | .suf t g i k=>(toG σ g).map fun g=>.suf t g i k
 | .mp t g=>(toG σ g).map fun g=>.mp t g
 | .agg _=>none
 | .tup _=>none
 | .fn _ _=>none
 | p=>some p
def ZlF (σ:List (Gen×Gen)):List PV→Option (List PV)
 | []=>some []
 | p::ps=>match Zm7 σ p,ZlF σ ps with
   | some q,some qs=>some (q::qs)
   | _,_=>none
def ren (σ:List (Gen×Gen)):PV→Option PV
 | .agg ps=>(ZlF σ ps).map .agg
 | p=>Zm7 σ p
def ZqI (σ:List (Gen×Gen)):List (List PV)→Option (List (List PV))
 | []=>some []
 | e::es=>match ZlF σ e,ZqI σ es with
   | some q,some qs=>some (q::qs)
   | _,_=>none
def ZkV (σ:List (Gen×Gen)):Option (Gen×VObj)→Option (Gen×VObj)
 | some (g,.box cs)=>match toG σ g,ZlF σ cs with
   | some g,some cs=>some (g,.box cs)
   | _,_=>none
 | some (g,.row E k sh els)=>(toG σ g).map fun g=>(g,.row E k sh els)
 | some (g,.prow E k els)=>match toG σ g,ZqI σ els with
   | some g,some els=>some (g,.prow E k els)
   | _,_=>none
 | some (g,.mp ents)=>(toG σ g).map fun g=>(g,.mp ents)
 | some (g,.qrow E k els)=>(toG σ g).map fun g=>(g,.qrow E k els)
 | none=>none
def ZhZ (σ:List (Gen×Gen)) (x:Ctx):Ctx:=⟨fun g'=>∃ g,toG σ g'=some g∧x.G g,x.F,x.W,fun g'=>x.ρ ((toG σ g').getD g')⟩
section
variable {σ:List (Gen×Gen)} {x:Ctx}
theorem ZgQ {p q:PV} {v:Value} (h:Zm7 σ p=some q) (hr:Rep x q v):Rep (ZhZ σ x) p v:=by
 cases p with
 | ptr t g' o=>
   simp only [Zm7,Option.map_eq_some_iff] at h
   obtain ⟨g,h1,rfl⟩:=h
   cases hr with
   | ptr _ _ _ b hG hb=>exact .ptr _ _ _ b ⟨g,h1,hG⟩ (by simp only [ZhZ,h1];exact hb)
 | elp t g' i k o=>
   simp only [Zm7,Option.map_eq_some_iff] at h
   obtain ⟨g,h1,rfl⟩:=h
   cases hr with
   | elp _ _ _ _ _ b hG hb=>exact .elp _ _ _ _ _ b ⟨g,h1,hG⟩ (by simp only [ZhZ,h1];exact hb)
 | row t g'=>
   simp only [Zm7,Option.map_eq_some_iff] at h
   obtain ⟨g,h1,rfl⟩:=h
   cases hr with
   | row _ _ A n c hG hv=>exact .row _ _ A n c ⟨g,h1,hG⟩ (by simp only [ZhZ,h1];exact hv)
 | suf t g' i k=>
   simp only [Zm7,Option.map_eq_some_iff] at h
   obtain ⟨g,h1,rfl⟩:=h
   cases hr with
   | suf _ _ _ _ A A' n c c' hG hv h3 h4 h5=>exact .suf _ _ _ _ A A' n c c' ⟨g,h1,hG⟩ (by simp only [ZhZ,h1];exact hv) h3 h4 h5
 | mp t g'=>
   simp only [Zm7,Option.map_eq_some_iff] at h
   obtain ⟨g,h1,rfl⟩:=h
   cases hr with
   | mp _ _ b hG hv=>exact .mp _ _ b ⟨g,h1,hG⟩ (by simp only [ZhZ,h1];exact hv)
 | agg ps=>cases h
 | tup ps=>cases h
 | fn f ps=>cases h
 | un=>exact .un _
 | nil=>
   injection h with h
   subst h
   cases hr
   exact .nil
 | cel cs=>
   injection h with h
   subst h
   cases hr with
   | cel _ b off f hcell hh=>exact .cel cs b off f hcell fun j p hp=>(hh j p hp).pure_mono (hcell j p hp).1 (fun _ _ h=>h) (fun _ _ _ _ h=>h)
 | bool b=>injection h with h;subst h;exact hr.pure_mono rfl (fun _ _ h=>h) (fun _ _ _ _ h=>h)
 | int k n=>injection h with h;subst h;exact hr.pure_mono rfl (fun _ _ h=>h) (fun _ _ _ _ h=>h)
 | str s=>injection h with h;subst h;exact hr.pure_mono rfl (fun _ _ h=>h) (fun _ _ _ _ h=>h)
 | sl els=>injection h with h;subst h;exact hr.pure_mono rfl (fun _ _ h=>h) (fun _ _ _ _ h=>h)
theorem ZlG {p q:PV} (h:Zm7 σ p=some q) (hq:q.cell=true):p.cell=true:=by
 cases p with
 | ptr t g' o=>rfl
 | row t g'=>rfl
 | agg ps=>cases h
 | tup ps=>cases h
 | fn f ps=>cases h
 | elp t g' i k o=>
   simp only [Zm7,Option.map_eq_some_iff] at h
   obtain ⟨g,h1,rfl⟩:=h
   cases hq
 | suf t g' i k=>
   simp only [Zm7,Option.map_eq_some_iff] at h
   obtain ⟨g,h1,rfl⟩:=h
   cases hq
 | mp t g'=>
   simp only [Zm7,Option.map_eq_some_iff] at h
   obtain ⟨g,h1,rfl⟩:=h
   cases hq
 | un=>injection h with h;subst h;exact hq
 | nil=>rfl
 | cel cs=>injection h with h;subst h;exact hq
 | bool b=>rfl
 | int k n=>rfl
 | str s=>rfl
 | sl els=>rfl
theorem ZdR:∀ {ps qs:List PV},ZlF σ ps=some qs→ps.length=qs.length∧∀ (i:Nat) (p:PV),ps[i]? = some p→∃ q,qs[i]? = some q∧Zm7 σ p=some q
 | [],qs,h=>by
   injection h with h
   subst h
   exact ⟨rfl,fun i p hp=>by simp at hp⟩
 | p::ps,qs,h=>by
   simp only [ZlF] at h
   split at h
   ·rename_i q qs' h1 h2
    injection h with h
    subst h
    obtain ⟨h3,h4⟩:=ZdR h2
    refine ⟨by simp [h3],fun i p' hp=>?_⟩
    cases i with
    | zero=>
      simp only [List.getElem?_cons_zero,Option.some.injEq] at hp
      subst hp
      exact ⟨q,rfl,h1⟩
    | succ i=>
      simp only [List.getElem?_cons_succ] at hp ⊢
      exact h4 i p' hp
   ·cases h
theorem Zi1:∀ {a b qa qb:List PV},ZlF σ a=some qa→ZlF σ b=some qb→ZlF σ (a++b)=some (qa++qb)
 | [],b,qa,qb,h,h'=>by injection h with h;subst h;exact h'
 | p::ps,b,qa,qb,h,h'=>by
   simp only [ZlF] at h
   split at h
   ·rename_i q qs h1 h2
    injection h with h
    subst h
    simp only [List.cons_append,ZlF,h1,Zi1 h2 h']
   ·cases h
theorem Zj1:∀ {es qs:List (List PV)},ZqI σ es=some qs→es.length=qs.length∧ZlF σ es.flatten=some qs.flatten∧∀ (i:Nat) (e:List PV),es[i]? = some e→∃ q,qs[i]? = some q∧ZlF σ e=some q
 | [],qs,h=>by
   injection h with h
   subst h
   exact ⟨rfl,rfl,fun i p hp=>by simp at hp⟩
 | e::es,qs,h=>by
   simp only [ZqI] at h
   split at h
   ·rename_i q qs' h1 h2
    injection h with h
    subst h
    obtain ⟨h3,h4,h5⟩:=Zj1 h2
    refine ⟨by simp [h3],?_,fun i p' hp=>?_⟩
    ·rw [List.flatten_cons,List.flatten_cons]
     exact Zi1 h1 h4
    ·cases i with
     | zero=>
       simp only [List.getElem?_cons_zero,Option.some.injEq] at hp
       subst hp
       exact ⟨q,rfl,h1⟩
     | succ i=>
       simp only [List.getElem?_cons_succ] at hp ⊢
       exact h5 i p' hp
   ·cases h
theorem Zpj {p q:PV} {v:Value} (h:ren σ p=some q) (hr:Rep x q v):Rep (ZhZ σ x) p v:=by
 cases p with
 | agg ps=>
   simp only [ren,Option.map_eq_some_iff] at h
   obtain ⟨qs,h1,rfl⟩:=h
   obtain ⟨h2,h3⟩:=ZdR h1
   cases hr with
   | agg _ cs hl hh=>
     refine .agg ps cs (h2.trans hl) fun i p v hp hv=>?_
     obtain ⟨q,hq,hpq⟩:=h3 i p hp
     exact ZgQ hpq (hh i q v hq hv)
 | _=>exact ZgQ h hr
theorem ZfL {B:Nat} {D:Nat→Prop} {g' g:Gen} {o' o:VObj} (h:ZkV σ (some (g',o'))=some (g,o)) (hr:x.G g∧ObRep x B D g o):toG σ g'=some g∧(ZhZ σ x).G g'∧ObRep (ZhZ σ x) B D g' o':=by
 cases o' with
 | box cs'=>
   simp only [ZkV] at h
   split at h
   ·rename_i g1 cs h1 h2
    injection h with h
    injection h with e1 e2
    subst e1 e2
    refine ⟨h1,⟨_,h1,hr.1⟩,?_⟩
    obtain ⟨b,T,vs,q1,q2,q3,q4,q5,q6⟩:=hr.2
    obtain ⟨h3,h4⟩:=ZdR h2
    refine ⟨b,T,vs,by simp only [ZhZ,h1];exact q1,q2,h3.trans q3,fun p hp=>?_,fun j p v hp hv=>?_,q6⟩
    ·obtain ⟨i,hi⟩:=List.getElem?_of_mem hp
     obtain ⟨q,hq,hpq⟩:=h4 i p hi
     exact ZlG hpq (q4 q (List.mem_of_getElem? hq))
    ·obtain ⟨q,hq,hpq⟩:=h4 j p hp
     exact ZgQ hpq (q5 j q v hq hv)
   ·cases h
 | row E k sh els=>
   simp only [ZkV,Option.map_eq_some_iff] at h
   obtain ⟨g1,h1,h2⟩:=h
   injection h2 with e1 e2
   subst e1 e2
   refine ⟨h1,⟨_,h1,hr.1⟩,?_⟩
   obtain ⟨q1,q2,vs,q3,q4,q5⟩:=hr.2
   have hρ:(ZhZ σ x).ρ g'=x.ρ g1:=by simp only [ZhZ,h1];rfl
   refine ⟨q1,q2,vs,by rw [hρ];exact q3,fun m p v hp hv=>(q4 m p v hp hv).pure_mono ?_ (fun _ _ h=>h) (fun _ _ _ _ h=>h),by rw [hρ];exact q5⟩
   obtain ⟨e,he,hpe⟩:=List.mem_flatten.1 (List.mem_of_getElem? hp)
   exact q2 e he p hpe
 | prow E k els'=>
   simp only [ZkV] at h
   split at h
   ·rename_i g1 els h1 h2
    injection h with h
    injection h with e1 e2
    subst e1 e2
    refine ⟨h1,⟨_,h1,hr.1⟩,?_⟩
    obtain ⟨q1,q2,vs,q3,q4,q5⟩:=hr.2
    obtain ⟨h3,h4,h5⟩:=Zj1 h2
    have hρ:(ZhZ σ x).ρ g'=x.ρ g1:=by simp only [ZhZ,h1];rfl
    refine ⟨fun e he=>?_,fun e he p hp=>?_,vs,by rw [hρ,h3];exact q3,fun m p v hp hv=>?_,by rw [hρ];exact q5⟩
    ·obtain ⟨i,hi⟩:=List.getElem?_of_mem he
     obtain ⟨q,hq,hpq⟩:=h5 i e hi
     rw [(ZdR hpq).1]
     exact q1 q (List.mem_of_getElem? hq)
    ·obtain ⟨i,hi⟩:=List.getElem?_of_mem he
     obtain ⟨q,hq,hpq⟩:=h5 i e hi
     obtain ⟨j,hj⟩:=List.getElem?_of_mem hp
     obtain ⟨r,hr1,hr2⟩:=(ZdR hpq).2 j p hj
     exact ZlG hr2 (q2 q (List.mem_of_getElem? hq) r (List.mem_of_getElem? hr1))
    ·obtain ⟨r,hr1,hr2⟩:=(ZdR h4).2 m p hp
     exact ZgQ hr2 (q4 m r v hr1 hv)
   ·cases h
 | mp ents=>
   simp only [ZkV,Option.map_eq_some_iff] at h
   obtain ⟨g1,h1,h2⟩:=h
   injection h2 with e1 e2
   subst e1 e2
   obtain ⟨b,es,clock,q1,q2,q3,q4,q5,q6⟩:=hr.2
   exact ⟨h1,⟨_,h1,hr.1⟩,b,es,clock,by simp only [ZhZ,h1];exact q1,q2,q3,q4,q5,q6⟩
 | qrow E k els=>
   simp only [ZkV,Option.map_eq_some_iff] at h
   obtain ⟨g1,h1,h2⟩:=h
   injection h2 with e1 e2
   subst e1 e2
   obtain ⟨q1,q2,b,off,cap,cur,q3,q4,q5,q6,q7,q8,q9⟩:=hr.2
   refine ⟨h1,⟨_,h1,hr.1⟩,q1,q2,b,off,cap,cur,by simp only [ZhZ,h1];exact q3,q4,q5,q6,q7,fun i j e p he hp=>?_,q9⟩
   obtain ⟨f1,v,f2,f3⟩:=q8 i j e p he hp
   exact ⟨f1,v,f2,f3.pure_mono (q2 e (List.mem_of_getElem? he) p (List.mem_of_getElem? hp)) (fun _ _ h=>h) (fun _ _ _ _ h=>h)⟩
end
def Zpk (σ:List (Gen×Gen)) (tm:List (Nat×PV)):List (Nat×PV)→Prop
 | []=>True
 | (k,v)::r=>ren σ v=some (look tm k)∧Zpk σ tm r
def Zmw (σ:List (Gen×Gen)) (ob:List (Nat×Option (Gen×VObj))):List (Nat×Option (Gen×VObj))→Prop
 | []=>True
 | (k,v)::r=>(ZkV σ v=Zg ob k∧(ZkV σ v).isSome=true)∧Zmw σ ob r
theorem Zew (σ:List (Gen×Gen)) {tm tm':List (Nat×PV)} {ob ob':List (Nat×Option (Gen×VObj))} {ng ng':Nat} (h1:Zpk σ tm tm') (h2:Zmw σ ob ob') (h3:(decide (0<ng')&&σ.all fun q=>decide (q.1.1<ng'))=true):Shift (mkS tm ob ng) (mkS tm' ob' ng'):=fun r a x h=>by
 simp only [Bool.and_eq_true,decide_eq_true_eq,List.all_eq_true] at h3
 have k1:∀ (l:List (Nat×PV)),Zpk σ tm l→∀ t,look l t = .un∨ren σ (look l t)=some (look tm t):=fun l=>by
  induction l with
  | nil=>intro _ t;exact .inl rfl
  | cons q l ih=>
    obtain ⟨k,v⟩:=q
    intro hl t
    show (if t=k then v else look l t)=_∨ren σ (if t=k then v else look l t)=_
    split
    ·rename_i e;subst e;exact .inr hl.1
    ·exact ih hl.2 t
 have k2:∀ (l:List (Nat×Option (Gen×VObj))),Zmw σ ob l→∀ t,Zg l t=none∨(ZkV σ (Zg l t)=Zg ob t∧(ZkV σ (Zg l t)).isSome=true):=fun l=>by
  induction l with
  | nil=>intro _ t;exact .inl rfl
  | cons q l ih=>
    obtain ⟨k,v⟩:=q
    intro hl t
    show (if t=k then v else Zg l t)=_∨(ZkV σ (if t=k then v else Zg l t)=_∧(ZkV σ (if t=k then v else Zg l t)).isSome=true)
    split
    ·rename_i e;subst e;exact .inr hl.1
    ·exact ih hl.2 t
 have k3:∀ t g' o',Zg ob' t=some (g',o')→∃ g o,Zg ob t=some (g,o)∧ZkV σ (some (g',o'))=some (g,o):=fun t g' o' ho=>by
  rcases k2 ob' h2 t with e | ⟨e1,e2⟩
  ·rw [e] at ho;cases ho
  ·rw [ho] at e1 e2
   obtain ⟨⟨g,o⟩,hw⟩:=Option.isSome_iff_exists.1 e2
   exact ⟨g,o,by rw [← e1,hw],hw⟩
 refine ⟨ZhZ σ x,rfl,h.defers,h.size,h.gr,fun g' hg'=>.inl ?_,fun t=>?_,fun t g' o' ho=>?_,fun t t' g g' o o' b hne e1 e2 hb=>?_,h.flt,h.f0,h.fnew,fun g hg=>?_,h.inv,h.keep⟩
 ·obtain ⟨g,hg,_⟩:=hg'
  unfold toG at hg
  show g'.1<ng'
  split at hg
  ·rename_i e;omega
  ·simp only [Option.map_eq_some_iff] at hg
   obtain ⟨q,hq,_⟩:=hg
   have hm:=List.mem_of_find?_eq_some hq
   have he:=List.find?_some hq
   simp only [beq_iff_eq] at he
   rw [← he]
   exact h3.2 q hm
 ·rcases k1 tm' h1 t with e | e
  ·show Rep _ (look tm' t) _
   rw [e];exact .un _
  ·exact Zpj e (h.tm t)
 ·obtain ⟨g,o,e1,e2⟩:=k3 t g' o' ho
  exact (ZfL e2 (h.ob t g o e1)).2
 ·obtain ⟨g1,o1,q1,q2⟩:=k3 t g o e1
  obtain ⟨g2,o2,q3,q4⟩:=k3 t' g' o' e2
  have r1:=(ZfL q2 (h.ob t g1 o1 q1)).1
  have r2:=(ZfL q4 (h.ob t' g2 o2 q3)).1
  simp only [ZhZ,r1,Option.getD_some] at hb
  simp only [ZhZ,r2,Option.getD_some]
  exact h.apart t t' g1 g2 o1 o2 b hne q1 q3 hb
 ·have h0:=h.inv.2 g hg
  have:toG σ g=some g:=by unfold toG;rw [if_pos h0]
  exact ⟨⟨g,this,(h.rho g hg).1⟩,by simp only [ZhZ,this,Option.getD_some];exact (h.rho g hg).2⟩
theorem Zdv (σ:List (Gen×Gen)) {tm tm':List (Nat×PV)} {ob ob':List (Nat×Option (Gen×VObj))} {ng ng':Nat} (t E k:Nat) (h0:look tm t = .nil) (h1:Zpk (((1,t),(ng,0))::σ) ((t,.row t (ng,0))::tm) tm') (h2:Zmw (((1,t),(ng,0))::σ) ((t,some ((ng,0),.row E k false []))::ob) ob')
  (h3:(decide (0<ng')&&(((1,t),(ng,0))::σ).all fun q=>decide (q.1.1<ng'))=true):Shift (mkS tm ob ng) (mkS tm' ob' ng'):=
 Shift.trans (Zoj (t:=t) (u:=t) (E:=E) (k:=k) h0) (Zew (tm:=(t,.row t (ng,0))::tm) (ob:=(t,some ((ng,0),.row E k false []))::ob) _ h1 h2 h3)
end VL
end Go.Proofs.YtjblgpmagampbaaGreatDoor
namespace Go.Proofs.YtjblgpmagampbaaGreatDoor
namespace VL
open Go.RowKit
def ZgS (o:VObj) (d:Nat) (g:Gen):PV:=match o with
 | .box _=>.ptr d g 0
 | .row _ _ _ _=>.row d g
 | .prow _ _ _=>.row d g
 | .mp _=>.mp d g
 | .qrow _ _ _=>.row d g
def VObj.clean (o:VObj):Prop:=(∀ cs,o = .box cs→cs.all PV.pure=true)∧∀ E k els,o≠.prow E k els
structure ContractN (P:Program) [WInv P] (f:FuncId) (args:List PV) (o:VObj):Prop where
 isGo:VL.isGo P f=true
 pure:o.clean
 calls:∀ (x:Ctx) (vs:Array Value),Pre x args none vs→(∀ W',Gr (fun _=>False) x.W W'→WInv.I P W')→Calls P f vs x.W fun e W'=>
  ∃ y v,y.W=W'∧e = .returned v∧Step x y∧Gr (fun _=>False) x.W y.W∧(∀ b o,y.F b o→x.F b o∨x.W.heap.size≤b)∧(∀ b o,y.F b o→b<y.W.heap.size)∧∃ g,y.ρ g=v∧ObRep y x.W.heap.size (fun _=>False) g o
section
variable {P:Program} [WInv P] {r:Run} {ops:Array Oper} {o:Oper} {i:Nat} {s s':FS}
omit [WInv P] in
theorem ZcJ {f:Operand} {es:Array Operand} {ts:Array TypeId} (ho:o.op = .call { callee:=.value f,args:=es,argTypes:=ts }) (h:Agree ops o s s') :
  es.toList.map (ev s')=es.toList.map (ev s)∧(∀ p ∈ es.toList.map (ev s),∀ t ∈ Zh0 s.ob p,s.ob t=s'.ob t)∧ev s' f=ev s f∧∀ t ∈ Zh0 s.ob (ev s f),s.ob t=s'.ob t:=by
 have hm:∀ e ∈ es.toList,e ∈ o.op.operands:=fun e he=>by rw [ho];simp [Op.operands,Call.operands];exact .inr (by simpa using he)
 have hf:f ∈ o.op.operands:=by rw [ho];simp [Op.operands,Call.operands]
 refine ⟨(List.map_congr_left fun e he=>h.ev e (hm e he)).symm,fun p hp t ht=>?_,(h.ev f hf).symm,fun t ht=>h.key hf (by rw [ho];rfl) (by rw [ho];rfl) t (by rw [show dep o.op=4 by rw [ho];rfl];exact ht)⟩
 obtain ⟨e,he,rfl⟩:=List.mem_map.1 hp
 exact h.key (hm e he) (by rw [ho];rfl) (by rw [ho];rfl) t (by rw [show dep o.op=4 by rw [ho];rfl];exact ht)
omit [WInv P] in
theorem ObRep.newOf {x y:Ctx} {B B':Nat} {D:Nat→Prop} {g g':Gen} {ob:VObj} (h:ObRep x B (fun _=>False) g ob) (hρ:y.ρ g'=x.ρ g) (hF:y.F=x.F) (hW:y.W=x.W) (hB:B'≤B) (hp:ob.clean):ObRep y B' D g' ob:=by
 have hr:∀ (p:PV) (v:Value),p.pure=true→Rep x p v→Rep y p v:=fun p v hp h=>h.pure_mono hp (fun _ _ h=>by rw [hF];exact h) (fun _ _ _ _ h=>by rw [hW];exact h)
 cases ob with
 | box cs=>
   obtain ⟨b,T,vs,h1,h2,h3,h4,h5,h6,h7⟩:=h
   refine ⟨b,T,vs,hρ.trans h1,by rw [hW];exact h2,h3,h4,fun j p w hj hw=>hr p w (List.all_eq_true.1 (hp.1 cs rfl) p (List.mem_of_getElem? hj)) (h5 j p w hj hw),.inl (Nat.le_trans hB (h6.resolve_right fun e=>e)),fun o=>by rw [hF];exact h7 o⟩
 | row E k sh els=>
   obtain ⟨h1,h2,vs,h3,h4,h5⟩:=h
   refine ⟨h1,h2,vs,?_,fun m p w hj hw=>?_,fun b hb=>⟨.inl (Nat.le_trans hB ((h5 b (by rw [← hρ];exact hb)).1.resolve_right fun e=>e)),fun o ho=>(h5 b (by rw [← hρ];exact hb)).2 o (by rw [← hF];exact ho)⟩⟩
   ·rw [hW,hρ]
    exact h3
   ·obtain ⟨e,he,hpe⟩:=List.mem_flatten.1 (List.mem_of_getElem? hj)
    exact hr p w (h2 e he p hpe) (h4 m p w hj hw)
 | prow E k els=>exact absurd rfl (hp.2 E k els)
 | mp ents=>
   obtain ⟨b,es,clock,h1,h2,h3,h4,h5,h6⟩:=h
   exact ⟨b,es,clock,hρ.trans h1,by rw [hW];exact h2,h3,h4,.inl (Nat.le_trans hB (h5.resolve_right fun e=>e)),fun o=>by rw [hF];exact h6 o⟩
 | qrow E k els=>
   obtain ⟨h1,h2,b,off,cap,cur,h3,h4,h5,h6,h7,h8,h9,h10⟩:=h
   refine ⟨h1,h2,b,off,cap,cur,hρ.trans h3,by rw [hW];exact h4,h5,h6,h7,fun i j e p he hp=>?_,.inl (Nat.le_trans hB (h9.resolve_right fun e=>e)),by rw [hF];exact h10⟩
   obtain ⟨f1,v,f2,f3⟩:=h8 i j e p he hp
   exact ⟨by rw [hF];exact f1,v,by rw [hW];exact f2,hr p v (h2 e (List.mem_of_getElem? he) p (List.mem_of_getElem? hp)) f3⟩
omit [WInv P] in
theorem ZnX {y:Ctx} {B:Nat} {D:Nat→Prop} {g:Gen} {ob:VObj} {d:Nat} {v:Value} (h:ObRep y B D g ob) (hG:y.G g) (hv:y.ρ g=v):Rep y (ZgS ob d g) v:=by
 cases ob with
 | box cs=>
   obtain ⟨b,T,vs,h1,_⟩:=h
   rw [← hv,h1]
   exact .ptr _ _ _ b hG (by rw [h1];rfl)
 | row E k sh els=>
   obtain ⟨_,_,vs,h3,_⟩:=h
   obtain ⟨A,c,e,_⟩:=ZbC h3
   rw [← hv,e]
   exact .row _ _ _ _ _ hG e
 | prow E k els=>
   obtain ⟨_,_,vs,h3,_⟩:=h
   obtain ⟨A,c,e,_⟩:=ZbC h3
   rw [← hv,e]
   exact .row _ _ _ _ _ hG e
 | mp ents=>
   obtain ⟨b,es,clock,h1,_⟩:=h
   rw [← hv,h1]
   exact .mp _ _ b hG h1
 | qrow E k els=>
   obtain ⟨_,_,b,off,cap,cur,h3,_⟩:=h
   rw [← hv,h3]
   exact .row _ _ _ _ _ hG h3
theorem ZqO {f:FuncId} {es:Array Operand} {ts:Array TypeId} {args:List PV} {us:List (Nat×Option (Gen×VObj))} {dd:Nat} {ob:VObj} (ho:o.op = .call { callee:=.value (.func f),args:=es,argTypes:=ts })
  (ha:ZeW s.ob (es.toList.map (ev s))=some (args,us)) (hc:ContractN P f args ob) (hI:r.I=WInv.I P):OpOK P r o i s ⟨ZgS ob dd (s.ng,i),us ++ [(dd,some ((s.ng,i),ob))]⟩:=by
 intro S a x Q hX hi hd
 obtain ⟨F1,st1,hX1,hR1,_⟩:=Zcb _ (Flip.refl s.ob) hX (g:=fun j=>(es.map a.eval).getD j undef) ha (fun j p hp=>by
  rw [List.getElem?_map] at hp
  cases he:es.toList[j]? with
  | none=>rw [he] at hp;simp at hp
  | some e=>
    rw [he] at hp
    simp only [Option.map_some,Option.some.injEq] at hp
    subst hp
    have hea:es[j]? = some e:=by simpa using he
    have:(es.map a.eval).getD j undef=a.eval e:=by simp [hea]
    rw [this]
    exact ZE hX e)
 let z:Ctx:=⟨fun _=>False,F1,x.W,x.ρ⟩
 have hlen:args.length=es.size:=by rw [Zd5 _ ha];simp
 have hpre:Pre z args none (es.map a.eval):=by
  refine ⟨by simpa using hlen,fun j p v hp hv=>?_,fun j os h=>by simp at h,fun g hg=>hg.elim,fun b o hb=>hX1.flt b o hb⟩
  obtain ⟨h1,h2⟩:=hR1 j p hp
  rw [Array.getD_eq_getD_getElem?,hv] at h2
  exact h2.clean_mono h1 (fun _ _ h=>h) (fun _ _ _ _ h=>h)
 have hcalls:=hc.calls z _ hpre fun W' hW=>by
  rw [← hI]
  exact hX.inv.1 W' (hX.gr.trans' hW.os hW.tape hW.output hW.size fun b hb _=>hW.block b (Nat.lt_of_lt_of_le hb hX.gr.size) fun h=>h)
 unfold Oper.wp
 rw [Zc0 ho hc.isGo,Oper.upon_enter]
 refine hcalls.mono ?_
 rintro e W' ⟨y,v,rfl,rfl,hst,hgr,hfn,hfl,g0,hv,hob⟩
 have hnew:¬ x.G (s.ng,i):=fun hg=>by
  rcases hX.gens _ hg with e | ⟨_,e⟩
  ·exact absurd e (Nat.lt_irrefl _)
  ·exact hi e
 let y':Ctx:=⟨fun g=>x.G g∨g=(s.ng,i),y.F,y.W,fun g=>if g=(s.ng,i) then v else x.ρ g⟩
 have hρ:y'.ρ (s.ng,i)=v:=if_pos rfl
 have k:Step { x with F:=F1 } y':=⟨fun g hg=>⟨.inl hg,if_neg (fun (e:g=(s.ng,i))=>hnew (by rw [← e];exact hg))⟩,fun b o hb=>hst.F b o hb,fun b o v hb hv=>hst.W b o v hb hv⟩
 have hob':∀ {B:Nat} {D:Nat→Prop},B≤x.W.heap.size→ObRep y' B D (s.ng,i) ob:=fun hB=>hob.newOf (hρ.trans hv.symm) rfl rfl hB hc.pure
 refine ⟨y',rfl,?_⟩
 rw [Zgs]
 refine hX1.change k hd hgr.os hgr.tape hgr.output hgr.size (fun b hb _=>hgr.block b hb (fun e=>e)) hfn hfl (fun g hg=>?_) (.inr rfl) (hob' hX1.gr.size) (fun b hb=>.inl ?_) (ZnX (hob' (Nat.le_refl _) (D:=fun _=>False)) (.inr rfl) hρ)
 ·rcases hg with hg | rfl
  ·exact (hX.gens g hg).imp id fun ⟨e,f⟩=>⟨e,.inl f⟩
  ·exact .inr ⟨rfl,.inr rfl⟩
 ·exact (((hob' (Nat.le_refl _) (D:=fun _=>False)).lt b hb).2).resolve_right fun e=>e
theorem Zpq {f:FuncId} {es:Array Operand} {ts:Array TypeId} {args:List PV} {us:List (Nat×Option (Gen×VObj))} {dd:Nat} {ob:VObj} (hw:Zb ops s o=some true) (ho:o.op = .call { callee:=.value (.func f),args:=es,argTypes:=ts })
  (ha:ZeW s.ob (es.toList.map (ev s))=some (args,us)) (hc:ContractN P f args ob):OpR P ops i o s ⟨ZgS ob dd (s.ng,i),us ++ [(dd,some ((s.ng,i),ob))]⟩:=.any hw fun s' r hA hI=>by
 obtain ⟨e1,e2,_⟩:=ZcJ ho hA
 rw [hA.ng]
 refine ZqO ho ?_ hc hI
 rw [e1,← ha]
 exact (Zds fun p hp t ht=>e2 p hp t (Zb7 ht)).symm
def Zpr (f:Nat→Option (Gen×VObj)):VObj→Option (VObj×List (Nat×Option (Gen×VObj)))
 | .box cs=>(Zdy f cs).map fun (qs,us)=>(.box qs,us)
 | .row E k false els=>some (.row E k false els,[])
 | .row _ _ true _=>none
 | .prow _ _ _=>none
 | .mp ents=>some (.mp ents,[])
 | .qrow _ _ _=>none
theorem ZhM (hmix:P.follows .mixedOrders=true) {f:FuncId} {fn:Func} {c:Code} {args:List PV} {e:Ex} {s1:FS} {t:Nat} {g:Gen} {o2 ob:VObj} {us:List (Nat×Option (Gen×VObj))}
  (hg:isGo P f=true) (hf:P.funcs[f]? = some fn) (hb:fn.body=some c) (hn:args.length≤fn.ntmps) (hok:Zaz fn.ntmps c=true) (hrun:RunC P c (Zkt args none) e s1) (he:e = .normal∨e = .ret)
  (hres:ZbX P s1 fn.results.toList=some [ZgS o2 t g]) (hob:s1.ob t=some (g,o2)) (hpub:Zpr s1.ob o2=some (ob,us)):ContractN P f args ob:=by
 have hpure:ob.clean:=⟨fun cs hcs=>by
  subst hcs
  cases o2 with
  | prow E k els=>cases hpub
  | qrow E k els=>cases hpub
  | mp ents=>cases hpub
  | row E k sh els=>cases sh<;>simp [Zpr] at hpub
  | box cs2=>
    simp only [Zpr,Option.map_eq_some_iff] at hpub
    obtain ⟨⟨qs,us'⟩,h1,h2⟩:=hpub
    simp only [Prod.mk.injEq,VObj.box.injEq] at h2
    rw [← h2.1]
    exact ZfC _ h1,fun E k els hcs=>by
  subst hcs
  cases o2 with
  | prow E k els=>cases hpub
  | qrow E k els=>cases hpub
  | mp ents=>cases hpub
  | row E k sh els=>cases sh<;>simp [Zpr] at hpub
  | box cs2=>
    simp only [Zpr,Option.map_eq_some_iff] at hpub
    obtain ⟨_,_,h2⟩:=hpub
    cases h2⟩
 refine ⟨hg,hpure,fun x vs hpre hinv=>?_⟩
 let r:Run:=⟨x.W,fun _=>False,(vs++Array.replicate (fn.ntmps - vs.size) undef).size,x.F,x.G,x.ρ,WInv.I P⟩
 have hNr:r.N=fn.ntmps:=by
  have:=hpre.size
  simp [r]
  omega
 have hX:RstX r (fun _=>False) (Zkt args none) { tmps:=vs++Array.replicate (fn.ntmps - vs.size) undef,defers:=[] } x:=by
  refine ⟨rfl,rfl,Gr.refl _ _,fun g hg=>?_,fun t=>?_,fun t g o ho=>by simp [Zkt,ZoT] at ho,fun t t' g g' o o' b hne h1 h2=>by simp [Zkt,ZoT] at h1,hpre.flt,fun _ _ h=>h,fun _ _ h=>.inl h,fun _ h=>⟨h,rfl⟩,⟨hinv,fun g hg=>by obtain ⟨j,os,h,_⟩:=hpre.gen g hg;cases h⟩,fun _ _ _ _ h=>h⟩
  ·obtain ⟨j,os,h,_⟩:=hpre.gen g hg
   cases h
  ·show Rep x (args.getD t (.tup [])) _
   rw [Array.getD_eq_getD_getElem?,Array.getElem?_append,List.getD_eq_getElem?_getD]
   by_cases ht:t<vs.size
   ·rw [if_pos ht,List.getElem?_eq_getElem (by rw [hpre.size];exact ht),Array.getElem?_eq_getElem ht]
    exact hpre.rep t _ _ (List.getElem?_eq_getElem (by rw [hpre.size];exact ht)) (Array.getElem?_eq_getElem ht)
   ·rw [if_neg ht,List.getElem?_eq_none (by rw [hpre.size];omega)]
    have:(Array.replicate (fn.ntmps - vs.size) undef)[t - vs.size]?.getD undef=undef:=by
     rw [Array.getElem?_replicate]
     split<;>rfl
    rw [this]
    exact .tup [] #[] rfl (fun i p v hp=>by simp at hp)
 refine calls_of_wp hf hb ?_
 refine (Zdu hmix hrun).1 r _ x _ ⟨rfl,by rw [hNr];exact hok⟩ hX fun a' y hY=>?_
 obtain ⟨ws,h1,h2,h3⟩:=Zbs hY fn.results.toList hres
 match ws,h2 with
 | [w],_=>
 have hw:Rep y (ZgS o2 t g) w:=h3 0 _ rfl
 obtain ⟨hG,hO⟩:=hY.ob t g o2 hob
 have hρw:y.ρ g=w:=by
  cases o2 with
  | box cs=>
    obtain ⟨b,T,cv,q1,_⟩:=hO
    cases hw with
    | ptr _ _ _ b2 _ hb2=>
      rw [q1] at hb2 ⊢
      obtain rfl:b=b2:=by simpa [blk] using hb2
      rfl
  | row E k sh els=>cases hw with | row _ _ A n c _ hv=>exact hv
  | mp ents=>cases hw with | mp _ _ b _ hv=>exact hv
  | prow E k els=>cases hpub
  | qrow E k els=>cases hpub
 have hend:(results fn a'.tmps).run P y.W = .ok w y.W:=by
  have:(fn.results.mapM (Zmn a')).run P y.W = .ok #[w] y.W:=by
   rw [Array.mapM_eq_mapM_toList,map_eq_pure_bind,Sem.run_bind,h1]
   rfl
  have e:results fn a'.tmps=(fn.results.mapM (Zmn a') >>= fun vs=>pure (if h:vs.size=1 then vs[0] else .tuple vs)):=by
   unfold results
   congr 1
  rw [e,Sem.run_bind,this]
  rfl
 have fin:∀ (F2:Nat→Nat→Prop) (s2:FS),RstX r (fun _=>False) s2 a' { y with F:=F2 }→ObRep { y with F:=F2 } x.W.heap.size (fun _=>False) g ob→
   ∃ v,(results fn a'.tmps).run P y.W = .ok v y.W∧(fun e W'=>∃ y v,y.W=W'∧e=Ending.returned v∧Step x y∧Gr (fun _=>False) x.W y.W∧(∀ b o,y.F b o→x.F b o∨x.W.heap.size≤b)∧(∀ b o,y.F b o→b<y.W.heap.size)∧∃ g,y.ρ g=v∧ObRep y x.W.heap.size (fun _=>False) g ob) (Ending.returned v) y.W:=fun F2 s2 hY2 hO2=>by
  refine ⟨w,hend,{ y with F:=F2 },w,rfl,rfl,⟨fun g hg=>hY2.rho g hg,fun b o hb=>hY2.f0 b o hb,fun b o v hb hv=>?_⟩,hY2.gr,fun b o h=>(hY2.fnew b o h).imp id fun h=>h.resolve_right fun e=>e,hY2.flt,g,hρw,hO2⟩
  exact (World.cell?_of_block (hY2.gr.block b (hpre.flt b o hb) (fun e=>e))).trans hv
 have hfin:∃ v,(results fn a'.tmps).run P y.W = .ok v y.W∧(fun e W'=>∃ y v,y.W=W'∧e=Ending.returned v∧Step x y∧Gr (fun _=>False) x.W y.W∧(∀ b o,y.F b o→x.F b o∨x.W.heap.size≤b)∧(∀ b o,y.F b o→b<y.W.heap.size)∧∃ g,y.ρ g=v∧ObRep y x.W.heap.size (fun _=>False) g ob) (Ending.returned v) y.W:=by
  cases o2 with
  | prow E k els=>cases hpub
  | qrow E k els=>cases hpub
  | mp ents=>
    simp only [Zpr,Option.some.injEq,Prod.mk.injEq] at hpub
    obtain ⟨rfl,_⟩:=hpub
    exact fin y.F s1 hY hO
  | row E k sh els=>
    cases sh with
    | true=>simp [Zpr] at hpub
    | false=>
      simp only [Zpr,Option.some.injEq,Prod.mk.injEq] at hpub
      obtain ⟨rfl,_⟩:=hpub
      exact fin y.F s1 hY hO
  | box cs2=>
    simp only [Zpr,Option.map_eq_some_iff] at hpub
    obtain ⟨⟨qs,us'⟩,g2,g3⟩:=hpub
    simp only [Prod.mk.injEq] at g3
    obtain ⟨rfl,_⟩:=g3
    obtain ⟨b,T,cv,q1,q2,q3,q4,q5,q6,q7⟩:=hO
    obtain ⟨F2,st2,hY2,hR2,hl2,hf2⟩:=Zcd cs2 (Flip.refl s1.ob) hY (g:=fun j=>cv.getD j undef) g2 (fun j p hp=>by
     have hlt:j<cv.size:=by rw [← q3];exact (List.getElem?_eq_some_iff.1 hp).1
     have:cv.getD j undef=cv[j]:=by simp [hlt]
     rw [this]
     exact q5 j p _ hp (Array.getElem?_eq_getElem hlt))
    obtain ⟨_,b2,T2,cv2,w1,w2,w3,w4,w5,w6,w7⟩:=hY2.ob t _ _ (hf2.box hob)
    change y.ρ g=_ at w1
    rw [q1] at w1
    injection w1 with w1
    injection w1 with w1
    injection w1 with w1
    subst w1
    refine fin F2 _ hY2 ⟨b,T,cv,q1,q2,by rw [hl2,q3],fun p hp=>?_,fun k p v hp hv=>?_,q6,w7⟩
    ·obtain ⟨k,hk⟩:=List.getElem?_of_mem hp
     exact PV.cell_of_pure (hR2 k p hk).1
    ·have:=(hR2 k p hp).2
     rw [Array.getD_eq_getD_getElem?,hv] at this
     exact this
 rcases he with rfl | rfl
 ·exact ⟨hY.defers,hfin⟩
 ·exact ⟨hY.defers,hfin⟩
def ZtF (P:Program) (rs:List ResultVar) (ob:VObj):Ex→FS→Prop
 | .exit _,_=>False
 | _,s=>∃ t g o2 us,ZbX P s rs=some [ZgS o2 t g]∧s.ob t=some (g,o2)∧Zpr s.ob o2=some (ob,us)
omit [WInv P] in
theorem Zry {rs:List ResultVar} {ob o2:VObj} {t:Nat} {g:Gen} {us:List (Nat×Option (Gen×VObj))} (h1:ZbX P s rs=some [ZgS o2 t g]) (h2:s.ob t=some (g,o2)) (h3:Zpr s.ob o2=some (ob,us)):ZtF P rs ob .ret s:=⟨t,g,o2,us,h1,h2,h3⟩
theorem ZkI (hmix:P.follows .mixedOrders=true) {f:FuncId} {fn:Func} {c:Code} {args:List PV} {ob:VObj} (hf:P.funcs[f]? = some fn) (hg:isGo P f=true) (hb:fn.body=some c) (hok:(decide (args.length≤fn.ntmps)&&Zaz fn.ntmps c)=true)
  (h:PWs P [c] (ZtF P fn.results.toList ob) (mkS (ZcP 0 args) [] 1)):ContractN P f args ob:=by
 simp only [Bool.and_eq_true,decide_eq_true_eq] at hok
 obtain ⟨e,s',h1,h2⟩:=ZbI h
 have hsh:Shift (Zkt args none) (mkS (ZcP 0 args) [] 1):=ZcO (fun t=>by
  rcases Zce args 0 t with h | ⟨_,h⟩
  ·exact .inl h
  ·exact .inr h) (fun t=>.inl rfl) (Nat.le_refl _)
 cases e with
 | exit id=>exact h2.elim
 | normal=>
   obtain ⟨t,g,o2,us,h3,h4,h5⟩:=h2
   exact ZhM hmix hg hf hb hok.1 hok.2 (.shift hsh h1) (.inl rfl) h3 h4 h5
 | ret=>
   obtain ⟨t,g,o2,us,h3,h4,h5⟩:=h2
   exact ZhM hmix hg hf hb hok.1 hok.2 (.shift hsh h1) (.inr rfl) h3 h4 h5
end
section
variable {P:Program} [WInv P] {ops:Array Oper} {draw:Bool} {i:Nat} {L:List Oper} {acc:List (List Nat×List Nat)} {K:FS→Prop} {tm:List (Nat×PV)} {ob:List (Nat×Option (Gen×VObj))} {ng:Nat}
 {ty:TypeId} {pos:String} {after:Array Edge} {gd:Option (Nat×Bool)}
theorem Zse {dd:Nat} {f:FuncId} {es:Array Operand} {ts:Array TypeId} {args:List PV} {us:List (Nat×Option (Gen×VObj))} {o2:VObj} (hc:ContractN P f args o2) (hw:Zb ops (mkS tm ob ng) ⟨some dd,.call ⟨.value (.func f),es,ts⟩,ty,pos,after,gd⟩=some true)
  (ha:ZeW (Zg ob) (es.toList.map (evL tm))=some (args,us))
  (k:GoL P ops draw (i+1) L (acc ++ [(Zr (mkS tm ob ng) ⟨some dd,.call ⟨.value (.func f),es,ts⟩,ty,pos,after,gd⟩,(us ++ [(dd,some ((ng,i),o2))]).map (·.1))])
   (mkS ((dd,ZgS o2 dd (ng,i))::tm) ((us ++ [(dd,some ((ng,i),o2))]).reverse++ob) ng) K):GoL P ops draw i (⟨some dd,.call ⟨.value (.func f),es,ts⟩,ty,pos,after,gd⟩::L) acc (mkS tm ob ng) K:=by
 refine ZbR (Zpq (dd:=dd) hw rfl (by rw [ZB];exact ha) hc) ?_
 rw [Zac]
 exact k
end
end VL
end Go.Proofs.YtjblgpmagampbaaGreatDoor
namespace Go.Proofs.YtjblgpmagampbaaGreatDoor
namespace VL
open Go.RowKit
section
variable {P:Program} [WInv P] {r:Run} {ops:Array Oper} {o:Oper} {i:Nat} {s s':FS}
def Ze2 (h:PV→Option PV):List PV→Option (List PV)
 | []=>some []
 | p::ps=>match h p,Ze2 h ps with
   | some q,some qs=>some (q::qs)
   | _,_=>none
theorem ZdA {h:PV→Option PV}:∀ {ps qs:List PV},Ze2 h ps=some qs→qs.length=ps.length∧∀ (i:Nat) (q:PV),qs[i]? = some q→∃ p,ps[i]? = some p∧h p=some q
 | [],qs,e=>by
   injection e with e
   subst e
   exact ⟨rfl,fun i q hq=>by simp at hq⟩
 | p::ps,qs,e=>by
   simp only [Ze2] at e
   split at e
   ·rename_i q qs' h1 h2
    injection e with e
    subst e
    obtain ⟨h3,h4⟩:=ZdA h2
    refine ⟨by simp [h3],fun i q' hq=>?_⟩
    cases i with
    | zero=>
      simp only [List.getElem?_cons_zero,Option.some.injEq] at hq
      subst hq
      exact ⟨p,rfl,h1⟩
    | succ i=>
      simp only [List.getElem?_cons_succ] at hq ⊢
      exact h4 i q' hq
   ·cases e
theorem ZcC {h h':PV→Option PV}:∀ {ps:List PV},(∀ p ∈ ps,h p=h' p)→Ze2 h ps=Ze2 h' ps
 | [],_=>rfl
 | p::ps,e=>by
   simp only [Ze2]
   rw [e p (List.mem_cons_self ..),ZcC fun q hq=>e q (List.mem_cons_of_mem _ hq)]
def Zmd (f:Nat→Option (Gen×VObj)):PV→Option PV
 | .bool b=>some (.bool b)
 | .int k n=>some (.int k n)
 | .str s=>some (.str s)
 | .sl els=>some (.sl els)
 | .nil=>some (.sl [])
 | .row t g=>match ZG f t g with
   | some (.row _ _ _ els)=>some (.sl els)
   | _=>none
 | _=>none
def Zl4 (f:Nat→Option (Gen×VObj)):PV→Option PV
 | .ptr t g off=>match ZG f t g with
   | some (.box cs)=>(Ze2 (Zmd f) (cs.drop off)).map .cel
   | _=>none
 | .cel cs=>some (.cel cs)
 | _=>none
def frz (f:Nat→Option (Gen×VObj)):PV→Option PV
 | .agg ps=>(Ze2 (Zmd f) ps).map .agg
 | .fn g caps=>(Ze2 (Zl4 f) caps).map (.fn g)
 | .ptr t g off=>Zl4 f (.ptr t g off)
 | .cel cs=>some (.cel cs)
 | p=>Zmd f p
def frozen (s:FS) (x:Ctx):Ctx:=⟨fun _=>False,fun b o=>x.F b o∨(b<x.W.heap.size∧∃ t g ob,s.ob t=some (g,ob)∧blk (x.ρ g)=some b),x.W,x.ρ⟩
theorem Zok {f:Nat→Option (Gen×VObj)} {p q:PV} (h:Zmd f p=some q):q.pure=true:=by
 cases p<;>simp only [Zmd] at h<;>first
  | (cases h;done)
  | (injection h with h;subst h;rfl)
  | (split at h
     ·injection h with h;subst h;rfl
     ·cases h)
omit [WInv P] in
theorem ZrI {S:Nat→Prop} {a:Act} {x:Ctx} (hX:RstX r S s a x) {t:Nat} {g:Gen} {E k:Nat} {sh:Bool} {els:List (List PV)} (ho:s.ob t=some (g,.row E k sh els)):Rep (frozen s x) (.sl els) (x.ρ g):=by
 obtain ⟨hg,hO⟩:=hX.ob t g _ ho
 have hO':=hO
 obtain ⟨h1,h2,vs,h3,h4,h5⟩:=hO
 rcases h3.2 with ⟨hn,hl⟩ | ⟨b,cap,cur,hv,hB,hh,hc,hm,hs,ht⟩
 ·rw [hn]
  have:els = []:=List.eq_nil_of_length_eq_zero hl
  subst this
  exact .sl [] none 0 0 k 0 0 (fun _ _=>undef) rfl (Nat.le_refl _) (by omega) (by simp) (by omega) (fun i j e p he=>by simp at he) (fun i j e p he=>by simp at he)
 ·have hblk:blk (x.ρ g)=some b:=by rw [hv];rfl
  have hlt:b<x.W.heap.size:=(hO'.lt b hblk).1
  rw [hv]
  have key:∀ (i j:Nat) (e:List PV) (p:PV),els[i]? = some e→e[j]? = some p→∃ v,x.W.cell? ⟨b,i * k+j,none⟩=some v∧Rep x p v:=fun i j e p hi hj=>by
   obtain ⟨b',n,c,e1,_,_,_,_,hc⟩:=ZdU hO' hi
   rw [hv] at e1
   injection e1 with e1
   injection e1 with e1
   injection e1 with e1
   subst e1
   exact hc j p hj
  refine .sl els _ _ _ k b 0 (fun i j=>(x.W.cell? ⟨b,i * k+j,none⟩).getD undef) rfl hc (by unfold maxLen at hm;omega) h1 (fun _=>rfl) (fun i j e p hi hj=>?_) (fun i j e p hi hj=>?_)
  ·obtain ⟨v,hv2,_⟩:=key i j e p hi hj
   refine ⟨h2 e (List.mem_of_getElem? hi) p (List.mem_of_getElem? hj),.inr ⟨hlt,t,g,_,ho,hblk⟩,?_⟩
   rw [Nat.zero_add]
   show x.W.cell? _=_
   rw [hv2];rfl
  ·obtain ⟨v,hv2,hr⟩:=key i j e p hi hj
   rw [hv2]
   exact hr.pure_mono (h2 e (List.mem_of_getElem? hi) p (List.mem_of_getElem? hj)) (fun _ _ h=>.inl h) (fun _ _ _ _ h=>h)
omit [WInv P] in
theorem Zdf {S:Nat→Prop} {a:Act} {x:Ctx} (hX:RstX r S s a x) {p q:PV} {v:Value} (h:Zmd s.ob p=some q) (hr:Rep x p v):Rep (frozen s x) q v:=by
 have pm:∀ {p:PV} {v:Value},p.pure=true→Rep x p v→Rep (frozen s x) p v:=fun hp hr=>hr.pure_mono hp (fun _ _ h=>.inl h) (fun _ _ _ _ h=>h)
 cases p with
 | bool b=>injection h with h;subst h;exact pm rfl hr
 | int k n=>injection h with h;subst h;exact pm rfl hr
 | str b=>injection h with h;subst h;exact pm rfl hr
 | sl els=>injection h with h;subst h;exact pm rfl hr
 | nil=>
   injection h with h
   subst h
   cases hr
   exact .sl [] none 0 0 0 0 0 (fun _ _=>undef) rfl (Nat.le_refl _) (by omega) (by simp) (by omega) (fun i j e p he=>by simp at he) (fun i j e p he=>by simp at he)
 | row t g=>
   simp only [Zmd] at h
   split at h
   ·rename_i E k sh els hob
    injection h with h
    subst h
    cases hr with
    | row _ _ A n c hG hv=>
      rw [← hv]
      exact ZrI hX (ZD hob)
   ·cases h
 | _=>cases h
omit [WInv P] in
theorem Zh3 {S:Nat→Prop} {a:Act} {x:Ctx} (hX:RstX r S s a x) {p q:PV} {v:Value} (h:Zl4 s.ob p=some q) (hr:Rep x p v):Rep (frozen s x) q v:=by
 cases p with
 | ptr t g off=>
   simp only [Zl4] at h
   split at h
   ·rename_i cs hob
    simp only [Option.map_eq_some_iff] at h
    obtain ⟨qs,h1,rfl⟩:=h
    obtain ⟨h2,h3⟩:=ZdA h1
    obtain ⟨b,off',rfl,hc⟩:=Zfl hX (p:=.ptr t g off) (cs:=cs.drop off) (by simp only [ZeD,hob]) hr
    have hbk:b<x.W.heap.size∧blk (x.ρ g)=some b:=by
     obtain ⟨_,hO⟩:=hX.ob t g _ (ZD hob)
     cases hr with
     | ptr _ _ _ _ _ hb=>exact ⟨(hO.lt b hb).1,hb⟩
    refine .cel qs b off' (fun j=>(x.W.cell? ⟨b,off'+j,none⟩).getD undef) (fun j q hq=>?_) (fun j q hq=>?_)
    ·obtain ⟨p,hp,hpq⟩:=h3 j q hq
     obtain ⟨u,hu,_⟩:=hc j p hp
     refine ⟨Zok hpq,.inr ⟨hbk.1,t,g,_,ZD hob,hbk.2⟩,?_⟩
     show x.W.cell? _=_
     rw [hu];rfl
    ·obtain ⟨p,hp,hpq⟩:=h3 j q hq
     obtain ⟨u,hu,hru⟩:=hc j p hp
     rw [hu]
     exact Zdf hX hpq hru
   ·cases h
 | cel cs=>
   injection h with h
   subst h
   cases hr with
   | cel _ b off f hcell hh=>exact .cel cs b off f (fun j p hp=>⟨(hcell j p hp).1,.inl (hcell j p hp).2.1,(hcell j p hp).2.2⟩) fun j p hp=>(hh j p hp).pure_mono (hcell j p hp).1 (fun _ _ h=>.inl h) (fun _ _ _ _ h=>h)
 | _=>cases h
omit [WInv P] in
theorem Zol {S:Nat→Prop} {a:Act} {x:Ctx} (hX:RstX r S s a x) {p q:PV} {v:Value} (h:frz s.ob p=some q) (hr:Rep x p v):Rep (frozen s x) q v:=by
 cases p with
 | agg ps=>
   simp only [frz,Option.map_eq_some_iff] at h
   obtain ⟨qs,h1,rfl⟩:=h
   obtain ⟨h2,h3⟩:=ZdA h1
   cases hr with
   | agg _ cs hl hh=>
     refine .agg qs cs (by rw [h2,hl]) fun i q w hq hw=>?_
     obtain ⟨p,hp,hpq⟩:=h3 i q hq
     exact Zdf hX hpq (hh i p w hp hw)
 | fn f caps=>
   simp only [frz,Option.map_eq_some_iff] at h
   obtain ⟨qs,h1,rfl⟩:=h
   obtain ⟨h2,h3⟩:=ZdA h1
   cases hr with
   | fn _ _ cs hl hh=>
     refine .fn f qs cs (by rw [h2,hl]) fun i q w hq hw=>?_
     obtain ⟨p,hp,hpq⟩:=h3 i q hq
     exact Zh3 hX hpq (hh i p w hp hw)
 | ptr t g off=>exact Zh3 hX (p:=.ptr t g off) h hr
 | cel cs=>exact Zh3 hX (p:=.cel cs) h hr
 | bool b=>exact Zdf hX (p:=.bool b) h hr
 | int k n=>exact Zdf hX (p:=.int k n) h hr
 | str b=>exact Zdf hX (p:=.str b) h hr
 | sl els=>exact Zdf hX (p:=.sl els) h hr
 | nil=>exact Zdf hX (p:=.nil) h hr
 | row t g=>exact Zdf hX (p:=.row t g) h hr
 | elp t g i k off=>cases h
 | suf t g i k=>cases h
 | mp t g=>cases h
 | tup ps=>cases h
 | un=>cases h
def PV.dry1:PV→Bool
 | .bool _ | .int _ _ | .str _=>true
 | _=>false
def PV.dry2:PV→Bool
 | .agg ps=>ps.all PV.dry1
 | p=>p.dry1
def PV.dry:PV→Bool
 | .tup ps=>ps.all PV.dry2
 | p=>p.dry2
omit [WInv P] in
theorem Rep.dry1 {x y:Ctx} {p:PV} {v:Value} (h:Rep x p v) (hp:p.dry1=true):Rep y p v:=by
 cases h<;>simp [PV.dry1] at hp<;>constructor
omit [WInv P] in
theorem Rep.dry2 {x y:Ctx} {p:PV} {v:Value} (h:Rep x p v) (hp:p.dry2=true):Rep y p v:=by
 cases p with
 | agg ps=>
   cases h with
   | agg _ cs hl hh=>exact .agg ps cs hl fun i q w hq hw=>(hh i q w hq hw).dry1 (List.all_eq_true.1 hp q (List.mem_of_getElem? hq))
 | _=>exact h.dry1 hp
omit [WInv P] in
theorem Rep.dry {x y:Ctx} {p:PV} {v:Value} (h:Rep x p v) (hp:p.dry=true):Rep y p v:=by
 cases p with
 | tup ps=>
   cases h with
   | tup _ cs hl hh=>exact .tup ps cs hl fun i q w hq hw=>(hh i q w hq hw).dry2 (List.all_eq_true.1 hp q (List.mem_of_getElem? hq))
 | _=>exact h.dry2 hp
theorem Zfv {f f':Nat→Option (Gen×VObj)} {p:PV} (h:∀ t ∈ Zab p,f t=f' t):Zmd f p=Zmd f' p:=by
 cases p<;>simp only [Zmd]
 rename_i t g
 rw [Zae (h t (by simp [Zab])) g]
theorem Zg7 {f f':Nat→Option (Gen×VObj)} {p:PV} (h:∀ t ∈ ZpB p,f t=f' t) (h2:∀ t ∈ (ZpB p).flatMap (ZeR f),f t=f' t):Zl4 f p=Zl4 f' p:=by
 cases p<;>simp only [Zl4]
 rename_i t g off
 have e:=h t (by simp [ZpB])
 rw [Zae e g]
 split
 ·rename_i cs hob
  rw [ZcC fun q hq=>Zfv fun t' ht'=>h2 t' (List.mem_flatMap.2 ⟨t,by simp [ZpB],?_⟩)]
  unfold ZeR
  rw [e,ZD hob]
  exact List.mem_flatMap.2 ⟨q,List.mem_of_mem_drop hq,ht'⟩
 ·rfl
theorem Zk5 {f f':Nat→Option (Gen×VObj)} {p:PV} (h:∀ t ∈ Zh0 f p,f t=f' t):frz f p=frz f' p:=by
 have h1:∀ t ∈ Zcz p,f t=f' t:=fun t ht=>h t (List.mem_append_left _ ht)
 have h2:∀ t ∈ (Zcz p).flatMap (ZeR f),f t=f' t:=fun t ht=>h t (List.mem_append_right _ (List.mem_append_left _ ht))
 cases p with
 | agg ps=>
   simp only [frz]
   rw [ZcC fun q hq=>Zfv fun t ht=>h1 t (List.mem_flatMap.2 ⟨q,hq,ht⟩)]
 | fn g caps=>
   simp only [frz]
   rw [ZcC fun q hq=>Zg7 (fun t ht=>h1 t (List.mem_flatMap.2 ⟨q,hq,ht⟩)) (fun t ht=>h2 t ?_)]
   obtain ⟨u,hu,ht⟩:=List.mem_flatMap.1 ht
   exact List.mem_flatMap.2 ⟨u,List.mem_flatMap.2 ⟨q,hq,hu⟩,ht⟩
 | ptr t g off=>exact Zg7 (p:=.ptr t g off) h1 h2
 | cel cs=>rfl
 | row t g=>exact Zfv (p:=.row t g) h1
 | _=>rfl
omit [WInv P] in
theorem Znl {a:Act} {e:Operand} {f:FuncId} {cs:Array Value} {es:Array Operand} {ts:Array TypeId} (ho:o.op = .call { callee:=.value e,args:=es,argTypes:=ts }) (he:a.eval e = .func (.func f) #[] cs) (hg:isGo P f=true) (W:World) :
  (execOp a.eval o).run P W = .ok (.enter f (es.map a.eval++cs)) W:=by
 unfold isGo at hg
 split at hg
 ·rename_i fn hfn
  simp only [Bool.and_eq_true,bne_iff_ne,ne_eq] at hg
  obtain ⟨h1,h2⟩:=hg
  unfold execOp
  rw [ho]
  have h3:¬ fn.body=none:=by cases h:fn.body<;>simp_all
  simp [resolve,he,Deferred.ofValue,invoke,callFunc,hfn,h3,h1]
 ·cases hg
theorem Zqe {e:Operand} {f:FuncId} {caps:List PV} {es:Array Operand} {ts:Array TypeId} {args1 args2:List PV} {res:PV} (ho:o.op = .call { callee:=.value e,args:=es,argTypes:=ts }) (hf:ev s e = .fn f caps)
  (ha:Ze2 (frz s.ob) (es.toList.map (ev s))=some args1) (hcp:Ze2 (Zl4 s.ob) caps=some args2) (hc:Contract P f (args1++args2) none res []) (hp:res.dry=true) (hI:r.I=WInv.I P):OpOK P r o i s ⟨res,[]⟩:=by
 intro S a x Q hX hi hd
 have hr:=ZE hX e
 rw [hf] at hr
 generalize hv:a.eval e=v at hr
 cases hr with
 | fn _ _ cs hl hh=>
 obtain ⟨h1,h2⟩:=ZdA ha
 obtain ⟨h3,h4⟩:=ZdA hcp
 have hl1:args1.length=(es.map a.eval).size:=by rw [h1];simp
 have hpre:Pre (frozen s x) (args1++args2) none (es.map a.eval++cs):=by
  refine ⟨by rw [List.length_append,hl1,h3,hl];simp,fun j p w hj hw=>?_,fun j os h=>by simp at h,fun g hg=>hg.elim,fun b o hb=>?_⟩
  ·rw [List.getElem?_append] at hj
   rw [Array.getElem?_append] at hw
   by_cases hlt:j<args1.length
   ·rw [if_pos hlt] at hj
    rw [if_pos (by rw [← hl1];exact hlt)] at hw
    obtain ⟨q,hq,hqp⟩:=h2 j p hj
    rw [List.getElem?_map,Option.map_eq_some_iff] at hq
    obtain ⟨e',he',rfl⟩:=hq
    rw [Array.getElem?_map,Option.map_eq_some_iff] at hw
    obtain ⟨e2,he2,rfl⟩:=hw
    rw [Array.getElem?_toList] at he'
    rw [he'] at he2
    injection he2 with he2
    subst he2
    exact Zol hX hqp (ZE hX e')
   ·rw [if_neg hlt] at hj
    rw [if_neg (by rw [← hl1];exact hlt),← hl1] at hw
    obtain ⟨q,hq,hqp⟩:=h4 _ p hj
    exact Zh3 hX hqp (hh _ q w hq hw)
  ·rcases hb with hb | hb
   ·exact hX.flt b o hb
   ·exact hb.1
 have hcalls:=hc.calls (frozen s x) _ hpre fun W' hW=>by
  rw [← hI]
  exact hX.inv.1 W' (hX.gr.trans' hW.os hW.tape hW.output hW.size fun b hb _=>hW.block b (Nat.lt_of_lt_of_le hb hX.gr.size) fun ⟨j,os,h,_⟩=>by simp at h)
 unfold Oper.wp
 rw [Znl ho hv hc.isGo,Oper.upon_enter]
 refine hcalls.mono ?_
 rintro e' W' ⟨y,v,rfl,rfl,hpost⟩
 have hgr:Gr (fun _=>False) x.W y.W:=⟨hpost.gr.os,hpost.gr.tape,hpost.gr.output,hpost.gr.size,fun b hb _=>hpost.gr.block b hb (fun ⟨j,os,h,_⟩=>by simp at h)⟩
 let y':Ctx:=⟨x.G,x.F,y.W,x.ρ⟩
 have k:Step x y':=⟨fun _ h=>⟨h,rfl⟩,fun _ _ h=>h,fun b o w hb hw=>(World.cell?_of_block (hgr.block b (hX.flt b o hb) (fun e=>e))).trans hw⟩
 have hX2:RstX r S s a y':=hX.grow k (fun _ h=>h) hgr (fun _ _ h=>.inl h) (fun b o hb=>Nat.lt_of_lt_of_le (hX.flt b o hb) hgr.size)
 exact ⟨y',rfl,(hX2.pureVal hd (hpost.rep.dry hp)).moreS fun _ h=>.inl h⟩
theorem Zom {e:Operand} {f:FuncId} {caps:List PV} {es:Array Operand} {ts:Array TypeId} {args1 args2:List PV} {res:PV} (hw:Zb ops s o=some true) (ho:o.op = .call { callee:=.value e,args:=es,argTypes:=ts }) (hf:ev s e = .fn f caps)
  (ha:Ze2 (frz s.ob) (es.toList.map (ev s))=some args1) (hcp:Ze2 (Zl4 s.ob) caps=some args2) (hc:Contract P f (args1++args2) none res []) (hp:res.dry=true):OpR P ops i o s ⟨res,[]⟩:=.any hw fun s' r hA hI=>by
 obtain ⟨e1,e2,e3,e4⟩:=ZcJ ho hA
 refine Zqe ho (by rw [e3];exact hf) ?_ ?_ hc hp hI
 ·rw [e1,← ha]
  exact (ZcC fun p hp=>Zk5 fun t ht=>e2 p hp t ht).symm
 ·rw [← hcp]
  refine (ZcC fun q hq=>Zg7 (fun t ht=>e4 t ?_) (fun t ht=>e4 t ?_)).symm
  ·rw [hf]
   exact List.mem_append_left _ (List.mem_flatMap.2 ⟨q,hq,ht⟩)
  ·rw [hf]
   obtain ⟨u,hu,ht⟩:=List.mem_flatMap.1 ht
   exact List.mem_append_right _ (List.mem_append_left _ (List.mem_flatMap.2 ⟨u,List.mem_flatMap.2 ⟨q,hq,hu⟩,ht⟩))
theorem Zk6 {f:FuncId} {es:Array Operand} (hw:Zb ops s o=some true) (ho:o.op = .makeFunc (.func f) #[] es):OpR P ops i o s ⟨.fn f (es.toList.map (ev s)),[]⟩:=.any hw fun s' r hA hI=>by
 have hm:∀ e ∈ es.toList,e ∈ o.op.operands:=fun e he=>by rw [ho];simp [Op.operands];simpa using he
 have e1:es.toList.map (ev s)=es.toList.map (ev s'):=List.map_congr_left fun e he=>hA.ev e (hm e he)
 rw [e1]
 intro S a x Q hX hi hd
 refine ZC (v:=.func (.func f) #[] (es.map a.eval)) (W':=x.W) ?_ (hX.val hd (.fn f _ _ (by simp) fun j p v hp hv=>?_))
 ·unfold execOp
  rw [ho]
  simp [Instr.makeFunc]
 ·rw [List.getElem?_map,Option.map_eq_some_iff] at hp
  obtain ⟨e,he,rfl⟩:=hp
  rw [Array.getElem?_map,Option.map_eq_some_iff] at hv
  obtain ⟨e2,he2,rfl⟩:=hv
  rw [Array.getElem?_toList] at he
  rw [he] at he2
  injection he2 with he2
  subst he2
  exact ZE hX e
end
section
variable {P:Program} [WInv P] {ops:Array Oper} {draw:Bool} {i:Nat} {L:List Oper} {acc:List (List Nat×List Nat)} {K:FS→Prop} {tm:List (Nat×PV)} {ob:List (Nat×Option (Gen×VObj))} {ng:Nat}
 {d:Option Tmp} {ty:TypeId} {pos:String} {after:Array Edge} {gd:Option (Nat×Bool)}
theorem Zon {e:Operand} {f:FuncId} {caps:List PV} {es:Array Operand} {ts:Array TypeId} {args1 args2:List PV} {res:PV} (hc:Contract P f (args1++args2) none res []) (hw:Zb ops (mkS tm ob ng) ⟨d,.call ⟨.value e,es,ts⟩,ty,pos,after,gd⟩=some true)
  (hf:evL tm e = .fn f caps) (ha:Ze2 (frz (Zg ob)) (es.toList.map (evL tm))=some args1) (hcp:Ze2 (Zl4 (Zg ob)) caps=some args2) (hp:res.dry=true)
  (k:GoL P ops draw (i+1) L (acc ++ [(Zr (mkS tm ob ng) ⟨d,.call ⟨.value e,es,ts⟩,ty,pos,after,gd⟩,[])]) (mkS (Zau d res tm) ob ng) K):GoL P ops draw i (⟨d,.call ⟨.value e,es,ts⟩,ty,pos,after,gd⟩::L) acc (mkS tm ob ng) K:=by
 refine ZbR (Zom hw rfl (by rw [ZB];exact hf) (by rw [ZB];exact ha) hcp hc hp) ?_
 rw [Zac]
 exact k
theorem Zhw {f:FuncId} {es:Array Operand} {ts:Array TypeId} {args:List PV} {res:PV} (hc:Contract P f args none res []) (hw:Zb ops (mkS tm ob ng) ⟨d,.call ⟨.value (.func f),es,ts⟩,ty,pos,after,gd⟩=some true)
  (ha:Ze2 (frz (Zg ob)) (es.toList.map (evL tm))=some args) (hp:res.dry=true)
  (k:GoL P ops draw (i+1) L (acc ++ [(Zr (mkS tm ob ng) ⟨d,.call ⟨.value (.func f),es,ts⟩,ty,pos,after,gd⟩,[])]) (mkS (Zau d res tm) ob ng) K):GoL P ops draw i (⟨d,.call ⟨.value (.func f),es,ts⟩,ty,pos,after,gd⟩::L) acc (mkS tm ob ng) K:=
 Zon (caps:=[]) (args2:=[]) (by rw [List.append_nil];exact hc) hw rfl ha rfl hp k
theorem Znm {f:FuncId} {es:Array Operand} (hw:Zb ops (mkS tm ob ng) ⟨d,.makeFunc (.func f) #[] es,ty,pos,after,gd⟩=some true) {caps:List PV} (he:es.toList.map (evL tm)=caps)
  (k:GoL P ops draw (i+1) L (acc ++ [(Zr (mkS tm ob ng) ⟨d,.makeFunc (.func f) #[] es,ty,pos,after,gd⟩,[])]) (mkS (Zau d (.fn f caps) tm) ob ng) K):GoL P ops draw i (⟨d,.makeFunc (.func f) #[] es,ty,pos,after,gd⟩::L) acc (mkS tm ob ng) K:=by
 refine ZbR (Zk6 hw rfl) ?_
 rw [Zac,ZB,he]
 exact k
end
end VL
end Go.Proofs.YtjblgpmagampbaaGreatDoor
namespace Go.Proofs.YtjblgpmagampbaaGreatDoor
namespace VL
open Go.RowKit
theorem ZfO {x:Ctx} {B:Nat} {D:Nat→Prop} {g:Gen} {E k:Nat} {els:List (List PV)} (h:ObRep x B D g (.prow E k els)) {i:Nat} {e:List PV} (hi:els[i]? = some e) :
  ∃ b n c,x.ρ g = .slice (some ⟨b,0,none⟩) n c∧n=els.length∧n≤c∧c≤maxLen∧(B≤b∨D b)∧∀ j p,e[j]? = some p→∃ v,x.W.cell? ⟨b,i * k+j,none⟩=some v∧Rep x p v:=by
 obtain ⟨h1,h2,vs,⟨hl,h3⟩,h4,h5⟩:=h
 have hlt:i<els.length:=(List.getElem?_eq_some_iff.1 hi).1
 rcases h3 with ⟨_,hn⟩ | ⟨b,cap,cur,hv,hB,hh,hc,hm,hs,ht⟩
 ·omega
 ·refine ⟨b,_,cap,hv,rfl,hc,hm,(h5 b (by rw [hv];rfl)).1,fun j p hp=>?_⟩
  have hf:=ZdT els h1 i e j p hi hp
  have hlen:(els.flatten).length=els.length * k:=ZW els h1
  have hlt2:i * k+j<vs.length:=by rw [hl,← hlen];exact (List.getElem?_eq_some_iff.1 hf).1
  obtain ⟨v,hvv⟩:∃ v,vs[i * k+j]? = some v:=⟨_,List.getElem?_eq_getElem hlt2⟩
  refine ⟨v,?_,h4 _ p v hf hvv⟩
  have hvv':=hvv
  rw [← ht,List.getElem?_take] at hvv'
  split at hvv'
  ·rw [cell_of_row x.W b _ cur E (0,0) hh]
   simpa using hvv'
  ·cases hvv'
def Zna (f:Nat→Option (Gen×VObj)):PV→Option (List (List PV))
 | .sl els=>some els
 | .nil=>some []
 | .row t g=>match ZG f t g with
   | some (.row _ _ _ els)=>some els
   | some (.prow _ _ els)=>some els
   | _=>none
 | _=>none
section
variable {P:Program} {r:Run} {o:Oper} {i:Nat} {s:FS}
theorem Zi5 {S:Nat→Prop} {a:Act} {x:Ctx} (hX:RstX r S s a x) {p:PV} {v:Value} {els:List (List PV)} (h:Zna s.ob p=some els) (hr:Rep x p v) :
  ∃ A c k,v = .slice A els.length c∧els.length≤c∧c≤9223372036854775807∧(∀ e ∈ els,e.length=k)∧(∀ e ∈ els,∀ q ∈ e,q.cell=true)∧
   ∃ b off,(0<els.length→A=some ⟨b,off,none⟩∧∀ (i j:Nat) (e:List PV) (q:PV),els[i]? = some e→e[j]? = some q→∃ w,x.W.cell? ⟨b,off+i * k+j,none⟩=some w∧Rep x q w):=by
 have old:Zgr s.ob p=some els→∃ A c k,v = .slice A els.length c∧els.length≤c∧c≤9223372036854775807∧(∀ e ∈ els,e.length=k)∧(∀ e ∈ els,∀ q ∈ e,q.cell=true)∧
   ∃ b off,(0<els.length→A=some ⟨b,off,none⟩∧∀ (i j:Nat) (e:List PV) (q:PV),els[i]? = some e→e[j]? = some q→∃ w,x.W.cell? ⟨b,off+i * k+j,none⟩=some w∧Rep x q w):=fun h=>by
  obtain ⟨A,c,k,h1,h2,h3,h4,h5,h6⟩:=Zfu hX h hr
  exact ⟨A,c,k,h1,h2,h3,h4,fun e he q hq=>PV.cell_of_pure (h5 e he q hq),h6⟩
 cases p with
 | sl els'=>exact old h
 | nil=>exact old h
 | row t g=>
   unfold Zna at h
   simp only at h
   split at h
   ·rename_i E k sh els' hob
    exact old (by unfold Zgr;simp only [hob];exact h)
   ·rename_i E k els' hob
    injection h with h
    subst h
    obtain ⟨hg,hO⟩:=hX.ob t g _ (ZD hob)
    have hO':=hO
    obtain ⟨h1,h2,vs,h3,h4,h5⟩:=hO
    cases hr with
    | row _ _ A n c hG hv=>
      rcases h3.2 with ⟨hn,hl⟩ | ⟨b,cap,cur,hv2,hB,hh,hc,hm,hs,ht⟩
      ·rw [hv] at hn
       injection hn with q1 q2 q3
       subst q1 q2 q3
       refine ⟨none,0,k,by rw [hl],by omega,by omega,h1,h2,0,0,fun h0=>absurd h0 (by omega)⟩
      ·rw [hv] at hv2
       injection hv2 with q1 q2 q3
       subst q1 q2 q3
       refine ⟨_,c,k,rfl,hc,by unfold maxLen at hm;omega,h1,h2,b,0,fun h0=>⟨rfl,fun i j e q he hq=>?_⟩⟩
       obtain ⟨b',n',c',h6,_,_,_,_,h7⟩:=ZfO hO' he
       rw [hv] at h6
       injection h6 with h6
       injection h6 with h6
       injection h6 with h6
       subst h6
       rw [Nat.zero_add]
       exact h7 j q hq
   ·cases h
 | _=>simp [Zna] at h
theorem Zsk {T:TypeId} {e:Operand} {E a1 a2:Nat} {a3:List PV} {els:List (List PV)} (ho:o.op = .call { callee:=.builtin .len,args:=#[e],argTypes:=#[T] }) (ht:tyI P T=some ⟨.slice E,a1,a2,a3⟩) (hels:Zna s.ob (ev s e)=some els):OpOK P r o i s ⟨.int .i64 els.length,[]⟩:=by
 intro S a x Q hX hi hd
 obtain ⟨inf,z,h1,_⟩:=Zt ht
 obtain ⟨A,c,k,hv,_⟩:=Zi5 hX hels (ZE hX e)
 refine ZC (v:=.int .i64 els.length) (W':=x.W) ?_ (hX.val hd (.int _ _))
 unfold execOp
 rw [ho]
 simp [resolve,invoke,builtin,Builtin.len_,hv,run_underlying h1,goInt]
theorem Zpz {T:TypeId} {e e':Operand} {E E' a1 a2 t k n:Nat} {a3:List PV} {te:TI} {g:Gen} {els:List (List PV)} (ho:o.op = .indexAddr T e e') (ht:tyI P T=some ⟨.slice E,a1,a2,a3⟩) (hte:tyI P E=some te) (he:ev s e = .row t g)
  (hn:toNat? (ev s e')=some n) (hob:ZG s.ob t g=some (.prow E' k els)) (hnl:n<els.length) (hk:k=te.size):OpOK P r o i s ⟨.elp t g n k 0,[]⟩:=by
 intro S a x Q hX hi hd
 subst hk
 obtain ⟨inf,z,h1,_⟩:=Zt ht
 obtain ⟨inf',z',h1',h2',_,h4',_,_⟩:=Zt hte
 have hr:=ZE hX e
 obtain ⟨kd,hidx⟩:=Za3 hn (ZE hX e')
 have key:∀ (ad:Addr) (len cap:Nat),a.eval e = .slice (some ad) len cap→n<len→(execOp a.eval o).run P x.W = .ok (.value (.pointer (some (ad.add (n * te.size))))) x.W:=fun ad len cap hv hlt=>by
  unfold execOp
  rw [ho]
  have:(0:Int)≤n∧(n:Int)<len:=by omega
  simp [hv,hidx,Instr.indexAt,asIntOf,run_underlying h1,sizeOf,typeInfo,h2',h4',hlt]
 rw [he] at hr
 obtain ⟨hg,hO⟩:=hX.ob t g _ (ZD hob)
 obtain ⟨b,m,c,h5,h6,_⟩:=ZfO hO (List.getElem?_eq_getElem hnl)
 generalize hv:a.eval e=v at hr key
 cases hr with
 | row _ _ A m' c' hG hvv=>
   rw [h5] at hvv
   injection hvv with q1 q2 q3
   subst q1 q2 q3
   refine ZC (key _ m c rfl (by omega)) (hX.val hd ?_)
   rw [ZaQ,Nat.zero_add]
   have:=Rep.elp (x:=x) t g n te.size 0 b hG (by rw [h5];rfl)
   rw [Nat.add_zero] at this
   exact this
theorem ZqW {T:TypeId} {e:Operand} {ti:TI} {t n k off E:Nat} {g:Gen} {els:List (List PV)} {el:List PV} {p:PV} (ho:o.op = .load T e) (ht:tyI P T=some ti) (he:ev s e = .elp t g n k off) (hob:ZG s.ob t g=some (.prow E k els))
  (hel:els[n]? = some el) (hp:Zh1 ti (el.drop off)=some p):OpOK P r o i s ⟨p,[]⟩:=by
 intro S a x Q hX hi hd
 have hr:=ZE hX e
 rw [he] at hr
 obtain ⟨hg,hO⟩:=hX.ob t g _ (ZD hob)
 obtain ⟨b,m,c,h1,_,_,_,_,hc⟩:=ZfO hO hel
 generalize hv:a.eval e=v at hr
 cases hr with
 | elp _ _ _ _ _ b' hG hb=>
   rw [h1] at hb
   obtain rfl:b=b':=by simpa [blk] using hb
   obtain ⟨v,h2,h3⟩:=Zc9 (x:=x) (b:=b) (off:=n * k+off) ht (fun j q hq=>by
    rw [List.getElem?_drop] at hq
    rw [Nat.add_assoc]
    exact hc (off+j) q hq) hp
   refine ZC (v:=v) (W':=x.W) ?_ (hX.val hd h3)
   unfold execOp
   rw [ho]
   simp [hv,h2]
end
end VL
end Go.Proofs.YtjblgpmagampbaaGreatDoor
namespace Go.Proofs.YtjblgpmagampbaaGreatDoor
namespace VL
open Go.RowKit
section
variable {P:Program} {r:Run} {o:Oper} {i:Nat} {s:FS}
theorem ZoZ {T:TypeId} {e e':Operand} {t:Nat} {g:Gen} {n k off E:Nat} {els:List (List PV)} {el:List PV} {ti:TI} (ho:o.op = .store T e e') (ht:tyI P T=some ti) (hl:(ev s e').cells.length=ti.size) (hp:ev s e = .elp t g n k off)
  (hcell:(ev s e').cells.all PV.cell=true) (hob:ZG s.ob t g=some (.prow E k els)) (hel:els[n]? = some el) (hfit:off+ti.size≤k):OpOK P r o i s ⟨.un,[(t,some (g,.prow E k (els.set n (Zaa el off (ev s e').cells))))]⟩:=by
 intro S a x Q hX hi hd
 have hr:=ZE hX e
 have hr':=ZE hX e'
 obtain ⟨h8,h9⟩:=ZdC hr' hcell
 have hob2:=ZD hob
 obtain ⟨hg,hO⟩:=hX.ob t g _ hob2
 have hO':=hO
 obtain ⟨h1,h2,vs,h3,h4,h5⟩:=hO
 obtain ⟨b,m,c,hρ,hm,hmc,hcm,hB,_⟩:=ZfO hO' hel
 rw [hp] at hr
 generalize hv:a.eval e=v at hr
 cases hr with
 | elp _ _ _ _ _ b' hG hb=>
   rw [hρ] at hb
   obtain rfl:b=b':=by simpa [blk] using hb
   have hnl:n<els.length:=(List.getElem?_eq_some_iff.1 hel).1
   have hk1:=h1 el (List.mem_of_getElem? hel)
   rcases h3.2 with ⟨_,hl0⟩ | ⟨b2,cap,cur,hv2,hB2,hh,hnc,hcm2,hcs,htake⟩
   ·omega
   ·rw [hρ] at hv2
    injection hv2 with q1 q2 q3
    injection q1 with q1
    injection q1 with q1
    subst q1 q2 q3
    have hvl:vs.length=els.length * k:=h3.1
    have hroom:n * k+off+ti.size≤els.length * k:=by
     calc n * k+off+ti.size≤n * k+k:=by omega
      _=(n+1) * k:=by rw [Nat.succ_mul]
      _≤els.length * k:=Nat.mul_le_mul_right _ hnl
    have hcap:els.length * k≤c * k:=Nat.mul_le_mul_right _ hnc
    have hrun:=ZdP (P:=P) (off:=n * k+off) ht hh hr' hcell hl (by omega)
    have hF:∀ b' o',x.F b' o'→b'≠b:=fun b' o' hFF e=>by
     subst e
     exact (h5 b' (by rw [hρ];rfl)).2 o' hFF
    let W':=x.W.setRow b (cur.toList.take (n * k+off)++(a.eval e').cells.toList++cur.toList.drop (n * k+off+(a.eval e').cells.toList.length)).toArray
    have k2:Step x ⟨x.G,x.F,W',x.ρ⟩:=⟨fun _ h=>⟨h,rfl⟩,fun _ _ h=>h,fun b' o' v' hFF hv'=>(ZbN x.W b _ (hF b' o' hFF)).trans hv'⟩
    have hsz:W'.heap.size=x.W.heap.size:=by simp [W',World.setRow]
    refine Zfx (W':=W') ?_ ⟨⟨x.G,x.F,W',x.ρ⟩,rfl,?_⟩
    ·unfold execOp
     rw [ho]
     simp [hv,hrun,W']
    ·refine hX.change k2 hd rfl rfl rfl (by rw [hsz];exact Nat.le_refl _) (fun b' hb' hne=>setRow_other x.W b b' _ (fun e=>hne g _ hob2 (by rw [hρ,e];rfl))) (fun _ _ h=>.inl h) (fun b' o' hb'=>by show b'<W'.heap.size;rw [hsz];exact hX.flt b' o' hb')
      (fun g' hg'=>(hX.gens g' hg').imp id fun ⟨e1,e2⟩=>⟨e1,.inl e2⟩) hg ?_ (fun b' hb'=>.inr ⟨g,_,hob2,hb'⟩) (.un _)
     have hlen2:(Zaa el off (ev s e').cells).length=k:=by rw [ZcG _ _ _ (by omega),hk1]
     have hwl:∀ e2 ∈ els.set n (Zaa el off (ev s e').cells),e2.length=k:=fun e2 he2=>by
      rcases List.mem_or_eq_of_mem_set he2 with h | h
      ·exact h1 e2 h
      ·rw [h,hlen2]
     have hcl:(a.eval e').cells.toList.length=ti.size:=by rw [Array.length_toList];omega
     refine ⟨hwl,fun e2 he2 p hp=>?_,vs.take (n * k+off)++(a.eval e').cells.toList++vs.drop (n * k+off+(a.eval e').cells.toList.length),?_,fun m' p v' hpp hvv=>?_,fun b' hb'=>⟨(h5 b' hb').1,fun o' hFF=>(h5 b' hb').2 o' hFF⟩⟩
     ·rcases List.mem_or_eq_of_mem_set he2 with h | h
      ·exact h2 e2 h p hp
      ·subst h
       unfold Zaa at hp
       rcases List.mem_append.1 hp with hp | hp
       ·rcases List.mem_append.1 hp with hp | hp
        ·exact h2 el (List.mem_of_getElem? hel) p (List.mem_of_mem_take hp)
        ·exact List.all_eq_true.1 hcell p hp
       ·exact h2 el (List.mem_of_getElem? hel) p (List.mem_of_mem_drop hp)
     ·refine ⟨?_,.inr ⟨b,c,_,by show x.ρ g=_;rw [hρ,List.length_set],hB2,setRow_heap x.W b cur _ E (0,0) hh,by rw [List.length_set];exact hnc,hcm2,?_,?_⟩⟩
      ·simp;omega
      ·simp;omega
      ·rw [List.length_set,← htake]
       exact Zf8 cur.toList (a.eval e').cells.toList (n * k+off) (els.length * k) (by rw [hcl];omega) (by have e:cur.toList.length=cur.size:=(by simp);omega)
     ·have hpp':(els.flatten.take (n * k+off)++(ev s e').cells++els.flatten.drop (n * k+off+(ev s e').cells.length))[m']? = some p:=by
       rw [← Zh6 els h1 n el off (ev s e').cells hel (by rw [hl];exact hfit)]
       exact hpp
      rcases written (by rw [ZW els h1,hvl]) (by rw [hl,hcl]) (by rw [ZW els h1,hl];exact hroom) hpp' hvv with ⟨e1,e2⟩ | ⟨j,e1,e2⟩
      ·exact (h4 m' p v' e1 e2).step k2
      ·exact (h9 j p v' e1 (by simpa using e2)).step k2
theorem ZiI {S:Nat→Prop} {a:Act} {x:Ctx} (hX:RstX r S s a x) {T E:TypeId} {ty:TypeId} {ti te:TI} (ht:tyI P T=some ti) (hE:ti.desc = .slice E) (hte:tyI P E=some te) (hk0:0<te.size) (hz:te.zero.length=te.size)
  {v0:Value} {n:Nat} {xs:List Value} (hown:x.W.ownsRow 0 E te.size v0 n xs) {p:PV} {v:Value} {new:List (List PV)} (hnew:Zna s.ob p=some new) (hr:Rep x p v) (hk:∀ e ∈ new,e.length=te.size)
  (h63:n+new.length≤9223372036854775807) (hbytes:(n+new.length) * te.bytes≤140737488355328) :
  ∃ v' W' ys,(Builtin.append_ #[T,T] ty #[v0,v]).run P x.W = .ok v' W'∧W'.ownsRow 0 E te.size v' (n+new.length) (xs++ys)∧x.W.grownBy W' v0.ownBlock∧(v'.ownBlock=v0.ownBlock∨(v'.ownBlock=some x.W.heap.size∧x.W.grownBy W' none))∧
   ys.length=new.length * te.size∧∀ (m:Nat) (q:PV) (w:Value),new.flatten[m]? = some q→ys[m]? = some w→Rep x q w:=by
 obtain ⟨inf,z,h1,_⟩:=Zt ht
 rw [hE] at h1
 obtain ⟨inf',z',h1',h2',h3',h4',h5',h6'⟩:=Zt hte
 obtain ⟨A,c,k,rfl,hc,hm,hkk,hpure,b,off,hcell⟩:=Zi5 hX hnew hr
 have hbase:0≤x.W.heap.size:=Nat.zero_le _
 rcases Nat.eq_zero_or_pos new.length with h0 | h0
 ·have hn0:new = []:=List.eq_nil_of_length_eq_zero h0
  subst hn0
  cases A with
  | none=>
    refine ⟨v0,x.W,[],Zeq x.W 0 T ty E inf' te.size h1 h2' v0 n xs hown c,by simpa using hown,World.grownBy.refl _ _,.inl rfl,by simp,fun m q w hq=>by simp at hq⟩
  | some ad=>
    obtain ⟨v',W',hrun,g1,g2,g3⟩:=ZgD (P:=P) x.W 0 T ty E inf' z' te.size te.bytes h1 h2' h3' h4' h5' (by rw [← hz,h6'];simp) hk0 v0 n xs hown ad 0 c [] (by simp) (fun j u hu=>by simp at hu) (fun u hu=>by simp at hu) (by unfold maxLen;simp at h63;omega) (by simpa using hbytes) hbase
    exact ⟨v',W',[],by simpa using hrun,by simpa using g1,g2,g3,by simp,fun m q w hq=>by simp at hq⟩
 ·obtain ⟨hA,hcell2⟩:=hcell h0
  subst hA
  have hks:k=te.size:=by
   obtain ⟨e,he⟩:=List.exists_mem_of_length_pos h0
   rw [← hkk e he];exact hk e he
  subst hks
  have hlen:new.flatten.length=new.length * te.size:=ZW new hkk
  have hat:∀ m,m<new.flatten.length→∃ q w,new.flatten[m]? = some q∧x.W.cell? ⟨b,off+m,none⟩=some w∧Rep x q w∧q.cell=true:=fun m hml=>by
   rw [hlen] at hml
   have hi:m / te.size<new.length:=Nat.div_lt_of_lt_mul (by rw [Nat.mul_comm];exact hml)
   have hj:m % te.size<te.size:=Nat.mod_lt _ hk0
   have hem:m / te.size * te.size+m % te.size=m:=by rw [Nat.mul_comm];exact Nat.div_add_mod m te.size
   have he:new[m / te.size]? = some new[m / te.size]:=List.getElem?_eq_getElem hi
   have hel:(new[m / te.size]).length=te.size:=hkk _ (List.getElem_mem hi)
   have hq:(new[m / te.size])[m % te.size]? = some ((new[m / te.size])[m % te.size]'(by omega)):=List.getElem?_eq_getElem (by omega)
   obtain ⟨w,hw1,hw2⟩:=hcell2 _ _ _ _ he hq
   refine ⟨_,w,?_,?_,hw2,hpure _ (List.getElem_mem hi) _ (List.getElem_mem _)⟩
   ·rw [← ZdT new hkk _ _ _ _ he hq,hem]
   ·rw [← hw1,Nat.add_assoc,hem]
  let ys:List Value:=(List.range new.flatten.length).map fun m=>(x.W.cell? ⟨b,off+m,none⟩).getD undef
  have hyl:ys.length=new.flatten.length:=by simp [ys]
  have hyg:∀ m w,ys[m]? = some w→m<new.flatten.length∧x.W.cell? ⟨b,off+m,none⟩=some w:=fun m w hw=>by
   have hml:m<new.flatten.length:=by rw [← hyl];exact (List.getElem?_eq_some_iff.1 hw).1
   obtain ⟨q,w',_,hw',_⟩:=hat m hml
   refine ⟨hml,?_⟩
   simp only [ys,List.getElem?_map,List.getElem?_range hml,Option.map_some,Option.some.injEq] at hw
   rw [hw'] at hw ⊢
   rw [← hw];rfl
  obtain ⟨v',W',hrun,g1,g2,g3⟩:=ZgD (P:=P) x.W 0 T ty E inf' z' te.size te.bytes h1 h2' h3' h4' h5' (by rw [← hz,h6'];simp) hk0 v0 n xs hown ⟨b,off,none⟩ new.length c ys (by rw [hyl,hlen])
   (fun j u hu=>by rw [ZaQ];exact (hyg j u hu).2) (fun u hu=>by
    obtain ⟨m,hm'⟩:=List.getElem?_of_mem hu
    obtain ⟨hml,hw⟩:=hyg m u hm'
    obtain ⟨q,w',_,hw',hq,hp⟩:=hat m hml
    rw [hw'] at hw
    injection hw with hw
    subst hw
    exact hq.one hp) (by unfold maxLen;omega) hbytes hbase
  refine ⟨v',W',ys,hrun,g1,g2,g3,by rw [hyl,hlen],fun m q w hq hw=>?_⟩
  obtain ⟨hml,hw1⟩:=hyg m w hw
  obtain ⟨q',w',hq',hw',hq2,_⟩:=hat m hml
  rw [hq'] at hq
  injection hq with hq
  rw [hw'] at hw1
  injection hw1 with hw1
  subst hq hw1
  exact hq2
theorem ZnC {T:TypeId} {e e':Operand} {E a1 a2 t k:Nat} {a3:List PV} {te:TI} {g:Gen} {els new:List (List PV)} (ho:o.op = .call { callee:=.builtin .append,args:=#[e,e'],argTypes:=#[T,T] }) (ht:tyI P T=some ⟨.slice E,a1,a2,a3⟩) (hte:tyI P E=some te)
  (he:ev s e = .row t g) (hob:ZG s.ob t g=some (.prow E k els)) (hnew:Zna s.ob (ev s e')=some new) (hks:k=te.size) (hc1:(els.length+new.length) * te.bytes≤140737488355328) (hc2:els.length+new.length≤9223372036854775807) (hc3:0<te.size) (hc4:te.zero.length=te.size)
  (hk:∀ el ∈ new,el.length=te.size):OpOK P r o i s ⟨.row t (s.ng,i),[(t,some ((s.ng,i),.prow E k (els++new)))]⟩:=by
 intro S a x Q hX hi hd
 subst hks
 have hr:=ZE hX e
 have hr':=ZE hX e'
 have run:∀ (v':Value) (W':World),(Builtin.append_ #[T,T] o.type #[a.eval e,a.eval e']).run P x.W = .ok v' W'→(execOp a.eval o).run P x.W = .ok (.value v') W':=fun v' W' hrun=>by
  unfold execOp
  rw [ho]
  simp [resolve,invoke,builtin,hrun]
 have hob':=ZD hob
 obtain ⟨hg,hO⟩:=hX.ob t g _ hob'
 obtain ⟨h1,h2,vs,h3,h4,h5⟩:=hO
 rw [he] at hr
 generalize hv:a.eval e=v at hr run
 cases hr with
 | row _ _ A n c hG hvv=>
   rw [hvv] at h3
   obtain ⟨v',W',ys,hrun,g1,g2,g3,g4,g5⟩:=ZiI hX (ty:=o.type) ht rfl hte hc3 hc4 h3 hnew hr' hk hc2 hc1
   obtain ⟨A',c',hv',hbk⟩:=ZbC g1
   obtain ⟨A0,c0,hv0,hbk0⟩:=ZbC h3
   have hold:∀ b,b<x.W.heap.size→(∀ g o,s.ob t=some (g,o)→blk (x.ρ g)≠some b)→W'.heap[b]? = x.W.heap[b]?:=fun b hb hne=>g2.block b hb (fun e1=>hne g _ hob' (by rw [hvv,← hbk0];exact e1.symm))
   have hxs:vs.length=els.length * te.size:=h3.1
   have hcells:∀ b o v,x.F b o→x.W.cell? ⟨b,o,none⟩=some v→W'.cell? ⟨b,o,none⟩=some v:=fun b o w hF hw=>
    (World.cell?_of_block (g2.block b (hX.flt b o hF) (fun e1=>(h5 b (by rw [hvv,← hbk0];exact e1.symm)).2 o hF))).trans hw
   refine ZC (run v' W' hrun) ?_
   refine hX.newObj hi hd g2.os g2.tape g2.output g2.size hold hcells (v0:=v') (fun b hb=>?_)
    (fun y k hF hW hρ=>⟨?_,?_,vs++ys,by rw [hW,hρ,List.length_append];exact g1,fun m q w hq hw=>?_,fun b hb=>⟨?_,fun o ho=>?_⟩⟩) (fun y k hW hG hρ=>?_)
   ·rw [← hbk] at hb
    rcases g3 with e1 | ⟨e1,_⟩
    ·rw [e1,hbk0] at hb
     exact .inr ⟨g,_,hob',by rw [hvv];exact hb⟩
    ·rw [e1] at hb
     injection hb with hb
     exact .inl (Nat.le_of_eq hb)
   ·intro el hel
    rcases List.mem_append.1 hel with hel | hel
    ·exact h1 el hel
    ·exact hk el hel
   ·intro el hel
    obtain ⟨_,_,_,_,_,_,_,hp,_⟩:=Zi5 hX hnew hr'
    rcases List.mem_append.1 hel with hel | hel
    ·exact h2 el hel
    ·exact hp el hel
   ·rw [List.flatten_append] at hq
    have hfl:els.flatten.length=vs.length:=by rw [hxs,ZW els h1]
    rw [List.getElem?_append] at hq hw
    rw [hfl] at hq
    split at hq
    ·rename_i hm
     rw [if_pos hm] at hw
     exact (h4 m q w hq hw).step k
    ·rename_i hm
     rw [if_neg hm] at hw
     exact (g5 _ q w hq hw).step k
   ·rw [hρ,← hbk] at hb
    rcases g3 with e1 | ⟨e1,_⟩
    ·rw [e1,hbk0] at hb
     exact (h5 b (by rw [hvv];exact hb)).1
    ·rw [e1] at hb
     injection hb with hb
     rw [← hb]
     exact .inl hX.gr.size
   ·rw [hF] at ho
    rw [hρ,← hbk] at hb
    rcases g3 with e1 | ⟨e1,_⟩
    ·rw [e1,hbk0] at hb
     exact (h5 b (by rw [hvv];exact hb)).2 o ho
    ·rw [e1] at hb
     injection hb with hb
     have:=hX.flt b o ho
     change b<x.W.heap.size at this
     omega
   ·subst hv'
    rw [← List.length_append] at hρ ⊢
    exact .row _ _ _ _ _ hG hρ
end
end VL
end Go.Proofs.YtjblgpmagampbaaGreatDoor
namespace Go.Proofs.YtjblgpmagampbaaGreatDoor
namespace VL
open Go.RowKit
section
variable {P:Program} {r:Run} {o:Oper} {i:Nat} {s:FS}
theorem ZpQ {T:TypeId} {e w:Operand} {E a1 a2 t k n:Nat} {a3:List PV} {te:TI} {g:Gen} {els:List (List PV)} (ho:o.op = .slice T e none (some w) none) (ht:tyI P T=some ⟨.slice E,a1,a2,a3⟩) (hte:tyI P E=some te)
  (he:ev s e = .row t g) (hob:ZG s.ob t g=some (.prow E k els)) (hn:toNat? (ev s w)=some n) (hnl:n≤els.length):OpOK P r o i s ⟨.row t (s.ng,i),[(t,some ((s.ng,i),.prow E k (els.take n)))]⟩:=by
 intro S a x Q hX hi hd
 obtain ⟨inf,z,h1,_⟩:=Zt ht
 obtain ⟨inf',z',h1',h2',_,h4',_,_⟩:=Zt hte
 have hr:=ZE hX e
 obtain ⟨kd,hw⟩:=Za3 hn (ZE hX w)
 have hob':=ZD hob
 obtain ⟨hg,hO⟩:=hX.ob t g _ hob'
 obtain ⟨q1,q2,vs,h3,q4,q5⟩:=hO
 rw [he] at hr
 generalize hv:a.eval e=v at hr
 cases hr with
 | row _ _ A m c hG hvv=>
   rw [hvv] at h3
   have hmc:m=els.length∧els.length≤c∧(A=none∧c=0∧els.length=0∨∃ b,A=some ⟨b,0,none⟩):=by
    rcases h3.2 with ⟨hn0,hl⟩ | ⟨b,cap,cur,hv2,_,_,hc,_⟩
    ·injection hn0 with e1 e2 e3
     exact ⟨by omega,by omega,.inl ⟨e1,by omega,hl⟩⟩
    ·injection hv2 with e1 e2 e3
     subst e3
     exact ⟨e2,hc,.inr ⟨b,e1⟩⟩
   obtain ⟨rfl,hlc,hA⟩:=hmc
   have hb:(Instr.sliceBounds true els.length c none (some (a.eval w)) none).run P x.W = .ok (0,n,c) x.W:=by
    have hhc:(0:Int)≤n∧(n:Int)≤c:=by omega
    have hhc2:n≤c:=by omega
    simp [Instr.sliceBounds,Instr.sliceBound,asIntOf,hw,hhc2]
   have hsame:(if c=0 then A else A.map (·.add (0 * te.size)))=A:=by
    rcases hA with ⟨rfl,rfl,_⟩ | ⟨b,rfl⟩
    ·rfl
    ·split
     ·rfl
     ·simp only [Option.map_some,ZaQ,Nat.zero_mul,Nat.add_zero]
   refine ZC (v:=.slice A n c) (W':=x.W) ?_ ?_
   ·unfold execOp
    rw [ho]
    have hb':=hb
    simp [hv,Instr.sliceAt,Instr.slice,run_underlying h1,hb',sizeOf,typeInfo,h2',h4']
    have:=hsame
    simp at this
    exact this
   ·refine hX.newObj hi hd rfl rfl rfl (Nat.le_refl _) (fun b hb _=>rfl) (fun b o v hF hv=>hv) (v0:=.slice A n c) (fun b hb=>.inr ⟨g,_,hob',?_⟩) (fun y st hF hW hρ=>⟨fun el hel=>q1 el (List.mem_of_mem_take hel),fun el hel=>q2 el (List.mem_of_mem_take hel),vs.take (n * k),?_,fun m' q u hq hu=>?_,fun b hb=>⟨?_,fun o ho=>?_⟩⟩) (fun y st hW hG hρ=>.row _ _ _ _ _ hG hρ)
    ·rw [hvv]
     rcases hA with ⟨rfl,rfl,_⟩ | ⟨b',rfl⟩
     ·simp [blk] at hb
     ·exact hb
    ·rw [hρ,hW]
     have hlt:(els.take n).length=n:=by rw [List.length_take];omega
     rw [hlt]
     have hvl:vs.length=els.length * k:=h3.1
     have hnk:n * k≤els.length * k:=Nat.mul_le_mul_right _ hnl
     refine ⟨by rw [List.length_take];omega,?_⟩
     rcases h3.2 with ⟨hn0,hl⟩ | ⟨b,cap,cur,hv2,hB,hh,hc,hm,hs,htk⟩
     ·injection hn0 with e1 e2 e3
      exact .inl ⟨by rw [e1,e3,show n=0 by omega],by omega⟩
     ·injection hv2 with e1 e2 e3
      subst e1 e3
      refine .inr ⟨b,c,cur,rfl,hB,hh,by omega,hm,hs,?_⟩
      rw [← htk,List.take_take,Nat.min_eq_left hnk]
    ·have hlf:(els.take n).flatten=els.flatten.take (n * k):=by
      have h6:els.flatten=(els.take n).flatten++(els.drop n).flatten:=by rw [← List.flatten_append,List.take_append_drop]
      have h7:(els.take n).flatten.length=n * k:=by
       rw [ZW (k:=k) _ (fun el hel=>q1 el (List.mem_of_mem_take hel)),List.length_take]
       have:min n els.length=n:=by omega
       rw [this]
      rw [h6,← h7,List.take_left']
      rfl
     rw [hlf,List.getElem?_take] at hq
     rw [List.getElem?_take] at hu
     split at hq
     ·rename_i hm'
      rw [if_pos hm'] at hu
      exact (q4 m' q u hq hu).step st
     ·cases hq
    ·rw [hρ] at hb
     refine (q5 b ?_).1
     rw [hvv]
     rcases hA with ⟨rfl,rfl,_⟩ | ⟨b',rfl⟩
     ·simp [blk] at hb
     ·exact hb
    ·rw [hρ] at hb
     rw [hF] at ho
     refine (q5 b ?_).2 o ho
     rw [hvv]
     rcases hA with ⟨rfl,rfl,_⟩ | ⟨b',rfl⟩
     ·simp [blk] at hb
     ·exact hb
theorem Zq4 {S:Nat→Prop} {a:Act} {x:Ctx} (hX:RstX r S s a x) (hi:¬ S i) {d:Nat} (hd:d<r.N) {E k n:Nat} {els:List (List PV)} {vs:Array Value} (hn:els.length=n) (hk:∀ e ∈ els,e.length=k) (hp:∀ e ∈ els,∀ p ∈ e,p.cell=true)
  (hm:n≤9223372036854775807) (hr:Zp0 x els.flatten vs) :
  ∃ y:Ctx,y.W=x.W.alloc (.cells vs E)∧RstX r (fun j=>S j∨j=i) (s.app (some d) ⟨.row d (s.ng,i),[(d,some ((s.ng,i),.prow E k els))]⟩) (a.put (some d) (.slice (some ⟨x.W.heap.size,0,none⟩) n n)) y:=by
 have hold:∀ b,b<x.W.heap.size→(x.W.alloc (.cells vs E)).heap[b]? = x.W.heap[b]?:=fun b hb=>heap_alloc_old x.W _ hb
 have hl:vs.size=n * k:=by rw [← hr.1,ZW els hk,hn]
 refine hX.newObj hi (fun k hk=>by cases hk;exact hd) rfl rfl rfl (by simp) (fun b hb _=>hold b hb) (fun b o v hF hv=>?_) (v0:=.slice (some ⟨x.W.heap.size,0,none⟩) n n) (fun b hb=>.inl ?_) (fun y st hF hW hρ=>?_) (fun y st hW hG hρ=>?_)
 ·rw [World.cell?_of_block (hold b (hX.flt b o hF))];exact hv
 ·have:x.W.heap.size=b:=by simpa [blk] using hb
  omega
 ·refine ⟨hk,hp,vs.toList,?_,fun m p v hpp hv=>((hr.2 m p v hpp (by simpa using hv)).step st),fun b hb=>⟨.inl ?_,fun o ho=>?_⟩⟩
  ·rw [hρ,hW,hn]
   exact ⟨by simp [hl],.inr ⟨x.W.heap.size,n,vs,rfl,Nat.zero_le _,heap_alloc_new x.W _,Nat.le_refl _,by unfold maxLen;omega,hl,by rw [List.take_of_length_le (by simp [hl])]⟩⟩
  ·rw [hρ] at hb
   have e:x.W.heap.size=b:=by simpa [blk] using hb
   rw [← e]
   exact hX.gr.size
  ·rw [hρ] at hb
   rw [hF] at ho
   have e:x.W.heap.size=b:=by simpa [blk] using hb
   have:=hX.flt b o ho
   omega
 ·exact .row d (s.ng,i) _ _ _ hG hρ
theorem ZpR {T:TypeId} {n d:Nat} {parts:Array (Nat×Operand)} {E a1 a2:Nat} {a3 cs:List PV} {te:TI} (ho:o.op = .buildSlice T n parts) (hdst:o.dst=some d) (ht:tyI P T=some ⟨.slice E,a1,a2,a3⟩) (hte:tyI P E=some te)
  (hf:ZdZ (fun i=>some (i * te.size,te.size)) (List.replicate n te.zero).flatten (parts.toList.map fun q=>(q.1,ev s q.2))=some cs) (hcell:cs.all PV.cell=true) (hc1:cs.length=n * te.size) (hc2:n * te.size≤16777216) (hc3:0<te.size) :
  OpOK P r o i s ⟨.row d (s.ng,i),[(d,some ((s.ng,i),.prow E te.size (chunks te.size n cs)))]⟩:=by
 intro S a x Q hX hi hd
 obtain ⟨inf,zv,h1,_⟩:=Zt ht
 obtain ⟨inf',z',h1',h2',h3',h4',_,h6'⟩:=Zt hte
 have hcl:=Zis _ hf
 have hzl:te.zero.length=z'.cells.size:=by rw [h6'];simp
 have hrl:(List.replicate n te.zero).flatten.length=n * z'.cells.size:=by
  rw [ZW (k:=te.zero.length) _ (fun e he=>by rw [List.eq_of_mem_replicate he]),List.length_replicate,hzl]
 let z0:Array Value:=(Array.range (n * te.size)).map fun j=>(if n * te.size=0 then #[] else z'.cells)[j % (if n * te.size=0 then #[] else z'.cells).size]!
 have hz0:Zp0 x (List.replicate n te.zero).flatten z0:=by
  refine ⟨by rw [hrl];simp only [z0,Array.size_map,Array.size_range];omega,fun j p v hp hv=>?_⟩
  have hjl:j<n * z'.cells.size:=by rw [← hrl];exact (List.getElem?_eq_some_iff.1 hp).1
  have hzs:0<z'.cells.size:=by
   rcases Nat.eq_zero_or_pos z'.cells.size with h0 | h0
   ·rw [h0] at hjl;omega
   ·exact h0
  have hi':j / z'.cells.size<n:=Nat.div_lt_of_lt_mul (by rw [Nat.mul_comm];exact hjl)
  have hj':j % z'.cells.size<z'.cells.size:=Nat.mod_lt _ hzs
  have hem:j / z'.cells.size * z'.cells.size+j % z'.cells.size=j:=by rw [Nat.mul_comm];exact Nat.div_add_mod j _
  have he:(List.replicate n te.zero)[j / z'.cells.size]? = some te.zero:=by rw [List.getElem?_replicate,if_pos hi']
  have hq:te.zero[j % z'.cells.size]? = some (Zbf z'.cells[j % z'.cells.size]):=by rw [h6'];simp [hj']
  have:=ZdT (k:=z'.cells.size) (List.replicate n te.zero) (fun e he=>by rw [List.eq_of_mem_replicate he,hzl]) _ _ _ _ he hq
  rw [hem,hp] at this
  injection this with this
  subst this
  have hnz:n * te.size≠0:=by omega
  have hjt:j<n * te.size:=by rw [← hc1,hcl,hrl];exact hjl
  simp only [z0,if_neg hnz] at hv
  rw [Array.getElem?_map,Array.getElem?_range,if_pos hjt] at hv
  simp only [Option.map_some,Option.some.injEq] at hv
  rw [getElem!_pos z'.cells (j % z'.cells.size) hj'] at hv
  subst hv
  exact ZbQ x _
 obtain ⟨ws,h7,h8⟩:=Zem (place':=fun i=>some (i * te.size,te.size)) (fun e=>ZE hX e) (fun _ _ h=>h) parts.toList hz0 hf
 obtain ⟨c1,c2,c3⟩:=Zf6 te.size n cs hc1
 obtain ⟨y,hy1,hy2⟩:=Zq4 hX hi (hd d hdst) (E:=E) (n:=n) c3 c2 (fun e he p hp=>List.all_eq_true.1 hcell p (by rw [← c1];exact List.mem_flatten.2 ⟨e,he,hp⟩)) (by have:=Nat.le_mul_of_pos_right n hc3;omega) (vs:=ws) (by rw [c1];exact h8)
 rw [hdst]
 refine ZC (v:=.slice (some ⟨x.W.heap.size,0,none⟩) n n) (W':=x.W.alloc (.cells ws E)) ?_ ⟨y,hy1,?_⟩
 ·unfold execOp
  rw [ho]
  have hle:¬ (16777216<n * te.size):=by omega
  simp [Instr.buildSlice,run_underlying h1,sizeOf,typeInfo,h2',h4',hle]
  by_cases hz:n * te.size=0
  ·have ez:z0=Array.map (fun _=>default) (Array.range (n * te.size)):=by simp [z0,hz]
   rw [if_pos hz,← ez,h7]
   simp [newRow,newObj]
   rfl
  ·have ez:z0=Array.map (fun j=>z'.cells[j % z'.cells.size]!) (Array.range (n * te.size)):=by simp [z0,hz]
   rw [if_neg hz]
   simp only [zeroValue,typeInfo,Sem.run_bind,h2',h3',Sem.run_pure,Result.andThen_ok,run_program]
   rw [← ez,h7]
   simp [newRow,newObj]
   rfl
 ·rw [hdst]
  exact hy2
end
theorem Zcf {tm:List (Nat×PV)} {ob:List (Nat×Option (Gen×VObj))} {ng t E k:Nat} {g:Gen} {els:List (List PV)} (h:Zg ob t=some (g,.row E k false els)):Shift (mkS tm ob ng) (mkS tm ((t,some (g,.prow E k els))::ob) ng):=fun r a x hX=>by
 have hob:∀ t' g' o',(mkS tm ((t,some (g,.prow E k els))::ob) ng).ob t'=some (g',o')→(t'=t∧g'=g∧o' = .prow E k els)∨(mkS tm ob ng).ob t'=some (g',o'):=fun t' g' o' ho=>by
  change (if t'=t then some (g,VObj.prow E k els) else Zg ob t')=some (g',o') at ho
  split at ho
  ·rename_i e
   injection ho with ho
   injection ho with e1 e2
   exact .inl ⟨e,e1.symm,e2.symm⟩
  ·exact .inr ho
 have hsame:∀ t' g' o',(mkS tm ((t,some (g,.prow E k els))::ob) ng).ob t'=some (g',o')→∃ o2,(mkS tm ob ng).ob t'=some (g',o2):=fun t' g' o' ho=>by
  rcases hob t' g' o' ho with ⟨rfl,rfl,rfl⟩ | ho
  ·exact ⟨_,h⟩
  ·exact ⟨_,ho⟩
 refine ⟨x,rfl,hX.defers,hX.size,hX.gr,hX.gens,hX.tm,fun t' g' o' ho=>?_,fun t1 t2 g1 g2 o1 o2 b hne h1 h2 hb=>?_,hX.flt,hX.f0,hX.fnew,hX.rho,hX.inv,hX.keep⟩
 ·rcases hob t' g' o' ho with ⟨rfl,rfl,rfl⟩ | ho
  ·obtain ⟨hg,q1,q2,vs,q3,q4,q5⟩:=hX.ob t' g' _ h
   exact ⟨hg,q1,fun e he p hp=>PV.cell_of_pure (q2 e he p hp),vs,q3,q4,fun b hb=>⟨(q5 b hb).1,fun o hF=>by have:=((q5 b hb).2 o hF).1;cases this⟩⟩
  ·exact hX.ob t' g' o' ho
 ·obtain ⟨o1',h1'⟩:=hsame t1 g1 o1 h1
  obtain ⟨o2',h2'⟩:=hsame t2 g2 o2 h2
  exact hX.apart t1 t2 g1 g2 o1' o2' b hne h1' h2' hb
end VL
end Go.Proofs.YtjblgpmagampbaaGreatDoor
namespace Go.Proofs.YtjblgpmagampbaaGreatDoor
namespace VL
open Go.RowKit
def rn1 (σ:Gen→Option (Nat×Gen)):PV→Option PV
 | .ptr _ g o=>(σ g).map fun q=>.ptr q.1 q.2 o
 | .elp _ g i k o=>(σ g).map fun q=>.elp q.1 q.2 i k o
 | .row _ g=>(σ g).map fun q=>.row q.1 q.2
 | .suf _ g i k=>(σ g).map fun q=>.suf q.1 q.2 i k
 | .mp _ g=>(σ g).map fun q=>.mp q.1 q.2
 | .agg _=>none
 | .tup _=>none
 | .fn _ _=>none
 | p=>some p
def rnL (σ:Gen→Option (Nat×Gen)):List PV→Option (List PV)
 | []=>some []
 | p::ps=>match rn1 σ p,rnL σ ps with
   | some q,some qs=>some (q::qs)
   | _,_=>none
def rnP (σ:Gen→Option (Nat×Gen)):PV→Option PV
 | .agg ps=>(rnL σ ps).map .agg
 | .tup ps=>(rnL σ ps).map .tup
 | p=>rn1 σ p
def ZeY (σ:Gen→Option (Nat×Gen)):List (List PV)→Option (List (List PV))
 | []=>some []
 | e::es=>match rnL σ e,ZeY σ es with
   | some q,some qs=>some (q::qs)
   | _,_=>none
def rnO (σ:Gen→Option (Nat×Gen)):VObj→Option VObj
 | .box cs=>(rnL σ cs).map .box
 | .row E k sh els=>some (.row E k sh els)
 | .prow E k els=>(ZeY σ els).map (.prow E k)
 | .mp ents=>some (.mp ents)
 | .qrow E k els=>some (.qrow E k els)
section
variable {σ:Gen→Option (Nat×Gen)} {x y:Ctx}
theorem ZbM:∀ {ps qs:List PV},rnL σ ps=some qs→ps.length=qs.length∧(∀ (i:Nat) (p:PV),ps[i]? = some p→∃ q,qs[i]? = some q∧rn1 σ p=some q)∧∀ (i:Nat) (q:PV),qs[i]? = some q→∃ p,ps[i]? = some p∧rn1 σ p=some q
 | [],qs,h=>by
   injection h with h
   subst h
   exact ⟨rfl,fun i p hp=>by simp at hp,fun i p hp=>by simp at hp⟩
 | p::ps,qs,h=>by
   simp only [rnL] at h
   split at h
   ·rename_i q qs' h1 h2
    injection h with h
    subst h
    obtain ⟨h3,h4,h5⟩:=ZbM h2
    refine ⟨by simp [h3],fun i p' hp=>?_,fun i p' hp=>?_⟩
    ·cases i with
     | zero=>
       simp only [List.getElem?_cons_zero,Option.some.injEq] at hp
       subst hp
       exact ⟨q,rfl,h1⟩
     | succ i=>
       simp only [List.getElem?_cons_succ] at hp ⊢
       exact h4 i p' hp
    ·cases i with
     | zero=>
       simp only [List.getElem?_cons_zero,Option.some.injEq] at hp
       subst hp
       exact ⟨p,rfl,h1⟩
     | succ i=>
       simp only [List.getElem?_cons_succ] at hp ⊢
       exact h5 i p' hp
   ·cases h
theorem ZjX:∀ {a b qa qb:List PV},rnL σ a=some qa→rnL σ b=some qb→rnL σ (a++b)=some (qa++qb)
 | [],b,qa,qb,h,h'=>by injection h with h;subst h;exact h'
 | p::ps,b,qa,qb,h,h'=>by
   simp only [rnL] at h
   split at h
   ·rename_i q qs h1 h2
    injection h with h
    subst h
    simp only [List.cons_append,rnL,h1,ZjX h2 h']
   ·cases h
theorem ZiT:∀ {es qs:List (List PV)},ZeY σ es=some qs→es.length=qs.length∧rnL σ es.flatten=some qs.flatten∧(∀ (i:Nat) (e:List PV),es[i]? = some e→∃ q,qs[i]? = some q∧rnL σ e=some q)∧∀ (i:Nat) (q:List PV),qs[i]? = some q→∃ e,es[i]? = some e∧rnL σ e=some q
 | [],qs,h=>by
   injection h with h
   subst h
   exact ⟨rfl,rfl,fun i p hp=>by simp at hp,fun i p hp=>by simp at hp⟩
 | e::es,qs,h=>by
   simp only [ZeY] at h
   split at h
   ·rename_i q qs' h1 h2
    injection h with h
    subst h
    obtain ⟨h3,h4,h5,h6⟩:=ZiT h2
    refine ⟨by simp [h3],?_,fun i p' hp=>?_,fun i p' hp=>?_⟩
    ·rw [List.flatten_cons,List.flatten_cons]
     exact ZjX h1 h4
    ·cases i with
     | zero=>
       simp only [List.getElem?_cons_zero,Option.some.injEq] at hp
       subst hp
       exact ⟨q,rfl,h1⟩
     | succ i=>
       simp only [List.getElem?_cons_succ] at hp ⊢
       exact h5 i p' hp
    ·cases i with
     | zero=>
       simp only [List.getElem?_cons_zero,Option.some.injEq] at hp
       subst hp
       exact ⟨e,rfl,h1⟩
     | succ i=>
       simp only [List.getElem?_cons_succ] at hp ⊢
       exact h6 i p' hp
   ·cases h
structure Bk (σ:Gen→Option (Nat×Gen)) (x y:Ctx):Prop where
 G:∀ g k g',σ g=some (k,g')→x.G g'→y.G g∧y.ρ g=x.ρ g'
 F:∀ b o,x.F b o→y.F b o
 W:∀ b o v,x.F b o→x.W.cell? ⟨b,o,none⟩=some v→y.W.cell? ⟨b,o,none⟩=some v
structure Fw (σ:Gen→Option (Nat×Gen)) (x y:Ctx):Prop where
 G:∀ g k g',σ g=some (k,g')→x.G g→y.G g'∧y.ρ g'=x.ρ g
 F:∀ b o,x.F b o→y.F b o
 W:∀ b o v,x.F b o→x.W.cell? ⟨b,o,none⟩=some v→y.W.cell? ⟨b,o,none⟩=some v
theorem Zlt {p q:PV} {v:Value} (k:Bk σ x y) (h:rn1 σ p=some q) (hr:Rep x q v):Rep y p v:=by
 cases p with
 | ptr t g o=>
   simp only [rn1,Option.map_eq_some_iff] at h
   obtain ⟨⟨t',g'⟩,h1,rfl⟩:=h
   cases hr with
   | ptr _ _ _ b hG hb=>
     obtain ⟨a1,a2⟩:=k.G g t' g' h1 hG
     exact .ptr _ _ _ b a1 (by rw [a2];exact hb)
 | elp t g i kk o=>
   simp only [rn1,Option.map_eq_some_iff] at h
   obtain ⟨⟨t',g'⟩,h1,rfl⟩:=h
   cases hr with
   | elp _ _ _ _ _ b hG hb=>
     obtain ⟨a1,a2⟩:=k.G g t' g' h1 hG
     exact .elp _ _ _ _ _ b a1 (by rw [a2];exact hb)
 | row t g=>
   simp only [rn1,Option.map_eq_some_iff] at h
   obtain ⟨⟨t',g'⟩,h1,rfl⟩:=h
   cases hr with
   | row _ _ A n c hG hv=>
     obtain ⟨a1,a2⟩:=k.G g t' g' h1 hG
     exact .row _ _ A n c a1 (a2.trans hv)
 | suf t g i kk=>
   simp only [rn1,Option.map_eq_some_iff] at h
   obtain ⟨⟨t',g'⟩,h1,rfl⟩:=h
   cases hr with
   | suf _ _ _ _ A A' n c c' hG hv h3 h4 h5=>
     obtain ⟨a1,a2⟩:=k.G g t' g' h1 hG
     exact .suf _ _ _ _ A A' n c c' a1 (a2.trans hv) h3 h4 h5
 | mp t g=>
   simp only [rn1,Option.map_eq_some_iff] at h
   obtain ⟨⟨t',g'⟩,h1,rfl⟩:=h
   cases hr with
   | mp _ _ b hG hv=>
     obtain ⟨a1,a2⟩:=k.G g t' g' h1 hG
     exact .mp _ _ b a1 (a2.trans hv)
 | agg ps=>cases h
 | tup ps=>cases h
 | fn f ps=>cases h
 | un=>exact .un _
 | nil=>injection h with h;subst h;cases hr;exact .nil
 | cel cs=>
   injection h with h
   subst h
   cases hr with
   | cel _ b off f hcell hh=>exact .cel cs b off f (fun j p hp=>⟨(hcell j p hp).1,k.F _ _ (hcell j p hp).2.1,k.W _ _ _ (hcell j p hp).2.1 (hcell j p hp).2.2⟩) fun j p hp=>(hh j p hp).pure_mono (hcell j p hp).1 k.F k.W
 | bool b=>injection h with h;subst h;exact hr.pure_mono rfl k.F k.W
 | int kd n=>injection h with h;subst h;exact hr.pure_mono rfl k.F k.W
 | str s=>injection h with h;subst h;exact hr.pure_mono rfl k.F k.W
 | sl els=>injection h with h;subst h;exact hr.pure_mono rfl k.F k.W
theorem Zlu {p q:PV} {v:Value} (k:Fw σ x y) (h:rn1 σ p=some q) (hr:Rep x p v):Rep y q v:=by
 cases p with
 | ptr t g o=>
   simp only [rn1,Option.map_eq_some_iff] at h
   obtain ⟨⟨t',g'⟩,h1,rfl⟩:=h
   cases hr with
   | ptr _ _ _ b hG hb=>
     obtain ⟨a1,a2⟩:=k.G g t' g' h1 hG
     exact .ptr _ _ _ b a1 (by rw [a2];exact hb)
 | elp t g i kk o=>
   simp only [rn1,Option.map_eq_some_iff] at h
   obtain ⟨⟨t',g'⟩,h1,rfl⟩:=h
   cases hr with
   | elp _ _ _ _ _ b hG hb=>
     obtain ⟨a1,a2⟩:=k.G g t' g' h1 hG
     exact .elp _ _ _ _ _ b a1 (by rw [a2];exact hb)
 | row t g=>
   simp only [rn1,Option.map_eq_some_iff] at h
   obtain ⟨⟨t',g'⟩,h1,rfl⟩:=h
   cases hr with
   | row _ _ A n c hG hv=>
     obtain ⟨a1,a2⟩:=k.G g t' g' h1 hG
     exact .row _ _ A n c a1 (a2.trans hv)
 | suf t g i kk=>
   simp only [rn1,Option.map_eq_some_iff] at h
   obtain ⟨⟨t',g'⟩,h1,rfl⟩:=h
   cases hr with
   | suf _ _ _ _ A A' n c c' hG hv h3 h4 h5=>
     obtain ⟨a1,a2⟩:=k.G g t' g' h1 hG
     exact .suf _ _ _ _ A A' n c c' a1 (a2.trans hv) h3 h4 h5
 | mp t g=>
   simp only [rn1,Option.map_eq_some_iff] at h
   obtain ⟨⟨t',g'⟩,h1,rfl⟩:=h
   cases hr with
   | mp _ _ b hG hv=>
     obtain ⟨a1,a2⟩:=k.G g t' g' h1 hG
     exact .mp _ _ b a1 (a2.trans hv)
 | agg ps=>cases h
 | tup ps=>cases h
 | fn f ps=>cases h
 | un=>injection h with h;subst h;exact .un _
 | nil=>injection h with h;subst h;cases hr;exact .nil
 | cel cs=>
   injection h with h
   subst h
   cases hr with
   | cel _ b off f hcell hh=>exact .cel cs b off f (fun j p hp=>⟨(hcell j p hp).1,k.F _ _ (hcell j p hp).2.1,k.W _ _ _ (hcell j p hp).2.1 (hcell j p hp).2.2⟩) fun j p hp=>(hh j p hp).pure_mono (hcell j p hp).1 k.F k.W
 | bool b=>injection h with h;subst h;exact hr.pure_mono rfl k.F k.W
 | int kd n=>injection h with h;subst h;exact hr.pure_mono rfl k.F k.W
 | str s=>injection h with h;subst h;exact hr.pure_mono rfl k.F k.W
 | sl els=>injection h with h;subst h;exact hr.pure_mono rfl k.F k.W
theorem Zif {p q:PV} (h:rn1 σ p=some q):p.cell=q.cell:=by
 cases p with
 | ptr t g o=>simp only [rn1,Option.map_eq_some_iff] at h;obtain ⟨_,_,rfl⟩:=h;rfl
 | elp t g i k o=>simp only [rn1,Option.map_eq_some_iff] at h;obtain ⟨_,_,rfl⟩:=h;rfl
 | row t g=>simp only [rn1,Option.map_eq_some_iff] at h;obtain ⟨_,_,rfl⟩:=h;rfl
 | suf t g i k=>simp only [rn1,Option.map_eq_some_iff] at h;obtain ⟨_,_,rfl⟩:=h;rfl
 | mp t g=>simp only [rn1,Option.map_eq_some_iff] at h;obtain ⟨_,_,rfl⟩:=h;rfl
 | agg ps=>cases h
 | tup ps=>cases h
 | fn f ps=>cases h
 | _=>injection h with h;subst h;rfl
theorem Zrn {p q:PV} {v:Value} (k:Bk σ x y) (h:rnP σ p=some q) (hr:Rep x q v):Rep y p v:=by
 cases p with
 | agg ps=>
   simp only [rnP,Option.map_eq_some_iff] at h
   obtain ⟨qs,h1,rfl⟩:=h
   obtain ⟨h2,h3,_⟩:=ZbM h1
   cases hr with
   | agg _ cs hl hh=>
     refine .agg ps cs (h2.trans hl) fun i p v hp hv=>?_
     obtain ⟨q,hq,hpq⟩:=h3 i p hp
     exact Zlt k hpq (hh i q v hq hv)
 | tup ps=>
   simp only [rnP,Option.map_eq_some_iff] at h
   obtain ⟨qs,h1,rfl⟩:=h
   obtain ⟨h2,h3,_⟩:=ZbM h1
   cases hr with
   | tup _ cs hl hh=>
     refine .tup ps cs (h2.trans hl) fun i p v hp hv=>?_
     obtain ⟨q,hq,hpq⟩:=h3 i p hp
     exact Zlt k hpq (hh i q v hq hv)
 | _=>exact Zlt k h hr
theorem Ztb {p q:PV} {v:Value} (k:Fw σ x y) (h:rnP σ p=some q) (hr:Rep x p v):Rep y q v:=by
 cases p with
 | agg ps=>
   simp only [rnP,Option.map_eq_some_iff] at h
   obtain ⟨qs,h1,rfl⟩:=h
   obtain ⟨h2,_,h3⟩:=ZbM h1
   cases hr with
   | agg _ cs hl hh=>
     refine .agg qs cs (h2.symm.trans hl) fun i q v hq hv=>?_
     obtain ⟨p,hp,hpq⟩:=h3 i q hq
     exact Zlu k hpq (hh i p v hp hv)
 | tup ps=>
   simp only [rnP,Option.map_eq_some_iff] at h
   obtain ⟨qs,h1,rfl⟩:=h
   obtain ⟨h2,_,h3⟩:=ZbM h1
   cases hr with
   | tup _ cs hl hh=>
     refine .tup qs cs (h2.symm.trans hl) fun i q v hq hv=>?_
     obtain ⟨p,hp,hpq⟩:=h3 i q hq
     exact Zlu k hpq (hh i p v hp hv)
 | _=>exact Zlu k (by exact h) hr
theorem Zro {B B':Nat} {D D':Nat→Prop} {g g':Gen} {o o':VObj} (k:Bk σ x y) (h:rnO σ o=some o') (hρ:y.ρ g=x.ρ g') (hF:∀ b o,y.F b o→x.F b o) (hW:y.W=x.W) (hD:∀ b,blk (x.ρ g')=some b→B'≤b∨D' b) (hr:ObRep x B D g' o'):ObRep y B' D' g o:=by
 cases o with
 | box cs=>
   simp only [rnO,Option.map_eq_some_iff] at h
   obtain ⟨qs,h1,rfl⟩:=h
   obtain ⟨l1,l2,l3⟩:=ZbM h1
   obtain ⟨b,T,vs,q1,q2,q3,q4,q5,q6,q7⟩:=hr
   refine ⟨b,T,vs,hρ.trans q1,by rw [hW];exact q2,l1.trans q3,fun p hp=>?_,fun j p v hp hv=>?_,hD b (by rw [q1];rfl),fun o ho=>q7 o (hF b o ho)⟩
   ·obtain ⟨i,hi⟩:=List.getElem?_of_mem hp
    obtain ⟨q,hq,hpq⟩:=l2 i p hi
    rw [Zif hpq]
    exact q4 q (List.mem_of_getElem? hq)
   ·obtain ⟨q,hq,hpq⟩:=l2 j p hp
    exact Zlt k hpq (q5 j q v hq hv)
 | row E kk sh els=>
   injection h with h
   subst h
   obtain ⟨q1,q2,vs,q3,q4,q5⟩:=hr
   refine ⟨q1,q2,vs,by rw [hρ,hW];exact q3,fun m p v hp hv=>?_,fun b hb=>?_⟩
   ·obtain ⟨e,he,hpe⟩:=List.mem_flatten.1 (List.mem_of_getElem? hp)
    exact (q4 m p v hp hv).pure_mono (q2 e he p hpe) k.F k.W
   ·rw [hρ] at hb
    exact ⟨hD b hb,fun o ho=>(q5 b hb).2 o (hF b o ho)⟩
 | prow E kk els=>
   simp only [rnO,Option.map_eq_some_iff] at h
   obtain ⟨qs,h1,rfl⟩:=h
   obtain ⟨l1,l2,l3,l4⟩:=ZiT h1
   obtain ⟨q1,q2,vs,q3,q4,q5⟩:=hr
   refine ⟨fun e he=>?_,fun e he p hp=>?_,vs,by rw [hρ,hW,l1];exact q3,fun m p v hp hv=>?_,fun b hb=>?_⟩
   ·obtain ⟨i,hi⟩:=List.getElem?_of_mem he
    obtain ⟨q,hq,hpq⟩:=l3 i e hi
    rw [(ZbM hpq).1]
    exact q1 q (List.mem_of_getElem? hq)
   ·obtain ⟨i,hi⟩:=List.getElem?_of_mem he
    obtain ⟨q,hq,hpq⟩:=l3 i e hi
    obtain ⟨j,hj⟩:=List.getElem?_of_mem hp
    obtain ⟨r,hr1,hr2⟩:=(ZbM hpq).2.1 j p hj
    rw [Zif hr2]
    exact q2 q (List.mem_of_getElem? hq) r (List.mem_of_getElem? hr1)
   ·obtain ⟨r,hr1,hr2⟩:=(ZbM l2).2.1 m p hp
    exact Zlt k hr2 (q4 m r v hr1 hv)
   ·rw [hρ] at hb
    exact ⟨hD b hb,fun o ho=>(q5 b hb).2 o (hF b o ho)⟩
 | mp ents=>
   injection h with h
   subst h
   obtain ⟨b,es,clock,q1,q2,q3,q4,q5,q6⟩:=hr
   exact ⟨b,es,clock,hρ.trans q1,by rw [hW];exact q2,q3,q4,hD b (by rw [q1];rfl),fun o ho=>q6 o (hF b o ho)⟩
 | qrow E kk els=>
   injection h with h
   subst h
   obtain ⟨q1,q2,b,off,cap,cur,q3,q4,q5,q6,q7,q8,q9,q10⟩:=hr
   refine ⟨q1,q2,b,off,cap,cur,hρ.trans q3,by rw [hW];exact q4,q5,q6,q7,fun i j e p he hp=>?_,hD b (by rw [q3];rfl),fun hc o ho=>q10 hc o (hF b o ho)⟩
   obtain ⟨f1,v,f2,f3⟩:=q8 i j e p he hp
   exact ⟨k.F _ _ f1,v,k.W _ _ _ f1 f2,f3.pure_mono (q2 e (List.mem_of_getElem? he) p (List.mem_of_getElem? hp)) k.F k.W⟩
theorem Ztc {B B':Nat} {D D':Nat→Prop} {g g':Gen} {o o':VObj} (k:Fw σ x y) (h:rnO σ o=some o') (hρ:y.ρ g'=x.ρ g) (hF:∀ b o,y.F b o→x.F b o) (hW:y.W=x.W) (hD:∀ b,blk (x.ρ g)=some b→B'≤b∨D' b) (hr:ObRep x B D g o):ObRep y B' D' g' o':=by
 cases o with
 | box cs=>
   simp only [rnO,Option.map_eq_some_iff] at h
   obtain ⟨qs,h1,rfl⟩:=h
   obtain ⟨l1,l2,l3⟩:=ZbM h1
   obtain ⟨b,T,vs,q1,q2,q3,q4,q5,q6,q7⟩:=hr
   refine ⟨b,T,vs,hρ.trans q1,by rw [hW];exact q2,l1.symm.trans q3,fun q hq=>?_,fun j q v hq hv=>?_,hD b (by rw [q1];rfl),fun o ho=>q7 o (hF b o ho)⟩
   ·obtain ⟨i,hi⟩:=List.getElem?_of_mem hq
    obtain ⟨p,hp,hpq⟩:=l3 i q hi
    rw [← Zif hpq]
    exact q4 p (List.mem_of_getElem? hp)
   ·obtain ⟨p,hp,hpq⟩:=l3 j q hq
    exact Zlu k hpq (q5 j p v hp hv)
 | row E kk sh els=>
   injection h with h
   subst h
   obtain ⟨q1,q2,vs,q3,q4,q5⟩:=hr
   refine ⟨q1,q2,vs,by rw [hρ,hW];exact q3,fun m p v hp hv=>?_,fun b hb=>?_⟩
   ·obtain ⟨e,he,hpe⟩:=List.mem_flatten.1 (List.mem_of_getElem? hp)
    exact (q4 m p v hp hv).pure_mono (q2 e he p hpe) k.F k.W
   ·rw [hρ] at hb
    exact ⟨hD b hb,fun o ho=>(q5 b hb).2 o (hF b o ho)⟩
 | prow E kk els=>
   simp only [rnO,Option.map_eq_some_iff] at h
   obtain ⟨qs,h1,rfl⟩:=h
   obtain ⟨l1,l2,l3,l4⟩:=ZiT h1
   obtain ⟨q1,q2,vs,q3,q4,q5⟩:=hr
   refine ⟨fun e he=>?_,fun e he p hp=>?_,vs,by rw [hρ,hW,← l1];exact q3,fun m q v hq hv=>?_,fun b hb=>?_⟩
   ·obtain ⟨i,hi⟩:=List.getElem?_of_mem he
    obtain ⟨q,hq,hpq⟩:=l4 i e hi
    rw [← (ZbM hpq).1]
    exact q1 q (List.mem_of_getElem? hq)
   ·obtain ⟨i,hi⟩:=List.getElem?_of_mem he
    obtain ⟨q,hq,hpq⟩:=l4 i e hi
    obtain ⟨j,hj⟩:=List.getElem?_of_mem hp
    obtain ⟨r,hr1,hr2⟩:=(ZbM hpq).2.2 j p hj
    rw [← Zif hr2]
    exact q2 q (List.mem_of_getElem? hq) r (List.mem_of_getElem? hr1)
   ·obtain ⟨r,hr1,hr2⟩:=(ZbM l2).2.2 m q hq
    exact Zlu k hr2 (q4 m r v hr1 hv)
   ·rw [hρ] at hb
    exact ⟨hD b hb,fun o ho=>(q5 b hb).2 o (hF b o ho)⟩
 | mp ents=>
   injection h with h
   subst h
   obtain ⟨b,es,clock,q1,q2,q3,q4,q5,q6⟩:=hr
   exact ⟨b,es,clock,hρ.trans q1,by rw [hW];exact q2,q3,q4,hD b (by rw [q1];rfl),fun o ho=>q6 o (hF b o ho)⟩
 | qrow E kk els=>
   injection h with h
   subst h
   obtain ⟨q1,q2,b,off,cap,cur,q3,q4,q5,q6,q7,q8,q9,q10⟩:=hr
   refine ⟨q1,q2,b,off,cap,cur,hρ.trans q3,by rw [hW];exact q4,q5,q6,q7,fun i j e p he hp=>?_,hD b (by rw [q3];rfl),fun hc o ho=>q10 hc o (hF b o ho)⟩
   obtain ⟨f1,v,f2,f3⟩:=q8 i j e p he hp
   exact ⟨k.F _ _ f1,v,k.W _ _ _ f1 f2,f3.pure_mono (q2 e (List.mem_of_getElem? he) p (List.mem_of_getElem? hp)) k.F k.W⟩
end
end VL
end Go.Proofs.YtjblgpmagampbaaGreatDoor
namespace Go.Proofs.YtjblgpmagampbaaGreatDoor
namespace VL
open Go.RowKit
def Zj0:List PV→Option (List Value)
 | []=>some []
 | p::ps=>match plain p,Zj0 ps with
   | some v,some vs=>some (v::vs)
   | _,_=>none
theorem Zhm {x:Ctx}:∀ (ps:List PV) {vs:List Value} (_:Zj0 ps=some vs) (ws:List Value) (_:ps.length=ws.length) (_:∀ (i:Nat) (p:PV) (v:Value),ps[i]? = some p→ws[i]? = some v→Rep x p v),ws=vs
 | [],vs,h,ws,hl,_=>by
   simp only [Zj0,Option.some.injEq] at h
   subst h
   exact List.eq_nil_of_length_eq_zero hl.symm
 | p::ps,vs,h,[],hl,_=>by simp at hl
 | p::ps,vs,h,w::ws,hl,hr=>by
   simp only [Zj0] at h
   split at h
   ·rename_i v vs' h1 h2
    injection h with h
    subst h
    rw [Ze9 h1 (hr 0 p w rfl rfl),Zhm ps h2 ws (by simpa using hl) fun i p v hp hv=>hr (i+1) p v (by simpa using hp) (by simpa using hv)]
   ·cases h
theorem Gr.ofBelow {w w':World} (h:Below w.heap.size w w'):Gr (fun _=>False) w w':=⟨h.os,h.tape,h.output,h.size,fun b hb _=>h.block b hb⟩
theorem PV.clean_of_dry {p:PV} (h:p.dry2=true):p.clean=true:=by
 have d1:∀ {p:PV},p.dry1=true→p.pure=true:=fun {p} h=>by cases p<;>simp_all [PV.dry1,PV.pure]
 cases p with
 | agg ps=>exact List.all_eq_true.2 fun q hq=>d1 (List.all_eq_true.1 h q hq)
 | bool b=>rfl
 | int k n=>rfl
 | str s=>rfl
 | _=>simp [PV.dry2,PV.dry1] at h
theorem PV.result_of_dry {p:PV} (h:p.dry=true):p.result=true:=by
 cases p with
 | tup ps=>exact List.all_eq_true.2 fun q hq=>PV.clean_of_dry (List.all_eq_true.1 h q hq)
 | agg ps=>exact PV.clean_of_dry (p:=.agg ps) h
 | bool b=>rfl
 | int k n=>rfl
 | str s=>rfl
 | _=>simp [PV.dry,PV.dry2,PV.dry1] at h
section
variable {P:Program} [WInv P]
theorem Zek {f:FuncId} {args:List PV} {res:PV} {v:Value} (hg:isGo P f=true) (hr:res.dry=true) (hv:∀ x:Ctx,Rep x res v)
  (h:∀ (x:Ctx) (vs:Array Value),Pre x args none vs→WInv.I P x.W→Calls P f vs x.W fun e w'=>e = .returned v∧Below x.W.heap.size x.W w'):Contract P f args none res []:=by
 refine ⟨hg,PV.result_of_dry hr,rfl,fun x vs hpre hI=>?_⟩
 refine (h x vs hpre (hI x.W (Gr.refl _ _))).mono ?_
 rintro _ w' ⟨rfl,hb⟩
 have hF:∀ b o v,x.F b o→x.W.cell? ⟨b,o,none⟩=some v→w'.cell? ⟨b,o,none⟩=some v:=fun b o v hF hv=>(World.cell?_of_block (hb.block b (hpre.flt b o hF))).trans hv
 have st:Step x { x with W:=w' }:=⟨fun _ h=>⟨h,rfl⟩,fun _ _ h=>h,hF⟩
 refine ⟨{ x with W:=w' },v,rfl,rfl,st,?_,fun _ _ h=>.inl h,fun b o h=>Nat.lt_of_lt_of_le (hpre.flt b o h) hb.size,hv _,fun j os h=>by cases h⟩
 exact ⟨hb.os,hb.tape,hb.output,hb.size,fun b hlt _=>hb.block b hlt⟩
theorem Zan {f:FuncId} {args:List PV} {vals:List Value} {res:PV} {v:Value} (hg:isGo P f=true) (hp:Zj0 args=some vals) (hr:res.dry=true) (hv:∀ x:Ctx,Rep x res v)
  (h:∀ w,WInv.I P w→Calls P f vals.toArray w fun e w'=>e = .returned v∧Below w.heap.size w w'):Contract P f args none res []:=
 Zek hg hr hv fun x vs hpre hI=>by
  have e:vs.toList=vals:=Zhm args hp vs.toList (by simpa using hpre.size) fun i p v hp hv=>hpre.rep i p v hp (by simpa using hv)
  obtain rfl:vs=vals.toArray:=by rw [← e]
  exact h x.W hI
theorem Zmv {x:Ctx} (hflt:∀ b o,x.F b o→b<x.W.heap.size) {L:List ByteArray} {v:Value} (h:Rep x (.sl (L.map fun s=>[.str s])) v):∃ A n c,v = .slice A n c∧SlR x.W A n c L:=by
 generalize hels:(L.map fun s=>[PV.str s])=els at h
 cases h with
 | sl _ A n c k b off f hn hc hm hk hA hcell hh=>
   subst hels
   refine ⟨A,n,c,rfl,by simpa using hn,hc,hm,fun h0=>?_⟩
   have hL:0<L.length:=by rw [hn,List.length_map] at h0;exact h0
   have at_:∀ i s,L[i]? = some s→x.F b (off+i * k+0)∧x.W.cell? ⟨b,off+i * k+0,none⟩=some (.string s):=fun i s hi=>by
    have h1:(L.map fun s=>[PV.str s])[i]? = some [.str s]:=by rw [List.getElem?_map,hi];rfl
    obtain ⟨_,h2,h3⟩:=hcell i 0 _ _ h1 rfl
    have h4:=hh i 0 _ _ h1 rfl
    refine ⟨h2,?_⟩
    rw [h3]
    generalize f i 0=u at h4
    cases h4
    rfl
   have hk1:k=1:=by
    obtain ⟨s,hs⟩:∃ s,L[0]? = some s:=⟨_,List.getElem?_eq_getElem hL⟩
    exact (hk [.str s] (List.mem_map.2 ⟨s,List.mem_of_getElem? hs,rfl⟩)).symm
   subst hk1
   obtain ⟨s0,hs0⟩:∃ s,L[0]? = some s:=⟨_,List.getElem?_eq_getElem hL⟩
   refine ⟨b,off,fun i=>match L[i]? with | some s=>[.string s] | none=>[],hA h0,trivial,hflt _ _ (at_ 0 s0 hs0).1,fun i s hi=>?_⟩
   simp only [hi]
   refine ⟨rfl,fun j v hj=>?_⟩
   cases j with
   | zero=>simp at hj;subst hj;exact (at_ i s hi).2
   | succ j=>simp at hj
def Zr9 (w:World):Ctx:=⟨fun _=>False,fun b _=>b<w.heap.size,w,fun _=>undef⟩
theorem Zhn {f:FuncId} {args:List PV} {res:PV} (hc:Contract P f args none res []) {w:World} {vs:Array Value} (hl:args.length=vs.size) (hr:∀ (i:Nat) (p:PV) (v:Value),args[i]? = some p→vs[i]? = some v→Rep (Zr9 w) p v)
  (hI:∀ w',Below w.heap.size w w'→WInv.I P w'):Calls P f vs w fun e w'=>∃ y v,y.W=w'∧e = .returned v∧Rep y res v∧Below w.heap.size w w':=by
 refine (hc.calls (Zr9 w) vs (show Pre (Zr9 w) args none vs from ⟨hl,hr,fun j os h=>(by cases h),fun g (h:False)=>h.elim,fun b o h=>h⟩) fun w' h=>hI w' ⟨h.os,h.tape,h.output,h.size,fun b hb=>h.block b hb fun ⟨j,os,e,_⟩=>by cases e⟩).mono ?_
 rintro e w' ⟨y,v,rfl,rfl,hp⟩
 exact ⟨y,v,rfl,rfl,hp.rep,hp.gr.os,hp.gr.tape,hp.gr.output,hp.gr.size,fun b hb=>hp.gr.block b hb fun ⟨j,os,e,_⟩=>by cases e⟩
theorem ZnR {f:FuncId} {args:List PV} {b:Bool} (hc:Contract P f args none (.bool b) []) {w:World} {vs:Array Value} (hl:args.length=vs.size) (hr:∀ (i:Nat) (p:PV) (v:Value),args[i]? = some p→vs[i]? = some v→Rep (Zr9 w) p v)
  (hI:∀ w',Below w.heap.size w w'→WInv.I P w'):Calls P f vs w fun e w'=>e = .returned (.bool b)∧Below w.heap.size w w':=by
 refine (Zhn hc hl hr hI).mono ?_
 rintro e w' ⟨y,v,rfl,rfl,h,hb⟩
 cases h
 exact ⟨rfl,hb⟩
end
class EncPV (α:Type) [Enc α] where
 cs:α→List PV
 rep:∀ (w:World) (x:α) (vs:List Value),Enc.R (fun _=>True) w x vs→(cs x).length=Enc.k α∧∀ (j:Nat) (p:PV) (v:Value),(cs x)[j]? = some p→vs[j]? = some v→p.pure=true∧Rep (Zr9 w) p v
theorem ZgN {α:Type} [Enc α] [EncPV α] {w:World} {A:Option Addr} {n c:Nat} {xs:List α} (h:SlR w A n c xs):Rep (Zr9 w) (.sl (xs.map EncPV.cs)) (.slice A n c):=by
 obtain ⟨h1,h2,h3,h4⟩:=h
 rcases Nat.eq_zero_or_pos n with h0 | h0
 ·have:xs = []:=List.eq_nil_of_length_eq_zero (by omega)
  subst this
  subst h0
  exact .sl [] A 0 c 0 0 0 (fun _ _=>undef) rfl h2 h3 (by simp) (by omega) (fun i j e p he=>by simp at he) (fun i j e p he=>by simp at he)
 ·obtain ⟨b,off,css,hA,_,hlt,hx⟩:=h4 h0
  have key:∀ (i j:Nat) (e:List PV) (p:PV),(xs.map EncPV.cs)[i]? = some e→e[j]? = some p→∃ v,w.cell? ⟨b,off+i * Enc.k α+j,none⟩=some v∧p.pure=true∧Rep (Zr9 w) p v:=fun i j e p he hp=>by
   rw [List.getElem?_map,Option.map_eq_some_iff] at he
   obtain ⟨x,hxi,rfl⟩:=he
   obtain ⟨hr,hc⟩:=hx i x hxi
   obtain ⟨hl,hrep⟩:=EncPV.rep w x (css i) hr
   have hj:j<(css i).length:=by rw [Enc.len hr,← hl];exact (List.getElem?_eq_some_iff.1 hp).1
   exact ⟨_,hc j _ (List.getElem?_eq_getElem hj),hrep j p _ hp (List.getElem?_eq_getElem hj)⟩
  refine .sl _ A n c (Enc.k α) b off (fun i j=>(w.cell? ⟨b,off+i * Enc.k α+j,none⟩).getD undef) (by simpa using h1) h2 h3 (fun e he=>?_) (fun _=>hA) (fun i j e p he hp=>?_) (fun i j e p he hp=>?_)
  ·obtain ⟨x,hxm,rfl⟩:=List.mem_map.1 he
   obtain ⟨i,hi⟩:=List.getElem?_of_mem hxm
   exact (EncPV.rep w x (css i) (hx i x hi).1).1
  ·obtain ⟨v,hv,hp1,_⟩:=key i j e p he hp
   refine ⟨hp1,hlt,?_⟩
   show w.cell? _=_
   rw [hv];rfl
  ·obtain ⟨v,hv,_,hr⟩:=key i j e p he hp
   rw [hv]
   exact hr
instance:EncPV Int:=⟨fun x=>[.int .i64 x],fun w x vs h=>⟨rfl,fun j p v hp hv=>by
 cases h
 cases j with
 | zero=>simp at hp hv;subst hp hv;exact ⟨rfl,.int .i64 x⟩
 | succ j=>simp at hp⟩⟩
instance:EncPV ByteArray:=⟨fun x=>[.str x],fun w x vs h=>⟨rfl,fun j p v hp hv=>by
 cases h
 cases j with
 | zero=>simp at hp hv;subst hp hv;exact ⟨rfl,.str x⟩
 | succ j=>simp at hp⟩⟩
end VL
end Go.Proofs.YtjblgpmagampbaaGreatDoor

namespace Go.Proofs.YtjblgpmagampbaaGreatDoor
namespace VL
open Go.RowKit
theorem Zex (ob:List (Nat×Option (Gen×VObj))) (u:Nat) (o:Option (Gen×VObj)):Zba (Zg ob) u o=Zg ((u,o)::ob):=by
 have:=ZcM [(u,o)] ob
 simpa [flips] using this
theorem ZnS {s:FS} {t:Nat} {q:PV} {us:List (Nat×Option (Gen×VObj))} (h:Zjn s.ob (s.tm t)=some (q,us)):Shift s ⟨fun x=>if x=t then q else s.tm x,flips s.ob us,s.ng⟩:=fun r a x hX=>by
 obtain ⟨F',st,hX',hr,_,_⟩:=Zdw (Flip.refl _) hX h (hX.tm t)
 refine ⟨{ x with F:=F' },rfl,hX'.defers,hX'.size,hX'.gr,hX'.gens,fun t'=>?_,hX'.ob,hX'.apart,hX'.flt,hX'.f0,hX'.fnew,hX'.rho,hX'.inv,hX'.keep⟩
 show Rep _ (if t'=t then q else s.tm t') _
 split
 ·rename_i e
  rw [e]
  exact hr
 ·exact hX'.tm t'
theorem ZnT {s:FS} {u:Nat} {g:Gen} {cs qs:List PV} {us:List (Nat×Option (Gen×VObj))} (h0:s.ob u=some (g,.box cs)) (h:Zdy s.ob cs=some (qs,us)):Shift s ⟨s.tm,Zba (flips s.ob us) u (some (g,.box qs)),s.ng⟩:=fun r a x hX=>by
 obtain ⟨_,b,T,vs,e1,e2,e3,e4,e5,e6,e7⟩:=hX.ob u g _ h0
 obtain ⟨F',st,hX',hR,hl,hf⟩:=Zcd cs (Flip.refl _) hX (g:=fun j=>vs.getD j undef) h fun j p hj=>by
  have hlt:j<vs.size:=by rw [← e3];exact (List.getElem?_eq_some_iff.1 hj).1
  have:vs[j]? = some (vs.getD j undef):=by simp [Array.getD,hlt]
  exact e5 j p _ hj this
 have hu:(flips s.ob us) u=some (g,.box cs):=by
  rcases hf u with e | ⟨g2,E2,k2,sh2,els2,e,_⟩
  ·rw [e,h0]
  ·rw [h0] at e;cases e
 refine ⟨{ x with F:=F' },rfl,hX'.defers,hX'.size,hX'.gr,hX'.gens,hX'.tm,fun t' g' o' ho=>?_,fun t1 t2 g1 g2 o1 o2 bb hne k1 k2 hb=>?_,hX'.flt,hX'.f0,hX'.fnew,hX'.rho,hX'.inv,hX'.keep⟩
 ·change (if t'=u then some (g,VObj.box qs) else flips s.ob us t')=some (g',o') at ho
  split at ho
  ·injection ho with ho
   injection ho with j1 j2
   subst j1 j2
   obtain ⟨j0,b2,T2,vs2,j1,j2,j3,j4,j5,j6,j7⟩:=hX'.ob u g _ hu
   refine ⟨j0,b,T,vs,e1,e2,by rw [hl,e3],fun p hp=>?_,fun j p v hp hv=>?_,e6,fun o hF=>?_⟩
   ·obtain ⟨j,hj⟩:=List.getElem?_of_mem hp
    exact PV.cell_of_pure (hR j p hj).1
   ·have:=(hR j p hp).2
    rw [Array.getD_eq_getD_getElem?,hv] at this
    exact this
   ·have jb:b2=b:=by
     change x.ρ g=_ at j1
     rw [e1] at j1
     injection j1 with j1
     injection j1 with j1
     injection j1 with j1
     exact j1.symm
    subst jb
    exact j7 o hF
  ·exact hX'.ob t' g' o' ho
 ·change (if t1=u then some (g,VObj.box qs) else flips s.ob us t1)=some (g1,o1) at k1
  change (if t2=u then some (g,VObj.box qs) else flips s.ob us t2)=some (g2,o2) at k2
  have f1:∃ o1',(flips s.ob us) t1=some (g1,o1'):=by
   split at k1
   ·rename_i e;subst e;injection k1 with k1;injection k1 with e3 e4;subst e3;exact ⟨_,hu⟩
   ·exact ⟨_,k1⟩
  have f2:∃ o2',(flips s.ob us) t2=some (g2,o2'):=by
   split at k2
   ·rename_i e;subst e;injection k2 with k2;injection k2 with e3 e4;subst e3;exact ⟨_,hu⟩
   ·exact ⟨_,k2⟩
  obtain ⟨o1',f1⟩:=f1
  obtain ⟨o2',f2⟩:=f2
  exact hX'.apart t1 t2 g1 g2 o1' o2' bb hne f1 f2 hb
theorem ZnU {s:FS} {u w j:Nat} {g:Gen} {cs:List PV} {E k:Nat} (hne:w≠u) (h0:s.ob u=some (g,.box cs)) (h:cs[j]? = some .nil) :
  Shift s ⟨s.tm,Zba (Zba s.ob u (some (g,.box (cs.set j (.row w (s.ng,0)))))) w (some ((s.ng,0),.row E k false [])),s.ng+1⟩:=fun r a x hX=>by
 have hnew:¬ x.G (s.ng,0):=fun hg=>by
  rcases hX.gens _ hg with e | ⟨_,e⟩
  ·exact absurd e (Nat.lt_irrefl _)
  ·exact e.elim
 let y:Ctx:=⟨fun g=>x.G g∨g=(s.ng,0),x.F,x.W,fun g=>if g=(s.ng,0) then .slice none 0 0 else x.ρ g⟩
 have st:Step x y:=⟨fun g hg=>⟨.inl hg,if_neg (fun (e:g=(s.ng,0))=>hnew (by rw [← e];exact hg))⟩,fun _ _ h=>h,fun _ _ _ _ h=>h⟩
 have hρ:y.ρ (s.ng,0) = .slice none 0 0:=if_pos rfl
 obtain ⟨hgu,hO⟩:=hX.ob u g _ h0
 have hO2:ObRep y r.W0.heap.size r.D g (.box cs):=hO.step hgu st fun b _=>⟨rfl,fun _ h=>h⟩
 have old:∀ t' g' o',(if t'=w then some ((s.ng,0),VObj.row E k false []) else if t'=u then some (g,VObj.box (cs.set j (.row w (s.ng,0)))) else s.ob t')=some (g',o')→(t'=w∧g'=(s.ng,0)∧o' = .row E k false [])∨(t'=u∧g'=g∧o' = .box (cs.set j (.row w (s.ng,0))))∨s.ob t'=some (g',o'):=fun t' g' o' ho=>by
  split at ho
  ·rename_i e
   injection ho with ho
   injection ho with e1 e2
   exact .inl ⟨e,e1.symm,e2.symm⟩
  ·split at ho
   ·rename_i e
    injection ho with ho
    injection ho with e1 e2
    exact .inr (.inl ⟨e,e1.symm,e2.symm⟩)
   ·exact .inr (.inr ho)
 refine ⟨y,rfl,hX.defers,hX.size,hX.gr,fun g hg=>.inl ?_,fun t'=>(hX.tm t').step st,fun t' g' o' ho=>?_,fun t1 t2 g1 g2 o1 o2 b hne' k1 k2 hb=>?_,hX.flt,hX.f0,hX.fnew,fun g hg=>⟨(st.G g (hX.rho g hg).1).1,(st.G g (hX.rho g hg).1).2.trans (hX.rho g hg).2⟩,hX.inv,hX.keep⟩
 ·rcases hg with hg | rfl
  ·rcases hX.gens g hg with e | ⟨_,e⟩
   ·show g.1<s.ng+1;omega
   ·exact e.elim
  ·exact Nat.lt_succ_self _
 ·rcases old t' g' o' ho with ⟨rfl,rfl,rfl⟩ | ⟨rfl,rfl,rfl⟩ | ho
  ·exact ⟨.inr rfl,by simp,by simp,[],by rw [hρ];exact World.ownsRow_nil _ _ _ _,fun m p v hp=>by simp at hp,fun b hb=>by rw [hρ] at hb;simp [blk] at hb⟩
  ·obtain ⟨b,T,vs,e1,e2,e3,e4,e5,e6,e7⟩:=hO2
   refine ⟨.inl hgu,b,T,vs,e1,e2,by rw [List.length_set];exact e3,fun p hp=>?_,fun i p v hp hv=>?_,e6,e7⟩
   ·rcases List.mem_or_eq_of_mem_set hp with hp | rfl
    ·exact e4 p hp
    ·rfl
   ·by_cases hi:j=i
    ·subst hi
     have hr:=e5 j _ v h hv
     have hlt:j<cs.length:=(List.getElem?_eq_some_iff.1 h).1
     rw [List.getElem?_set_self hlt] at hp
     injection hp with hp
     subst hp
     cases hr
     exact .row w (s.ng,0) none 0 0 (.inr rfl) hρ
    ·rw [List.getElem?_set_ne hi] at hp
     exact e5 i p v hp hv
  ·obtain ⟨h3,h4⟩:=hX.ob t' g' o' ho
   exact ⟨.inl h3,h4.step h3 st fun b _=>⟨rfl,fun _ h=>h⟩⟩
 ·have noB:∀ b,blk (y.ρ (s.ng,0))≠some b:=fun b hb=>by rw [hρ] at hb;simp [blk] at hb
  have tr:∀ t' g' o',((t'=w∧g'=(s.ng,0)∧o' = .row E k false [])∨(t'=u∧g'=g∧o' = .box (cs.set j (.row w (s.ng,0))))∨s.ob t'=some (g',o'))→g'=(s.ng,0)∨∃ o2,s.ob t'=some (g',o2):=fun t' g' o' h=>by
   rcases h with ⟨_,e,_⟩ | ⟨e1,e2,_⟩ | h
   ·exact .inl e
   ·subst e1 e2;exact .inr ⟨_,h0⟩
   ·exact .inr ⟨_,h⟩
  rcases tr _ _ _ (old t1 g1 o1 k1) with rfl | ⟨p1,q1⟩
  ·exact absurd hb (noB b)
  ·rcases tr _ _ _ (old t2 g2 o2 k2) with rfl | ⟨p2,q2⟩
   ·exact noB b
   ·rw [(st.G g1 (hX.ob t1 g1 p1 q1).1).2] at hb
    rw [(st.G g2 (hX.ob t2 g2 p2 q2).1).2]
    exact hX.apart t1 t2 g1 g2 p1 p2 b hne' q1 q2 hb
section
variable {tm:List (Nat×PV)} {ob:List (Nat×Option (Gen×VObj))} {ng:Nat}
theorem Zsb (t:Nat) {p q:PV} {us:List (Nat×Option (Gen×VObj))} (h0:look tm t=p) (h:Zjn (Zg ob) p=some (q,us)):Shift (mkS tm ob ng) (mkS ((t,q)::tm) (us.reverse++ob) ng):=by
 have:=ZnS (s:=mkS tm ob ng) (t:=t) (q:=q) (us:=us) (by show Zjn (Zg ob) (look tm t)=_;rw [h0];exact h)
 have e:(⟨fun x=>if x=t then q else look tm x,flips (Zg ob) us,ng⟩:FS)=mkS ((t,q)::tm) (us.reverse++ob) ng:=by
  rw [ZcM]
  rfl
 rw [← e]
 exact this
theorem Zmx (u:Nat) {g:Gen} {cs qs:List PV} {us:List (Nat×Option (Gen×VObj))} (h0:Zg ob u=some (g,.box cs)) (h:Zdy (Zg ob) cs=some (qs,us)):Shift (mkS tm ob ng) (mkS tm ((u,some (g,.box qs))::(us.reverse++ob)) ng):=by
 have:=ZnT (s:=mkS tm ob ng) (u:=u) (g:=g) (cs:=cs) (qs:=qs) (us:=us) h0 h
 have e:(⟨look tm,Zba (flips (Zg ob) us) u (some (g,.box qs)),ng⟩:FS)=mkS tm ((u,some (g,.box qs))::(us.reverse++ob)) ng:=by
  rw [ZcM,Zex]
  rfl
 rw [← e]
 exact this
theorem Zb5 (u w j E k:Nat) {g:Gen} {cs:List PV} (hne:(w == u)=false) (h0:Zg ob u=some (g,.box cs)) (h:cs[j]? = some .nil):Shift (mkS tm ob ng) (mkS tm ((w,some ((ng,0),.row E k false []))::(u,some (g,.box (cs.set j (.row w (ng,0)))))::ob) (ng+1)):=by
 have:=ZnU (s:=mkS tm ob ng) (u:=u) (w:=w) (j:=j) (g:=g) (cs:=cs) (E:=E) (k:=k) (by simpa using hne) h0 h
 have e:(⟨look tm,Zba (Zba (Zg ob) u (some (g,.box (cs.set j (.row w (ng,0)))))) w (some ((ng,0),.row E k false [])),ng+1⟩:FS)=mkS tm ((w,some ((ng,0),.row E k false []))::(u,some (g,.box (cs.set j (.row w (ng,0)))))::ob) (ng+1):=by
  rw [Zex,Zex]
  rfl
 rw [← e]
 exact this
end
end VL
end Go.Proofs.YtjblgpmagampbaaGreatDoor
