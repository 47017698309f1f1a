/- A body does in the world what it does to the state; what is -/
import Derived.Test.YtpdaeclbndpabaaGreatDoorCM01
import Derived.Test.YtpdaeclbndpabaaGreatDoorRows
set_option linter.unusedSimpArgs false
namespace Go.Proofs.YtpdaeclbndpabaaGreatDoor
namespace VL
open Go.RowKit
section
variable {P:Program} [WInv P] {r:Run} {ops:Array Oper} {fp:Nat->Option (List Nat×List Nat)}
def ZgV (n:Nat) (listed:Array Bool):List Nat:=(List.range n).filter fun i=>!listed.getD i true
theorem ZiT {n i:Nat} {listed:Array Bool}:i ∈ ZgV n listed↔i<n/\listed.getD i true=false:=by
 unfold ZgV
 simp
theorem Zq9 {n i:Nat} {listed:Array Bool} (hs:listed.size=n) (hi:i ∈ ZgV n listed):ZgV n (listed.setIfInBounds i true)=(ZgV n listed).erase i:=by{
have hnd:(ZgV n listed).Nodup:=List.nodup_range.sublist List.filter_sublist
rw [List.Nodup.erase_eq_filter hnd]
unfold ZgV
rw [List.filter_filter]
refine List.filter_congr fun j hj=>?_
have hjn:j<n:=by simpa using hj
rw [Array.getD_eq_getD_getElem?,Array.getD_eq_getD_getElem?]
by_cases e:j=i
subst e
rw [Array.getElem?_setIfInBounds_self_of_lt (by rw [hs];exact hjn)]
simp
rw [Array.getElem?_setIfInBounds_ne (fun h=>e h.symm)]
simp [e]}
theorem ZvS (hI:r.I=WInv.I P) (hdraw:Zl1 ops fp=true) (hM:ops.size<=1000000) (hN:∀ (i:Nat) (o:Oper),ops[i]? = some o->∀ k,o.dst=some k->k<r.N) {send:FS} {Q:Exit->Act->World->Prop} (hQ:∀ a' y S',RstX r S' send a' y->Q .normal a' y.W) :
  ∀ (fuel:Nat) (listed:Array Bool) {s:FS} {a:Act} {x:Ctx},listed.size=ops.size->(ZgV ops.size listed).length<=fuel->
   (∀ i o,ops[i]? = some o->listed.getD i true=true->∀ e ∈ o.after.toList,Region.binds .any e=true->listed.getD e.on false=true)->
   RunO P ops fp (ZgV ops.size listed) s send->RstX r (fun j=>listed.getD j false=true\/1000000<=j/\listed.getD (j % 1000000) false=true) s a x->wpAny P .any ops Q fuel listed a x.W:=by{
have hd:∀ i o,ops[i]? = some o->(∀ e ∈ o.after.toList,Region.binds .any e=true->e.on<i)/\∀ k,k<i->indep ops fp k i=true\/reach ops ops.size k i=true:=fun i o ho=>by
 unfold Zl1 at hdraw
 have hin:i<ops.size:=(Array.getElem?_eq_some_iff.1 ho).1
 have:=List.all_eq_true.1 hdraw i (List.mem_range.2 hin)
 rw [ho] at this
 simp only [Option.map_some,Option.getD_some,Bool.and_eq_true,List.all_eq_true] at this
 refine ⟨fun e he hb=>?_,fun k hk=>?_⟩
 have:=this.1 e he
 rw [hb] at this
 simpa using this
 have:=this.2 k (List.mem_range.2 hk)
 simpa using this
have hready:∀ (listed:Array Bool),listed.size=ops.size->∀ i,i ∈ ZgV ops.size listed->∃ j,j ∈ Region.ready .any ops listed:=fun listed hs i=>by
 induction i using Nat.strongRecOn with
 | _ i ih=>
   intro hi
   obtain ⟨hin,hil⟩:=ZiT.1 hi
   by_cases hall:∃ o,ops[i]? = some o/\∀ e ∈ o.after.toList,Region.binds .any e=true->listed.getD e.on false=true
   obtain ⟨o,ho,hall⟩:=hall
   refine ⟨i,?_⟩
   unfold Region.ready
   simp only [List.mem_filter,List.mem_range,Bool.and_eq_true,Bool.not_eq_true']
   refine ⟨hin,hil,?_⟩
   rw [ho]
   simp only [Option.map_some,Option.getD_some]
   rw [<- Array.all_toList,List.all_eq_true]
   intro e he
   by_cases hb:Region.binds .any e=true
   simp [hall e he hb]
   simp [hb]
   have ho:ops[i]? = some ops[i]:=Array.getElem?_eq_getElem hin
   have:∃ e ∈ (ops[i]).after.toList,Region.binds .any e=true/\¬ listed.getD e.on false=true:=by
    refine Classical.byContradiction fun hno=>hall ⟨_,ho,fun e he hb=>Classical.byContradiction fun h=>hno ⟨e,he,hb,h⟩⟩
   obtain ⟨e,he,hb,hl⟩:=this
   have hlt:=(hd i _ ho).1 e he hb
   refine ih e.on hlt (ZiT.2 ⟨by omega,?_⟩)
   have he2:e.on<listed.size:=by omega
   rw [Array.getD_eq_getD_getElem?,Array.getElem?_eq_getElem he2] at hl ⊢
   simpa using hl
intro fuel
induction fuel with
| zero=>
  intro listed s a x hs hl _ hrun hX
  have hnil:ZgV ops.size listed = []:=List.eq_nil_of_length_eq_zero (Nat.le_zero.1 hl)
  rw [hnil] at hrun
  cases hrun
  refine ⟨?_,hQ _ _ _ hX⟩
  rcases hr:Region.ready .any ops listed with _ | ⟨j,l⟩
  rfl
  have:j ∈ Region.ready .any ops listed:=by rw [hr];exact List.mem_cons_self ..
  unfold Region.ready at this
  simp only [List.mem_filter,List.mem_range,Bool.and_eq_true,Bool.not_eq_true'] at this
  have hm:=(ZiT (n:=ops.size)).2 ⟨this.1,this.2.1⟩
  rw [hnil] at hm
  cases hm
| succ fuel ih=>
  intro listed s a x hs hl hdown hrun hX
  refine ⟨fun hr=>?_,fun i hi=>?_⟩
  have hnil:ZgV ops.size listed = []:=by
   rcases he:ZgV ops.size listed with _ | ⟨j,l⟩
   rfl
   obtain ⟨k,hk⟩:=hready listed hs j (by rw [he];exact List.mem_cons_self ..)
   rw [hr] at hk
   cases hk
  rw [hnil] at hrun
  cases hrun
  exact hQ _ _ _ hX
  unfold Region.ready at hi
  simp only [List.mem_filter,List.mem_range,Bool.and_eq_true,Bool.not_eq_true'] at hi
  obtain ⟨hin,hil,hie⟩:=hi
  have hm:i ∈ ZgV ops.size listed:=ZiT.2 ⟨hin,hil⟩
  have ho:ops[i]? = some ops[i]:=Array.getElem?_eq_getElem hin
  have hedges:∀ o,ops[i]? = some o->∀ e ∈ o.after.toList,Region.binds .any e=true->listed.getD e.on false=true:=fun o ho e he hb=>by
   rw [ho] at hie
   simp only [Option.map_some,Option.getD_some] at hie
   rw [<- Array.all_toList,List.all_eq_true] at hie
   have:=hie e he
   rw [hb] at this
   simpa using this
  have hpw:(ZgV ops.size listed).Pairwise (· < ·):=List.Pairwise.filter _ List.pairwise_lt_range
  obtain ⟨o,u,ho',h1,_,h2⟩:=front hrun hm hpw fun k hk hlt=>by
   obtain ⟨hkn,hkl⟩:=ZiT.1 hk
   rcases (hd i _ ho).2 k hlt with h | h
   exact h
   have:=ZjZ hdown hs _ k i h hedges
   have hk2:k<listed.size:=by omega
   rw [Array.getD_eq_getD_getElem?,Array.getElem?_eq_getElem hk2] at this hkl
   simp only [Option.getD_some] at this hkl
   rw [this] at hkl
   cases hkl
  have hi2:i<listed.size:=by omega
  have hS:¬ listed.getD i false=true:=by
   rw [Array.getD_eq_getD_getElem?,Array.getElem?_eq_getElem hi2] at hil ⊢
   simp only [Option.getD_some] at hil ⊢
   rw [hil]
   simp
  refine ZnZ hI ho' h1 hX (by omega) (fun h=>h.elim hS fun h=>by omega) (fun k hk=>?_) (hN _ _ ho') fun a' y hY=>?_
  rcases hk with hk | hk
  have hbig:¬ i+1000000 * (k+1)<listed.size:=by omega
  rw [Array.getD_eq_getD_getElem?,Array.getElem?_eq_none (by omega)] at hk
  cases hk
  have e:(i+1000000 * (k+1)) % 1000000=i:=by omega
  rw [e] at hk
  exact .inl hk.2
  have mono:∀ j,listed.getD j false=true->(listed.setIfInBounds i true).getD j false=true:=fun j hj=>by
   rw [Array.getD_eq_getD_getElem?]
   by_cases e2:j=i
   rw [e2,Array.getElem?_setIfInBounds_self_of_lt hi2];rfl
   rw [Array.getElem?_setIfInBounds_ne (fun h=>e2 h.symm),<- Array.getD_eq_getD_getElem?];exact hj
  have self:(listed.setIfInBounds i true).getD i false=true:=by
   rw [Array.getD_eq_getD_getElem?,Array.getElem?_setIfInBounds_self_of_lt hi2];rfl
  rw [<- Zq9 hs hm] at h2
  refine ih (listed.setIfInBounds i true) (by simpa using hs) ?_ (fun j oj hoj hj e he hb=>?_) h2 (hY.moreS fun j hj=>?_)
  rw [Zq9 hs hm,List.length_erase_of_mem hm]
  omega
  have key:listed.getD e.on false=true:=by
   by_cases e1:j=i
   subst e1
   exact hedges oj hoj e he hb
   rw [Array.getD_eq_getD_getElem?,Array.getElem?_setIfInBounds_ne (fun h=>e1 h.symm)] at hj
   exact hdown j oj hoj (by rw [Array.getD_eq_getD_getElem?];exact hj) e he hb
  rw [Array.getD_eq_getD_getElem?] at key ⊢
  by_cases e2:e.on=i
  rw [e2,Array.getElem?_setIfInBounds_self_of_lt hi2];rfl
  rw [Array.getElem?_setIfInBounds_ne (fun h=>e2 h.symm)];exact key
  rcases hj with (hj | hj) | hj | hj
  exact .inl (mono j hj)
  exact .inr ⟨hj.1,mono _ hj.2⟩
  exact .inl (hj ▸ self)
  exact .inr ⟨hj.1,by rw [hj.2];exact self⟩}
end
theorem RstX.regionEnd {r:Run} {S:Nat->Prop} {s:FS} {a:Act} {x:Ctx} (h:RstX r S s a x):RstX r (fun _=>False) ⟨s.tm,s.ob,s.ng+1⟩ a x:=
 ⟨h.defers,h.size,h.gr,fun g hg=>.inl (by rcases h.gens g hg with e | ⟨e,_⟩<;>show g.1<s.ng+1<;>omega),h.tm,h.ob,h.apart,h.flt,h.f0,h.fnew,h.rho,h.inv,h.keep⟩
theorem Zsi (id:Nat) (e:Ex) (Q:Exit->Act->World->Prop) (a:Act) (w:World) (h:Q (e.block id).to a w):Exit.inBlock id Q e.to a w:=by{
cases e with
| exit k=>
  simp only [Ex.block] at h
  show if k=id then Q .normal a w else Q (.exit k) a w
  split at h
  rename_i hk;rw [if_pos hk];exact h
  rename_i hk;rw [if_neg hk];exact h
| _=>exact h}
theorem ZoX {e:Ex} (he:e≠.normal) {K:Act->World->Prop} {Q:Exit->Act->World->Prop} {a:Act} {w:World} (h:Q e.to a w):Exit.then K Q e.to a w:=by
 cases e with
 | normal=>exact absurd rfl he
 | _=>exact h
section
variable {P:Program} [WInv P]
theorem Zhk (hmix:P.follows .mixedOrders=true) {c:Code} {s s1:FS} {e:Ex} (h:RunC P c s e s1) :
  (∀ (r:Run) (a:Act) (x:Ctx) (Q:Exit->Act->World->Prop),(r.I=WInv.I P/\ZaY r.N c=true)->RstX r (fun _=>False) s a x->(∀ a' y,RstX r (fun _=>False) s1 a' y->Q e.to a' y.W)->c.wp P Q a x.W)/\
  ∀ d,c = .loop d->∃ n,∀ (r:Run) (a:Act) (x:Ctx) (Q:Exit->Act->World->Prop),(r.I=WInv.I P/\ZaY r.N d=true)->RstX r (fun _=>False) s a x->(∀ a' y,RstX r (fun _=>False) s1 a' y->Q e.to a' y.W)->Code.rounds P d Q n a x.W:=by{
induction h with
| skip=>exact ⟨fun r a x Q _ hX hQ=>wp_skip (hQ _ _ hX),fun d hd=>by cases hd⟩
| label=>exact ⟨fun r a x Q _ hX hQ=>wp_label (hQ _ _ hX),fun d hd=>by cases hd⟩
| ret=>exact ⟨fun r a x Q _ hX hQ=>wp_ret (hQ _ _ hX),fun d hd=>by cases hd⟩
| exit=>exact ⟨fun r a x Q _ hX hQ=>wp_exit (hQ _ _ hX),fun d hd=>by cases hd⟩
| seqN h k ih1 ih2=>
  refine ⟨fun r a x Q hok hX hQ=>?_,fun d hd=>by cases hd⟩
  simp only [ZaY,Bool.and_eq_true] at hok
  exact wp_seq (ih1.1 r a x _ ⟨hok.1,hok.2.1⟩ hX fun a' y hY=>ih2.1 r a' y Q ⟨hok.1,hok.2.2⟩ hY hQ)
| seqX h he ih=>
  refine ⟨fun r a x Q hok hX hQ=>?_,fun d hd=>by cases hd⟩
  simp only [ZaY,Bool.and_eq_true] at hok
  exact wp_seq (ih.1 r a x _ ⟨hok.1,hok.2.1⟩ hX fun a' y hY=>ZoX he (hQ a' y hY))
| cond hc h ih=>
  rename_i co cx cy s s1 e t
  refine ⟨fun r a x Q hok hX hQ=>?_,fun d hd=>by cases hd⟩
  simp only [ZaY,Bool.and_eq_true] at hok
  have hr:=Zae hX co
  rw [hc] at hr
  generalize hv:a.eval co=v at hr
  cases hr
  exact wp_cond hv (ih.1 r a x Q (by cases t<;>simp [hok.1,hok.2.1,hok.2.2]) hX hQ)
| block h ih=>
  refine ⟨fun r a x Q hok hX hQ=>?_,fun d hd=>by cases hd⟩
  simp only [ZaY] at hok
  exact wp_block (ih.1 r a x _ hok hX fun a' y hY=>Zsi _ _ _ _ _ (hQ a' y hY))
| loopN h k ih1 ih2=>
  rename_i c s s1 s2 e
  have hL:∃ n,∀ (r:Run) (a:Act) (x:Ctx) (Q:Exit->Act->World->Prop),(r.I=WInv.I P/\ZaY r.N c=true)->RstX r (fun _=>False) s a x->(∀ a' y,RstX r (fun _=>False) s2 a' y->Q e.to a' y.W)->Code.rounds P c Q n a x.W:=by
   obtain ⟨n,hn⟩:=ih2.2 c rfl
   refine ⟨n+1,fun r a x Q hok hX hQ=>?_⟩
   rw [rounds_succ]
   exact ih1.1 r a x _ hok hX fun a' y hY=>hn r a' y Q hok hY hQ
  refine ⟨fun r a x Q hok hX hQ=>?_,fun d hd=>by cases hd;exact hL⟩
  obtain ⟨n,hn⟩:=hL
  exact wp_loop_rounds n (hn r a x Q hok hX hQ)
| loopX h he ih=>
  rename_i c s s1 e
  have hL:∀ (r:Run) (a:Act) (x:Ctx) (Q:Exit->Act->World->Prop),(r.I=WInv.I P/\ZaY r.N c=true)->RstX r (fun _=>False) s a x->(∀ a' y,RstX r (fun _=>False) s1 a' y->Q e.to a' y.W)->Code.rounds P c Q 1 a x.W:=fun r a x Q hok hX hQ=>by
   rw [rounds_succ]
   exact ih.1 r a x _ hok hX fun a' y hY=>ZoX he (hQ a' y hY)
  exact ⟨fun r a x Q hok hX hQ=>wp_loop_rounds 1 (hL r a x Q hok hX hQ),fun d hd=>by cases hd;exact ⟨1,hL⟩⟩
| region fp h hd=>
  rename_i id ops draw s s1
  refine ⟨fun r a x Q hok hX hQ=>?_,fun d hd=>by cases hd⟩
  have hN:∀ (i:Nat) (o:Oper),ops[i]? = some o->∀ k,o.dst=some k->k<r.N:=fun i o ho k hk=>by
   simp only [ZaY,Bool.and_eq_true] at hok
   have:=Array.all_eq_true.1 hok.2.2 i (Array.getElem?_eq_some_iff.1 ho).1
   rw [(Array.getElem?_eq_some_iff.1 ho).2,hk] at this
   simpa using this
  have hM:ops.size<=1000000:=by
   simp only [ZaY,Bool.and_eq_true,decide_eq_true_eq] at hok
   exact hok.2.1
  cases draw with
  | false=>exact wp_region (ZsE hok.1 h hN hX List.nodup_range (fun i hi=>by have:=List.mem_range.1 hi;omega) (fun _ _=>⟨fun h=>h,fun _ h=>h⟩) fun a' y S' hY=>hQ a' y hY.regionEnd)
  | true=>
    refine wp_region_any hmix ?_
    have hX':RstX r (fun _=>False) s a { x with W:={ x.W with drawn:=x.W.drawn+1 } }:=hX.world rfl rfl rfl rfl
    have hleft:ZgV ops.size (Array.replicate ops.size false)=List.range ops.size:=by
     unfold ZgV
     refine List.filter_eq_self.2 fun i hi=>?_
     have:i<ops.size:=by simpa using hi
     simp [Array.getD_eq_getD_getElem?,this]
    refine ZvS hok.1 (hd rfl) hM hN (fun a' y S' hY=>hQ a' y hY.regionEnd) ops.size (Array.replicate ops.size false) (by simp) (by rw [hleft];simp) (fun i o ho hi=>?_) (by rw [hleft];exact h) (hX'.moreS fun i hi=>hi.elim)
    have:i<ops.size:=(Array.getElem?_eq_some_iff.1 ho).1
    simp [Array.getD_eq_getD_getElem?,this] at hi
| shift hs h ih=>
  refine ⟨fun r a x Q hok hX hQ=>?_,fun d hd=>?_⟩
  obtain ⟨y,hy,hY⟩:=hs r a x hX
  rw [<- hy]
  exact ih.1 r a y Q hok hY hQ
  obtain ⟨n,hn⟩:=ih.2 d hd
  refine ⟨n,fun r a x Q hok hX hQ=>?_⟩
  obtain ⟨y,hy,hY⟩:=hs r a x hX
  rw [<- hy]
  exact hn r a y Q hok hY hQ}
theorem ZoY {f:Nat->Option (Gen×VObj)} {p q:PV} {us:List (Nat×Option (Gen×VObj))} (h:Zpg f p=some (q,us)):q.pure=true:=by{
cases p<;>simp only [Zpg] at h<;>first
 | (cases h;done)
 | (injection h with h;injection h with e1 e2;subst e1;rfl)
 | (split at h
    injection h with h;injection h with e1 e2;subst e1;rfl
    cases h)}
theorem Zhl {f:Nat->Option (Gen×VObj)}:∀ (ps:List PV) {qs:List PV} {us:List (Nat×Option (Gen×VObj))} (_:ZeZ f ps=some (qs,us)),qs.all PV.pure=true
 | [],qs,us,h=>by
   simp only [ZeZ,Option.some.injEq,Prod.mk.injEq] at h
   rw [<- h.1];rfl
 | p::ps,qs,us,h=>by
   simp only [ZeZ] at h
   split at h
   rename_i q us1 qs2 us2 h1 h2
   injection h with h
   injection h with e1 e2
   subst e1
   rw [List.all_cons,ZoY h1,Zhl ps h2];rfl
   cases h
def ZtZ (obj:Option (Nat×List PV)) (t:Nat):Option (Gen×VObj):=match obj with | some (j,os)=>if t=j then some ((0,j),.box os) else none | none=>none
def Znw (args:List PV) (obj:Option (Nat×List PV)):FS:=⟨fun t=>args.getD t (.tup []),ZtZ obj,1⟩
def ZxJ (P:Program) (s:FS):ResultVar->Option PV
 | .tmp t=>some (s.tm t)
 | .cell a T=>match tyI P T,ZgF s.ob (s.tm a) with
   | some ti,some cs=>Zk7 ti cs
   | _,_=>none
def ZfE (P:Program) (s:FS):List ResultVar->Option (List PV)
 | []=>some []
 | v::vs=>match ZxJ P s v,ZfE P s vs with
   | some p,some ps=>some (p::ps)
   | _,_=>none
def Zt0 (a:Act):ResultVar->Sem Value
 | .tmp t=>pure (a.tmps.getD t undef)
 | .cell b t=>do loadVar t (<- asAddr (a.tmps.getD b undef))
theorem Zt1 {f:Nat->Option (Gen×VObj)} {p q:PV} {us:List (Nat×Option (Gen×VObj))} (h:res f p=some (q,us)):q.clean=true:=by{
cases p with
| agg ps=>
  simp only [res] at h
  cases h1:ZeZ f ps with
  | none=>rw [h1] at h;simp at h
  | some z=>
    obtain ⟨qs,us'⟩:=z
    rw [h1] at h
    simp only [Option.map_some,Option.some.injEq,Prod.mk.injEq] at h
    obtain ⟨rfl,rfl⟩:=h
    exact Zhl ps h1
| _=>
  simp only [res] at h
  have:=ZoY h
  cases q<;>first | exact this | (simp [PV.pure] at this)}
def Zfc:List PV->PV | [p]=>p | ps=>.tup ps
omit [WInv P] in
theorem Zc0 {r:Run} {S:Nat->Prop} {s:FS} {a:Act} {x:Ctx} (hX:RstX r S s a x):∀ (vs:List ResultVar) {ps:List PV} (_:ZfE P s vs=some ps),
  ∃ ws:List Value,(vs.mapM (Zt0 a)).run P x.W = .ok ws x.W/\ws.length=ps.length/\∀ (j:Nat) (p:PV),ps[j]? = some p->Rep x p (ws.getD j undef)
 | [],ps,h=>by
   simp only [ZfE,Option.some.injEq] at h
   subst h
   exact ⟨[],by rw [List.mapM_nil];rfl,rfl,fun j p hp=>by simp at hp⟩
 | v::vs,ps,h=>by
   simp only [ZfE] at h
   split at h
   ·rename_i p ps' h1 h2
    injection h with h
    subst h
    obtain ⟨ws,h3,h4,h5⟩:=Zc0 hX vs h2
    have hv:∃ w,(Zt0 a v).run P x.W = .ok w x.W/\Rep x p w:=by
     cases v with
     | tmp t=>
       simp only [ZxJ,Option.some.injEq] at h1
       subst h1
       exact ⟨_,rfl,hX.tm t⟩
     | cell b T=>
       simp only [ZxJ] at h1
       split at h1
       ·rename_i ti cs ht hr
        obtain ⟨bb,off,hv,hc⟩:=ZgL hX hr (hX.tm b)
        obtain ⟨w,h6,h7⟩:=Zd0 ht hc h1
        refine ⟨w,?_,h7⟩
        unfold Zt0
        simp only [hv]
        have h6':(loadVar T ⟨bb,off,none⟩).run P x.W = .ok w x.W:=by simpa [Instr.loadAt,Instr.sureAddr] using h6
        simp [asAddr,h6']
       ·cases h1
    obtain ⟨w,h6,h7⟩:=hv
    refine ⟨w::ws,?_,by simp [h4],fun j q hq=>?_⟩
    ·rw [List.mapM_cons,Sem.run_bind,h6]
     simp only [Result.andThen_ok,Sem.run_bind,h3,Sem.run_pure]
    ·cases j with
     | zero=>simp at hq;subst hq;exact h7
     | succ j=>exact h5 j q (by simpa using hq)
   ·cases h
theorem Zjx {obj:Option (Nat×List PV)} {t:Nat} {g:Gen} {o:VObj} (h:ZtZ obj t=some (g,o)):∃ os,obj=some (t,os)/\g=(0,t)/\o = .box os:=by{
unfold ZtZ at h
split at h
rename_i j os
split at h
rename_i e
subst e
injection h with h
injection h with e1 e2
exact ⟨os,rfl,e1.symm,e2.symm⟩
cases h
cases h}
theorem Zf9 (hmix:P.follows .mixedOrders=true) {f:FuncId} {fn:Func} {c:Code} {args:List PV} {obj:Option (Nat×List PV)} {e:Ex} {s1:FS} {ps qs:List PV} {us us2:List (Nat×Option (Gen×VObj))} {obj' obj2:List PV}
  (hg:isGo P f=true) (hf:P.funcs[f]? = some fn) (hb:fn.body=some c) (hn:args.length<=fn.ntmps) (hok:ZaY fn.ntmps c=true) (hrun:RunC P c (Znw args obj) e s1) (he:e = .normal\/e = .ret)
  (hres:ZfE P s1 fn.results.toList=some ps) (hpub:Ze5 s1.ob ps=some (qs,us))
  (hobj:∀ j os,obj=some (j,os)->s1.ob j=some ((0,j),.box obj2)/\ZeZ s1.ob obj2=some (obj',us2)) (hnone:obj=none->obj' = []) :
  Contract P f args obj (Zfc qs) obj':=by{
have hclean:(Zfc qs).result=true/\obj'.all PV.pure=true/\True:=by
 refine ⟨?_,?_,trivial⟩
 have h1:∀ (l:List PV) {qs:List PV} {us:List (Nat×Option (Gen×VObj))},Ze5 s1.ob l=some (qs,us)->qs.all PV.clean=true:=fun l=>by
  induction l with
  | nil=>intro qs us h;simp only [Ze5,Option.some.injEq,Prod.mk.injEq] at h;rw [<- h.1];rfl
  | cons p l ih=>
    intro qs us h
    simp only [Ze5] at h
    split at h
    rename_i q us1 qs2 us2 h1 h2
    injection h with h
    injection h with e1 e2
    subst e1
    rw [List.all_cons,ih h2,Bool.and_true]
    exact Zt1 h1
    cases h
 have:=h1 ps hpub
 unfold Zfc
 split
 rename_i p
 have hp:p.clean=true:=by simpa using this
 cases p<;>first | exact hp | (simp [PV.clean,PV.pure] at hp)
 exact this
 cases obj with
 | none=>rw [hnone rfl];rfl
 | some q=>exact Zhl _ (hobj q.1 q.2 rfl).2
refine ⟨hg,hclean.1,hclean.2.1,fun x vs hpre hinv=>?_⟩
let r:Run:=⟨x.W,Dof x obj,(vs++Array.replicate (fn.ntmps-vs.size) undef).size,x.F,x.G,x.ρ,WInv.I P⟩
have hNr:r.N=fn.ntmps:=by
 have:=hpre.size
 simp [r]
 omega
have hX:RstX r (fun _=>False) (Znw args obj) { tmps:=vs++Array.replicate (fn.ntmps-vs.size) undef,defers:=[] } x:=by
 refine ⟨rfl,rfl,Gr.refl _ _,fun g hg=>?_,fun t=>?_,fun t g o ho=>?_,fun t t' g g' o o' b hne h1 h2=>?_,hpre.flt,fun _ _ h=>h,fun _ _ h=>.inl h,fun _ h=>⟨h,rfl⟩,⟨hinv,fun g hg=>by obtain ⟨j,os,_,rfl⟩:=hpre.gen g hg;rfl⟩,fun _ _ _ _ h=>h⟩
 obtain ⟨j,os,_,rfl⟩:=hpre.gen g hg
 exact .inl Nat.zero_lt_one
 show Rep x (args.getD t (.tup [])) _
 rw [Array.getD_eq_getD_getElem?,Array.getElem?_append,List.getD_eq_getElem?_getD]
 by_cases ht:t<vs.size
 rw [if_pos ht,List.getElem?_eq_getElem (by rw [hpre.size];exact ht),Array.getElem?_eq_getElem ht]
 exact hpre.rep t _ _ (List.getElem?_eq_getElem (by rw [hpre.size];exact ht)) (Array.getElem?_eq_getElem ht)
 rw [if_neg ht,List.getElem?_eq_none (by rw [hpre.size];omega)]
 have:(Array.replicate (fn.ntmps-vs.size) undef)[t-vs.size]?.getD undef=undef:=by
  rw [Array.getElem?_replicate]
  split<;>rfl
 rw [this]
 exact .tup [] #[] rfl (fun i p v hp=>by simp at hp)
 obtain ⟨os,h1,rfl,rfl⟩:=Zjx ho
 have:=hpre.ob t os h1
 exact ⟨this.1,this.2⟩
 obtain ⟨os,h3,_,_⟩:=Zjx h1
 obtain ⟨os',h4,_,_⟩:=Zjx h2
 rw [h3] at h4
 injection h4 with h4
 injection h4 with h4
 exact absurd h4 hne
refine calls_of_wp hf hb ?_
refine (Zhk hmix hrun).1 r _ x _ ⟨rfl,by rw [hNr];exact hok⟩ hX fun a' y hY=>?_
obtain ⟨ws,h1,h2,h3⟩:=Zc0 hY fn.results.toList hres
obtain ⟨F1,st1,hY1,hR1,hf1⟩:=ZbW ps (Flip.refl s1.ob) hY (g:=fun j=>ws.getD j undef) hpub h3
obtain ⟨F2,st2,hY2,hob⟩:∃ F2,Step { y with F:=F1 } { y with F:=F2 }/\(∃ s2,RstX r (fun _=>False) s2 a' { y with F:=F2 })/\∀ j os,obj=some (j,os)->ObRep { y with F:=F2 } x.W.heap.size (Dof x obj) (0,j) (.box obj'):=by
 cases hobj2:obj with
 | none=>exact ⟨F1,Step.refl _,⟨_,hY1⟩,fun j os h=>by cases h⟩
 | some q=>
   obtain ⟨j,os⟩:=q
   obtain ⟨g1,g2⟩:=hobj j os hobj2
   have g3:=hf1.box g1
   obtain ⟨_,b,T,cv,q1,q2,q3,q4,q5,q6,q7⟩:=hY1.ob j _ _ g3
   obtain ⟨F2,st2,hY2,hR2,hl2,hf2⟩:=ZcD obj2 hf1 hY1 (g:=fun j=>cv.getD j undef) g2 (fun j p hp=>by
    have hlt:j<cv.size:=by rw [<- q3];exact (List.getElem?_eq_some_iff.1 hp).1
    have:cv.getD j undef=cv[j]:=by simp [hlt]
    rw [this]
    exact q5 j p _ hp (Array.getElem?_eq_getElem hlt))
   refine ⟨F2,st2,⟨_,hY2⟩,fun j' os' h=>?_⟩
   injection h with h
   injection h with e1 e2
   subst e1 e2
   obtain ⟨_,b2,T2,cv2,w1,w2,w3,w4,w5,w6,w7⟩:=hY2.ob j _ _ (hf2.box g1)
   change y.ρ (0,j)=_ at q1 w1
   rw [q1] at w1
   injection w1 with w1
   injection w1 with w1
   injection w1 with w1
   subst w1
   refine ⟨b,T,cv,q1,q2,by rw [hl2,q3],fun p hp=>?_,fun k p v hp hv=>?_,?_,w7⟩
   obtain ⟨k,hk⟩:=List.getElem?_of_mem hp
   exact PV.cell_of_pure (hR2 k p hk).1
   have:=(hR2 k p hp).2
   rw [Array.getD_eq_getD_getElem?,hv] at this
   exact this
   rw [<- hobj2];exact q6
obtain ⟨s2,hY2⟩:=hY2
have hstep:Step x { y with F:=F2 }:=by
 refine ⟨fun g hg=>hY2.rho g hg,fun b o hb=>hY2.f0 b o hb,fun b o v hb hv=>?_⟩
 have hlt:=hpre.flt b o hb
 have hnD:¬ Dof x obj b:=fun ⟨j,os,ho,hbk⟩=>by
  obtain ⟨_,b2,T,cv,q1,_,_,_,_,_,q7⟩:=hpre.ob j os ho
  rw [q1] at hbk
  obtain rfl:b2=b:=by simpa [blk] using hbk
  exact q7 o hb
 exact (World.cell?_of_block (hY2.gr.block b hlt hnD)).trans hv
have hfn:∀ b o,F2 b o->x.F b o\/x.W.heap.size<=b:=fun b o hF=>by
 rcases hY2.fnew b o hF with h | h | h
 exact .inl h
 exact .inr h
 obtain ⟨j,os,h,hbk⟩:=h
 obtain ⟨b2,T,cv,q1,_,_,_,_,_,q7⟩:=hob j os h
 have e:y.ρ (0,j)=x.ρ (0,j):=(hstep.G (0,j) (hpre.ob j os h).1).2
 change blk (x.ρ (0,j))=some b at hbk
 change y.ρ (0,j)=_ at q1
 rw [<- e,q1] at hbk
 obtain rfl:b2=b:=by simpa [blk] using hbk
 exact absurd hF (q7 o)
have hend:(results fn a'.tmps).run P y.W = .ok (if ws.length=1 then ws.getD 0 undef else .tuple ws.toArray) y.W:=by
 have:(fn.results.mapM (Zt0 a')).run P y.W = .ok ws.toArray y.W:=by
  rw [Array.mapM_eq_mapM_toList,map_eq_pure_bind,Sem.run_bind,h1]
  rfl
 have e:results fn a'.tmps=(fn.results.mapM (Zt0 a') >>= fun vs=>pure (if h:vs.size=1 then vs[0] else .tuple vs)):=by
  unfold results
  congr 1
 rw [e,Sem.run_bind,this]
 simp only [Result.andThen_ok,Sem.run_pure]
 congr 1
 by_cases hl:ws.length=1
 simp [hl]
 simp [hl]
have hfin:∃ v,(results fn a'.tmps).run P y.W = .ok v y.W/\(fun e W'=>∃ y v,y.W=W'/\e=Ending.returned v/\Post x y obj (Zfc qs) obj' v) (Ending.returned v) y.W:=by
 refine ⟨_,hend,{ y with F:=F2 },_,rfl,rfl,hstep,hY2.gr,hfn,hY2.flt,?_,hob⟩
 have hR:∀ (j:Nat) (q:PV),qs[j]? = some q->Rep { y with F:=F2 } q (ws.getD j undef):=fun j q hq=>(hR1 j q hq).2.step st2
 have hlq:qs.length=ws.length:=by rw [ZeQ _ hpub,h2]
 unfold Zfc
 split
 rename_i p
 rw [if_pos (by simpa using hlq.symm)]
 exact hR 0 p rfl
 rename_i hne
 have hn1:¬ ws.length=1:=fun h=>by
  rw [h] at hlq
  match qs,hlq with
  | [q],_=>exact hne q rfl
 rw [if_neg hn1]
 refine .tup qs ws.toArray (by simpa using hlq) fun j q v hq hv=>?_
 have:=hR j q hq
 have hv':ws[j]? = some v:=by simpa using hv
 rw [List.getD_eq_getElem?_getD,hv'] at this
 exact this
rcases he with rfl | rfl
exact ⟨hY.defers,hfin⟩
exact ⟨hY.defers,hfin⟩}
end
open Go.RowKit
def look:List (Nat×PV)->Nat->PV | [],_=>.un | (k,v)::r,t=>if t=k then v else look r t
def ZI:List (Nat×Option (Gen×VObj))->Nat->Option (Gen×VObj) | [],_=>none | (k,v)::r,t=>if t=k then v else ZI r t
def mkS (tm:List (Nat×PV)) (ob:List (Nat×Option (Gen×VObj))) (ng:Nat):FS:=⟨look tm,ZI ob,ng⟩
def evL (tm:List (Nat×PV)):Operand->PV | .tmp t=>look tm t | .const v=>Zd3 v | .func f=>.fn f [] | .global _=>.un
theorem Zai (tm:List (Nat×PV)) (ob:List (Nat×Option (Gen×VObj))) (ng:Nat):ev (mkS tm ob ng)=evL tm:=by funext e;cases e<;>rfl
def Zbt (d:Option Tmp) (v:PV) (tm:List (Nat×PV)):List (Nat×PV):=match d with | some d=>(d,v)::tm | none=>tm
theorem ZeK:∀ (us ob:List (Nat×Option (Gen×VObj))),flips (ZI ob) us=ZI (us.reverse++ob)
 | [],ob=>rfl
 | q::us,ob=>by
   show flips (Zcv (ZI ob) q.1 q.2) us=_
   have:Zcv (ZI ob) q.1 q.2=ZI (q::ob):=rfl
   rw [this,ZeK us (q::ob)]
   simp
theorem ZbD (tm:List (Nat×PV)) (ob:List (Nat×Option (Gen×VObj))) (ng:Nat) (d:Option Tmp) (v:PV) (us:List (Nat×Option (Gen×VObj))) :
  (mkS tm ob ng).app d ⟨v,us⟩=mkS (Zbt d v tm) (us.reverse++ob) ng:=by{
unfold FS.app mkS
simp only [FS.mk.injEq,and_true]
constructor
cases d<;>rfl
exact ZeK us ob}
def PW (P:Program) [WInv P] (c:Code) (Q:Ex->FS->Prop) (s:FS):Prop:=∃ e s',RunC P c s e s'/\Q e s'
def GoL (P:Program) [WInv P] (ops:Array Oper) (draw:Bool) (i:Nat) (L:List Oper) (acc:List (List Nat×List Nat)) (s:FS) (K:FS->Prop):Prop:=acc.length=i->ops.toList.drop i=L->∃ (fps:List (List Nat×List Nat)) (s':FS),(∀ fp:Nat->Option (List Nat×List Nat),(∀ j,j<fps.length->fp (i+j)=none\/fp (i+j)=fps[j]?)->RunO P ops fp ((List.range L.length).map (i + ·)) s s')/\ fps.length=L.length/\(draw=true->Zl1 ops (fun j=>(acc++fps)[j]?)=true)/\K s'
section
variable {P:Program} [WInv P] {ops:Array Oper} {draw:Bool} {i:Nat} {L:List Oper} {acc:List (List Nat×List Nat)} {s:FS} {K:FS->Prop} {Q:Ex->FS->Prop}
theorem Zur (K W:List Nat):ZuA (some (K,W)) K W=true:=by
 simp [ZuA]
theorem Zwr (hd:draw=true->Zl1 ops (fun j=>acc[j]?)=true) (h:K s):GoL P ops draw i [] acc s K:=fun _ _=>
 ⟨[],s,fun _ _=>.nil,rfl,by simpa using hd,h⟩
theorem Zgp {o:Oper} {u:Upd} (h:OpR P ops i o s u) (k:GoL P ops draw (i+1) L (acc ++ [(ZG s o,u.obs.map (·.1))]) (s.app o.dst u) K):GoL P ops draw i (o::L) acc s K:=fun hacc hL=>by
 have h2:ops.toList.drop (i+1)=L:=by rw [<- List.drop_drop,hL];rfl
 obtain ⟨fps,s',h3,h4,h5,h6⟩:=k (by simp [hacc]) h2
 have ho:ops[i]? = some o:=by
  have:(ops.toList.drop i)[0]? = some o:=by rw [hL];rfl
  rw [List.getElem?_drop] at this
  simpa using this
 refine ⟨(ZG s o,u.obs.map (·.1))::fps,s',fun fp hfp=>?_,by simp [h4],by simpa using h5,h6⟩
 have e:(List.range (o::L).length).map (i + ·)=i::(List.range L.length).map (i+1 + ·):=by
  rw [List.length_cons,List.range_succ_eq_map,List.map_cons,List.map_map,Nat.add_zero]
  congr 1
  refine List.map_congr_left fun j _=>?_
  simp only [Function.comp]
  omega
 rw [e]
 refine .cons ho h ?_ (h3 fp fun j hj=>?_)
 ·rcases hfp 0 (by simp) with h | h
  ·rw [Nat.add_zero] at h;rw [h];rfl
  ·rw [Nat.add_zero] at h;rw [h];exact Zur _ _
 ·have:=hfp (j+1) (by simpa using hj)
  have e2:i+(j+1)=i+1+j:=by omega
  rw [e2] at this
  simpa using this
theorem Zus {id:Nat} (h:GoL P ops draw 0 ops.toList [] s fun s'=>Q .normal ⟨s'.tm,s'.ob,s'.ng+1⟩):PW P (.region id ops draw) Q s:=by{
obtain ⟨fps,s',h1,h2,h3,h4⟩:=h rfl rfl
cases draw with
| false=>
  refine ⟨.normal,_,.region (fun _=>none) ?_ (fun h=>by cases h),h4⟩
  have:=h1 (fun _=>none) fun j _=>.inl rfl
  simpa using this
| true=>
  refine ⟨.normal,_,.region (fun j=>fps[j]?) ?_ (fun _=>by simpa using h3 rfl),h4⟩
  have:=h1 (fun j=>fps[j]?) fun j _=>.inr (by simp)
  simpa using this}
theorem Zqy {a:Code} {Q':Ex->FS->Prop} (h:PW P a Q s) (hq:∀ e s,Q e s->Q' e s):PW P a Q' s:=by
 obtain ⟨e,s',h1,h2⟩:=h
 exact ⟨e,s',h1,hq _ _ h2⟩
def Zzw (N:FS->Prop) (Q:Ex->FS->Prop):Ex->FS->Prop | .normal,s=>N s | e,s=>Q e s
theorem Zx9 {a b:Code} (h:PW P a (Zzw (PW P b Q) Q) s):PW P (.seq a b) Q s:=by{
obtain ⟨e,s',h1,h2⟩:=h
cases e with
| normal=>
  obtain ⟨e2,s2,h3,h4⟩:=h2
  exact ⟨e2,s2,.seqN h1 h3,h4⟩
| exit id=>exact ⟨_,s',.seqX h1 (by simp),h2⟩
| ret=>exact ⟨_,s',.seqX h1 (by simp),h2⟩}
end
def PWs (P:Program) [WInv P]:List Code->(Ex->FS->Prop)->FS->Prop | [],Q,s=>Q .normal s | c::cs,Q,s=>PW P c (Zzw (PWs P cs Q) Q) s
section
variable {P:Program} [WInv P] {ops:Array Oper} {draw:Bool} {s:FS} {Q:Ex->FS->Prop} {cs:List Code}
theorem ZnO (h:Q .normal s):PWs P [] Q s:=h
theorem ZnP {a b:Code} (h:PWs P (a::b::cs) Q s):PWs P (.seq a b::cs) Q s:=by
 refine Zx9 (Zqy h fun e s h=>?_)
 cases e<;>exact h
theorem Zso {id:Nat} (h:GoL P ops draw 0 ops.toList [] s fun s'=>PWs P cs Q ⟨s'.tm,s'.ob,s'.ng+1⟩):PWs P (.region id ops draw::cs) Q s:=Zus h
theorem Zkq (h:PWs P cs Q s):PWs P (.skip::cs) Q s:=⟨_,_,.skip,h⟩
theorem ZnQ (h:Q .ret s):PWs P (.ret::cs) Q s:=⟨_,_,.ret,h⟩
theorem Zkr {id:Nat} (h:Q (.exit id) s):PWs P (.exit id::cs) Q s:=⟨_,_,.exit,h⟩
theorem Zks {c:Operand} {x y:Code} {t:Bool} (hc:ev s c = .bool t) (h:PWs P ((if t then x else y)::cs) Q s):PWs P (.cond c x y::cs) Q s:=by
 obtain ⟨e,s',h1,h2⟩:=h
 exact ⟨e,s',.cond hc h1,h2⟩
theorem Zv4 {c:Operand} {x y:Code} (hc:ev s c = .bool true) (h:PWs P (x::cs) Q s):PWs P (.cond c x y::cs) Q s:=Zks hc h
theorem Zut {c:Operand} {x y:Code} (hc:ev s c = .bool false) (h:PWs P (y::cs) Q s):PWs P (.cond c x y::cs) Q s:=Zks hc h
theorem Zuu {c:Operand} {x y:Code} {t:Bool} (hc:ev s c = .bool t) (h1:t=true->PWs P (x::cs) Q s) (h2:t=false->PWs P (y::cs) Q s):PWs P (.cond c x y::cs) Q s:=by
 cases t
 exact Zks hc (h2 rfl)
 exact Zks hc (h1 rfl)
def Zpa (id:Nat) (N:FS->Prop) (Q:Ex->FS->Prop):Ex->FS->Prop | .normal,s=>N s | .exit k,s=>if k=id then N s else Q (.exit k) s | .ret,s=>Q .ret s
theorem ZnR {id:Nat} {N:FS->Prop} (h:N s):Zpa id N Q (.exit id) s:=by show if id=id then N s else _;rw [if_pos rfl];exact h
theorem ZiX {id:Nat} {N:FS->Prop} (h:N s):Zpa id N Q .normal s:=h
theorem Zrg {id:Nat} {N:FS->Prop} (h:Q .ret s):Zpa id N Q .ret s:=h
theorem Zc3 {c:Code} (h:PWs P [c] Q s):PW P c Q s:=Zqy h fun e s h=>by cases e<;>exact h
theorem ZaP {id:Nat} {c:Code} (h:PWs P [c] (Zpa id (PWs P cs Q) Q) s):PWs P (.block id c::cs) Q s:=by{
obtain ⟨e,s',h1,h2⟩:=Zc3 h
refine ⟨e.block id,s',.block h1,?_⟩
cases e with
| exit k=>
  simp only [Ex.block]
  change (if k=id then PWs P cs Q s' else Q (.exit k) s') at h2
  split
  rename_i hk;rw [if_pos hk] at h2;exact h2
  rename_i hk;rw [if_neg hk] at h2;exact h2
| normal=>exact h2
| ret=>exact h2}
def Zpb {α:Type} (St:α->Nat->FS) (J:α->Prop) (m:α->Nat) (a:α) (Q:Ex->FS->Prop):Ex->FS->Prop | .normal,s=>∃ a' ng,J a'/\m a'<m a/\Shift s (St a' ng) | e,s=>Q e s
theorem Zi {α:Type} {c:Code} (St:α->Nat->FS) (J:α->Prop) (m:α->Nat) (a0:α) (ng0:Nat) (h0:J a0) (hs:Shift s (St a0 ng0)) (round:∀ a ng,J a->PWs P [c] (Zpb St J m a Q) (St a ng)) :
  PWs P (.loop c::cs) Q s:=by{
have key:∀ n a ng,m a=n->J a->∃ e s',RunC P (.loop c) (St a ng) e s'/\e≠.normal/\Q e s':=fun n=>by
 induction n using Nat.strongRecOn with
 | _ n ih=>
   intro a ng hn hJ
   obtain ⟨e,s',h1,h2⟩:=Zc3 (round a ng hJ)
   cases e with
   | normal=>
     obtain ⟨a',ng',h3,h4,h5⟩:=h2
     obtain ⟨e2,s2,h6,h7,h8⟩:=ih (m a') (hn ▸ h4) a' ng' rfl h3
     exact ⟨e2,s2,.loopN h1 (.shift h5 h6),h7,h8⟩
   | exit id=>exact ⟨_,s',.loopX h1 (by simp),by simp,h2⟩
   | ret=>exact ⟨_,s',.loopX h1 (by simp),by simp,h2⟩
obtain ⟨e,s',h1,h2,h3⟩:=key _ a0 ng0 rfl h0
refine ⟨e,s',.shift hs h1,?_⟩
cases e with
| normal=>exact absurd rfl h2
| _=>exact h3}
theorem ZY {α:Type} {St:α->Nat->FS} {J:α->Prop} {m:α->Nat} {a:α} (a':α) (ng:Nat) (h1:J a') (h2:m a'<m a) (h3:Shift s (St a' ng)):Zpb St J m a Q .normal s:=⟨a',ng,h1,h2,h3⟩
theorem ZnS {α:Type} {St:α->Nat->FS} {J:α->Prop} {m:α->Nat} {a:α} {id:Nat} (h:Q (.exit id) s):Zpb St J m a Q (.exit id) s:=h
theorem Zrh {α:Type} {St:α->Nat->FS} {J:α->Prop} {m:α->Nat} {a:α} (h:Q .ret s):Zpb St J m a Q .ret s:=h
theorem ZfH {s s1:FS} (h1:∀ t,s1.tm t = .un\/s1.tm t=s.tm t) (h2:∀ t,s1.ob t=none\/s1.ob t=s.ob t) (h3:s.ng<=s1.ng):Shift s s1:=fun r a x h=>⟨x,rfl,by
 refine ⟨h.defers,h.size,h.gr,fun g hg=>.inl ?_,fun t=>?_,fun t g o ho=>?_,fun t t' g g' o o' b hne e1 e2=>?_,h.flt,h.f0,h.fnew,h.rho,h.inv,h.keep⟩
 rcases h.gens g hg with e | ⟨_,e⟩
 omega
 exact e.elim
 rcases h1 t with e | e
 rw [e];exact .un _
 rw [e];exact h.tm t
 rcases h2 t with e | e
 rw [e] at ho;cases ho
 rw [e] at ho;exact h.ob t g o ho
 rcases h2 t with e | e
 rw [e] at e1;cases e1
 rcases h2 t' with e' | e'
 rw [e'] at e2;cases e2
 rw [e] at e1;rw [e'] at e2;exact h.apart t t' g g' o o' b hne e1 e2⟩
theorem Shift.trans {s s1 s2:FS} (h:Shift s s1) (k:Shift s1 s2):Shift s s2:=fun r a x hx=>by
 obtain ⟨y,h1,h2⟩:=h r a x hx
 obtain ⟨z,h3,h4⟩:=k r a y h2
 exact ⟨z,h3.trans h1,h4⟩
def Zyk (P:Program) (rs:List ResultVar) (res:PV):Ex->FS->Prop | .exit _,_=>False | _,s=>∃ ps qs us,ZfE P s rs=some ps/\Ze5 s.ob ps=some (qs,us)/\Zfc qs=res
omit [WInv P] in
theorem Zb8 {rs:List ResultVar} {res:PV} {ps qs:List PV} {us:List (Nat×Option (Gen×VObj))} (h1:ZfE P s rs=some ps) (h2:Ze5 s.ob ps=some (qs,us)) (h3:Zfc qs=res):Zyk P rs res .ret s:=⟨ps,qs,us,h1,h2,h3⟩
def ZeN:Nat->List PV->List (Nat×PV) | _,[]=>[] | i,p::ps=>(i,p)::ZeN (i+1) ps
theorem Zeu:∀ (args:List PV) (i t:Nat),look (ZeN i args) t = .un\/(i<=t/\look (ZeN i args) t=args.getD (t-i) (.tup []))
 | [],i,t=>.inl rfl
 | p::ps,i,t=>by
   show (if t=i then p else look (ZeN (i+1) ps) t)=_\/(_/\(if t=i then p else look (ZeN (i+1) ps) t)=_)
   by_cases e:t=i
   rw [if_pos e]
   right
   refine ⟨by omega,?_⟩
   rw [e,Nat.sub_self]
   rfl
   rw [if_neg e]
   rcases Zeu ps (i+1) t with h | ⟨h1,h2⟩
   exact .inl h
   right
   refine ⟨by omega,?_⟩
   rw [h2]
   have:t-i=(t-(i+1))+1:=by omega
   rw [this]
   rfl
theorem Zbe (hmix:P.follows .mixedOrders=true) {f:FuncId} {fn:Func} {c:Code} {args:List PV} {res:PV} (hf:P.funcs[f]? = some fn) (hg:isGo P f=true) (hb:fn.body=some c) (hok:(decide (args.length<=fn.ntmps)&&ZaY fn.ntmps c)=true)
  (h:PWs P [c] (Zyk P fn.results.toList res) (mkS (ZeN 0 args) [] 1)):Contract P f args none res []:=by{
simp only [Bool.and_eq_true,decide_eq_true_eq] at hok
obtain ⟨e,s',h1,h2⟩:=Zc3 h
have hsh:Shift (Znw args none) (mkS (ZeN 0 args) [] 1):=ZfH (fun t=>by
 rcases Zeu args 0 t with h | ⟨_,h⟩
 exact .inl h
 exact .inr h) (fun t=>.inl rfl) (Nat.le_refl _)
cases e with
| exit id=>exact h2.elim
| normal=>
  obtain ⟨ps,qs,us,h3,h4,h5⟩:=h2
  subst h5
  exact Zf9 (us2:=[]) (obj2:=[]) hmix hg hf hb hok.1 hok.2 (.shift hsh h1) (.inl rfl) h3 h4 (fun j os h=>by cases h) (fun _=>rfl)
| ret=>
  obtain ⟨ps,qs,us,h3,h4,h5⟩:=h2
  subst h5
  exact Zf9 (us2:=[]) (obj2:=[]) hmix hg hf hb hok.1 hok.2 (.shift hsh h1) (.inr rfl) h3 h4 (fun j os h=>by cases h) (fun _=>rfl)}
end
open Go.RowKit
class Ze (P:Program) (T:TypeId) (z:outParam (List PV)):Prop where
 eq:(tyI P T).map (·.zero)=some z
class Ld (P:Program) (T:TypeId) (agg:outParam Bool) (n:outParam Nat):Prop where
 eq:(tyI P T).map (fun ti=>(TypeDesc.isAgg ti.desc,ti.size))=some (agg,n)
class Fld (P:Program) (T:TypeId) (f:Nat) (off:outParam Nat) (agg:outParam Bool) (n:outParam Nat):Prop where
 eq:(fieldAt P T f).map (fun q=>(q.1,TypeDesc.isAgg q.2.desc,q.2.size))=some (off,agg,n)
 pos:(n == 0)=false
def slI (P:Program) (T:TypeId):Option (TypeId×TI):=match tyI P T with | some ⟨.slice E,_,_,_⟩=>(tyI P E).map fun te=>(E,te) | _=>none
class Sl (P:Program) (T:TypeId) (E k by_:outParam Nat) (z:outParam (List PV)):Prop where
 eq:(slI P T).map (fun q=>(q.1,q.2.size,q.2.bytes,q.2.zero))=some (E,k,by_,z)
 pos:(k == 0)=false
 len:z.length=k
def arI (P:Program) (T:TypeId):Option (Nat×TI):=match tyI P T with | some ⟨.array len E,_,_,_⟩=>(tyI P E).map fun te=>(len,te) | _=>none
class Ar (P:Program) (T:TypeId) (len k:outParam Nat):Prop where
 eq:(arI P T).map (fun q=>(q.1,q.2.size))=some (len,k)
def stI (P:Program) (T:TypeId):Option (List (Option (Nat×Nat))×List PV):=match tyI P T with | some ⟨.struct fs,_,_,z⟩=>if fs.toList.all fun f=>(tyI P f.type).isSome then some ((List.range fs.size).map (ZjO P fs),z) else none | _=>none
class St (P:Program) (T:TypeId) (pl:outParam (List (Option (Nat×Nat)))) (z:outParam (List PV)):Prop where
 eq:stI P T=some (pl,z)
class Az (P:Program) (T:TypeId) (k:outParam Nat) (z:outParam (List PV)):Prop where
 eq:(arI P T).map (fun q=>q.2.size)=some k
 zero:(tyI P T).map (·.zero)=some z
def ZpG (agg:Bool) (n:Nat) (cs:List PV):Option PV:=if agg then (if n<=cs.length then some (.agg (cs.take n)) else none) else cs[0]?
def evs (tm:List (Nat×PV)):List (Nat×Operand)->List (Nat×PV) | []=>[] | (i,e)::r=>(i,evL tm e)::evs tm r
theorem ZqO (tm:List (Nat×PV)):∀ (l:List (Nat×Operand)),(l.map fun q=>(q.1,evL tm q.2))=evs tm l
 | []=>rfl
 | (i,e)::r=>by simp [evs,ZqO tm r]
theorem ZmZ {P:Program} {T:TypeId} {agg:Bool} {n:Nat} [h:Ld P T agg n]:∃ ti,tyI P T=some ti/\TypeDesc.isAgg ti.desc=agg/\ti.size=n:=by{
have:=h.eq
cases ht:tyI P T with
| none=>rw [ht] at this;cases this
| some ti=>
  rw [ht] at this
  simp only [Option.map_some,Option.some.injEq,Prod.mk.injEq] at this
  exact ⟨ti,rfl,this.1,this.2⟩}
theorem Ze6 {P:Program} {T:TypeId} {E k by_:Nat} {z:List PV} [h:Sl P T E k by_ z]:∃ s b zz te,tyI P T=some ⟨.slice E,s,b,zz⟩/\tyI P E=some te/\te.size=k/\te.bytes=by_/\te.zero=z/\0<k/\z.length=k:=by{
have:=h.eq
unfold slI at this
split at this
rename_i E' s b zz ht
cases hte:tyI P E' with
| none=>rw [hte] at this;cases this
| some te=>
  rw [hte] at this
  simp only [Option.map_some,Option.some.injEq,Prod.mk.injEq] at this
  obtain ⟨rfl,h2,h3,h4⟩:=this
  have hp:=h.pos
  simp only [beq_eq_false_iff_ne,ne_eq] at hp
  exact ⟨s,b,zz,te,ht,hte,h2,h3,h4,by omega,h.len⟩
cases this}
theorem ZpH {ti:TI} {agg:Bool} {n:Nat} (h1:TypeDesc.isAgg ti.desc=agg) (h2:ti.size=n) (cs:List PV):Zk7 ti cs=ZpG agg n cs:=by
 unfold Zk7 ZpG
 rw [h1,h2]
section
variable {P:Program} [WInv P] {ops:Array Oper} {draw:Bool} {i:Nat} {L:List Oper} {acc:List (List Nat×List Nat)} {K:FS->Prop} {tm:List (Nat×PV)} {ob:List (Nat×Option (Gen×VObj))} {ng:Nat}
 {d:Option Tmp} {ty:TypeId} {pos:String} {after:Array Edge} {gd:Option (Nat×Bool)} {T:TypeId} {x y:Operand}
theorem ZbM {o:Oper} {v:PV} {us:List (Nat×Option (Gen×VObj))} (hw:Zo ops (mkS tm ob ng) o=some true) (ha:ActR P i o (mkS tm ob ng) ⟨v,us⟩)
  (k:GoL P ops draw (i+1) L (acc ++ [(ZG (mkS tm ob ng) o,us.map (·.1))]) (mkS (Zbt o.dst v tm) (us.reverse++ob) ng) K):GoL P ops draw i (o::L) acc (mkS tm ob ng) K:=by
 refine Zgp (.act hw ha) ?_
 rw [ZbD]
 exact k
theorem Zg {o:Oper} (hw:Zo ops (mkS tm ob ng) o=some false) (k:GoL P ops draw (i+1) L (acc ++ [(ZG (mkS tm ob ng) o,[])]) (mkS (Zbt o.dst (.tup []) tm) ob ng) K):GoL P ops draw i (o::L) acc (mkS tm ob ng) K:=by
 refine Zgp (.skip hw) ?_
 rw [ZbD]
 exact k
theorem ZqP (hw:Zo ops (mkS tm ob ng) ⟨d,.move x,ty,pos,after,gd⟩=some true) {v:PV} (hv:evL tm x=v)
  (k:GoL P ops draw (i+1) L (acc ++ [(ZG (mkS tm ob ng) ⟨d,.move x,ty,pos,after,gd⟩,[])]) (mkS (Zbt d v tm) ob ng) K):GoL P ops draw i (⟨d,.move x,ty,pos,after,gd⟩::L) acc (mkS tm ob ng) K:=
 ZbM (us:=[]) (v:=v) hw (.fn (by simp only [act,Zai,hv])) k
theorem Zkg (hw:Zo ops (mkS tm ob ng) ⟨d,.assign x,ty,pos,after,gd⟩=some true) {v:PV} (hv:evL tm x=v)
  (k:GoL P ops draw (i+1) L (acc ++ [(ZG (mkS tm ob ng) ⟨d,.assign x,ty,pos,after,gd⟩,[])]) (mkS (Zbt d v tm) ob ng) K):GoL P ops draw i (⟨d,.assign x,ty,pos,after,gd⟩::L) acc (mkS tm ob ng) K:=
 ZbM (us:=[]) (v:=v) hw (.fn (by simp only [act,Zai,hv])) k
theorem ZqQ {c:Operand} (hw:Zo ops (mkS tm ob ng) ⟨d,.pick c x y,ty,pos,after,gd⟩=some true) {t:Bool} {v:PV} (hc:evL tm c = .bool t) (hv:(if t then evL tm x else evL tm y)=v)
  (k:GoL P ops draw (i+1) L (acc ++ [(ZG (mkS tm ob ng) ⟨d,.pick c x y,ty,pos,after,gd⟩,[])]) (mkS (Zbt d v tm) ob ng) K):GoL P ops draw i (⟨d,.pick c x y,ty,pos,after,gd⟩::L) acc (mkS tm ob ng) K:=
 ZbM (us:=[]) (v:=v) hw (.fn (by simp only [act,Zai,hc,hv])) k
theorem ZkR {dd:Nat} {z:List PV} [Ze P T z] (hw:Zo ops (mkS tm ob ng) ⟨some dd,.alloc T,ty,pos,after,gd⟩=some true) (hz:z.all PV.cell=true)
  (k:GoL P ops draw (i+1) L (acc ++ [(ZG (mkS tm ob ng) ⟨some dd,.alloc T,ty,pos,after,gd⟩,[dd])]) (mkS ((dd,.ptr dd (ng,i) 0)::tm) ((dd,some ((ng,i),.box z))::ob) ng) K) :
  GoL P ops draw i (⟨some dd,.alloc T,ty,pos,after,gd⟩::L) acc (mkS tm ob ng) K:=by{
refine ZbM (us:=[(dd,some ((ng,i),.box z))]) hw (.fn ?_) k
have:=Ze.eq (P:=P) (T:=T) (z:=z)
cases ht:tyI P T with
| none=>rw [ht] at this;cases this
| some ti=>
  rw [ht] at this
  simp only [Option.map_some,Option.some.injEq] at this
  subst this
  simp only [act,ht,hz,if_true]
  rfl}
theorem Zu2 {dd:Nat} (hw:Zo ops (mkS tm ob ng) ⟨some dd,.box T x,ty,pos,after,gd⟩=some true) {p:PV} {cs:List PV} (hv:evL tm x=p) (hc:p.cells=cs) (hz:cs.all PV.cell=true)
  (k:GoL P ops draw (i+1) L (acc ++ [(ZG (mkS tm ob ng) ⟨some dd,.box T x,ty,pos,after,gd⟩,[dd])]) (mkS ((dd,.ptr dd (ng,i) 0)::tm) ((dd,some ((ng,i),.box cs))::ob) ng) K) :
  GoL P ops draw i (⟨some dd,.box T x,ty,pos,after,gd⟩::L) acc (mkS tm ob ng) K:=by{
refine ZbM (us:=[(dd,some ((ng,i),.box cs))]) hw (.fn ?_) k
subst hc
subst hv
simp only [act,Zai,hz,if_true]
rfl}
theorem Zmb {agg:Bool} {n:Nat} [h:Ld P T agg n] (hw:Zo ops (mkS tm ob ng) ⟨d,.load T x,ty,pos,after,gd⟩=some true) {cs:List PV} {v:PV} (hr:ZgF (ZI ob) (evL tm x)=some cs) (hv:ZpG agg n cs=some v)
  (k:GoL P ops draw (i+1) L (acc ++ [(ZG (mkS tm ob ng) ⟨d,.load T x,ty,pos,after,gd⟩,[])]) (mkS (Zbt d v tm) ob ng) K):GoL P ops draw i (⟨d,.load T x,ty,pos,after,gd⟩::L) acc (mkS tm ob ng) K:=by{
refine ZbM (us:=[]) hw (.fn ?_) k
obtain ⟨ti,ht,h1,h2⟩:=ZmZ (P:=P) (T:=T) (agg:=agg) (n:=n)
have hr':ZgF (mkS tm ob ng).ob (ev (mkS tm ob ng) x)=some cs:=by rw [Zai];exact hr
simp only [act,ht,hr',ZpH h1 h2,hv,Option.map_some]}
theorem ZkS {agg:Bool} {n:Nat} [Ld P T agg n] (hw:Zo ops (mkS tm ob ng) ⟨d,.store T x y,ty,pos,after,gd⟩=some true) {t:Nat} {g:Gen} {off:Nat} {cs:List PV} {p:PV} {ps:List PV} (hx:evL tm x = .ptr t g off) (hb:Zbh (ZI ob) t g=some (.box cs))
  (hy:evL tm y=p) (hps:p.cells=ps) (hl:ps.length=n) (hz:ps.all PV.cell=true) (hf:off+n<=cs.length) {cs':List PV} (hcs:ZcP cs off ps=cs')
  (k:GoL P ops draw (i+1) L (acc ++ [(ZG (mkS tm ob ng) ⟨d,.store T x y,ty,pos,after,gd⟩,[t])]) (mkS (Zbt d .un tm) ((t,some (g,.box cs'))::ob) ng) K):GoL P ops draw i (⟨d,.store T x y,ty,pos,after,gd⟩::L) acc (mkS tm ob ng) K:=by{
refine ZbM (us:=[(t,some (g,.box cs'))]) hw (.fn ?_) k
obtain ⟨ti,ht,h1,h2⟩:=ZmZ (P:=P) (T:=T) (agg:=agg) (n:=n)
have hb':Zbh (mkS tm ob ng).ob t g=some (.box cs):=hb
have hc:(p.cells.all PV.cell=true/\off+ti.size<=cs.length):=by rw [hps,h2];exact ⟨hz,hf⟩
have hl':p.cells.length=ti.size:=by rw [hps,h2];exact hl
simp only [act,ht,Zai,hx,hy,hb',if_pos hc,if_pos hl']
rw [hps,hcs]}
theorem ZpI {agg:Bool} {n:Nat} [Ld P T agg n] (hw:Zo ops (mkS tm ob ng) ⟨d,.store T x y,ty,pos,after,gd⟩=some true) {t:Nat} {g:Gen} {E q kk off:Nat} {els:List (List PV)} {e:List PV} {p:PV} {ps qs:List PV} {us:List (Nat×Option (Gen×VObj))}
  (hx:evL tm x = .elp t g q kk off) (hb:Zbh (ZI ob) t g=some (.row E kk false els)) (he:els[q]? = some e) (hy:evL tm y=p) (hps:p.cells=ps) (hl:ps.length=n) (hr:ZeZ (ZI ob) ps=some (qs,us)) (hf:off+n<=kk) (hus:us.all (fun q=>q.1 != t)=true)
  (k:GoL P ops draw (i+1) L (acc ++ [(ZG (mkS tm ob ng) ⟨d,.store T x y,ty,pos,after,gd⟩,(us ++ [(t,some (g,VObj.row E kk false (els.set q (ZcP e off qs))))]).map (·.1))]) (mkS (Zbt d .un tm) ((us ++ [(t,some (g,VObj.row E kk false (els.set q (ZcP e off qs))))]).reverse++ob) ng) K) :
  GoL P ops draw i (⟨d,.store T x y,ty,pos,after,gd⟩::L) acc (mkS tm ob ng) K:=by{
refine ZbM hw (.fn ?_) k
obtain ⟨ti,ht,h1,h2⟩:=ZmZ (P:=P) (T:=T) (agg:=agg) (n:=n)
have hb':Zbh (mkS tm ob ng).ob t g=some (.row E kk false els):=hb
have hr':ZeZ (mkS tm ob ng).ob p.cells=some (qs,us):=by rw [hps];exact hr
have hl':p.cells.length=ti.size:=by rw [hps,h2];exact hl
have hc:True/\off+ti.size<=kk/\us.all (fun q=>q.1 != t)=true:=⟨trivial,by rw [h2];exact hf,hus⟩
simp only [act,ht,Zai,hx,hy,hb',hr',he,if_pos hl',if_pos hc]}
omit [WInv P] in
theorem ZqR {f off:Nat} {agg:Bool} {n:Nat} [h:Fld P T f off agg n]:∃ ti,fieldAt P T f=some (off,ti)/\TypeDesc.isAgg ti.desc=agg/\ti.size=n/\¬ ti.size=0:=by{
have:=h.eq
cases hf:fieldAt P T f with
| none=>rw [hf] at this;cases this
| some q=>
  obtain ⟨o,ti⟩:=q
  rw [hf] at this
  simp only [Option.map_some,Option.some.injEq,Prod.mk.injEq] at this
  obtain ⟨rfl,h1,h2⟩:=this
  refine ⟨ti,rfl,h1,h2,fun e=>?_⟩
  have hp:=h.pos
  rw [<- h2,e] at hp
  cases hp}
def ZAd (off:Nat):PV->Option PV | .ptr t g o=>some (.ptr t g (o+off)) | .elp t g i k o=>some (.elp t g i k (o+off)) | .cel cs=>some (.cel (cs.drop off)) | _=>none
theorem ZfO {f off:Nat} {agg:Bool} {n:Nat} [Fld P T f off agg n] (hw:Zo ops (mkS tm ob ng) ⟨d,.fieldAddr T x f,ty,pos,after,gd⟩=some true) {v:PV} (hv:ZAd off (evL tm x)=some v)
  (k:GoL P ops draw (i+1) L (acc ++ [(ZG (mkS tm ob ng) ⟨d,.fieldAddr T x f,ty,pos,after,gd⟩,[])]) (mkS (Zbt d v tm) ob ng) K):GoL P ops draw i (⟨d,.fieldAddr T x f,ty,pos,after,gd⟩::L) acc (mkS tm ob ng) K:=by{
refine ZbM (us:=[]) hw (.fn ?_) k
obtain ⟨ti,h1,h2,h3,h4⟩:=ZqR (P:=P) (T:=T) (f:=f) (off:=off) (agg:=agg) (n:=n)
simp only [act,h1,Zai,if_neg h4]
unfold ZAd at hv
split at hv<;>first | (cases hv;done) | (rename_i he;injection hv with hv;subst hv;simp only [he])}
theorem Zm0 {f off:Nat} {agg:Bool} {n:Nat} [Fld P T f off agg n] (hw:Zo ops (mkS tm ob ng) ⟨d,.field T x f,ty,pos,after,gd⟩=some true) {cs:List PV} {v:PV} (hx:evL tm x = .agg cs) (hv:ZpG agg n (cs.drop off)=some v)
  (k:GoL P ops draw (i+1) L (acc ++ [(ZG (mkS tm ob ng) ⟨d,.field T x f,ty,pos,after,gd⟩,[])]) (mkS (Zbt d v tm) ob ng) K):GoL P ops draw i (⟨d,.field T x f,ty,pos,after,gd⟩::L) acc (mkS tm ob ng) K:=by
 refine ZbM (us:=[]) hw (.fn ?_) k
 obtain ⟨ti,h1,h2,h3,h4⟩:=ZqR (P:=P) (T:=T) (f:=f) (off:=off) (agg:=agg) (n:=n)
 simp only [act,h1,Zai,hx,ZpH h2 h3,hv,Option.map_some]
theorem Zg7 {k:IntKind} {n:Nat}:toNat? (.int k (n:Int))=some n:=by simp [toNat?]
theorem Zdc {E kk by_:Nat} {z:List PV} [Sl P T E kk by_ z] (hw:Zo ops (mkS tm ob ng) ⟨d,.indexAddr T x y,ty,pos,after,gd⟩=some true) {els:List (List PV)} {e:List PV} {kd:IntKind} {n:Nat} (hx:evL tm x = .sl els) (hy:evL tm y = .int kd (n:Int)) (he:els[n]? = some e) (hl:e.length=kk)
  (k:GoL P ops draw (i+1) L (acc ++ [(ZG (mkS tm ob ng) ⟨d,.indexAddr T x y,ty,pos,after,gd⟩,[])]) (mkS (Zbt d (.cel e) tm) ob ng) K):GoL P ops draw i (⟨d,.indexAddr T x y,ty,pos,after,gd⟩::L) acc (mkS tm ob ng) K:=by{
refine ZbM (us:=[]) hw (.fn ?_) k
obtain ⟨s,b,zz,te,h1,h2,h3,_,_,_,_⟩:=Ze6 (P:=P) (T:=T) (E:=E) (k:=kk) (by_:=by_) (z:=z)
have hl':e.length=te.size:=by rw [h3];exact hl
simp only [act,h1,Zai,hx,hy,Zg7,h2,he,if_pos hl']}
theorem ZpJ {E kk by_:Nat} {z:List PV} [Sl P T E kk by_ z] (hw:Zo ops (mkS tm ob ng) ⟨d,.indexAddr T x y,ty,pos,after,gd⟩=some true) {t:Nat} {g:Gen} {E':Nat} {sh:Bool} {els:List (List PV)} {kd:IntKind} {n:Nat} (hx:evL tm x = .row t g) (hb:Zbh (ZI ob) t g=some (.row E' kk sh els)) (hy:evL tm y = .int kd (n:Int)) (hn:n<els.length)
  (k:GoL P ops draw (i+1) L (acc ++ [(ZG (mkS tm ob ng) ⟨d,.indexAddr T x y,ty,pos,after,gd⟩,[])]) (mkS (Zbt d (.elp t g n kk 0) tm) ob ng) K):GoL P ops draw i (⟨d,.indexAddr T x y,ty,pos,after,gd⟩::L) acc (mkS tm ob ng) K:=by{
refine ZbM (us:=[]) hw (.fn ?_) k
obtain ⟨s,b,zz,te,h1,h2,h3,_,_,_,_⟩:=Ze6 (P:=P) (T:=T) (E:=E) (k:=kk) (by_:=by_) (z:=z)
have hb':Zbh (mkS tm ob ng).ob t g=some (.row E' kk sh els):=hb
simp only [act,h1,Zai,hx,hy,Zg7,h2,hb',if_pos (And.intro hn h3.symm)]}
def loV (tm:List (Nat×PV)):Option Operand->Option Nat | none=>some 0 | some l=>toNat? (evL tm l)
def hiV (tm:List (Nat×PV)) (n:Nat):Option Operand->Option Nat | none=>some n | some l=>toNat? (evL tm l)
theorem Zw9 {E kk by_:Nat} {z:List PV} [Sl P T E kk by_ z] {lo hi:Option Operand} (hw:Zo ops (mkS tm ob ng) ⟨d,.slice T x lo hi none,ty,pos,after,gd⟩=some true) {els els':List (List PV)} {l h:Nat} {us:List (Nat×Option (Gen×VObj))} (hx:ZjP (ZI ob) (evL tm x)=some els)
  (hlo:loV tm lo=some l) (hhi:hiV tm els.length hi=some h) (h1:l<=h) (h2:h<=els.length) (h3:(els.all fun e=>e.length == kk)=true) (hus:ZuC (ZI ob) (evL tm x)=us) (hr:(els.drop l).take (h-l)=els')
  (k:GoL P ops draw (i+1) L (acc ++ [(ZG (mkS tm ob ng) ⟨d,.slice T x lo hi none,ty,pos,after,gd⟩,us.map (·.1))]) (mkS (Zbt d (.sl els') tm) (us.reverse++ob) ng) K):GoL P ops draw i (⟨d,.slice T x lo hi none,ty,pos,after,gd⟩::L) acc (mkS tm ob ng) K:=by{
refine ZbM hw (.fn ?_) k
obtain ⟨s,b,zz,te,q1,q2,q3,_,_,_,_⟩:=Ze6 (P:=P) (T:=T) (E:=E) (k:=kk) (by_:=by_) (z:=z)
have hx':ZjP (mkS tm ob ng).ob (evL tm x)=some els:=hx
have hus':ZuC (mkS tm ob ng).ob (evL tm x)=us:=hus
have hc:l<=h/\h<=els.length/\(tyI P E).any (fun te=>els.all fun e=>e.length == te.size)=true:=⟨h1,h2,by rw [q2];simp only [Option.any_some,q3];exact h3⟩
cases lo<;>cases hi<;>simp only [loV,hiV] at hlo hhi<;>simp only [act,q1,Zai,hx']<;>(try rw [hlo])<;>(try rw [hhi])<;>(try (injection hlo with hlo;rw [hlo]))<;>(try (injection hhi with hhi;rw [hhi]))<;>first | (simp only [if_pos hc,hus',hr];done) | (simp only [hus',hr];rw [if_pos ⟨hc.1,Nat.le_refl _,hc.2.2⟩])}
theorem ZyR {E kk by_:Nat} {z:List PV} [Sl P T E kk by_ z] (hw:Zo ops (mkS tm ob ng) ⟨d,.call ⟨.builtin .len,#[x],#[T]⟩,ty,pos,after,gd⟩=some true) {n:Nat} (hx:ZuB (ZI ob) (evL tm x)=some n)
  (k:GoL P ops draw (i+1) L (acc ++ [(ZG (mkS tm ob ng) ⟨d,.call ⟨.builtin .len,#[x],#[T]⟩,ty,pos,after,gd⟩,[])]) (mkS (Zbt d (.int .i64 (n:Int)) tm) ob ng) K):GoL P ops draw i (⟨d,.call ⟨.builtin .len,#[x],#[T]⟩,ty,pos,after,gd⟩::L) acc (mkS tm ob ng) K:=by{
refine ZbM (us:=[]) hw (.fn ?_) k
obtain ⟨s,b,zz,te,q1,q2,q3,_,_,_,_⟩:=Ze6 (P:=P) (T:=T) (E:=E) (k:=kk) (by_:=by_) (z:=z)
have hx':ZuB (mkS tm ob ng).ob (evL tm x)=some n:=hx
simp only [act,Zq1,q1,Zai,hx']}
theorem Zoj {dd:Nat} {E kk by_:Nat} {z:List PV} [Sl P T E kk by_ z] (hw:Zo ops (mkS tm ob ng) ⟨some dd,.call ⟨.builtin .append,#[x,y],#[T,T]⟩,ty,pos,after,gd⟩=some true) {new:List (List PV)} (hx:evL tm x = .nil) (hy:ZjP (ZI ob) (evL tm y)=some new) (hb:new.length * by_<=140737488355328) (hl:new.length<=9223372036854775807) (ha:(new.all fun e=>e.length == kk)=true)
  (k:GoL P ops draw (i+1) L (acc ++ [(ZG (mkS tm ob ng) ⟨some dd,.call ⟨.builtin .append,#[x,y],#[T,T]⟩,ty,pos,after,gd⟩,[dd])]) (mkS ((dd,.row dd (ng,i))::tm) ((dd,some ((ng,i),.row E kk false new))::ob) ng) K) :
  GoL P ops draw i (⟨some dd,.call ⟨.builtin .append,#[x,y],#[T,T]⟩,ty,pos,after,gd⟩::L) acc (mkS tm ob ng) K:=by{
refine ZbM (us:=[(dd,some ((ng,i),.row E kk false new))]) hw (.fn ?_) k
obtain ⟨s,b,zz,te,q1,q2,q3,q4,q5,q6,q7⟩:=Ze6 (P:=P) (T:=T) (E:=E) (k:=kk) (by_:=by_) (z:=z)
have hy':ZjP (mkS tm ob ng).ob (evL tm y)=some new:=hy
have hc:new.length * te.bytes<=140737488355328/\new.length<=9223372036854775807/\0<te.size/\te.zero.length=te.size/\(new.all fun e=>e.length == te.size)=true:=by
 rw [q3,q4,q5]
 exact ⟨hb,hl,q6,q7,ha⟩
simp only [act,ZgG,q1,Zai,hx,hy',q2,if_pos hc,if_true]
rw [q3]
rfl}
theorem ZdG {dd:Nat} {E kk by_:Nat} {z:List PV} [Sl P T E kk by_ z] (hw:Zo ops (mkS tm ob ng) ⟨some dd,.call ⟨.builtin .append,#[x,y],#[T,T]⟩,ty,pos,after,gd⟩=some true) {t:Nat} {g:Gen} {sh:Bool} {els new:List (List PV)} (hx:evL tm x = .row t g) (ho:Zbh (ZI ob) t g=some (.row E kk sh els)) (hy:ZjP (ZI ob) (evL tm y)=some new)
  (hb:(els.length+new.length) * by_<=140737488355328) (hl:els.length+new.length<=9223372036854775807) (ha:(new.all fun e=>e.length == kk)=true)
  (k:GoL P ops draw (i+1) L (acc ++ [(ZG (mkS tm ob ng) ⟨some dd,.call ⟨.builtin .append,#[x,y],#[T,T]⟩,ty,pos,after,gd⟩,[t])]) (mkS ((dd,.row t (ng,i))::tm) ((t,some ((ng,i),.row E kk sh (els++new)))::ob) ng) K) :
  GoL P ops draw i (⟨some dd,.call ⟨.builtin .append,#[x,y],#[T,T]⟩,ty,pos,after,gd⟩::L) acc (mkS tm ob ng) K:=by{
refine ZbM (us:=[(t,some ((ng,i),.row E kk sh (els++new)))]) hw (.fn ?_) k
obtain ⟨s,b,zz,te,q1,q2,q3,q4,q5,q6,q7⟩:=Ze6 (P:=P) (T:=T) (E:=E) (k:=kk) (by_:=by_) (z:=z)
have hy':ZjP (mkS tm ob ng).ob (evL tm y)=some new:=hy
have ho':Zbh (mkS tm ob ng).ob t g=some (.row E kk sh els):=ho
have hc:True/\kk=te.size/\(els.length+new.length) * te.bytes<=140737488355328/\els.length+new.length<=9223372036854775807/\0<te.size/\te.zero.length=te.size/\(new.all fun e=>e.length == te.size)=true:=by
 rw [q3,q4,q5]
 exact ⟨trivial,rfl,hb,hl,q6,q7,ha⟩
simp only [act,ZgG,q1,Zai,hx,hy',ho',q2,if_true]
rw [if_pos ⟨trivial,hc.2⟩]
rfl}
theorem ZjL {dd:Nat} {E kk by_:Nat} {z:List PV} [Sl P T E kk by_ z] {n:Nat} {parts:Array (Nat×Operand)} (hw:Zo ops (mkS tm ob ng) ⟨some dd,.buildSlice T n parts,ty,pos,after,gd⟩=some true) {cs qs:List PV} {els:List (List PV)} {us:List (Nat×Option (Gen×VObj))}
  (hf:Zfv (fun i=>some (i * kk,kk)) (List.replicate n z).flatten (evs tm parts.toList)=some cs) (hr:ZeZ (ZI ob) cs=some (qs,us)) (hl:qs.length=n * kk) (hm:n * kk<=16777216) (hc:chunks kk n qs=els)
  (k:GoL P ops draw (i+1) L (acc ++ [(ZG (mkS tm ob ng) ⟨some dd,.buildSlice T n parts,ty,pos,after,gd⟩,(us ++ [(dd,some ((ng,i),VObj.row E kk false els))]).map (·.1))]) (mkS ((dd,.row dd (ng,i))::tm) ((us ++ [(dd,some ((ng,i),VObj.row E kk false els))]).reverse++ob) ng) K) :
  GoL P ops draw i (⟨some dd,.buildSlice T n parts,ty,pos,after,gd⟩::L) acc (mkS tm ob ng) K:=by{
refine ZbM hw (.fn ?_) k
obtain ⟨s,b,zz,te,q1,q2,q3,q4,q5,q6,q7⟩:=Ze6 (P:=P) (T:=T) (E:=E) (k:=kk) (by_:=by_) (z:=z)
have hr':ZeZ (mkS tm ob ng).ob cs=some (qs,us):=hr
have hcc:qs.length=n * kk/\n * kk<=16777216/\0<kk:=⟨hl,hm,q6⟩
simp only [act,q1,Zai,q2,ZqO,q3,q5,hf,hr',if_pos hcc,hc]
rfl}
theorem ZhP {pl:List (Option (Nat×Nat))} {z:List PV} [h:St P T pl z] {parts:Array (Nat×Operand)} (hw:Zo ops (mkS tm ob ng) ⟨d,.build T parts,ty,pos,after,gd⟩=some true) {cs:List PV} (hf:Zfv (fun i=>(pl[i]?).join) z (evs tm parts.toList)=some cs)
  (k:GoL P ops draw (i+1) L (acc ++ [(ZG (mkS tm ob ng) ⟨d,.build T parts,ty,pos,after,gd⟩,[])]) (mkS (Zbt d (.agg cs) tm) ob ng) K):GoL P ops draw i (⟨d,.build T parts,ty,pos,after,gd⟩::L) acc (mkS tm ob ng) K:=by{
refine ZbM (us:=[]) hw (.fn ?_) k
have:=h.eq
unfold stI at this
split at this
rename_i fs s b zz ht
split at this
rename_i hall
injection this with this
injection this with e1 e2
subst e1 e2
have hpl:(fun i=>(((List.range fs.size).map (ZjO P fs))[i]?).join)=ZjO P fs:=by
 funext i
 rw [List.getElem?_map]
 by_cases hi:i<fs.size
 rw [List.getElem?_range hi];rfl
 rw [List.getElem?_eq_none (by simpa using hi)]
 unfold ZjO
 rw [Array.getElem?_eq_none (by omega)]
 rfl
rw [hpl] at hf
simp only [act,ht,Zai,ZqO,if_pos hall,hf,Option.map_some]
cases this
cases this}
theorem Zjk {kk:Nat} {z:List PV} [h:Az P T kk z] {parts:Array (Nat×Operand)} (hw:Zo ops (mkS tm ob ng) ⟨d,.build T parts,ty,pos,after,gd⟩=some true) {cs:List PV} (hf:Zfv (fun i=>some (i * kk,kk)) z (evs tm parts.toList)=some cs)
  (k:GoL P ops draw (i+1) L (acc ++ [(ZG (mkS tm ob ng) ⟨d,.build T parts,ty,pos,after,gd⟩,[])]) (mkS (Zbt d (.agg cs) tm) ob ng) K):GoL P ops draw i (⟨d,.build T parts,ty,pos,after,gd⟩::L) acc (mkS tm ob ng) K:=by{
refine ZbM (us:=[]) hw (.fn ?_) k
have h1:=h.eq
have h2:=h.zero
unfold arI at h1
split at h1
rename_i len' E' s b zz ht
rw [ht] at h2
simp only [Option.map_some,Option.some.injEq] at h2
subst h2
cases hte:tyI P E' with
| none=>rw [hte] at h1;cases h1
| some te=>
  rw [hte] at h1
  simp only [Option.map_some,Option.some.injEq] at h1
  simp only [act,ht,Zai,ZqO,hte,h1,hf,Option.map_some]
cases h1}
theorem Zin {kx:Nat} (hw:Zo ops (mkS tm ob ng) ⟨d,.extract x kx,ty,pos,after,gd⟩=some true) {vs:List PV} {v:PV} (hx:evL tm x = .tup vs) (hv:vs[kx]? = some v)
  (k:GoL P ops draw (i+1) L (acc ++ [(ZG (mkS tm ob ng) ⟨d,.extract x kx,ty,pos,after,gd⟩,[])]) (mkS (Zbt d v tm) ob ng) K):GoL P ops draw i (⟨d,.extract x kx,ty,pos,after,gd⟩::L) acc (mkS tm ob ng) K:=
 ZbM (us:=[]) hw (.fn (by simp only [act,Zai,hx,hv,Option.map_some])) k
theorem Zc8 {f:FuncId} {es:Array Operand} {ts:Array TypeId} {args:List PV} {us:List (Nat×Option (Gen×VObj))} {res:PV} (hc:Contract P f args none res []) (hw:Zo ops (mkS tm ob ng) ⟨d,.call ⟨.value (.func f),es,ts⟩,ty,pos,after,gd⟩=some true)
  (ha:Ze5 (ZI ob) (es.toList.map (evL tm))=some (args,us))
  (k:GoL P ops draw (i+1) L (acc ++ [(ZG (mkS tm ob ng) ⟨d,.call ⟨.value (.func f),es,ts⟩,ty,pos,after,gd⟩,us.map (·.1))]) (mkS (Zbt d res tm) (us.reverse++ob) ng) K):GoL P ops draw i (⟨d,.call ⟨.value (.func f),es,ts⟩,ty,pos,after,gd⟩::L) acc (mkS tm ob ng) K:=by
 refine Zgp (.call hw rfl (by rw [Zai];exact ha) hc) ?_
 rw [ZbD]
 exact k
theorem ZpK {o:Oper} (hw:Zo ops (mkS tm ob ng) o=some true) {v:Value} {p:PV} (hp:∀ e ∈ o.op.operands,(plain (evL tm e)).isSome=true) (hs:∀ cs b,o.op≠.select cs b) (h:∀ w,(execOp (fun e=>(plain (evL tm e)).getD undef) o).run P w = .ok (.value v) w) (hv:Zd3 v=p)
  (k:GoL P ops draw (i+1) L (acc ++ [(ZG (mkS tm ob ng) o,[])]) (mkS (Zbt o.dst p tm) ob ng) K):GoL P ops draw i (o::L) acc (mkS tm ob ng) K:=by{
subst hv
refine ZbM (us:=[]) hw (.plain (fun e he=>by rw [Zai];exact hp e he) hs fun w=>?_) k
have:cv (mkS tm ob ng)=fun e=>(plain (evL tm e)).getD undef:=by
 funext e
 unfold cv
 rw [Zai]
rw [this]
exact h w}
end
open Go.RowKit
theorem Zm {P:Program} [WInv P] {draw:Bool} {s:FS} {Q:Ex->FS->Prop} {cs:List Code} {id:Nat} {l:List Oper} (h:GoL P l.toArray draw 0 l [] s fun s'=>PWs P cs Q ⟨s'.tm,s'.ob,s'.ng+1⟩):PWs P (.region id l.toArray draw::cs) Q s:=
 Zso h
theorem Zah {P:Program} [WInv P] {Q:Ex->FS->Prop} {cs:List Code} {tm:List (Nat×PV)} {ob:List (Nat×Option (Gen×VObj))} {ng:Nat} {c:Operand} {x y:Code} {t:Bool} (hc:evL tm c = .bool t) (ht:t=true) (h:PWs P (x::cs) Q (mkS tm ob ng)):PWs P (.cond c x y::cs) Q (mkS tm ob ng):=
 Zv4 (by rw [Zai,hc,ht]) h
theorem ZS {P:Program} [WInv P] {Q:Ex->FS->Prop} {cs:List Code} {tm:List (Nat×PV)} {ob:List (Nat×Option (Gen×VObj))} {ng:Nat} {c:Operand} {x y:Code} {t:Bool} (hc:evL tm c = .bool t) (ht:t=false) (h:PWs P (y::cs) Q (mkS tm ob ng)):PWs P (.cond c x y::cs) Q (mkS tm ob ng):=
 Zut (by rw [Zai,hc,ht]) h
theorem Zav {P:Program} [WInv P] {Q:Ex->FS->Prop} {cs:List Code} {tm:List (Nat×PV)} {ob:List (Nat×Option (Gen×VObj))} {ng:Nat} {c:Operand} {x y:Code} {t:Bool} (hc:evL tm c = .bool t) (h1:t=true->PWs P (x::cs) Q (mkS tm ob ng)) (h2:t=false->PWs P (y::cs) Q (mkS tm ob ng)):PWs P (.cond c x y::cs) Q (mkS tm ob ng):=
 Zuu (by rw [Zai,hc]) h1 h2
section
variable {P:Program} [WInv P] {ops:Array Oper} {draw:Bool} {i:Nat} {L:List Oper} {acc:List (List Nat×List Nat)} {K:FS->Prop} {tm:List (Nat×PV)} {ob:List (Nat×Option (Gen×VObj))} {ng:Nat}
 {d:Option Tmp} {ty T T':TypeId} {pos:String} {after:Array Edge} {gd:Option (Nat×Bool)} {x y:Operand}
theorem Zco {op:Op} (hop:op.operands = #[x,y]) (hs:∀ cs b,op≠.select cs b) (hw:Zo ops (mkS tm ob ng) ⟨d,op,ty,pos,after,gd⟩=some true) {p q:PV} {v w:Value} {r:Value} {pv:PV} (hx:evL tm x=p) (hy:evL tm y=q) (hp:plain p=some v) (hq:plain q=some w)
  (h:∀ (ρ:Operand->Value) (W:World),ρ x=v->ρ y=w->(execOp ρ ⟨d,op,ty,pos,after,gd⟩).run P W = .ok (.value r) W) (hv:Zd3 r=pv)
  (k:GoL P ops draw (i+1) L (acc ++ [(ZG (mkS tm ob ng) ⟨d,op,ty,pos,after,gd⟩,[])]) (mkS (Zbt d pv tm) ob ng) K):GoL P ops draw i (⟨d,op,ty,pos,after,gd⟩::L) acc (mkS tm ob ng) K:=by{
refine ZpK hw (fun e he=>?_) hs (fun W=>h _ W (by rw [hx,hp];rfl) (by rw [hy,hq];rfl)) hv k
rw [hop] at he
simp at he
rcases he with rfl | rfl
rw [hx,hp];rfl
rw [hy,hq];rfl}
theorem Zm3 {op:Op} (hop:op.operands = #[x]) (hs:∀ cs b,op≠.select cs b) (hw:Zo ops (mkS tm ob ng) ⟨d,op,ty,pos,after,gd⟩=some true) {p:PV} {v:Value} {r:Value} {pv:PV} (hx:evL tm x=p) (hp:plain p=some v)
  (h:∀ (ρ:Operand->Value) (W:World),ρ x=v->(execOp ρ ⟨d,op,ty,pos,after,gd⟩).run P W = .ok (.value r) W) (hv:Zd3 r=pv)
  (k:GoL P ops draw (i+1) L (acc ++ [(ZG (mkS tm ob ng) ⟨d,op,ty,pos,after,gd⟩,[])]) (mkS (Zbt d pv tm) ob ng) K):GoL P ops draw i (⟨d,op,ty,pos,after,gd⟩::L) acc (mkS tm ob ng) K:=by{
refine ZpK hw (fun e he=>?_) hs (fun W=>h _ W (by rw [hx,hp];rfl)) hv k
rw [hop] at he
simp at he
subst he
rw [hx,hp];rfl}
def Zs5 (op:BinOp) (k:IntKind) (a b:Int):Option Value:=match op with | .add=>some (.int k (k.wrap (a+b))) | .sub=>some (.int k (k.wrap (a-b))) | .mul=>some (.int k (k.wrap (a * b))) | .eql=>some (.bool (decide (a=b))) | .neq=>some (.bool (!decide (a=b))) | .lss=>some (.bool (decide (a<b))) | .leq=>some (.bool (decide (a<=b))) | .gtr=>some (.bool (decide (b<a))) | .geq=>some (.bool (decide (b<=a))) | _=>none
omit [WInv P] in
theorem ZrD {op:BinOp} {k:IntKind} {a b:Int} {r:Value} (h:Zs5 op k a b=some r) (T:TypeId) (ρ:Operand->Value) (W:World) (hx:ρ x = .int k a) (hy:ρ y = .int k b):(execOp ρ ⟨d,.binOp op T x y T',ty,pos,after,gd⟩).run P W = .ok (.value r) W:=by{
unfold Zs5 at h
cases op<;>first
 | (cases h;done)
 | (injection h with h
    subst h
    simp only [execOp,hx,hy,eqGuard,binOp,Op.intArith,Op.intCmp]
    simp
    try rfl)}
theorem ZrE {op:BinOp} (hw:Zo ops (mkS tm ob ng) ⟨d,.binOp op T x y T',ty,pos,after,gd⟩=some true) {k:IntKind} {a b:Int} {r:Value} {pv:PV} (hx:evL tm x = .int k a) (hy:evL tm y = .int k b) (hv:Zs5 op k a b=some r) (hp:Zd3 r=pv)
  (kk:GoL P ops draw (i+1) L (acc ++ [(ZG (mkS tm ob ng) ⟨d,.binOp op T x y T',ty,pos,after,gd⟩,[])]) (mkS (Zbt d pv tm) ob ng) K):GoL P ops draw i (⟨d,.binOp op T x y T',ty,pos,after,gd⟩::L) acc (mkS tm ob ng) K:=
 Zco rfl (fun _ _ h=>by cases h) hw hx hy (v:=.int k a) (w:=.int k b) rfl rfl (fun ρ W h1 h2=>ZrD hv T ρ W h1 h2) hp kk
theorem Zaw (hw:Zo ops (mkS tm ob ng) ⟨d,.binOp .add T x y T',ty,pos,after,gd⟩=some true) {a b:Int} (hx:evL tm x = .int .i64 a) (hy:evL tm y = .int .i64 b) (h1 : -9223372036854775808<=a+b) (h2:a+b<=9223372036854775807)
  (kk:GoL P ops draw (i+1) L (acc ++ [(ZG (mkS tm ob ng) ⟨d,.binOp .add T x y T',ty,pos,after,gd⟩,[])]) (mkS (Zbt d (.int .i64 (a+b)) tm) ob ng) K):GoL P ops draw i (⟨d,.binOp .add T x y T',ty,pos,after,gd⟩::L) acc (mkS tm ob ng) K:=by{
refine ZrE hw hx hy rfl ?_ kk
show PV.int .i64 (IntKind.i64.wrap (a+b))=_
rw [IntKind.wrap_i64]
congr 1
omega}
theorem Zas (hw:Zo ops (mkS tm ob ng) ⟨d,.binOp .sub T x y T',ty,pos,after,gd⟩=some true) {a b:Int} (hx:evL tm x = .int .i64 a) (hy:evL tm y = .int .i64 b) (h1 : -9223372036854775808<=a-b) (h2:a-b<=9223372036854775807)
  (kk:GoL P ops draw (i+1) L (acc ++ [(ZG (mkS tm ob ng) ⟨d,.binOp .sub T x y T',ty,pos,after,gd⟩,[])]) (mkS (Zbt d (.int .i64 (a-b)) tm) ob ng) K):GoL P ops draw i (⟨d,.binOp .sub T x y T',ty,pos,after,gd⟩::L) acc (mkS tm ob ng) K:=by{
refine ZrE hw hx hy rfl ?_ kk
show PV.int .i64 (IntKind.i64.wrap (a-b))=_
rw [IntKind.wrap_i64]
congr 1
omega}
theorem ZyS (hw:Zo ops (mkS tm ob ng) ⟨d,.binOp .add T x y T',ty,pos,after,gd⟩=some true) {a b c:Nat} (hx:evL tm x = .int .i64 (a:Int)) (hy:evL tm y = .int .i64 (b:Int)) (hc:a+b=c) (h2:c<=9223372036854775807)
  (kk:GoL P ops draw (i+1) L (acc ++ [(ZG (mkS tm ob ng) ⟨d,.binOp .add T x y T',ty,pos,after,gd⟩,[])]) (mkS (Zbt d (.int .i64 (c:Int)) tm) ob ng) K):GoL P ops draw i (⟨d,.binOp .add T x y T',ty,pos,after,gd⟩::L) acc (mkS tm ob ng) K:=by{
refine Zaw hw hx hy (by omega) (by omega) ?_
have:(a:Int)+(b:Int)=((c:Nat):Int):=by omega
rw [this]
exact kk}
def Zs6 (op:BinOp) (a b:ByteArray):Option Value:=match op with | .eql=>some (.bool (decide (a=b))) | .neq=>some (.bool (!decide (a=b))) | .lss=>some (.bool (Op.bytesLess a.toList b.toList)) | .leq=>some (.bool (Op.bytesLess a.toList b.toList||decide (a=b))) | .gtr=>some (.bool (!(Op.bytesLess a.toList b.toList||decide (a=b)))) | .geq=>some (.bool (!Op.bytesLess a.toList b.toList)) | _=>none
omit [WInv P] in
theorem ZrF {op:BinOp} {a b:ByteArray} {r:Value} (h:Zs6 op a b=some r) (T:TypeId) (ρ:Operand->Value) (W:World) (hx:ρ x = .string a) (hy:ρ y = .string b):(execOp ρ ⟨d,.binOp op T x y T',ty,pos,after,gd⟩).run P W = .ok (.value r) W:=by{
have e:=ZsX a b
unfold Zs6 at h
cases op<;>first
 | (cases h;done)
 | (injection h with h
    subst h
    simp only [execOp,hx,hy,eqGuard,binOp,Op.stringOp,e]
    simp)}
theorem Zu3 {op:BinOp} (hw:Zo ops (mkS tm ob ng) ⟨d,.binOp op T x y T',ty,pos,after,gd⟩=some true) {a b:ByteArray} {r:Value} {pv:PV} (hx:evL tm x = .str a) (hy:evL tm y = .str b) (hv:Zs6 op a b=some r) (hp:Zd3 r=pv)
  (kk:GoL P ops draw (i+1) L (acc ++ [(ZG (mkS tm ob ng) ⟨d,.binOp op T x y T',ty,pos,after,gd⟩,[])]) (mkS (Zbt d pv tm) ob ng) K):GoL P ops draw i (⟨d,.binOp op T x y T',ty,pos,after,gd⟩::L) acc (mkS tm ob ng) K:=
 Zco rfl (fun _ _ h=>by cases h) hw hx hy (v:=.string a) (w:=.string b) rfl rfl (fun ρ W h1 h2=>ZrF hv T ρ W h1 h2) hp kk
theorem ZzW (hw:Zo ops (mkS tm ob ng) ⟨d,.binOp .add T x y T',ty,pos,after,gd⟩=some true) {a b:ByteArray} (hx:evL tm x = .str a) (hy:evL tm y = .str b) (hl:a.size+b.size<=9223372036854775807)
  (kk:GoL P ops draw (i+1) L (acc ++ [(ZG (mkS tm ob ng) ⟨d,.binOp .add T x y T',ty,pos,after,gd⟩,[])]) (mkS (Zbt d (.str (a++b)) tm) ob ng) K):GoL P ops draw i (⟨d,.binOp .add T x y T',ty,pos,after,gd⟩::L) acc (mkS tm ob ng) K:=by{
refine Zco rfl (fun _ _ h=>by cases h) hw hx hy (v:=.string a) (w:=.string b) (r:=.string (a++b)) rfl rfl (fun ρ W h1 h2=>?_) rfl kk
have:¬ (((a.size+b.size:Nat):Int) > IntKind.i64.max):=by
 have:IntKind.i64.max=9223372036854775807:=rfl
 omega
simp only [execOp,h1,h2,eqGuard,binOp,Op.stringOp,if_neg this]
simp}
theorem Zu4 (hw:Zo ops (mkS tm ob ng) ⟨d,.unOp .not T x,ty,pos,after,gd⟩=some true) {b:Bool} (hx:evL tm x = .bool b)
  (kk:GoL P ops draw (i+1) L (acc ++ [(ZG (mkS tm ob ng) ⟨d,.unOp .not T x,ty,pos,after,gd⟩,[])]) (mkS (Zbt d (.bool (!b)) tm) ob ng) K):GoL P ops draw i (⟨d,.unOp .not T x,ty,pos,after,gd⟩::L) acc (mkS tm ob ng) K:=by
 refine Zm3 rfl (fun _ _ h=>by cases h) hw hx (v:=.bool b) (r:=.bool (!b)) rfl (fun ρ W h1=>?_) rfl kk
 simp [execOp,h1,Op.unary]
class EqT (P:Program) (T:TypeId):Prop where
 guard:P.eqGuardType P.depth T=false
theorem ZeM [h:EqT P T] {op:BinOp} (hop:op = .eql\/op = .neq) (hw:Zo ops (mkS tm ob ng) ⟨d,.binOp op T x y T',ty,pos,after,gd⟩=some true) {cx cy:List PV} {vx vy:List Value} {b:Bool} (hx:evL tm x = .agg cx) (hy:evL tm y = .agg cy) (hpx:Zbc cx=some vx) (hpy:Zbc cy=some vy)
  (hr:∀ W,(binOp op T (.agg vx.toArray) (.agg vy.toArray)).run P W = .ok (.bool b) W)
  (kk:GoL P ops draw (i+1) L (acc ++ [(ZG (mkS tm ob ng) ⟨d,.binOp op T x y T',ty,pos,after,gd⟩,[])]) (mkS (Zbt d (.bool b) tm) ob ng) K):GoL P ops draw i (⟨d,.binOp op T x y T',ty,pos,after,gd⟩::L) acc (mkS tm ob ng) K:=by{
refine Zco rfl (fun _ _ h=>by cases h) hw hx hy (v:=.agg vx.toArray) (w:=.agg vy.toArray) (r:=.bool b) (by simp [plain,hpx]) (by simp [plain,hpy]) (fun ρ W h1 h2=>?_) rfl kk
have hg:(eqGuard op T x y (.agg vx.toArray) (.agg vy.toArray)).run P W = .ok () W:=by
 unfold eqGuard
 rcases hop with rfl | rfl<;>simp [h.guard]
simp only [execOp,h1,h2,Sem.run_bind,hg,Result.andThen_ok,hr]
simp}
theorem ZK (hT:P.underlying T=some .string) (hw:Zo ops (mkS tm ob ng) ⟨d,.call ⟨.builtin .len,#[x],#[T]⟩,ty,pos,after,gd⟩=some true) {a:ByteArray} (hx:evL tm x = .str a)
  (k:GoL P ops draw (i+1) L (acc ++ [(ZG (mkS tm ob ng) ⟨d,.call ⟨.builtin .len,#[x],#[T]⟩,ty,pos,after,gd⟩,[])]) (mkS (Zbt d (.int .i64 (a.size:Int)) tm) ob ng) K):GoL P ops draw i (⟨d,.call ⟨.builtin .len,#[x],#[T]⟩,ty,pos,after,gd⟩::L) acc (mkS tm ob ng) K:=by{
refine Zm3 (x:=x) rfl (fun _ _ h=>by cases h) hw hx (v:=.string a) (r:=.int .i64 (a.size:Int)) rfl (fun ρ W h1=>?_) rfl k
simp [execOp,resolve,invoke,builtin,Builtin.len_,run_underlying hT,goInt]
rw [h1]
simp}
theorem Zm4 (hT:P.underlying T=some .string) (hw:Zo ops (mkS tm ob ng) ⟨d,.index T x y,ty,pos,after,gd⟩=some true) {a:ByteArray} {kd:IntKind} {n:Nat} {c:UInt8} (hx:evL tm x = .str a) (hy:evL tm y = .int kd (n:Int)) (hn:a[n]? = some c)
  (k:GoL P ops draw (i+1) L (acc ++ [(ZG (mkS tm ob ng) ⟨d,.index T x y,ty,pos,after,gd⟩,[])]) (mkS (Zbt d (.int .u8 (c.toNat:Int)) tm) ob ng) K):GoL P ops draw i (⟨d,.index T x y,ty,pos,after,gd⟩::L) acc (mkS tm ob ng) K:=by
 refine Zco rfl (fun _ _ h=>by cases h) hw hx hy (v:=.string a) (w:=.int kd n) (r:=.int .u8 (c.toNat:Int)) rfl rfl (fun ρ W h1 h2=>?_) rfl k
 simp [execOp,Instr.index,asIntOf,h1,h2,run_underlying hT,hn]
theorem Zm5 (hT:P.underlying T=some .string) {lo hi:Option Operand} (hw:Zo ops (mkS tm ob ng) ⟨d,.slice T x lo hi none,ty,pos,after,gd⟩=some true) {a b:ByteArray} {l h:Nat} (hx:evL tm x = .str a) (hlo:loV tm lo=some l) (hhi:hiV tm a.size hi=some h) (h1:l<=h) (h2:h<=a.size) (hb:a.extract l h=b)
  (k:GoL P ops draw (i+1) L (acc ++ [(ZG (mkS tm ob ng) ⟨d,.slice T x lo hi none,ty,pos,after,gd⟩,[])]) (mkS (Zbt d (.str b) tm) ob ng) K):GoL P ops draw i (⟨d,.slice T x lo hi none,ty,pos,after,gd⟩::L) acc (mkS tm ob ng) K:=by{
subst hb
have hn:∀ {e:Operand} {m:Nat},toNat? (evL tm e)=some m->∃ kd,evL tm e = .int kd (m:Int):=fun {e m} h=>by
 unfold toNat? at h
 split at h
 rename_i kd q hq
 split at h
 injection h with h
 exact ⟨kd,by rw [hq];congr 1;omega⟩
 cases h
 cases h
refine ZpK (v:=.string (a.extract l h)) hw (fun e he=>?_) (fun _ _ h=>by cases h) (fun W=>?_) rfl k
simp only [Op.operands] at he
simp at he
rcases he with rfl | he | he
rw [hx];rfl
subst he
obtain ⟨kd,h3⟩:=hn hlo
rw [h3];rfl
subst he
obtain ⟨kd,h3⟩:=hn hhi
rw [h3];rfl
cases lo with
| none=>
  simp only [loV,Option.some.injEq] at hlo
  subst hlo
  cases hi with
  | none=>
    simp only [hiV,Option.some.injEq] at hhi
    subst hhi
    simp [execOp,Instr.sliceAt,Instr.slice,hx,plain,ZiM,run_underlying hT,Instr.sliceBounds]
  | some e=>
    obtain ⟨kd,h3⟩:=hn hhi
    simp [execOp,Instr.sliceAt,Instr.slice,hx,h3,plain,ZiM,run_underlying hT,Instr.sliceBounds,Instr.sliceBound,asIntOf,h2]
| some e'=>
  obtain ⟨kd',h3'⟩:=hn hlo
  cases hi with
  | none=>
    simp only [hiV,Option.some.injEq] at hhi
    subst hhi
    simp [execOp,Instr.sliceAt,Instr.slice,hx,h3',plain,ZiM,run_underlying hT,Instr.sliceBounds,Instr.sliceBound,asIntOf,h1]
  | some e=>
    obtain ⟨kd,h3⟩:=hn hhi
    simp [execOp,Instr.sliceAt,Instr.slice,hx,h3,h3',plain,ZiM,run_underlying hT,Instr.sliceBounds,Instr.sliceBound,asIntOf,h1,h2]}
end
open Go.RowKit
theorem ZbG {P:Program} [WInv P] {Q:Ex->FS->Prop} {cs:List Code} {s s1:FS} (h:Shift s s1) (k:PWs P cs Q s1) (hne:cs≠[]):PWs P cs Q s:=by{
cases cs with
| nil=>exact absurd rfl hne
| cons c cs=>
  obtain ⟨e,s',h1,h2⟩:=k
  exact ⟨e,s',.shift h h1,h2⟩}
theorem Zok {s:FS} {t u:Nat} {E k:Nat} (h:s.tm t = .nil):Shift s ⟨fun x=>if x=t then .row u (s.ng,0) else s.tm x,Zcv s.ob u (some ((s.ng,0),.row E k false [])),s.ng+1⟩:=fun r a x hX=>by
 have hnew:¬ x.G (s.ng,0):=fun hg=>by
  rcases hX.gens _ hg with e | ⟨_,e⟩
  exact absurd e (Nat.lt_irrefl _)
  exact e.elim
 let y:Ctx:=⟨fun g=>x.G g\/g=(s.ng,0),x.F,x.W,fun g=>if g=(s.ng,0) then .slice none 0 0 else x.ρ g⟩
 have st:Step x y:=⟨fun g hg=>⟨.inl hg,if_neg (fun (e:g=(s.ng,0))=>hnew (by rw [<- e];exact hg))⟩,fun _ _ h=>h,fun _ _ _ _ h=>h⟩
 have hρ:y.ρ (s.ng,0) = .slice none 0 0:=if_pos rfl
 refine ⟨y,rfl,hX.defers,hX.size,hX.gr,fun g hg=>.inl ?_,fun t'=>?_,fun t' g o ho=>?_,fun t1 t2 g1 g2 o1 o2 b hne h1 h2 hb=>?_,hX.flt,hX.f0,hX.fnew,fun g hg=>⟨(st.G g (hX.rho g hg).1).1,(st.G g (hX.rho g hg).1).2.trans (hX.rho g hg).2⟩,hX.inv,hX.keep⟩
 rcases hg with hg | rfl
 rcases hX.gens g hg with e | ⟨_,e⟩
 show g.1<s.ng+1;omega
 exact e.elim
 exact Nat.lt_succ_self _
 show Rep y (if t'=t then .row u (s.ng,0) else s.tm t') _
 split
 rename_i e
 subst e
 have hr:=hX.tm t'
 rw [h] at hr
 generalize a.tmps.getD t' undef=v at hr
 cases hr
 exact .row u (s.ng,0) none 0 0 (.inr rfl) hρ
 exact (hX.tm t').step st
 change (if t'=u then some ((s.ng,0),VObj.row E k false []) else s.ob t')=some (g,o) at ho
 split at ho
 injection ho with ho
 injection ho with e1 e2
 subst e1 e2
 exact ⟨.inr rfl,by simp,by simp,[],by rw [hρ];exact World.ownsRow_nil _ _ _ _,fun m p v hp=>by simp at hp,fun b hb=>by rw [hρ] at hb;simp [blk] at hb⟩
 obtain ⟨h3,h4⟩:=hX.ob t' g o ho
 exact ⟨.inl h3,h4.step h3 st fun b _=>⟨rfl,fun _ h=>h⟩⟩
 change (if t1=u then some ((s.ng,0),VObj.row E k false []) else s.ob t1)=some (g1,o1) at h1
 change (if t2=u then some ((s.ng,0),VObj.row E k false []) else s.ob t2)=some (g2,o2) at h2
 split at h1
 injection h1 with h1
 injection h1 with e1 e2
 subst e1
 rw [hρ] at hb
 simp [blk] at hb
 split at h2
 injection h2 with h2
 injection h2 with e1 e2
 subst e1
 rw [hρ]
 simp [blk]
 rw [(st.G g1 (hX.ob t1 g1 o1 h1).1).2] at hb
 rw [(st.G g2 (hX.ob t2 g2 o2 h2).1).2]
 exact hX.apart t1 t2 g1 g2 o1 o2 b hne h1 h2 hb
section
variable {P:Program} [WInv P] {ops:Array Oper} {draw:Bool} {i:Nat} {L:List Oper} {acc:List (List Nat×List Nat)} {K:FS->Prop} {tm:List (Nat×PV)} {ob:List (Nat×Option (Gen×VObj))} {ng:Nat}
 {d:Option Tmp} {ty T T':TypeId} {pos:String} {after:Array Edge} {gd:Option (Nat×Bool)} {x y:Operand}
theorem Zm1 {cs:List Code} {Q:Ex->FS->Prop} (h:PWs P cs Q (mkS tm ob (ng+1))):GoL P ops false i [] acc (mkS tm ob ng) (fun s'=>PWs P cs Q ⟨s'.tm,s'.ob,s'.ng+1⟩):=Zwr (fun h=>by cases h) h
theorem Zm2 {cs:List Code} {Q:Ex->FS->Prop} (hd:Zl1 ops (fun j=>acc[j]?)=true) (h:PWs P cs Q (mkS tm ob (ng+1))):GoL P ops true i [] acc (mkS tm ob ng) (fun s'=>PWs P cs Q ⟨s'.tm,s'.ob,s'.ng+1⟩):=Zwr (fun _=>hd) h
theorem ZaB (hw:Zo ops (mkS tm ob ng) ⟨d,.binOp .add T x (.const (.int .i64 1)) T',ty,pos,after,gd⟩=some true) {a:Nat} (hx:evL tm x = .int .i64 (a:Int)) (h2:a+1<=9223372036854775807)
  (kk:GoL P ops draw (i+1) L (acc ++ [(ZG (mkS tm ob ng) ⟨d,.binOp .add T x (.const (.int .i64 1)) T',ty,pos,after,gd⟩,[])]) (mkS (Zbt d (.int .i64 ((a+1:Nat):Int)) tm) ob ng) K):GoL P ops draw i (⟨d,.binOp .add T x (.const (.int .i64 1)) T',ty,pos,after,gd⟩::L) acc (mkS tm ob ng) K:=
 ZyS (b:=1) hw hx rfl rfl h2 kk
end
open Go.RowKit
section
variable {P:Program} [WInv P] {ops:Array Oper} {draw:Bool} {i:Nat} {L:List Oper} {acc:List (List Nat×List Nat)} {K:FS->Prop} {tm:List (Nat×PV)} {ob:List (Nat×Option (Gen×VObj))} {ng:Nat}
 {d:Option Tmp} {ty:TypeId} {pos:String} {after:Array Edge} {gd:Option (Nat×Bool)} {s:FS}
theorem ZtS {f:FuncId} {es:Array Operand} {ts:Array TypeId} {pre post pre' post':List PV} {t:Nat} {g:Gen} {cs qs obj':List PV} {us1 us2 us3:List (Nat×Option (Gen×VObj))} {res:PV}
  (hc:Contract P f (pre' ++ .ptr pre.length (0,pre.length) 0::post') (some (pre.length,qs)) res obj') (hw:Zo ops (mkS tm ob ng) ⟨d,.call ⟨.value (.func f),es,ts⟩,ty,pos,after,gd⟩=some true)
  (he:es.toList.map (evL tm)=pre ++ .ptr t g 0::post) (hob:Zbh (ZI ob) t g=some (.box cs)) (h1:Ze5 (ZI ob) pre=some (pre',us1)) (h2:ZeZ (ZI ob) cs=some (qs,us2)) (h3:Ze5 (ZI ob) post=some (post',us3))
  (k:GoL P ops draw (i+1) L (acc ++ [(ZG (mkS tm ob ng) ⟨d,.call ⟨.value (.func f),es,ts⟩,ty,pos,after,gd⟩,(us1++(us2++us3) ++ [(t,some (g,VObj.box obj'))]).map (·.1))])
   (mkS (Zbt d res tm) ((us1++(us2++us3) ++ [(t,some (g,VObj.box obj'))]).reverse++ob) ng) K):GoL P ops draw i (⟨d,.call ⟨.value (.func f),es,ts⟩,ty,pos,after,gd⟩::L) acc (mkS tm ob ng) K:=by
 refine Zgp (.callO hw rfl (by rw [Zai];exact he) hob h1 h2 h3 rfl hc) ?_
 rw [ZbD]
 exact k
theorem Zd7 {f:FuncId} {es:Array Operand} {ts:Array TypeId} {post post':List PV} {t:Nat} {g:Gen} {cs qs obj':List PV} {us2 us3:List (Nat×Option (Gen×VObj))} {res:PV}
  (hc:Contract P f (.ptr 0 (0,0) 0::post') (some (0,qs)) res obj') (hw:Zo ops (mkS tm ob ng) ⟨d,.call ⟨.value (.func f),es,ts⟩,ty,pos,after,gd⟩=some true)
  (he:es.toList.map (evL tm) = .ptr t g 0::post) (hob:Zbh (ZI ob) t g=some (.box cs)) (h2:ZeZ (ZI ob) cs=some (qs,us2)) (h3:Ze5 (ZI ob) post=some (post',us3))
  (k:GoL P ops draw (i+1) L (acc ++ [(ZG (mkS tm ob ng) ⟨d,.call ⟨.value (.func f),es,ts⟩,ty,pos,after,gd⟩,(us2++us3 ++ [(t,some (g,VObj.box obj'))]).map (·.1))])
   (mkS (Zbt d res tm) ((us2++us3 ++ [(t,some (g,VObj.box obj'))]).reverse++ob) ng) K):GoL P ops draw i (⟨d,.call ⟨.value (.func f),es,ts⟩,ty,pos,after,gd⟩::L) acc (mkS tm ob ng) K:=
 ZtS (pre:=[]) (pre':=[]) (us1:=[]) hc hw he hob rfl h2 h3 k
def Zz3 (P:Program) (rs:List ResultVar) (res:PV) (j:Nat) (obj':List PV) (e:Ex) (s:FS):Prop:=Zyk P rs res e s/\∃ obj2 us2,s.ob j=some ((0,j),.box obj2)/\ZeZ s.ob obj2=some (obj',us2)
omit [WInv P] in
theorem Zgh {rs:List ResultVar} {res:PV} {j:Nat} {obj' obj2 ps qs:List PV} {us us2:List (Nat×Option (Gen×VObj))} (h1:ZfE P s rs=some ps) (h2:Ze5 s.ob ps=some (qs,us)) (h3:Zfc qs=res)
  (h4:s.ob j=some ((0,j),.box obj2)) (h5:ZeZ s.ob obj2=some (obj',us2)):Zz3 P rs res j obj' .ret s:=⟨Zb8 h1 h2 h3,_,_,h4,h5⟩
theorem Znu (hmix:P.follows .mixedOrders=true) {f:FuncId} {fn:Func} {c:Code} {args:List PV} {j:Nat} {os obj':List PV} {res:PV} (hf:P.funcs[f]? = some fn) (hg:isGo P f=true) (hb:fn.body=some c) (hok:(decide (args.length<=fn.ntmps)&&ZaY fn.ntmps c)=true)
  (h:PWs P [c] (Zz3 P fn.results.toList res j obj') (mkS (ZeN 0 args) [(j,some ((0,j),.box os))] 1)):Contract P f args (some (j,os)) res obj':=by{
simp only [Bool.and_eq_true,decide_eq_true_eq] at hok
obtain ⟨e,s',h1,h2⟩:=Zc3 h
have hsh:Shift (Znw args (some (j,os))) (mkS (ZeN 0 args) [(j,some ((0,j),.box os))] 1):=ZfH (fun t=>by
 rcases Zeu args 0 t with h | ⟨_,h⟩
 exact .inl h
 exact .inr h) (fun t=>by
 by_cases e:t=j
 right
 show (if t=j then _ else _)=(if t=j then _ else _)
 rw [if_pos e,if_pos e]
 left
 show (if t=j then _ else _)=_
 rw [if_neg e];rfl) (Nat.le_refl _)
obtain ⟨h2,obj2,us2,ho1,ho2⟩:=h2
have hobj:∀ j' os',some (j,os)=some (j',os')->s'.ob j'=some ((0,j'),.box obj2)/\ZeZ s'.ob obj2=some (obj',us2):=fun j' os' h=>by
 injection h with h
 injection h with e1 e2
 subst e1
 exact ⟨ho1,ho2⟩
cases e with
| exit id=>exact h2.elim
| normal=>
  obtain ⟨ps,qs,us,h3,h4,h5⟩:=h2
  subst h5
  exact Zf9 hmix hg hf hb hok.1 hok.2 (.shift hsh h1) (.inl rfl) h3 h4 hobj (fun h=>by cases h)
| ret=>
  obtain ⟨ps,qs,us,h3,h4,h5⟩:=h2
  subst h5
  exact Zf9 hmix hg hf hb hok.1 hok.2 (.shift hsh h1) (.inr rfl) h3 h4 hobj (fun h=>by cases h)}
end
open Go.RowKit
section
variable {P:Program} [WInv P] {ops:Array Oper} {draw:Bool} {i:Nat} {L:List Oper} {acc:List (List Nat×List Nat)} {K:FS->Prop} {tm:List (Nat×PV)} {ob:List (Nat×Option (Gen×VObj))} {ng:Nat}
 {d:Option Tmp} {ty T T':TypeId} {pos:String} {after:Array Edge} {gd:Option (Nat×Bool)} {x y:Operand}
theorem Zv1 (hw:Zo ops (mkS tm ob ng) ⟨d,.nilCheck x,ty,pos,after,gd⟩=some true) {t:Nat} {g:Gen} {o:Nat} (hv:evL tm x = .ptr t g o)
  (k:GoL P ops draw (i+1) L (acc ++ [(ZG (mkS tm ob ng) ⟨d,.nilCheck x,ty,pos,after,gd⟩,[])]) (mkS (Zbt d (.ptr t g o) tm) ob ng) K):GoL P ops draw i (⟨d,.nilCheck x,ty,pos,after,gd⟩::L) acc (mkS tm ob ng) K:=
 ZbM (us:=[]) hw (.fn (by simp only [act,Zai,hv])) k
theorem Zz7 (hw:Zo ops (mkS tm ob ng) ⟨d,.binOp .rem T x y T',ty,pos,after,gd⟩=some true) {k:IntKind} {a b:Int} (hx:evL tm x = .int k a) (hy:evL tm y = .int k b) (h0:b≠0)
  (kk:GoL P ops draw (i+1) L (acc ++ [(ZG (mkS tm ob ng) ⟨d,.binOp .rem T x y T',ty,pos,after,gd⟩,[])]) (mkS (Zbt d (.int k (a.tmod b)) tm) ob ng) K):GoL P ops draw i (⟨d,.binOp .rem T x y T',ty,pos,after,gd⟩::L) acc (mkS tm ob ng) K:=by
 refine Zco rfl (fun _ _ h=>by cases h) hw hx hy (v:=.int k a) (w:=.int k b) (r:=.int k (a.tmod b)) rfl rfl (fun ρ W h1 h2=>?_) rfl kk
 simp [execOp,h1,h2,eqGuard,binOp,Op.intDiv,h0]
theorem Zz8 (hw:Zo ops (mkS tm ob ng) ⟨d,.binOp .quo T x y T',ty,pos,after,gd⟩=some true) {k:IntKind} {a b:Int} (hx:evL tm x = .int k a) (hy:evL tm y = .int k b) (h0:b≠0)
  (kk:GoL P ops draw (i+1) L (acc ++ [(ZG (mkS tm ob ng) ⟨d,.binOp .quo T x y T',ty,pos,after,gd⟩,[])]) (mkS (Zbt d (.int k (k.wrap (a.tdiv b))) tm) ob ng) K):GoL P ops draw i (⟨d,.binOp .quo T x y T',ty,pos,after,gd⟩::L) acc (mkS tm ob ng) K:=by
 refine Zco rfl (fun _ _ h=>by cases h) hw hx hy (v:=.int k a) (w:=.int k b) (r:=.int k (k.wrap (a.tdiv b))) rfl rfl (fun ρ W h1 h2=>?_) rfl kk
 simp [execOp,h1,h2,eqGuard,binOp,Op.intDiv,h0]
def Zz9 (op:BinOp) (k:IntKind) (a b:Int):Option Int:=match op with | .and=>some (k.wrap (BitVec.ofInt k.bits a &&& BitVec.ofInt k.bits b).toNat) | .or=>some (k.wrap (BitVec.ofInt k.bits a ||| BitVec.ofInt k.bits b).toNat) | .xor=>some (k.wrap (BitVec.ofInt k.bits a ^^^ BitVec.ofInt k.bits b).toNat) | .andNot=>some (k.wrap (BitVec.ofInt k.bits a &&& ~~~BitVec.ofInt k.bits b).toNat) | _=>none
theorem Zre {op:BinOp} (hw:Zo ops (mkS tm ob ng) ⟨d,.binOp op T x y T',ty,pos,after,gd⟩=some true) {k:IntKind} {a b c:Int} (hx:evL tm x = .int k a) (hy:evL tm y = .int k b) (h0:Zz9 op k a b=some c)
  (kk:GoL P ops draw (i+1) L (acc ++ [(ZG (mkS tm ob ng) ⟨d,.binOp op T x y T',ty,pos,after,gd⟩,[])]) (mkS (Zbt d (.int k c) tm) ob ng) K):GoL P ops draw i (⟨d,.binOp op T x y T',ty,pos,after,gd⟩::L) acc (mkS tm ob ng) K:=by{
refine Zco rfl (fun _ _ h=>by cases h) hw hx hy (v:=.int k a) (w:=.int k b) (r:=.int k c) rfl rfl (fun ρ W h1 h2=>?_) rfl kk
cases op<;>first
 | (cases h0;done)
 | (injection h0 with h0
    subst h0
    simp [execOp,h1,h2,eqGuard,binOp,Op.intBits])}
theorem Zzv (hw:Zo ops (mkS tm ob ng) ⟨d,.binOp .shr T x y T',ty,pos,after,gd⟩=some true) {k k':IntKind} {a b:Int} (hx:evL tm x = .int k a) (hy:evL tm y = .int k' b) (h0:¬ b<0)
  (kk:GoL P ops draw (i+1) L (acc ++ [(ZG (mkS tm ob ng) ⟨d,.binOp .shr T x y T',ty,pos,after,gd⟩,[])]) (mkS (Zbt d (.int k (a.fdiv (2 ^ (min b.toNat k.bits)))) tm) ob ng) K):GoL P ops draw i (⟨d,.binOp .shr T x y T',ty,pos,after,gd⟩::L) acc (mkS tm ob ng) K:=by
 refine Zco rfl (fun _ _ h=>by cases h) hw hx hy (v:=.int k a) (w:=.int k' b) (r:=.int k (a.fdiv (2 ^ (min b.toNat k.bits)))) rfl rfl (fun ρ W h1 h2=>?_) rfl kk
 simp [execOp,h1,h2,eqGuard,binOp,Op.shift,h0]
class Kd (P:Program) (T:TypeId) (k:outParam IntKind):Prop where
 eq:P.underlying T=some (.int k)
theorem Zrf {k k':IntKind} [h':Kd P T' k'] [h:Kd P T k] (hw:Zo ops (mkS tm ob ng) ⟨d,.convert T T' x,ty,pos,after,gd⟩=some true) {a:Int} (hx:evL tm x = .int k a)
  (kk:GoL P ops draw (i+1) L (acc ++ [(ZG (mkS tm ob ng) ⟨d,.convert T T' x,ty,pos,after,gd⟩,[])]) (mkS (Zbt d (.int k' (k'.wrap a)) tm) ob ng) K):GoL P ops draw i (⟨d,.convert T T' x,ty,pos,after,gd⟩::L) acc (mkS tm ob ng) K:=by
 refine Zm3 rfl (fun _ _ h=>by cases h) hw hx (v:=.int k a) (r:=.int k' (k'.wrap a)) rfl (fun ρ W h1=>?_) rfl kk
 simp [execOp,h1,convert,run_underlying h.eq,run_underlying h'.eq,Conv.intToInt]
theorem Zum (hw:Zo ops (mkS tm ob ng) ⟨d,.call ⟨.builtin .min,#[x,y],#[T,T']⟩,ty,pos,after,gd⟩=some true) {k:IntKind} {a b:Int} (hx:evL tm x = .int k a) (hy:evL tm y = .int k b)
  (kk:GoL P ops draw (i+1) L (acc ++ [(ZG (mkS tm ob ng) ⟨d,.call ⟨.builtin .min,#[x,y],#[T,T']⟩,ty,pos,after,gd⟩,[])]) (mkS (Zbt d (.int k (if b<a then b else a)) tm) ob ng) K):GoL P ops draw i (⟨d,.call ⟨.builtin .min,#[x,y],#[T,T']⟩,ty,pos,after,gd⟩::L) acc (mkS tm ob ng) K:=by{
refine Zco (x:=x) (y:=y) rfl (fun _ _ h=>by cases h) hw hx hy (v:=.int k a) (w:=.int k b) (r:=.int k (if b<a then b else a)) rfl rfl (fun ρ W h1 h2=>?_) rfl kk
simp [execOp,resolve,invoke,builtin,Builtin.min_,Builtin.min2]
rw [h1,h2]
rfl}
theorem Zv2 (hw:Zo ops (mkS tm ob ng) ⟨d,.call ⟨.builtin .max,#[x,y],#[T,T']⟩,ty,pos,after,gd⟩=some true) {k:IntKind} {a b:Int} (hx:evL tm x = .int k a) (hy:evL tm y = .int k b)
  (kk:GoL P ops draw (i+1) L (acc ++ [(ZG (mkS tm ob ng) ⟨d,.call ⟨.builtin .max,#[x,y],#[T,T']⟩,ty,pos,after,gd⟩,[])]) (mkS (Zbt d (.int k (if b > a then b else a)) tm) ob ng) K):GoL P ops draw i (⟨d,.call ⟨.builtin .max,#[x,y],#[T,T']⟩,ty,pos,after,gd⟩::L) acc (mkS tm ob ng) K:=by{
refine Zco (x:=x) (y:=y) rfl (fun _ _ h=>by cases h) hw hx hy (v:=.int k a) (w:=.int k b) (r:=.int k (if b > a then b else a)) rfl rfl (fun ρ W h1 h2=>?_) rfl kk
simp [execOp,resolve,invoke,builtin,Builtin.max_,Builtin.max2]
rw [h1,h2]
rfl}
end
open Go.RowKit
def ixI (P:Program) (T:TypeId):Option Nat:=match P.underlying T with
 | some (.array len E)=>match P.underlying E,tyI P E with
   | some de,some te=>if TypeDesc.isAgg de=false/\te.size=1 then some len else none
   | _,_=>none
 | _=>none
class Ix (P:Program) (T:TypeId) (len:outParam Nat):Prop where
 eq:ixI P T=some len
theorem ZfD:∀ {cs:List PV} {vs:List Value} {n:Nat} {p:PV},Zbc cs=some vs->cs[n]? = some p->∃ r,vs[n]? = some r/\Zd3 r=p
 | [],_,n,p,h,hn=>by simp at hn
 | c::cs,vs,n,p,h,hn=>by
   simp only [Zbc] at h
   split at h
   ·rename_i v vs' h1 h2
    injection h with h
    subst h
    cases n with
    | zero=>
      simp only [List.getElem?_cons_zero,Option.some.injEq] at hn
      subst hn
      refine ⟨v,rfl,?_⟩
      cases c<;>first | (cases h1;done) | (injection h1 with h1;subst h1;rfl)
    | succ n=>
      obtain ⟨r,h3,h4⟩:=ZfD h2 (n:=n) (by simpa using hn)
      exact ⟨r,by simpa using h3,h4⟩
   cases h
section
variable {P:Program} [WInv P] {ops:Array Oper} {draw:Bool} {i:Nat} {L:List Oper} {acc:List (List Nat×List Nat)} {K:FS->Prop} {tm:List (Nat×PV)} {ob:List (Nat×Option (Gen×VObj))} {ng:Nat}
 {d:Option Tmp} {ty T T':TypeId} {pos:String} {after:Array Edge} {gd:Option (Nat×Bool)} {x y:Operand}
theorem ZAh {len:Nat} [h:Ix P T len] (hw:Zo ops (mkS tm ob ng) ⟨d,.index T x y,ty,pos,after,gd⟩=some true) {cs:List PV} {vs:List Value} {kd:IntKind} {n:Nat} {pv:PV}
  (hx:evL tm x = .agg cs) (hps:Zbc cs=some vs) (hy:evL tm y = .int kd (n:Int)) (hl:cs.length=len) (hr:cs[n]? = some pv)
  (k:GoL P ops draw (i+1) L (acc ++ [(ZG (mkS tm ob ng) ⟨d,.index T x y,ty,pos,after,gd⟩,[])]) (mkS (Zbt d pv tm) ob ng) K):GoL P ops draw i (⟨d,.index T x y,ty,pos,after,gd⟩::L) acc (mkS tm ob ng) K:=by{
have:=h.eq
unfold ixI at this
split at this
rename_i len' E hu
split at this
rename_i de te hd1 hte
split at this
·rename_i hc
 injection this with this
 subst this
 obtain ⟨inf,_,q1,q2,_,q4,_⟩:=ZR hte
 obtain ⟨r,hr1,hr2⟩:=ZfD hps hr
 have hn:n<len':=by rw [<- hl];exact (List.getElem?_eq_some_iff.1 hr).1
 refine Zco (x:=x) (y:=y) rfl (fun _ _ h=>by cases h) hw hx hy (v:=.agg vs.toArray) (w:=.int kd n) (r:=r) (by simp [plain,hps]) rfl (fun ρ W h3 h4=>?_) hr2 k
 have hag:(isAgg E).run P W = .ok false W:=by
  unfold isAgg
  have hd2:=hc.1
  cases de<;>first | (cases hd2;done) | simp [run_underlying hd1]
 simp [execOp,Instr.index,asIntOf,h3,h4,run_underlying hu,hn,part,hag,sizeOf,typeInfo,q2,q4,hc.2,hr1]
cases this
cases this
cases this}
end
instance:Ld Tryz.prog 3 false 1:=⟨by kernel_rfl⟩
instance:Kd Tryz.prog 3 .i64:=⟨by kernel_rfl⟩
instance:Ze Tryz.prog 4 [.bool false]:=⟨by kernel_rfl⟩
instance:Ld Tryz.prog 4 false 1:=⟨by kernel_rfl⟩
instance:Ld Tryz.prog 5 false 1:=⟨by kernel_rfl⟩
instance:Kd Tryz.prog 5 .u8:=⟨by kernel_rfl⟩
instance:Ld Tryz.prog 9 false 1:=⟨by kernel_rfl⟩
instance:Ld Tryz.prog 21 false 1:=⟨by kernel_rfl⟩
instance:Ld Tryz.prog 22 false 1:=⟨by kernel_rfl⟩
instance:Sl Tryz.prog 22 3 1 8 [.int .i64 0]:=⟨by kernel_rfl,rfl,rfl⟩
instance:Ld Tryz.prog 23 false 1:=⟨by kernel_rfl⟩
instance:Sl Tryz.prog 23 89 3 48 [.int .i64 0,.str ⟨#[]⟩,.nil]:=⟨by kernel_rfl,rfl,rfl⟩
instance:Ld Tryz.prog 24 false 1:=⟨by kernel_rfl⟩
instance:Sl Tryz.prog 24 166 8 96 [.int .i64 0,.str ⟨#[]⟩,.str ⟨#[]⟩,.int .i64 0,.str ⟨#[]⟩,.int .i64 0,.str ⟨#[]⟩,.int .i64 0]:=⟨by kernel_rfl,rfl,rfl⟩
instance:Ld Tryz.prog 25 false 1:=⟨by kernel_rfl⟩
instance:Sl Tryz.prog 25 99 3 40 [.str ⟨#[]⟩,.int .i64 0,.str ⟨#[]⟩]:=⟨by kernel_rfl,rfl,rfl⟩
instance:Ld Tryz.prog 26 false 1:=⟨by kernel_rfl⟩
instance:Sl Tryz.prog 26 113 2 24 [.str ⟨#[]⟩,.int .i64 0]:=⟨by kernel_rfl,rfl,rfl⟩
instance:Ze Tryz.prog 28 [.int .i64 0,.int .i64 0,.nil,.nil,.nil,.int .i64 0,.nil,.nil]:=⟨by kernel_rfl⟩
instance:Ld Tryz.prog 28 true 8:=⟨by kernel_rfl⟩
instance:Fld Tryz.prog 28 0 0 false 1:=⟨by kernel_rfl,rfl⟩
instance:Fld Tryz.prog 28 1 1 false 1:=⟨by kernel_rfl,rfl⟩
instance:Fld Tryz.prog 28 2 2 false 1:=⟨by kernel_rfl,rfl⟩
instance:Fld Tryz.prog 28 3 3 false 1:=⟨by kernel_rfl,rfl⟩
instance:Fld Tryz.prog 28 4 4 false 1:=⟨by kernel_rfl,rfl⟩
instance:Fld Tryz.prog 28 5 5 false 1:=⟨by kernel_rfl,rfl⟩
instance:Fld Tryz.prog 28 6 6 false 1:=⟨by kernel_rfl,rfl⟩
instance:Fld Tryz.prog 28 7 7 false 1:=⟨by kernel_rfl,rfl⟩
instance:St Tryz.prog 28 [some (0,1),some (1,1),some (2,1),some (3,1),some (4,1),some (5,1),some (6,1),some (7,1)] [.int .i64 0,.int .i64 0,.nil,.nil,.nil,.int .i64 0,.nil,.nil]:=⟨by kernel_rfl⟩
instance:Ze Tryz.prog 32 [.nil]:=⟨by kernel_rfl⟩
instance:Ld Tryz.prog 32 false 1:=⟨by kernel_rfl⟩
instance:Sl Tryz.prog 32 9 1 16 [.str ⟨#[]⟩]:=⟨by kernel_rfl,rfl,rfl⟩
instance:Ze Tryz.prog 36 [.int .i64 0,.str ⟨#[]⟩]:=⟨by kernel_rfl⟩
instance:Ld Tryz.prog 36 true 2:=⟨by kernel_rfl⟩
instance:EqT Tryz.prog 36:=⟨by kernel_rfl⟩
instance:Fld Tryz.prog 36 0 0 false 1:=⟨by kernel_rfl,rfl⟩
instance:Fld Tryz.prog 36 1 1 false 1:=⟨by kernel_rfl,rfl⟩
instance:St Tryz.prog 36 [some (0,1),some (1,1)] [.int .i64 0,.str ⟨#[]⟩]:=⟨by kernel_rfl⟩
instance:Sl Tryz.prog 37 36 2 24 [.int .i64 0,.str ⟨#[]⟩]:=⟨by kernel_rfl,rfl,rfl⟩
instance:Ix Tryz.prog 47 3:=⟨by kernel_rfl⟩
instance:Az Tryz.prog 47 1 [.str ⟨#[]⟩,.str ⟨#[]⟩,.str ⟨#[]⟩]:=⟨by kernel_rfl,by kernel_rfl⟩
instance:Ld Tryz.prog 49 false 1:=⟨by kernel_rfl⟩
instance:Sl Tryz.prog 49 108 6 72 [.int .i64 0,.str ⟨#[]⟩,.str ⟨#[]⟩,.str ⟨#[]⟩,.int .i64 0,.int .i64 0]:=⟨by kernel_rfl,rfl,rfl⟩
instance:Ze Tryz.prog 51 [.int .i64 0,.str ⟨#[]⟩,.str ⟨#[]⟩,.int .i64 0,.str ⟨#[]⟩,.int .i64 0,.str ⟨#[]⟩,.str ⟨#[]⟩,.int .i64 0,.nil]:=⟨by kernel_rfl⟩
instance:Ld Tryz.prog 51 true 10:=⟨by kernel_rfl⟩
instance:Fld Tryz.prog 51 0 0 false 1:=⟨by kernel_rfl,rfl⟩
instance:Fld Tryz.prog 51 1 1 false 1:=⟨by kernel_rfl,rfl⟩
instance:Fld Tryz.prog 51 2 2 false 1:=⟨by kernel_rfl,rfl⟩
instance:Fld Tryz.prog 51 3 3 true 2:=⟨by kernel_rfl,rfl⟩
instance:Fld Tryz.prog 51 4 5 true 2:=⟨by kernel_rfl,rfl⟩
instance:Fld Tryz.prog 51 5 7 false 1:=⟨by kernel_rfl,rfl⟩
instance:Fld Tryz.prog 51 6 8 false 1:=⟨by kernel_rfl,rfl⟩
instance:Fld Tryz.prog 51 7 9 false 1:=⟨by kernel_rfl,rfl⟩
instance:St Tryz.prog 51 [some (0,1),some (1,1),some (2,1),some (3,2),some (5,2),some (7,1),some (8,1),some (9,1)] [.int .i64 0,.str ⟨#[]⟩,.str ⟨#[]⟩,.int .i64 0,.str ⟨#[]⟩,.int .i64 0,.str ⟨#[]⟩,.str ⟨#[]⟩,.int .i64 0,.nil]:=⟨by kernel_rfl⟩
instance:Sl Tryz.prog 52 51 10 136 [.int .i64 0,.str ⟨#[]⟩,.str ⟨#[]⟩,.int .i64 0,.str ⟨#[]⟩,.int .i64 0,.str ⟨#[]⟩,.str ⟨#[]⟩,.int .i64 0,.nil]:=⟨by kernel_rfl,rfl,rfl⟩
instance:Sl Tryz.prog 54 60 6 72 [.int .i64 0,.str ⟨#[]⟩,.int .i64 0,.str ⟨#[]⟩,.str ⟨#[]⟩,.int .i64 0]:=⟨by kernel_rfl,rfl,rfl⟩
instance:Ld Tryz.prog 56 false 1:=⟨by kernel_rfl⟩
instance:Sl Tryz.prog 56 102 2 32 [.int .i64 0,.nil]:=⟨by kernel_rfl,rfl,rfl⟩
instance:Ld Tryz.prog 60 true 6:=⟨by kernel_rfl⟩
instance:EqT Tryz.prog 60:=⟨by kernel_rfl⟩
instance:Fld Tryz.prog 60 0 0 true 2:=⟨by kernel_rfl,rfl⟩
instance:Fld Tryz.prog 60 1 2 false 1:=⟨by kernel_rfl,rfl⟩
instance:St Tryz.prog 60 [some (0,2),some (2,1),some (3,1),some (4,1),some (5,1)] [.int .i64 0,.str ⟨#[]⟩,.int .i64 0,.str ⟨#[]⟩,.str ⟨#[]⟩,.int .i64 0]:=⟨by kernel_rfl⟩
instance:Ld Tryz.prog 67 false 1:=⟨by kernel_rfl⟩
instance:Kd Tryz.prog 67 .u64:=⟨by kernel_rfl⟩
instance:Fld Tryz.prog 69 0 0 false 1:=⟨by kernel_rfl,rfl⟩
instance:Fld Tryz.prog 69 1 1 false 1:=⟨by kernel_rfl,rfl⟩
instance:Fld Tryz.prog 69 2 2 false 1:=⟨by kernel_rfl,rfl⟩
instance:St Tryz.prog 69 [some (0,1),some (1,1),some (2,1)] [.nil,.int .i64 0,.int .u64 0]:=⟨by kernel_rfl⟩
instance:Kd Tryz.prog 70 .u64:=⟨by kernel_rfl⟩
instance:Ld Tryz.prog 82 false 1:=⟨by kernel_rfl⟩
instance:Sl Tryz.prog 82 139 2 40 [.str ⟨#[]⟩,.nil]:=⟨by kernel_rfl,rfl,rfl⟩
instance:Ld Tryz.prog 83 false 1:=⟨by kernel_rfl⟩
instance:Sl Tryz.prog 83 135 6 64 [.bool false,.int .i64 0,.str ⟨#[]⟩,.int .i64 0,.int .i64 0,.str ⟨#[]⟩]:=⟨by kernel_rfl,rfl,rfl⟩
instance:Ld Tryz.prog 84 false 1:=⟨by kernel_rfl⟩
instance:Sl Tryz.prog 84 212 5 64 [.bool false,.str ⟨#[]⟩,.int .i64 0,.str ⟨#[]⟩,.str ⟨#[]⟩]:=⟨by kernel_rfl,rfl,rfl⟩
instance:Ze Tryz.prog 86 [.nil,.nil,.nil]:=⟨by kernel_rfl⟩
instance:Ld Tryz.prog 86 true 3:=⟨by kernel_rfl⟩
instance:Fld Tryz.prog 86 0 0 false 1:=⟨by kernel_rfl,rfl⟩
instance:Fld Tryz.prog 86 1 1 false 1:=⟨by kernel_rfl,rfl⟩
instance:Fld Tryz.prog 86 2 2 false 1:=⟨by kernel_rfl,rfl⟩
instance:St Tryz.prog 86 [some (0,1),some (1,1),some (2,1)] [.nil,.nil,.nil]:=⟨by kernel_rfl⟩
instance:Ze Tryz.prog 89 [.int .i64 0,.str ⟨#[]⟩,.nil]:=⟨by kernel_rfl⟩
instance:Ld Tryz.prog 89 true 3:=⟨by kernel_rfl⟩
instance:Fld Tryz.prog 89 0 0 true 2:=⟨by kernel_rfl,rfl⟩
instance:Fld Tryz.prog 89 1 2 false 1:=⟨by kernel_rfl,rfl⟩
instance:St Tryz.prog 89 [some (0,2),some (2,1)] [.int .i64 0,.str ⟨#[]⟩,.nil]:=⟨by kernel_rfl⟩
instance:Ze Tryz.prog 99 [.str ⟨#[]⟩,.int .i64 0,.str ⟨#[]⟩]:=⟨by kernel_rfl⟩
instance:Ld Tryz.prog 99 true 3:=⟨by kernel_rfl⟩
instance:EqT Tryz.prog 99:=⟨by kernel_rfl⟩
instance:Fld Tryz.prog 99 0 0 false 1:=⟨by kernel_rfl,rfl⟩
instance:Fld Tryz.prog 99 1 1 true 2:=⟨by kernel_rfl,rfl⟩
instance:St Tryz.prog 99 [some (0,1),some (1,2)] [.str ⟨#[]⟩,.int .i64 0,.str ⟨#[]⟩]:=⟨by kernel_rfl⟩
instance:Fld Tryz.prog 102 0 0 false 1:=⟨by kernel_rfl,rfl⟩
instance:Fld Tryz.prog 102 1 1 false 1:=⟨by kernel_rfl,rfl⟩
instance:St Tryz.prog 102 [some (0,1),some (1,1)] [.int .i64 0,.nil]:=⟨by kernel_rfl⟩
instance:Ix Tryz.prog 104 8:=⟨by kernel_rfl⟩
instance:Az Tryz.prog 104 1 [.str ⟨#[]⟩,.str ⟨#[]⟩,.str ⟨#[]⟩,.str ⟨#[]⟩,.str ⟨#[]⟩,.str ⟨#[]⟩,.str ⟨#[]⟩,.str ⟨#[]⟩]:=⟨by kernel_rfl,by kernel_rfl⟩
instance:Ix Tryz.prog 105 5:=⟨by kernel_rfl⟩
instance:Az Tryz.prog 105 1 [.str ⟨#[]⟩,.str ⟨#[]⟩,.str ⟨#[]⟩,.str ⟨#[]⟩,.str ⟨#[]⟩]:=⟨by kernel_rfl,by kernel_rfl⟩
instance:Ze Tryz.prog 108 [.int .i64 0,.str ⟨#[]⟩,.str ⟨#[]⟩,.str ⟨#[]⟩,.int .i64 0,.int .i64 0]:=⟨by kernel_rfl⟩
instance:Ld Tryz.prog 108 true 6:=⟨by kernel_rfl⟩
instance:Fld Tryz.prog 108 0 0 false 1:=⟨by kernel_rfl,rfl⟩
instance:Fld Tryz.prog 108 1 1 false 1:=⟨by kernel_rfl,rfl⟩
instance:Fld Tryz.prog 108 2 2 false 1:=⟨by kernel_rfl,rfl⟩
instance:Fld Tryz.prog 108 3 3 false 1:=⟨by kernel_rfl,rfl⟩
instance:Fld Tryz.prog 108 4 4 false 1:=⟨by kernel_rfl,rfl⟩
instance:Fld Tryz.prog 108 5 5 false 1:=⟨by kernel_rfl,rfl⟩
instance:St Tryz.prog 108 [some (0,1),some (1,1),some (2,1),some (3,1),some (4,1),some (5,1)] [.int .i64 0,.str ⟨#[]⟩,.str ⟨#[]⟩,.str ⟨#[]⟩,.int .i64 0,.int .i64 0]:=⟨by kernel_rfl⟩
instance:Ze Tryz.prog 113 [.str ⟨#[]⟩,.int .i64 0]:=⟨by kernel_rfl⟩
instance:Ld Tryz.prog 113 true 2:=⟨by kernel_rfl⟩
instance:Fld Tryz.prog 113 0 0 false 1:=⟨by kernel_rfl,rfl⟩
instance:Fld Tryz.prog 113 1 1 false 1:=⟨by kernel_rfl,rfl⟩
instance:St Tryz.prog 113 [some (0,1),some (1,1)] [.str ⟨#[]⟩,.int .i64 0]:=⟨by kernel_rfl⟩
instance:Sl Tryz.prog 114 117 7 80 [.int .i64 0,.str ⟨#[]⟩,.int .i64 0,.str ⟨#[]⟩,.str ⟨#[]⟩,.int .i64 0,.int .i64 0]:=⟨by kernel_rfl,rfl,rfl⟩
instance:Ze Tryz.prog 117 [.int .i64 0,.str ⟨#[]⟩,.int .i64 0,.str ⟨#[]⟩,.str ⟨#[]⟩,.int .i64 0,.int .i64 0]:=⟨by kernel_rfl⟩
instance:Ld Tryz.prog 117 true 7:=⟨by kernel_rfl⟩
instance:Fld Tryz.prog 117 0 0 true 6:=⟨by kernel_rfl,rfl⟩
instance:Fld Tryz.prog 117 1 6 false 1:=⟨by kernel_rfl,rfl⟩
instance:St Tryz.prog 117 [some (0,6),some (6,1)] [.int .i64 0,.str ⟨#[]⟩,.int .i64 0,.str ⟨#[]⟩,.str ⟨#[]⟩,.int .i64 0,.int .i64 0]:=⟨by kernel_rfl⟩
instance:Sl Tryz.prog 130 133 3 32 [.int .i64 0,.int .i64 0,.str ⟨#[]⟩]:=⟨by kernel_rfl,rfl,rfl⟩
instance:Ze Tryz.prog 133 [.int .i64 0,.int .i64 0,.str ⟨#[]⟩]:=⟨by kernel_rfl⟩
instance:Ld Tryz.prog 133 true 3:=⟨by kernel_rfl⟩
instance:Fld Tryz.prog 133 0 0 false 1:=⟨by kernel_rfl,rfl⟩
instance:Fld Tryz.prog 133 1 1 true 2:=⟨by kernel_rfl,rfl⟩
instance:St Tryz.prog 133 [some (0,1),some (1,2)] [.int .i64 0,.int .i64 0,.str ⟨#[]⟩]:=⟨by kernel_rfl⟩
instance:Ze Tryz.prog 135 [.bool false,.int .i64 0,.str ⟨#[]⟩,.int .i64 0,.int .i64 0,.str ⟨#[]⟩]:=⟨by kernel_rfl⟩
instance:Ld Tryz.prog 135 true 6:=⟨by kernel_rfl⟩
instance:Fld Tryz.prog 135 0 0 false 1:=⟨by kernel_rfl,rfl⟩
instance:Fld Tryz.prog 135 1 1 false 1:=⟨by kernel_rfl,rfl⟩
instance:Fld Tryz.prog 135 2 2 false 1:=⟨by kernel_rfl,rfl⟩
instance:Fld Tryz.prog 135 3 3 true 3:=⟨by kernel_rfl,rfl⟩
instance:St Tryz.prog 135 [some (0,1),some (1,1),some (2,1),some (3,3)] [.bool false,.int .i64 0,.str ⟨#[]⟩,.int .i64 0,.int .i64 0,.str ⟨#[]⟩]:=⟨by kernel_rfl⟩
instance:Ze Tryz.prog 139 [.str ⟨#[]⟩,.nil]:=⟨by kernel_rfl⟩
instance:Ld Tryz.prog 139 true 2:=⟨by kernel_rfl⟩
instance:Fld Tryz.prog 139 0 0 false 1:=⟨by kernel_rfl,rfl⟩
instance:Fld Tryz.prog 139 1 1 false 1:=⟨by kernel_rfl,rfl⟩
instance:St Tryz.prog 139 [some (0,1),some (1,1)] [.str ⟨#[]⟩,.nil]:=⟨by kernel_rfl⟩
instance:Fld Tryz.prog 145 0 0 false 1:=⟨by kernel_rfl,rfl⟩
instance:Fld Tryz.prog 145 1 1 false 1:=⟨by kernel_rfl,rfl⟩
instance:Fld Tryz.prog 145 2 2 false 1:=⟨by kernel_rfl,rfl⟩
instance:Fld Tryz.prog 145 3 3 false 1:=⟨by kernel_rfl,rfl⟩
instance:St Tryz.prog 145 [some (0,1),some (1,1),some (2,1),some (3,1)] [.nil,.nil,.nil,.nil]:=⟨by kernel_rfl⟩
instance:Sl Tryz.prog 147 149 1 24 [.nil]:=⟨by kernel_rfl,rfl,rfl⟩
instance:Ld Tryz.prog 149 false 1:=⟨by kernel_rfl⟩
instance:Sl Tryz.prog 149 21 1 4 [.int .i32 0]:=⟨by kernel_rfl,rfl,rfl⟩
instance:Sl Tryz.prog 155 22 1 24 [.nil]:=⟨by kernel_rfl,rfl,rfl⟩
instance:Sl Tryz.prog 157 160 7 80 [.int .i64 0,.int .i64 0,.str ⟨#[]⟩,.int .i64 0,.str ⟨#[]⟩,.str ⟨#[]⟩,.int .i64 0]:=⟨by kernel_rfl,rfl,rfl⟩
instance:Ze Tryz.prog 160 [.int .i64 0,.int .i64 0,.str ⟨#[]⟩,.int .i64 0,.str ⟨#[]⟩,.str ⟨#[]⟩,.int .i64 0]:=⟨by kernel_rfl⟩
instance:Ld Tryz.prog 160 true 7:=⟨by kernel_rfl⟩
instance:Fld Tryz.prog 160 0 0 false 1:=⟨by kernel_rfl,rfl⟩
instance:Fld Tryz.prog 160 1 1 true 6:=⟨by kernel_rfl,rfl⟩
instance:St Tryz.prog 160 [some (0,1),some (1,6)] [.int .i64 0,.int .i64 0,.str ⟨#[]⟩,.int .i64 0,.str ⟨#[]⟩,.str ⟨#[]⟩,.int .i64 0]:=⟨by kernel_rfl⟩
instance:Ix Tryz.prog 162 28:=⟨by kernel_rfl⟩
instance:Az Tryz.prog 162 1 [.str ⟨#[]⟩,.str ⟨#[]⟩,.str ⟨#[]⟩,.str ⟨#[]⟩,.str ⟨#[]⟩,.str ⟨#[]⟩,.str ⟨#[]⟩,.str ⟨#[]⟩,.str ⟨#[]⟩,.str ⟨#[]⟩,.str ⟨#[]⟩,.str ⟨#[]⟩,.str ⟨#[]⟩,.str ⟨#[]⟩,.str ⟨#[]⟩,.str ⟨#[]⟩,.str ⟨#[]⟩,.str ⟨#[]⟩,.str ⟨#[]⟩,.str ⟨#[]⟩,.str ⟨#[]⟩,.str ⟨#[]⟩,.str ⟨#[]⟩,.str ⟨#[]⟩,.str ⟨#[]⟩,.str ⟨#[]⟩,.str ⟨#[]⟩,.str ⟨#[]⟩]:=⟨by kernel_rfl,by kernel_rfl⟩
instance:Ze Tryz.prog 166 [.int .i64 0,.str ⟨#[]⟩,.str ⟨#[]⟩,.int .i64 0,.str ⟨#[]⟩,.int .i64 0,.str ⟨#[]⟩,.int .i64 0]:=⟨by kernel_rfl⟩
instance:Ld Tryz.prog 166 true 8:=⟨by kernel_rfl⟩
instance:Fld Tryz.prog 166 0 0 false 1:=⟨by kernel_rfl,rfl⟩
instance:Fld Tryz.prog 166 1 1 false 1:=⟨by kernel_rfl,rfl⟩
instance:Fld Tryz.prog 166 2 2 false 1:=⟨by kernel_rfl,rfl⟩
instance:Fld Tryz.prog 166 3 3 true 2:=⟨by kernel_rfl,rfl⟩
instance:Fld Tryz.prog 166 4 5 false 1:=⟨by kernel_rfl,rfl⟩
instance:Fld Tryz.prog 166 5 6 false 1:=⟨by kernel_rfl,rfl⟩
instance:Fld Tryz.prog 166 6 7 false 1:=⟨by kernel_rfl,rfl⟩
instance:St Tryz.prog 166 [some (0,1),some (1,1),some (2,1),some (3,2),some (5,1),some (6,1),some (7,1)] [.int .i64 0,.str ⟨#[]⟩,.str ⟨#[]⟩,.int .i64 0,.str ⟨#[]⟩,.int .i64 0,.str ⟨#[]⟩,.int .i64 0]:=⟨by kernel_rfl⟩
instance:Ix Tryz.prog 203 14:=⟨by kernel_rfl⟩
instance:Az Tryz.prog 203 1 [.int .i64 0,.int .i64 0,.int .i64 0,.int .i64 0,.int .i64 0,.int .i64 0,.int .i64 0,.int .i64 0,.int .i64 0,.int .i64 0,.int .i64 0,.int .i64 0,.int .i64 0,.int .i64 0]:=⟨by kernel_rfl,by kernel_rfl⟩
instance:Ze Tryz.prog 212 [.bool false,.str ⟨#[]⟩,.int .i64 0,.str ⟨#[]⟩,.str ⟨#[]⟩]:=⟨by kernel_rfl⟩
instance:Ld Tryz.prog 212 true 5:=⟨by kernel_rfl⟩
instance:Fld Tryz.prog 212 1 1 false 1:=⟨by kernel_rfl,rfl⟩
instance:Fld Tryz.prog 212 2 2 true 2:=⟨by kernel_rfl,rfl⟩
instance:Fld Tryz.prog 212 3 4 false 1:=⟨by kernel_rfl,rfl⟩
instance:St Tryz.prog 212 [some (0,1),some (1,1),some (2,2),some (4,1)] [.bool false,.str ⟨#[]⟩,.int .i64 0,.str ⟨#[]⟩,.str ⟨#[]⟩]:=⟨by kernel_rfl⟩
instance:Sl Tryz.prog 230 5 1 1 [.int .u8 0]:=⟨by kernel_rfl,rfl,rfl⟩
instance:WInv Tryz.prog:=⟨fun W=>(∃ m,W.cell? ⟨1,0,none⟩=some (.int .i64 m))/\W.cell? ⟨0,0,none⟩=some (.int .i64 5)/\W.cell? ⟨0,1,none⟩=some (.string ⟨#[80,111,108,105,99,121]⟩)⟩
theorem mix:Tryz.prog.follows .mixedOrders=true:=by kernel_rfl
end VL
section
open Go.RowKit
structure Revision where
 number:Int
 user:ByteArray
 note:ByteArray
 text:ByteArray
 minute:Int
 seq:Int
 deriving DecidableEq
structure Stored where
 title:Title
 history:List Revision
 deriving DecidableEq
structure Proposal where
 id:Int
 user:ByteArray
 note:ByteArray
 title:Title
 base:Int
 text:ByteArray
 minute:Int
 deriving DecidableEq
structure Watch where
 user:ByteArray
 title:Title
 deriving DecidableEq
structure Last where
 user:ByteArray
 seq:Int
 deriving DecidableEq
structure State where
 seq:Int
 clock:Int
 pages:List Stored
 gone:List Stored
 proposals:List Proposal
 proposed:Int
 watches:List Watch
 lasts:List Last
 deriving DecidableEq
structure Change where
 kind:Int
 user:ByteArray
 note:ByteArray
 title:Title
 to:Title
 text:ByteArray
 n:Int
 history:List Revision
 deriving DecidableEq
structure Scope where
 kind:Int
 title:Title
 deriving DecidableEq
structure Rule where
 allow:Bool
 right:Int
 group:ByteArray
 scope:Scope
 deriving DecidableEq
structure Guard where
 strict:Bool
 group:ByteArray
 title:Title
 section_:ByteArray
 deriving DecidableEq
structure Group where
 name:ByteArray
 members:List ByteArray
 deriving DecidableEq
structure Policy where
 groups:List Group
 rules:List Rule
 guards:List Guard
 deriving DecidableEq
end
section
open VL
def Title.cs (x:Title):List PV:=[.int .i64 x.space,.str x.name]
def Title.pv (x:Title):PV:=.agg x.cs
def Revision.cs (x:Revision):List PV:=[.int .i64 x.number,.str x.user,.str x.note,.str x.text,.int .i64 x.minute,.int .i64 x.seq]
def Revision.pv (x:Revision):PV:=.agg x.cs
def Stored.cs (x:Stored):List PV:=[.int .i64 x.title.space,.str x.title.name,.sl (x.history.map Revision.cs)]
def Stored.pv (x:Stored):PV:=.agg x.cs
def Proposal.cs (x:Proposal):List PV:=[.int .i64 x.id,.str x.user,.str x.note,.int .i64 x.title.space,.str x.title.name,.int .i64 x.base,.str x.text,.int .i64 x.minute]
def Watch.cs (x:Watch):List PV:=[.str x.user,.int .i64 x.title.space,.str x.title.name]
def Watch.pv (x:Watch):PV:=.agg x.cs
def Last.cs (x:Last):List PV:=[.str x.user,.int .i64 x.seq]
def State.cs (x:State):List PV:=[.int .i64 x.seq,.int .i64 x.clock,.sl (x.pages.map Stored.cs),.sl (x.gone.map Stored.cs),.sl (x.proposals.map Proposal.cs),.int .i64 x.proposed,.sl (x.watches.map Watch.cs),.sl (x.lasts.map Last.cs)]
def State.pv (x:State):PV:=.agg x.cs
def Change.cs (x:Change):List PV:=[.int .i64 x.kind,.str x.user,.str x.note,.int .i64 x.title.space,.str x.title.name,.int .i64 x.to.space,.str x.to.name,.str x.text,.int .i64 x.n,.sl (x.history.map Revision.cs)]
def Change.pv (x:Change):PV:=.agg x.cs
def Scope.cs (x:Scope):List PV:=[.int .i64 x.kind,.int .i64 x.title.space,.str x.title.name]
def Scope.pv (x:Scope):PV:=.agg x.cs
def Rule.cs (x:Rule):List PV:=[.bool x.allow,.int .i64 x.right,.str x.group,.int .i64 x.scope.kind,.int .i64 x.scope.title.space,.str x.scope.title.name]
def Rule.pv (x:Rule):PV:=.agg x.cs
def Guard.cs (x:Guard):List PV:=[.bool x.strict,.str x.group,.int .i64 x.title.space,.str x.title.name,.str x.section_]
def Guard.pv (x:Guard):PV:=.agg x.cs
def Group.cs (x:Group):List PV:=[.str x.name,.sl (x.members.map fun y=>[.str y])]
def Group.pv (x:Group):PV:=.agg x.cs
def Policy.cs (x:Policy):List PV:=[.sl (x.groups.map Group.cs),.sl (x.rules.map Rule.cs),.sl (x.guards.map Guard.cs)]
def Policy.pv (x:Policy):PV:=.agg x.cs
abbrev Zpf (l:List ByteArray):PV:=.sl (l.map fun y=>[.str y])
end
section
open Go.RowKit
theorem ZcM (a b:Title) (W:World):(binOp .eql 36 (.agg #[.int .i64 a.space,.string a.name]) (.agg #[.int .i64 b.space,.string b.name])).run Tryz.prog W = .ok (.bool (decide (a=b))) W:=by{
have e:(if a.space=b.space then if a.name.toList=b.name.toList then true else false else false)=(decide (a=b)):=by
 obtain ⟨a1,a2⟩:=a
 obtain ⟨b1,b2⟩:=b
 simp only [Title.mk.injEq,ZbX]
 (repeat' split)<;>simp_all
rw [<- e]
go_simp
(repeat' split)<;>simp_all}
theorem ZeX (a b:Title) (W:World):(binOp .neq 36 (.agg #[.int .i64 a.space,.string a.name]) (.agg #[.int .i64 b.space,.string b.name])).run Tryz.prog W = .ok (.bool (!decide (a=b))) W:=by{
have e:(if a.space=b.space then if a.name.toList=b.name.toList then false else true else true)=(!decide (a=b)):=by
 obtain ⟨a1,a2⟩:=a
 obtain ⟨b1,b2⟩:=b
 simp only [Title.mk.injEq,ZbX]
 (repeat' split)<;>simp_all
rw [<- e]
go_simp
(repeat' split)<;>simp_all}
theorem Zvi (a b:Watch) (W:World):(binOp .eql 99 (.agg #[.string a.user,.int .i64 a.title.space,.string a.title.name]) (.agg #[.string b.user,.int .i64 b.title.space,.string b.title.name])).run Tryz.prog W = .ok (.bool (decide (a=b))) W:=by{
have e:(if a.user.toList=b.user.toList then if a.title.space=b.title.space then if a.title.name.toList=b.title.name.toList then true else false else false else false)=(decide (a=b)):=by
 obtain ⟨a1,⟨a2,a3⟩⟩:=a
 obtain ⟨b1,⟨b2,b3⟩⟩:=b
 simp only [Title.mk.injEq,Watch.mk.injEq,ZbX]
 (repeat' split)<;>simp_all
rw [<- e]
go_simp
(repeat' split)<;>simp_all}
end
namespace VL
open Go.RowKit
section
variable {P:Program} [WInv P]
theorem Zxv {c:Code} {s s':FS} {e:Ex} {Q:Ex->FS->Prop} (h:RunC P c s e s') (hq:Q e s'):PWs P [c] Q s:=⟨e,s',h,by cases e<;>exact hq⟩
def Ztq {α:Type} (St:α->Nat->FS) (J:α->Prop) (Q:Ex->FS->Prop):Ex->FS->Prop | .normal,s=>∃ a ng,J a/\Shift s (St a ng) | e,s=>Q e s
theorem Zax {α:Type} {c c2:Code} {cs:List Code} {Q:Ex->FS->Prop} {s:FS} (St:α->Nat->FS) (J:α->Prop) (h:PWs P [c] (Ztq St J Q) s) (k:∀ a ng,J a->PWs P (c2::cs) Q (St a ng)):PWs P (c::c2::cs) Q s:=by{
refine Zqy (Zc3 h) fun e s' h=>?_
cases e with
| normal=>
  obtain ⟨a,ng,h1,h2⟩:=h
  exact ZbG h2 (k a ng h1) (by simp)
| exit id=>exact h
| ret=>exact h}
theorem Zao {α:Type} {St:α->Nat->FS} {J:α->Prop} {Q:Ex->FS->Prop} {s:FS} (a:α) (ng:Nat) (h1:J a) (h3:Shift s (St a ng)):Ztq St J Q .normal s:=⟨a,ng,h1,h3⟩
end
open Go.RowKit
def toG (σ:List (Gen×Gen)) (g:Gen):Option Gen:=if g.1=0 then some g else (σ.find? fun q=>q.1 == g).map (·.2)
def ZqY (σ:List (Gen×Gen)):PV->Option PV | .ptr t g o=>(toG σ g).map fun g=>.ptr t g o | .elp t g i k o=>(toG σ g).map fun g=>.elp t g i k o | .row t g=>(toG σ g).map fun g=>.row t g | .suf t g i k=>(toG σ g).map fun g=>.suf t g i k | .mp t g=>(toG σ g).map fun g=>.mp t g | .agg _=>none | .tup _=>none | .fn _ _=>none | p=>some p
def ZoB (σ:List (Gen×Gen)):List PV->Option (List PV)
 | []=>some []
 | p::ps=>match ZqY σ p,ZoB σ ps with
   | some q,some qs=>some (q::qs)
   | _,_=>none
def ren (σ:List (Gen×Gen)):PV->Option PV | .agg ps=>(ZoB σ ps).map .agg | p=>ZqY σ p
def Zvm (σ:List (Gen×Gen)):List (List PV)->Option (List (List PV))
 | []=>some []
 | e::es=>match ZoB σ e,Zvm σ es with
   | some q,some qs=>some (q::qs)
   | _,_=>none
def ZnX (σ:List (Gen×Gen)):Option (Gen×VObj)->Option (Gen×VObj)
 | some (g,.box cs)=>match toG σ g,ZoB σ cs with
   | some g,some cs=>some (g,.box cs)
   | _,_=>none
 | some (g,.row E k sh els)=>(toG σ g).map fun g=>(g,.row E k sh els)
 | some (g,.prow E k els)=>match toG σ g,Zvm σ els with
   | some g,some els=>some (g,.prow E k els)
   | _,_=>none
 | some (g,.mp ents)=>(toG σ g).map fun g=>(g,.mp ents)
 | some (g,.qrow E k els)=>(toG σ g).map fun g=>(g,.qrow E k els)
 | none=>none
def Zj3 (σ:List (Gen×Gen)) (x:Ctx):Ctx:=⟨fun g'=>∃ g,toG σ g'=some g/\x.G g,x.F,x.W,fun g'=>x.ρ ((toG σ g').getD g')⟩
section
variable {σ:List (Gen×Gen)} {x:Ctx}
theorem Ziy {p q:PV} {v:Value} (h:ZqY σ p=some q) (hr:Rep x q v):Rep (Zj3 σ x) p v:=by{
cases p with
| ptr t g' o=>
  simp only [ZqY,Option.map_eq_some_iff] at h
  obtain ⟨g,h1,rfl⟩:=h
  cases hr with
  | ptr _ _ _ b hG hb=>exact .ptr _ _ _ b ⟨g,h1,hG⟩ (by simp only [Zj3,h1];exact hb)
| elp t g' i k o=>
  simp only [ZqY,Option.map_eq_some_iff] at h
  obtain ⟨g,h1,rfl⟩:=h
  cases hr with
  | elp _ _ _ _ _ b hG hb=>exact .elp _ _ _ _ _ b ⟨g,h1,hG⟩ (by simp only [Zj3,h1];exact hb)
| row t g'=>
  simp only [ZqY,Option.map_eq_some_iff] at h
  obtain ⟨g,h1,rfl⟩:=h
  cases hr with
  | row _ _ A n c hG hv=>exact .row _ _ A n c ⟨g,h1,hG⟩ (by simp only [Zj3,h1];exact hv)
| suf t g' i k=>
  simp only [ZqY,Option.map_eq_some_iff] at h
  obtain ⟨g,h1,rfl⟩:=h
  cases hr with
  | suf _ _ _ _ A A' n c c' hG hv h3 h4 h5=>exact .suf _ _ _ _ A A' n c c' ⟨g,h1,hG⟩ (by simp only [Zj3,h1];exact hv) h3 h4 h5
| mp t g'=>
  simp only [ZqY,Option.map_eq_some_iff] at h
  obtain ⟨g,h1,rfl⟩:=h
  cases hr with
  | mp _ _ b hG hv=>exact .mp _ _ b ⟨g,h1,hG⟩ (by simp only [Zj3,h1];exact hv)
| agg ps=>cases h
| tup ps=>cases h
| fn f ps=>cases h
| un=>exact .un _
| nil=>
  injection h with h
  subst h
  cases hr
  exact .nil
| cel cs=>
  injection h with h
  subst h
  cases hr with
  | cel _ b off f hcell hh=>exact .cel cs b off f hcell fun j p hp=>(hh j p hp).pure_mono (hcell j p hp).1 (fun _ _ h=>h) (fun _ _ _ _ h=>h)
| bool b=>injection h with h;subst h;exact hr.pure_mono rfl (fun _ _ h=>h) (fun _ _ _ _ h=>h)
| int k n=>injection h with h;subst h;exact hr.pure_mono rfl (fun _ _ h=>h) (fun _ _ _ _ h=>h)
| str s=>injection h with h;subst h;exact hr.pure_mono rfl (fun _ _ h=>h) (fun _ _ _ _ h=>h)
| sl els=>injection h with h;subst h;exact hr.pure_mono rfl (fun _ _ h=>h) (fun _ _ _ _ h=>h)}
theorem ZoC {p q:PV} (h:ZqY σ p=some q) (hq:q.cell=true):p.cell=true:=by{
cases p with
| ptr t g' o=>rfl
| row t g'=>rfl
| agg ps=>cases h
| tup ps=>cases h
| fn f ps=>cases h
| elp t g' i k o=>
  simp only [ZqY,Option.map_eq_some_iff] at h
  obtain ⟨g,h1,rfl⟩:=h
  cases hq
| suf t g' i k=>
  simp only [ZqY,Option.map_eq_some_iff] at h
  obtain ⟨g,h1,rfl⟩:=h
  cases hq
| mp t g'=>
  simp only [ZqY,Option.map_eq_some_iff] at h
  obtain ⟨g,h1,rfl⟩:=h
  cases hq
| un=>injection h with h;subst h;exact hq
| nil=>rfl
| cel cs=>injection h with h;subst h;exact hq
| bool b=>rfl
| int k n=>rfl
| str s=>rfl
| sl els=>rfl}
theorem Zez:∀ {ps qs:List PV},ZoB σ ps=some qs->ps.length=qs.length/\∀ (i:Nat) (p:PV),ps[i]? = some p->∃ q,qs[i]? = some q/\ZqY σ p=some q
 | [],qs,h=>by
   injection h with h
   subst h
   exact ⟨rfl,fun i p hp=>by simp at hp⟩
 | p::ps,qs,h=>by
   simp only [ZoB] at h
   split at h
   rename_i q qs' h1 h2
   injection h with h
   subst h
   obtain ⟨h3,h4⟩:=Zez h2
   refine ⟨by simp [h3],fun i p' hp=>?_⟩
   cases i with
   | zero=>
     simp only [List.getElem?_cons_zero,Option.some.injEq] at hp
     subst hp
     exact ⟨q,rfl,h1⟩
   | succ i=>
     simp only [List.getElem?_cons_succ] at hp ⊢
     exact h4 i p' hp
   cases h
theorem Zk3:∀ {a b qa qb:List PV},ZoB σ a=some qa->ZoB σ b=some qb->ZoB σ (a++b)=some (qa++qb)
 | [],b,qa,qb,h,h'=>by injection h with h;subst h;exact h'
 | p::ps,b,qa,qb,h,h'=>by
   simp only [ZoB] at h
   split at h
   rename_i q qs h1 h2
   injection h with h
   subst h
   simp only [List.cons_append,ZoB,h1,Zk3 h2 h']
   cases h
theorem Zmi:∀ {es qs:List (List PV)},Zvm σ es=some qs->es.length=qs.length/\ZoB σ es.flatten=some qs.flatten/\∀ (i:Nat) (e:List PV),es[i]? = some e->∃ q,qs[i]? = some q/\ZoB σ e=some q
 | [],qs,h=>by
   injection h with h
   subst h
   exact ⟨rfl,rfl,fun i p hp=>by simp at hp⟩
 | e::es,qs,h=>by
   simp only [Zvm] at h
   split at h
   rename_i q qs' h1 h2
   injection h with h
   subst h
   obtain ⟨h3,h4,h5⟩:=Zmi h2
   refine ⟨by simp [h3],?_,fun i p' hp=>?_⟩
   rw [List.flatten_cons,List.flatten_cons]
   exact Zk3 h1 h4
   cases i with
   | zero=>
     simp only [List.getElem?_cons_zero,Option.some.injEq] at hp
     subst hp
     exact ⟨q,rfl,h1⟩
   | succ i=>
     simp only [List.getElem?_cons_succ] at hp ⊢
     exact h5 i p' hp
   cases h
theorem Ztf {p q:PV} {v:Value} (h:ren σ p=some q) (hr:Rep x q v):Rep (Zj3 σ x) p v:=by{
cases p with
| agg ps=>
  simp only [ren,Option.map_eq_some_iff] at h
  obtain ⟨qs,h1,rfl⟩:=h
  obtain ⟨h2,h3⟩:=Zez h1
  cases hr with
  | agg _ cs hl hh=>
    refine .agg ps cs (h2.trans hl) fun i p v hp hv=>?_
    obtain ⟨q,hq,hpq⟩:=h3 i p hp
    exact Ziy hpq (hh i q v hq hv)
| _=>exact Ziy h hr}
theorem Zhf {B:Nat} {D:Nat->Prop} {g' g:Gen} {o' o:VObj} (h:ZnX σ (some (g',o'))=some (g,o)) (hr:x.G g/\ObRep x B D g o):toG σ g'=some g/\(Zj3 σ x).G g'/\ObRep (Zj3 σ x) B D g' o':=by{
cases o' with
| box cs'=>
  simp only [ZnX] at h
  split at h
  rename_i g1 cs h1 h2
  injection h with h
  injection h with e1 e2
  subst e1 e2
  refine ⟨h1,⟨_,h1,hr.1⟩,?_⟩
  obtain ⟨b,T,vs,q1,q2,q3,q4,q5,q6⟩:=hr.2
  obtain ⟨h3,h4⟩:=Zez h2
  refine ⟨b,T,vs,by simp only [Zj3,h1];exact q1,q2,h3.trans q3,fun p hp=>?_,fun j p v hp hv=>?_,q6⟩
  obtain ⟨i,hi⟩:=List.getElem?_of_mem hp
  obtain ⟨q,hq,hpq⟩:=h4 i p hi
  exact ZoC hpq (q4 q (List.mem_of_getElem? hq))
  obtain ⟨q,hq,hpq⟩:=h4 j p hp
  exact Ziy hpq (q5 j q v hq hv)
  cases h
| row E k sh els=>
  simp only [ZnX,Option.map_eq_some_iff] at h
  obtain ⟨g1,h1,h2⟩:=h
  injection h2 with e1 e2
  subst e1 e2
  refine ⟨h1,⟨_,h1,hr.1⟩,?_⟩
  obtain ⟨q1,q2,vs,q3,q4,q5⟩:=hr.2
  have hρ:(Zj3 σ x).ρ g'=x.ρ g1:=by simp only [Zj3,h1];rfl
  refine ⟨q1,q2,vs,by rw [hρ];exact q3,fun m p v hp hv=>(q4 m p v hp hv).pure_mono ?_ (fun _ _ h=>h) (fun _ _ _ _ h=>h),by rw [hρ];exact q5⟩
  obtain ⟨e,he,hpe⟩:=List.mem_flatten.1 (List.mem_of_getElem? hp)
  exact q2 e he p hpe
| prow E k els'=>
  simp only [ZnX] at h
  split at h
  rename_i g1 els h1 h2
  injection h with h
  injection h with e1 e2
  subst e1 e2
  refine ⟨h1,⟨_,h1,hr.1⟩,?_⟩
  obtain ⟨q1,q2,vs,q3,q4,q5⟩:=hr.2
  obtain ⟨h3,h4,h5⟩:=Zmi h2
  have hρ:(Zj3 σ x).ρ g'=x.ρ g1:=by simp only [Zj3,h1];rfl
  refine ⟨fun e he=>?_,fun e he p hp=>?_,vs,by rw [hρ,h3];exact q3,fun m p v hp hv=>?_,by rw [hρ];exact q5⟩
  obtain ⟨i,hi⟩:=List.getElem?_of_mem he
  obtain ⟨q,hq,hpq⟩:=h5 i e hi
  rw [(Zez hpq).1]
  exact q1 q (List.mem_of_getElem? hq)
  obtain ⟨i,hi⟩:=List.getElem?_of_mem he
  obtain ⟨q,hq,hpq⟩:=h5 i e hi
  obtain ⟨j,hj⟩:=List.getElem?_of_mem hp
  obtain ⟨r,hr1,hr2⟩:=(Zez hpq).2 j p hj
  exact ZoC hr2 (q2 q (List.mem_of_getElem? hq) r (List.mem_of_getElem? hr1))
  obtain ⟨r,hr1,hr2⟩:=(Zez h4).2 m p hp
  exact Ziy hr2 (q4 m r v hr1 hv)
  cases h
| mp ents=>
  simp only [ZnX,Option.map_eq_some_iff] at h
  obtain ⟨g1,h1,h2⟩:=h
  injection h2 with e1 e2
  subst e1 e2
  obtain ⟨b,es,clock,q1,q2,q3,q4,q5,q6⟩:=hr.2
  exact ⟨h1,⟨_,h1,hr.1⟩,b,es,clock,by simp only [Zj3,h1];exact q1,q2,q3,q4,q5,q6⟩
| qrow E k els=>
  simp only [ZnX,Option.map_eq_some_iff] at h
  obtain ⟨g1,h1,h2⟩:=h
  injection h2 with e1 e2
  subst e1 e2
  obtain ⟨q1,q2,b,off,cap,cur,q3,q4,q5,q6,q7,q8,q9⟩:=hr.2
  refine ⟨h1,⟨_,h1,hr.1⟩,q1,q2,b,off,cap,cur,by simp only [Zj3,h1];exact q3,q4,q5,q6,q7,fun i j e p he hp=>?_,q9⟩
  obtain ⟨f1,v,f2,f3⟩:=q8 i j e p he hp
  exact ⟨f1,v,f2,f3.pure_mono (q2 e (List.mem_of_getElem? he) p (List.mem_of_getElem? hp)) (fun _ _ h=>h) (fun _ _ _ _ h=>h)⟩}
end
def Ztg (σ:List (Gen×Gen)) (tm:List (Nat×PV)):List (Nat×PV)->Prop | []=>True | (k,v)::r=>ren σ v=some (look tm k)/\Ztg σ tm r
def ZpU (σ:List (Gen×Gen)) (ob:List (Nat×Option (Gen×VObj))):List (Nat×Option (Gen×VObj))->Prop | []=>True | (k,v)::r=>(ZnX σ v=ZI ob k/\(ZnX σ v).isSome=true)/\ZpU σ ob r
theorem Zu (σ:List (Gen×Gen)) {tm tm':List (Nat×PV)} {ob ob':List (Nat×Option (Gen×VObj))} {ng ng':Nat} (h1:Ztg σ tm tm') (h2:ZpU σ ob ob') (h3:(decide (0<ng')&&σ.all fun q=>decide (q.1.1<ng'))=true):Shift (mkS tm ob ng) (mkS tm' ob' ng'):=fun r a x h=>by
 simp only [Bool.and_eq_true,decide_eq_true_eq,List.all_eq_true] at h3
 have k1:∀ (l:List (Nat×PV)),Ztg σ tm l->∀ t,look l t = .un\/ren σ (look l t)=some (look tm t):=fun l=>by
  induction l with
  | nil=>intro _ t;exact .inl rfl
  | cons q l ih=>
    obtain ⟨k,v⟩:=q
    intro hl t
    show (if t=k then v else look l t)=_\/ren σ (if t=k then v else look l t)=_
    split
    rename_i e;subst e;exact .inr hl.1
    exact ih hl.2 t
 have k2:∀ (l:List (Nat×Option (Gen×VObj))),ZpU σ ob l->∀ t,ZI l t=none\/(ZnX σ (ZI l t)=ZI ob t/\(ZnX σ (ZI l t)).isSome=true):=fun l=>by
  induction l with
  | nil=>intro _ t;exact .inl rfl
  | cons q l ih=>
    obtain ⟨k,v⟩:=q
    intro hl t
    show (if t=k then v else ZI l t)=_\/(ZnX σ (if t=k then v else ZI l t)=_/\(ZnX σ (if t=k then v else ZI l t)).isSome=true)
    split
    rename_i e;subst e;exact .inr hl.1
    exact ih hl.2 t
 have k3:∀ t g' o',ZI ob' t=some (g',o')->∃ g o,ZI ob t=some (g,o)/\ZnX σ (some (g',o'))=some (g,o):=fun t g' o' ho=>by
  rcases k2 ob' h2 t with e | ⟨e1,e2⟩
  rw [e] at ho;cases ho
  rw [ho] at e1 e2
  obtain ⟨⟨g,o⟩,hw⟩:=Option.isSome_iff_exists.1 e2
  exact ⟨g,o,by rw [<- e1,hw],hw⟩
 refine ⟨Zj3 σ x,rfl,h.defers,h.size,h.gr,fun g' hg'=>.inl ?_,fun t=>?_,fun t g' o' ho=>?_,fun t t' g g' o o' b hne e1 e2 hb=>?_,h.flt,h.f0,h.fnew,fun g hg=>?_,h.inv,h.keep⟩
 obtain ⟨g,hg,_⟩:=hg'
 unfold toG at hg
 show g'.1<ng'
 split at hg
 rename_i e;omega
 simp only [Option.map_eq_some_iff] at hg
 obtain ⟨q,hq,_⟩:=hg
 have hm:=List.mem_of_find?_eq_some hq
 have he:=List.find?_some hq
 simp only [beq_iff_eq] at he
 rw [<- he]
 exact h3.2 q hm
 rcases k1 tm' h1 t with e | e
 show Rep _ (look tm' t) _
 rw [e];exact .un _
 exact Ztf e (h.tm t)
 obtain ⟨g,o,e1,e2⟩:=k3 t g' o' ho
 exact (Zhf e2 (h.ob t g o e1)).2
 obtain ⟨g1,o1,q1,q2⟩:=k3 t g o e1
 obtain ⟨g2,o2,q3,q4⟩:=k3 t' g' o' e2
 have r1:=(Zhf q2 (h.ob t g1 o1 q1)).1
 have r2:=(Zhf q4 (h.ob t' g2 o2 q3)).1
 simp only [Zj3,r1,Option.getD_some] at hb
 simp only [Zj3,r2,Option.getD_some]
 exact h.apart t t' g1 g2 o1 o2 b hne q1 q3 hb
 have h0:=h.inv.2 g hg
 have:toG σ g=some g:=by unfold toG;rw [if_pos h0]
 exact ⟨⟨g,this,(h.rho g hg).1⟩,by simp only [Zj3,this,Option.getD_some];exact (h.rho g hg).2⟩
theorem Zam (σ:List (Gen×Gen)) {tm tm':List (Nat×PV)} {ob ob':List (Nat×Option (Gen×VObj))} {ng ng':Nat} (t E k:Nat) (h0:look tm t = .nil) (h1:Ztg (((1,t),(ng,0))::σ) ((t,.row t (ng,0))::tm) tm') (h2:ZpU (((1,t),(ng,0))::σ) ((t,some ((ng,0),.row E k false []))::ob) ob')
  (h3:(decide (0<ng')&&(((1,t),(ng,0))::σ).all fun q=>decide (q.1.1<ng'))=true):Shift (mkS tm ob ng) (mkS tm' ob' ng'):=
 Shift.trans (Zok (t:=t) (u:=t) (E:=E) (k:=k) h0) (Zu (tm:=(t,.row t (ng,0))::tm) (ob:=(t,some ((ng,0),.row E k false []))::ob) _ h1 h2 h3)
open Go.RowKit
def Zgi (o:VObj) (d:Nat) (g:Gen):PV:=match o with | .box _=>.ptr d g 0 | .row _ _ _ _=>.row d g | .prow _ _ _=>.row d g | .mp _=>.mp d g | .qrow _ _ _=>.row d g
def VObj.clean (o:VObj):Prop:=(∀ cs,o = .box cs->cs.all PV.pure=true)/\∀ E k els,o≠.prow E k els
structure ContractN (P:Program) [WInv P] (f:FuncId) (args:List PV) (o:VObj):Prop where
 isGo:VL.isGo P f=true
 pure:o.clean
 calls:∀ (x:Ctx) (vs:Array Value),Pre x args none vs->(∀ W',Gr (fun _=>False) x.W W'->WInv.I P W')->Calls P f vs x.W fun e W'=>
  ∃ y v,y.W=W'/\e = .returned v/\Step x y/\Gr (fun _=>False) x.W y.W/\(∀ b o,y.F b o->x.F b o\/x.W.heap.size<=b)/\(∀ b o,y.F b o->b<y.W.heap.size)/\∃ g,y.ρ g=v/\ObRep y x.W.heap.size (fun _=>False) g o
section
variable {P:Program} [WInv P] {r:Run} {ops:Array Oper} {o:Oper} {i:Nat} {s s':FS}
omit [WInv P] in
theorem Zds {f:Operand} {es:Array Operand} {ts:Array TypeId} (ho:o.op = .call { callee:=.value f,args:=es,argTypes:=ts }) (h:Agree ops o s s') :
  es.toList.map (ev s')=es.toList.map (ev s)/\(∀ p ∈ es.toList.map (ev s),∀ t ∈ ZmJ s.ob p,s.ob t=s'.ob t)/\ev s' f=ev s f/\∀ t ∈ ZmJ s.ob (ev s f),s.ob t=s'.ob t:=by{
have hm:∀ e ∈ es.toList,e ∈ o.op.operands:=fun e he=>by rw [ho];simp [Op.operands,Call.operands];exact .inr (by simpa using he)
have hf:f ∈ o.op.operands:=by rw [ho];simp [Op.operands,Call.operands]
refine ⟨(List.map_congr_left fun e he=>h.ev e (hm e he)).symm,fun p hp t ht=>?_,(h.ev f hf).symm,fun t ht=>h.key hf (by rw [ho];rfl) (by rw [ho];rfl) t (by rw [show dep o.op=4 by rw [ho];rfl];exact ht)⟩
obtain ⟨e,he,rfl⟩:=List.mem_map.1 hp
exact h.key (hm e he) (by rw [ho];rfl) (by rw [ho];rfl) t (by rw [show dep o.op=4 by rw [ho];rfl];exact ht)}
omit [WInv P] in
theorem ObRep.newOf {x y:Ctx} {B B':Nat} {D:Nat->Prop} {g g':Gen} {ob:VObj} (h:ObRep x B (fun _=>False) g ob) (hρ:y.ρ g'=x.ρ g) (hF:y.F=x.F) (hW:y.W=x.W) (hB:B'<=B) (hp:ob.clean):ObRep y B' D g' ob:=by{
have hr:∀ (p:PV) (v:Value),p.pure=true->Rep x p v->Rep y p v:=fun p v hp h=>h.pure_mono hp (fun _ _ h=>by rw [hF];exact h) (fun _ _ _ _ h=>by rw [hW];exact h)
cases ob with
| box cs=>
  obtain ⟨b,T,vs,h1,h2,h3,h4,h5,h6,h7⟩:=h
  refine ⟨b,T,vs,hρ.trans h1,by rw [hW];exact h2,h3,h4,fun j p w hj hw=>hr p w (List.all_eq_true.1 (hp.1 cs rfl) p (List.mem_of_getElem? hj)) (h5 j p w hj hw),.inl (Nat.le_trans hB (h6.resolve_right fun e=>e)),fun o=>by rw [hF];exact h7 o⟩
| row E k sh els=>
  obtain ⟨h1,h2,vs,h3,h4,h5⟩:=h
  refine ⟨h1,h2,vs,?_,fun m p w hj hw=>?_,fun b hb=>⟨.inl (Nat.le_trans hB ((h5 b (by rw [<- hρ];exact hb)).1.resolve_right fun e=>e)),fun o ho=>(h5 b (by rw [<- hρ];exact hb)).2 o (by rw [<- hF];exact ho)⟩⟩
  rw [hW,hρ]
  exact h3
  obtain ⟨e,he,hpe⟩:=List.mem_flatten.1 (List.mem_of_getElem? hj)
  exact hr p w (h2 e he p hpe) (h4 m p w hj hw)
| prow E k els=>exact absurd rfl (hp.2 E k els)
| mp ents=>
  obtain ⟨b,es,clock,h1,h2,h3,h4,h5,h6⟩:=h
  exact ⟨b,es,clock,hρ.trans h1,by rw [hW];exact h2,h3,h4,.inl (Nat.le_trans hB (h5.resolve_right fun e=>e)),fun o=>by rw [hF];exact h6 o⟩
| qrow E k els=>
  obtain ⟨h1,h2,b,off,cap,cur,h3,h4,h5,h6,h7,h8,h9,h10⟩:=h
  refine ⟨h1,h2,b,off,cap,cur,hρ.trans h3,by rw [hW];exact h4,h5,h6,h7,fun i j e p he hp=>?_,.inl (Nat.le_trans hB (h9.resolve_right fun e=>e)),by rw [hF];exact h10⟩
  obtain ⟨f1,v,f2,f3⟩:=h8 i j e p he hp
  exact ⟨by rw [hF];exact f1,v,by rw [hW];exact f2,hr p v (h2 e (List.mem_of_getElem? he) p (List.mem_of_getElem? hp)) f3⟩}
omit [WInv P] in
theorem ZmD {y:Ctx} {B:Nat} {D:Nat->Prop} {g:Gen} {ob:VObj} {d:Nat} {v:Value} (h:ObRep y B D g ob) (hG:y.G g) (hv:y.ρ g=v):Rep y (Zgi ob d g) v:=by{
cases ob with
| box cs=>
  obtain ⟨b,T,vs,h1,_⟩:=h
  rw [<- hv,h1]
  exact .ptr _ _ _ b hG (by rw [h1];rfl)
| row E k sh els=>
  obtain ⟨_,_,vs,h3,_⟩:=h
  obtain ⟨A,c,e,_⟩:=ZdN h3
  rw [<- hv,e]
  exact .row _ _ _ _ _ hG e
| prow E k els=>
  obtain ⟨_,_,vs,h3,_⟩:=h
  obtain ⟨A,c,e,_⟩:=ZdN h3
  rw [<- hv,e]
  exact .row _ _ _ _ _ hG e
| mp ents=>
  obtain ⟨b,es,clock,h1,_⟩:=h
  rw [<- hv,h1]
  exact .mp _ _ b hG h1
| qrow E k els=>
  obtain ⟨_,_,b,off,cap,cur,h3,_⟩:=h
  rw [<- hv,h3]
  exact .row _ _ _ _ _ hG h3}
theorem Zv3 {f:FuncId} {es:Array Operand} {ts:Array TypeId} {args:List PV} {us:List (Nat×Option (Gen×VObj))} {dd:Nat} {ob:VObj} (ho:o.op = .call { callee:=.value (.func f),args:=es,argTypes:=ts })
  (ha:Ze5 s.ob (es.toList.map (ev s))=some (args,us)) (hc:ContractN P f args ob) (hI:r.I=WInv.I P):OpOK P r o i s ⟨Zgi ob dd (s.ng,i),us ++ [(dd,some ((s.ng,i),ob))]⟩:=by{
intro S a x Q hX hi hd
obtain ⟨F1,st1,hX1,hR1,_⟩:=ZbW _ (Flip.refl s.ob) hX (g:=fun j=>(es.map a.eval).getD j undef) ha (fun j p hp=>by
 rw [List.getElem?_map] at hp
 cases he:es.toList[j]? with
 | none=>rw [he] at hp;simp at hp
 | some e=>
   rw [he] at hp
   simp only [Option.map_some,Option.some.injEq] at hp
   subst hp
   have hea:es[j]? = some e:=by simpa using he
   have:(es.map a.eval).getD j undef=a.eval e:=by simp [hea]
   rw [this]
   exact Zae hX e)
let z:Ctx:=⟨fun _=>False,F1,x.W,x.ρ⟩
have hlen:args.length=es.size:=by rw [ZeQ _ ha];simp
have hpre:Pre z args none (es.map a.eval):=by
 refine ⟨by simpa using hlen,fun j p v hp hv=>?_,fun j os h=>by simp at h,fun g hg=>hg.elim,fun b o hb=>hX1.flt b o hb⟩
 obtain ⟨h1,h2⟩:=hR1 j p hp
 rw [Array.getD_eq_getD_getElem?,hv] at h2
 exact h2.clean_mono h1 (fun _ _ h=>h) (fun _ _ _ _ h=>h)
have hcalls:=hc.calls z _ hpre fun W' hW=>by
 rw [<- hI]
 exact hX.inv.1 W' (hX.gr.trans' hW.os hW.tape hW.output hW.size fun b hb _=>hW.block b (Nat.lt_of_lt_of_le hb hX.gr.size) fun h=>h)
unfold Oper.wp
rw [Zew ho hc.isGo,Oper.upon_enter]
refine hcalls.mono ?_
rintro e W' ⟨y,v,rfl,rfl,hst,hgr,hfn,hfl,g0,hv,hob⟩
have hnew:¬ x.G (s.ng,i):=fun hg=>by
 rcases hX.gens _ hg with e | ⟨_,e⟩
 exact absurd e (Nat.lt_irrefl _)
 exact hi e
let y':Ctx:=⟨fun g=>x.G g\/g=(s.ng,i),y.F,y.W,fun g=>if g=(s.ng,i) then v else x.ρ g⟩
have hρ:y'.ρ (s.ng,i)=v:=if_pos rfl
have k:Step { x with F:=F1 } y':=⟨fun g hg=>⟨.inl hg,if_neg (fun (e:g=(s.ng,i))=>hnew (by rw [<- e];exact hg))⟩,fun b o hb=>hst.F b o hb,fun b o v hb hv=>hst.W b o v hb hv⟩
have hob':∀ {B:Nat} {D:Nat->Prop},B<=x.W.heap.size->ObRep y' B D (s.ng,i) ob:=fun hB=>hob.newOf (hρ.trans hv.symm) rfl rfl hB hc.pure
refine ⟨y',rfl,?_⟩
rw [Zih]
refine hX1.change k hd hgr.os hgr.tape hgr.output hgr.size (fun b hb _=>hgr.block b hb (fun e=>e)) hfn hfl (fun g hg=>?_) (.inr rfl) (hob' hX1.gr.size) (fun b hb=>.inl ?_) (ZmD (hob' (Nat.le_refl _) (D:=fun _=>False)) (.inr rfl) hρ)
rcases hg with hg | rfl
exact (hX.gens g hg).imp id fun ⟨e,f⟩=>⟨e,.inl f⟩
exact .inr ⟨rfl,.inr rfl⟩
exact (((hob' (Nat.le_refl _) (D:=fun _=>False)).lt b hb).2).resolve_right fun e=>e}
theorem Zun {f:FuncId} {es:Array Operand} {ts:Array TypeId} {args:List PV} {us:List (Nat×Option (Gen×VObj))} {dd:Nat} {ob:VObj} (hw:Zo ops s o=some true) (ho:o.op = .call { callee:=.value (.func f),args:=es,argTypes:=ts })
  (ha:Ze5 s.ob (es.toList.map (ev s))=some (args,us)) (hc:ContractN P f args ob):OpR P ops i o s ⟨Zgi ob dd (s.ng,i),us ++ [(dd,some ((s.ng,i),ob))]⟩:=.any hw fun s' r hA hI=>by
 obtain ⟨e1,e2,_⟩:=Zds ho hA
 rw [hA.ng]
 refine Zv3 ho ?_ hc hI
 rw [e1,<- ha]
 exact (ZcC fun p hp t ht=>e2 p hp t (ZeC ht)).symm
def Zuo (f:Nat->Option (Gen×VObj)):VObj->Option (VObj×List (Nat×Option (Gen×VObj))) | .box cs=>(ZeZ f cs).map fun (qs,us)=>(.box qs,us) | .row E k false els=>some (.row E k false els,[]) | .row _ _ true _=>none | .prow _ _ _=>none | .mp ents=>some (.mp ents,[]) | .qrow _ _ _=>none
theorem Zj0 (hmix:P.follows .mixedOrders=true) {f:FuncId} {fn:Func} {c:Code} {args:List PV} {e:Ex} {s1:FS} {t:Nat} {g:Gen} {o2 ob:VObj} {us:List (Nat×Option (Gen×VObj))}
  (hg:isGo P f=true) (hf:P.funcs[f]? = some fn) (hb:fn.body=some c) (hn:args.length<=fn.ntmps) (hok:ZaY fn.ntmps c=true) (hrun:RunC P c (Znw args none) e s1) (he:e = .normal\/e = .ret)
  (hres:ZfE P s1 fn.results.toList=some [Zgi o2 t g]) (hob:s1.ob t=some (g,o2)) (hpub:Zuo s1.ob o2=some (ob,us)):ContractN P f args ob:=by{
have hpure:ob.clean:=⟨fun cs hcs=>by
 subst hcs
 cases o2 with
 | prow E k els=>cases hpub
 | qrow E k els=>cases hpub
 | mp ents=>cases hpub
 | row E k sh els=>cases sh<;>simp [Zuo] at hpub
 | box cs2=>
   simp only [Zuo,Option.map_eq_some_iff] at hpub
   obtain ⟨⟨qs,us'⟩,h1,h2⟩:=hpub
   simp only [Prod.mk.injEq,VObj.box.injEq] at h2
   rw [<- h2.1]
   exact Zhl _ h1,fun E k els hcs=>by
 subst hcs
 cases o2 with
 | prow E k els=>cases hpub
 | qrow E k els=>cases hpub
 | mp ents=>cases hpub
 | row E k sh els=>cases sh<;>simp [Zuo] at hpub
 | box cs2=>
   simp only [Zuo,Option.map_eq_some_iff] at hpub
   obtain ⟨_,_,h2⟩:=hpub
   cases h2⟩
refine ⟨hg,hpure,fun x vs hpre hinv=>?_⟩
let r:Run:=⟨x.W,fun _=>False,(vs++Array.replicate (fn.ntmps-vs.size) undef).size,x.F,x.G,x.ρ,WInv.I P⟩
have hNr:r.N=fn.ntmps:=by
 have:=hpre.size
 simp [r]
 omega
have hX:RstX r (fun _=>False) (Znw args none) { tmps:=vs++Array.replicate (fn.ntmps-vs.size) undef,defers:=[] } x:=by
 refine ⟨rfl,rfl,Gr.refl _ _,fun g hg=>?_,fun t=>?_,fun t g o ho=>by simp [Znw,ZtZ] at ho,fun t t' g g' o o' b hne h1 h2=>by simp [Znw,ZtZ] at h1,hpre.flt,fun _ _ h=>h,fun _ _ h=>.inl h,fun _ h=>⟨h,rfl⟩,⟨hinv,fun g hg=>by obtain ⟨j,os,h,_⟩:=hpre.gen g hg;cases h⟩,fun _ _ _ _ h=>h⟩
 obtain ⟨j,os,h,_⟩:=hpre.gen g hg
 cases h
 show Rep x (args.getD t (.tup [])) _
 rw [Array.getD_eq_getD_getElem?,Array.getElem?_append,List.getD_eq_getElem?_getD]
 by_cases ht:t<vs.size
 rw [if_pos ht,List.getElem?_eq_getElem (by rw [hpre.size];exact ht),Array.getElem?_eq_getElem ht]
 exact hpre.rep t _ _ (List.getElem?_eq_getElem (by rw [hpre.size];exact ht)) (Array.getElem?_eq_getElem ht)
 rw [if_neg ht,List.getElem?_eq_none (by rw [hpre.size];omega)]
 have:(Array.replicate (fn.ntmps-vs.size) undef)[t-vs.size]?.getD undef=undef:=by
  rw [Array.getElem?_replicate]
  split<;>rfl
 rw [this]
 exact .tup [] #[] rfl (fun i p v hp=>by simp at hp)
refine calls_of_wp hf hb ?_
refine (Zhk hmix hrun).1 r _ x _ ⟨rfl,by rw [hNr];exact hok⟩ hX fun a' y hY=>?_
obtain ⟨ws,h1,h2,h3⟩:=Zc0 hY fn.results.toList hres
match ws,h2 with
| [w],_=>
have hw:Rep y (Zgi o2 t g) w:=h3 0 _ rfl
obtain ⟨hG,hO⟩:=hY.ob t g o2 hob
have hρw:y.ρ g=w:=by
 cases o2 with
 | box cs=>
   obtain ⟨b,T,cv,q1,_⟩:=hO
   cases hw with
   | ptr _ _ _ b2 _ hb2=>
     rw [q1] at hb2 ⊢
     obtain rfl:b=b2:=by simpa [blk] using hb2
     rfl
 | row E k sh els=>cases hw with | row _ _ A n c _ hv=>exact hv
 | mp ents=>cases hw with | mp _ _ b _ hv=>exact hv
 | prow E k els=>cases hpub
 | qrow E k els=>cases hpub
have hend:(results fn a'.tmps).run P y.W = .ok w y.W:=by
 have:(fn.results.mapM (Zt0 a')).run P y.W = .ok #[w] y.W:=by
  rw [Array.mapM_eq_mapM_toList,map_eq_pure_bind,Sem.run_bind,h1]
  rfl
 have e:results fn a'.tmps=(fn.results.mapM (Zt0 a') >>= fun vs=>pure (if h:vs.size=1 then vs[0] else .tuple vs)):=by
  unfold results
  congr 1
 rw [e,Sem.run_bind,this]
 rfl
have fin:∀ (F2:Nat->Nat->Prop) (s2:FS),RstX r (fun _=>False) s2 a' { y with F:=F2 }->ObRep { y with F:=F2 } x.W.heap.size (fun _=>False) g ob->
  ∃ v,(results fn a'.tmps).run P y.W = .ok v y.W/\(fun e W'=>∃ y v,y.W=W'/\e=Ending.returned v/\Step x y/\Gr (fun _=>False) x.W y.W/\(∀ b o,y.F b o->x.F b o\/x.W.heap.size<=b)/\(∀ b o,y.F b o->b<y.W.heap.size)/\∃ g,y.ρ g=v/\ObRep y x.W.heap.size (fun _=>False) g ob) (Ending.returned v) y.W:=fun F2 s2 hY2 hO2=>by
 refine ⟨w,hend,{ y with F:=F2 },w,rfl,rfl,⟨fun g hg=>hY2.rho g hg,fun b o hb=>hY2.f0 b o hb,fun b o v hb hv=>?_⟩,hY2.gr,fun b o h=>(hY2.fnew b o h).imp id fun h=>h.resolve_right fun e=>e,hY2.flt,g,hρw,hO2⟩
 exact (World.cell?_of_block (hY2.gr.block b (hpre.flt b o hb) (fun e=>e))).trans hv
have hfin:∃ v,(results fn a'.tmps).run P y.W = .ok v y.W/\(fun e W'=>∃ y v,y.W=W'/\e=Ending.returned v/\Step x y/\Gr (fun _=>False) x.W y.W/\(∀ b o,y.F b o->x.F b o\/x.W.heap.size<=b)/\(∀ b o,y.F b o->b<y.W.heap.size)/\∃ g,y.ρ g=v/\ObRep y x.W.heap.size (fun _=>False) g ob) (Ending.returned v) y.W:=by
 cases o2 with
 | prow E k els=>cases hpub
 | qrow E k els=>cases hpub
 | mp ents=>
   simp only [Zuo,Option.some.injEq,Prod.mk.injEq] at hpub
   obtain ⟨rfl,_⟩:=hpub
   exact fin y.F s1 hY hO
 | row E k sh els=>
   cases sh with
   | true=>simp [Zuo] at hpub
   | false=>
     simp only [Zuo,Option.some.injEq,Prod.mk.injEq] at hpub
     obtain ⟨rfl,_⟩:=hpub
     exact fin y.F s1 hY hO
 | box cs2=>
   simp only [Zuo,Option.map_eq_some_iff] at hpub
   obtain ⟨⟨qs,us'⟩,g2,g3⟩:=hpub
   simp only [Prod.mk.injEq] at g3
   obtain ⟨rfl,_⟩:=g3
   obtain ⟨b,T,cv,q1,q2,q3,q4,q5,q6,q7⟩:=hO
   obtain ⟨F2,st2,hY2,hR2,hl2,hf2⟩:=ZcD cs2 (Flip.refl s1.ob) hY (g:=fun j=>cv.getD j undef) g2 (fun j p hp=>by
    have hlt:j<cv.size:=by rw [<- q3];exact (List.getElem?_eq_some_iff.1 hp).1
    have:cv.getD j undef=cv[j]:=by simp [hlt]
    rw [this]
    exact q5 j p _ hp (Array.getElem?_eq_getElem hlt))
   obtain ⟨_,b2,T2,cv2,w1,w2,w3,w4,w5,w6,w7⟩:=hY2.ob t _ _ (hf2.box hob)
   change y.ρ g=_ at w1
   rw [q1] at w1
   injection w1 with w1
   injection w1 with w1
   injection w1 with w1
   subst w1
   refine fin F2 _ hY2 ⟨b,T,cv,q1,q2,by rw [hl2,q3],fun p hp=>?_,fun k p v hp hv=>?_,q6,w7⟩
   obtain ⟨k,hk⟩:=List.getElem?_of_mem hp
   exact PV.cell_of_pure (hR2 k p hk).1
   have:=(hR2 k p hp).2
   rw [Array.getD_eq_getD_getElem?,hv] at this
   exact this
rcases he with rfl | rfl
exact ⟨hY.defers,hfin⟩
exact ⟨hY.defers,hfin⟩}
def ZAa (P:Program) (rs:List ResultVar) (ob:VObj):Ex->FS->Prop | .exit _,_=>False | _,s=>∃ t g o2 us,ZfE P s rs=some [Zgi o2 t g]/\s.ob t=some (g,o2)/\Zuo s.ob o2=some (ob,us)
omit [WInv P] in
theorem Zup {rs:List ResultVar} {ob o2:VObj} {t:Nat} {g:Gen} {us:List (Nat×Option (Gen×VObj))} (h1:ZfE P s rs=some [Zgi o2 t g]) (h2:s.ob t=some (g,o2)) (h3:Zuo s.ob o2=some (ob,us)):ZAa P rs ob .ret s:=⟨t,g,o2,us,h1,h2,h3⟩
theorem ZnN (hmix:P.follows .mixedOrders=true) {f:FuncId} {fn:Func} {c:Code} {args:List PV} {ob:VObj} (hf:P.funcs[f]? = some fn) (hg:isGo P f=true) (hb:fn.body=some c) (hok:(decide (args.length<=fn.ntmps)&&ZaY fn.ntmps c)=true)
  (h:PWs P [c] (ZAa P fn.results.toList ob) (mkS (ZeN 0 args) [] 1)):ContractN P f args ob:=by{
simp only [Bool.and_eq_true,decide_eq_true_eq] at hok
obtain ⟨e,s',h1,h2⟩:=Zc3 h
have hsh:Shift (Znw args none) (mkS (ZeN 0 args) [] 1):=ZfH (fun t=>by
 rcases Zeu args 0 t with h | ⟨_,h⟩
 exact .inl h
 exact .inr h) (fun t=>.inl rfl) (Nat.le_refl _)
cases e with
| exit id=>exact h2.elim
| normal=>
  obtain ⟨t,g,o2,us,h3,h4,h5⟩:=h2
  exact Zj0 hmix hg hf hb hok.1 hok.2 (.shift hsh h1) (.inl rfl) h3 h4 h5
| ret=>
  obtain ⟨t,g,o2,us,h3,h4,h5⟩:=h2
  exact Zj0 hmix hg hf hb hok.1 hok.2 (.shift hsh h1) (.inr rfl) h3 h4 h5}
end
section
variable {P:Program} [WInv P] {ops:Array Oper} {draw:Bool} {i:Nat} {L:List Oper} {acc:List (List Nat×List Nat)} {K:FS->Prop} {tm:List (Nat×PV)} {ob:List (Nat×Option (Gen×VObj))} {ng:Nat}
 {ty:TypeId} {pos:String} {after:Array Edge} {gd:Option (Nat×Bool)}
theorem Zqw {dd:Nat} {f:FuncId} {es:Array Operand} {ts:Array TypeId} {args:List PV} {us:List (Nat×Option (Gen×VObj))} {o2:VObj} (hc:ContractN P f args o2) (hw:Zo ops (mkS tm ob ng) ⟨some dd,.call ⟨.value (.func f),es,ts⟩,ty,pos,after,gd⟩=some true)
  (ha:Ze5 (ZI ob) (es.toList.map (evL tm))=some (args,us))
  (k:GoL P ops draw (i+1) L (acc ++ [(ZG (mkS tm ob ng) ⟨some dd,.call ⟨.value (.func f),es,ts⟩,ty,pos,after,gd⟩,(us ++ [(dd,some ((ng,i),o2))]).map (·.1))])
   (mkS ((dd,Zgi o2 dd (ng,i))::tm) ((us ++ [(dd,some ((ng,i),o2))]).reverse++ob) ng) K):GoL P ops draw i (⟨some dd,.call ⟨.value (.func f),es,ts⟩,ty,pos,after,gd⟩::L) acc (mkS tm ob ng) K:=by
 refine Zgp (Zun (dd:=dd) hw rfl (by rw [Zai];exact ha) hc) ?_
 rw [ZbD]
 exact k
end
open Go.RowKit
structure ContractM (P:Program) [WInv P] (f:FuncId) (E k:Nat) (els els':List (List PV)):Prop where
 isGo:VL.isGo P f=true
 len:∀ e ∈ els',e.length=k
 pure:∀ e ∈ els',∀ p ∈ e,p.pure=true
 plain:(Zbc els.flatten).isSome=true
 calls:∀ (W:World) (v:Value) (vs:List Value),W.ownsRow 0 E k v els.length vs->Zbc els.flatten=some vs->(∀ W',Gr (fun b=>blk v=some b) W W'->WInv.I P W')->Calls P f #[v] W fun e W'=>
  ∃ vs',e = .returned (.tuple #[])/\Zbc els'.flatten=some vs'/\W'.ownsRow 0 E k v els'.length vs'/\Gr (fun b=>blk v=some b) W W'
section
variable {P:Program} [WInv P] {r:Run} {ops:Array Oper} {o:Oper} {i:Nat} {s s':FS}
theorem ZvU {f:FuncId} {es:Array Operand} {ts:Array TypeId} {t:Nat} {g:Gen} {E k:Nat} {els els':List (List PV)} (ho:o.op = .call { callee:=.value (.func f),args:=es,argTypes:=ts })
  (he:es.toList.map (ev s) = [.row t g]) (hob:s.ob t=some (g,.row E k false els)) (hc:ContractM P f E k els els') (hI:r.I=WInv.I P):OpOK P r o i s ⟨.tup [],[(t,some (g,.row E k false els'))]⟩:=by{
intro S a x Q hX hi hd
obtain ⟨e,hes,hev⟩:∃ e,es = #[e]/\ev s e = .row t g:=by
 match h:es.toList with
 | []=>rw [h] at he;simp at he
 | [e]=>rw [h] at he;exact ⟨e,Zvd h,by simpa using he⟩
 | _::_::_=>rw [h] at he;simp at he
have hr:=Zae hX e
rw [hev] at hr
generalize hv:a.eval e=v at hr
obtain ⟨hG,hO⟩:=hX.ob t g _ hob
obtain ⟨h1,h2,vs,h3,h4,h5⟩:=hO
have hρ:x.ρ g=v:=by cases hr with | row _ _ A n c _ hvv=>exact hvv
rw [hρ] at h3
obtain ⟨vs0,hp0⟩:=Option.isSome_iff_exists.1 hc.plain
have hvs:vs=vs0:=Zjl _ hp0 vs (by rw [Zb3 els h1];exact h3.1.symm) h4
rw [<- hvs] at hp0
have hbig:r.W0.heap.size<=x.W.heap.size:=hX.gr.size
have hown:∀ b,blk v=some b->r.W0.heap.size<=b\/r.D b:=fun b hb=>(h5 b (by rw [hρ];exact hb)).1
have hcalls:=hc.calls x.W v vs h3 hp0 fun W' hW=>by
 rw [<- hI]
 exact hX.inv.1 W' (hX.gr.trans' hW.os hW.tape hW.output hW.size fun b hb hD=>hW.block b (Nat.lt_of_lt_of_le hb hbig) fun e=>by
  rcases hown b e with h | h
  omega
  exact hD h)
unfold Oper.wp
rw [Zew ho hc.isGo,Oper.upon_enter,hes]
have:(#[e].map a.eval) = #[v]:=by simp [hv]
rw [this]
refine hcalls.mono ?_
rintro e' W' ⟨vs',rfl,hp',hown',hgr⟩
have hnF:∀ b o,x.F b o->¬ blk v=some b:=fun b o hF hb=>by
 have:=((h5 b (by rw [hρ];exact hb)).2 o hF).1
 cases this
let y:Ctx:={ x with W:=W' }
have k2:Step x y:=⟨fun _ h=>⟨h,rfl⟩,fun _ _ h=>h,fun b o w hF hw=>(World.cell?_of_block (hgr.block b (hX.flt b o hF) (hnF b o hF))).trans hw⟩
refine ⟨y,rfl,hX.change k2 hd hgr.os hgr.tape hgr.output hgr.size (fun b hb hne=>hgr.block b hb fun e=>hne g _ hob (by rw [hρ];exact e)) (fun _ _ h=>.inl h) (fun b o hb=>Nat.lt_of_lt_of_le (hX.flt b o hb) hgr.size)
 (fun g' hg'=>(hX.gens g' hg').imp id fun ⟨e1,e2⟩=>⟨e1,.inl e2⟩) hG ⟨hc.len,hc.pure,vs',?_,fun m p w hm hw=>?_,fun b hb=>⟨(h5 b hb).1,fun o ho=>absurd ((h5 b hb).2 o ho).1 (by simp)⟩⟩ (fun b hb=>.inr ⟨g,_,hob,hb⟩) (.tup [] #[] rfl (fun i p v hp=>by simp at hp))⟩
show W'.ownsRow 0 E k (x.ρ g) els'.length vs'
rw [hρ]
exact hown'
obtain ⟨w2,h6,h7⟩:=ZfD hp' hm
rw [hw] at h6
injection h6 with h6
subst h6
rw [<- h7]
exact ZiU y w}
theorem Zt6 {f:FuncId} {es:Array Operand} {ts:Array TypeId} {t:Nat} {g:Gen} {E k:Nat} {els els':List (List PV)} (hw:Zo ops s o=some true) (ho:o.op = .call { callee:=.value (.func f),args:=es,argTypes:=ts })
  (he:es.toList.map (ev s) = [.row t g]) (hob:s.ob t=some (g,.row E k false els)) (hc:ContractM P f E k els els'):OpR P ops i o s ⟨.tup [],[(t,some (g,.row E k false els'))]⟩:=.any hw fun s' r hA hI=>by
 obtain ⟨e1,e2,_⟩:=Zds ho hA
 refine ZvU ho (by rw [e1,he]) ?_ hc hI
 rw [<- e2 (.row t g) (by rw [he];simp) t (by simp [ZmJ,ZfI,ZcE,Zbk])]
 exact hob
def ZhE (h:PV->Option PV):List PV->Option (List PV)
 | []=>some []
 | p::ps=>match h p,ZhE h ps with
   | some q,some qs=>some (q::qs)
   | _,_=>none
theorem ZfG {h:PV->Option PV}:∀ {ps qs:List PV},ZhE h ps=some qs->qs.length=ps.length/\∀ (i:Nat) (q:PV),qs[i]? = some q->∃ p,ps[i]? = some p/\h p=some q
 | [],qs,e=>by
   injection e with e
   subst e
   exact ⟨rfl,fun i q hq=>by simp at hq⟩
 | p::ps,qs,e=>by
   simp only [ZhE] at e
   split at e
   rename_i q qs' h1 h2
   injection e with e
   subst e
   obtain ⟨h3,h4⟩:=ZfG h2
   refine ⟨by simp [h3],fun i q' hq=>?_⟩
   cases i with
   | zero=>
     simp only [List.getElem?_cons_zero,Option.some.injEq] at hq
     subst hq
     exact ⟨p,rfl,h1⟩
   | succ i=>
     simp only [List.getElem?_cons_succ] at hq ⊢
     exact h4 i q' hq
   cases e
theorem Zet {h h':PV->Option PV}:∀ {ps:List PV},(∀ p ∈ ps,h p=h' p)->ZhE h ps=ZhE h' ps
 | [],_=>rfl
 | p::ps,e=>by
   simp only [ZhE]
   rw [e p (List.mem_cons_self ..),Zet fun q hq=>e q (List.mem_cons_of_mem _ hq)]
def Zqt (f:Nat->Option (Gen×VObj)):PV->Option PV
 | .bool b=>some (.bool b)
 | .int k n=>some (.int k n)
 | .str s=>some (.str s)
 | .sl els=>some (.sl els)
 | .nil=>some (.sl [])
 | .row t g=>match Zbh f t g with
   | some (.row _ _ _ els)=>some (.sl els)
   | _=>none
 | _=>none
def Zph (f:Nat->Option (Gen×VObj)):PV->Option PV
 | .ptr t g off=>match Zbh f t g with
   | some (.box cs)=>(ZhE (Zqt f) (cs.drop off)).map .cel
   | _=>none
 | .cel cs=>some (.cel cs)
 | _=>none
def frz (f:Nat->Option (Gen×VObj)):PV->Option PV | .agg ps=>(ZhE (Zqt f) ps).map .agg | .fn g caps=>(ZhE (Zph f) caps).map (.fn g) | .ptr t g off=>Zph f (.ptr t g off) | .cel cs=>some (.cel cs) | p=>Zqt f p
def frozen (s:FS) (x:Ctx):Ctx:=⟨fun _=>False,fun b o=>x.F b o\/(b<x.W.heap.size/\∃ t g ob,s.ob t=some (g,ob)/\blk (x.ρ g)=some b),x.W,x.ρ⟩
theorem Zt7 {f:Nat->Option (Gen×VObj)} {p q:PV} (h:Zqt f p=some q):q.pure=true:=by{
cases p<;>simp only [Zqt] at h<;>first
 | (cases h;done)
 | (injection h with h;subst h;rfl)
 | (split at h
    injection h with h;subst h;rfl
    cases h)}
omit [WInv P] in
theorem ZxU {S:Nat->Prop} {a:Act} {x:Ctx} (hX:RstX r S s a x) {t:Nat} {g:Gen} {E k:Nat} {sh:Bool} {els:List (List PV)} (ho:s.ob t=some (g,.row E k sh els)):Rep (frozen s x) (.sl els) (x.ρ g):=by{
obtain ⟨hg,hO⟩:=hX.ob t g _ ho
have hO':=hO
obtain ⟨h1,h2,vs,h3,h4,h5⟩:=hO
rcases h3.2 with ⟨hn,hl⟩ | ⟨b,cap,cur,hv,hB,hh,hc,hm,hs,ht⟩
rw [hn]
have:els = []:=List.eq_nil_of_length_eq_zero hl
subst this
exact .sl [] none 0 0 k 0 0 (fun _ _=>undef) rfl (Nat.le_refl _) (by omega) (by simp) (by omega) (fun i j e p he=>by simp at he) (fun i j e p he=>by simp at he)
have hblk:blk (x.ρ g)=some b:=by rw [hv];rfl
have hlt:b<x.W.heap.size:=(hO'.lt b hblk).1
rw [hv]
have key:∀ (i j:Nat) (e:List PV) (p:PV),els[i]? = some e->e[j]? = some p->∃ v,x.W.cell? ⟨b,i * k+j,none⟩=some v/\Rep x p v:=fun i j e p hi hj=>by
 obtain ⟨b',n,c,e1,_,_,_,_,hc⟩:=ZfF hO' hi
 rw [hv] at e1
 injection e1 with e1
 injection e1 with e1
 injection e1 with e1
 subst e1
 exact hc j p hj
refine .sl els _ _ _ k b 0 (fun i j=>(x.W.cell? ⟨b,i * k+j,none⟩).getD undef) rfl hc (by unfold maxLen at hm;omega) h1 (fun _=>rfl) (fun i j e p hi hj=>?_) (fun i j e p hi hj=>?_)
obtain ⟨v,hv2,_⟩:=key i j e p hi hj
refine ⟨h2 e (List.mem_of_getElem? hi) p (List.mem_of_getElem? hj),.inr ⟨hlt,t,g,_,ho,hblk⟩,?_⟩
rw [Nat.zero_add]
show x.W.cell? _=_
rw [hv2];rfl
obtain ⟨v,hv2,hr⟩:=key i j e p hi hj
rw [hv2]
exact hr.pure_mono (h2 e (List.mem_of_getElem? hi) p (List.mem_of_getElem? hj)) (fun _ _ h=>.inl h) (fun _ _ _ _ h=>h)}
omit [WInv P] in
theorem Zeh {S:Nat->Prop} {a:Act} {x:Ctx} (hX:RstX r S s a x) {p q:PV} {v:Value} (h:Zqt s.ob p=some q) (hr:Rep x p v):Rep (frozen s x) q v:=by{
have pm:∀ {p:PV} {v:Value},p.pure=true->Rep x p v->Rep (frozen s x) p v:=fun hp hr=>hr.pure_mono hp (fun _ _ h=>.inl h) (fun _ _ _ _ h=>h)
cases p with
| bool b=>injection h with h;subst h;exact pm rfl hr
| int k n=>injection h with h;subst h;exact pm rfl hr
| str b=>injection h with h;subst h;exact pm rfl hr
| sl els=>injection h with h;subst h;exact pm rfl hr
| nil=>
  injection h with h
  subst h
  cases hr
  exact .sl [] none 0 0 0 0 0 (fun _ _=>undef) rfl (Nat.le_refl _) (by omega) (by simp) (by omega) (fun i j e p he=>by simp at he) (fun i j e p he=>by simp at he)
| row t g=>
  simp only [Zqt] at h
  split at h
  rename_i E k sh els hob
  injection h with h
  subst h
  cases hr with
  | row _ _ A n c hG hv=>
    rw [<- hv]
    exact ZxU hX (ZaI hob)
  cases h
| _=>cases h}
omit [WInv P] in
theorem Zkp {S:Nat->Prop} {a:Act} {x:Ctx} (hX:RstX r S s a x) {p q:PV} {v:Value} (h:Zph s.ob p=some q) (hr:Rep x p v):Rep (frozen s x) q v:=by{
cases p with
| ptr t g off=>
  simp only [Zph] at h
  split at h
  rename_i cs hob
  simp only [Option.map_eq_some_iff] at h
  obtain ⟨qs,h1,rfl⟩:=h
  obtain ⟨h2,h3⟩:=ZfG h1
  obtain ⟨b,off',rfl,hc⟩:=ZgL hX (p:=.ptr t g off) (cs:=cs.drop off) (by simp only [ZgF,hob]) hr
  have hbk:b<x.W.heap.size/\blk (x.ρ g)=some b:=by
   obtain ⟨_,hO⟩:=hX.ob t g _ (ZaI hob)
   cases hr with
   | ptr _ _ _ _ _ hb=>exact ⟨(hO.lt b hb).1,hb⟩
  refine .cel qs b off' (fun j=>(x.W.cell? ⟨b,off'+j,none⟩).getD undef) (fun j q hq=>?_) (fun j q hq=>?_)
  obtain ⟨p,hp,hpq⟩:=h3 j q hq
  obtain ⟨u,hu,_⟩:=hc j p hp
  refine ⟨Zt7 hpq,.inr ⟨hbk.1,t,g,_,ZaI hob,hbk.2⟩,?_⟩
  show x.W.cell? _=_
  rw [hu];rfl
  obtain ⟨p,hp,hpq⟩:=h3 j q hq
  obtain ⟨u,hu,hru⟩:=hc j p hp
  rw [hu]
  exact Zeh hX hpq hru
  cases h
| cel cs=>
  injection h with h
  subst h
  cases hr with
  | cel _ b off f hcell hh=>exact .cel cs b off f (fun j p hp=>⟨(hcell j p hp).1,.inl (hcell j p hp).2.1,(hcell j p hp).2.2⟩) fun j p hp=>(hh j p hp).pure_mono (hcell j p hp).1 (fun _ _ h=>.inl h) (fun _ _ _ _ h=>h)
| _=>cases h}
omit [WInv P] in
theorem ZxV {S:Nat->Prop} {a:Act} {x:Ctx} (hX:RstX r S s a x) {p q:PV} {v:Value} (h:frz s.ob p=some q) (hr:Rep x p v):Rep (frozen s x) q v:=by{
cases p with
| agg ps=>
  simp only [frz,Option.map_eq_some_iff] at h
  obtain ⟨qs,h1,rfl⟩:=h
  obtain ⟨h2,h3⟩:=ZfG h1
  cases hr with
  | agg _ cs hl hh=>
    refine .agg qs cs (by rw [h2,hl]) fun i q w hq hw=>?_
    obtain ⟨p,hp,hpq⟩:=h3 i q hq
    exact Zeh hX hpq (hh i p w hp hw)
| fn f caps=>
  simp only [frz,Option.map_eq_some_iff] at h
  obtain ⟨qs,h1,rfl⟩:=h
  obtain ⟨h2,h3⟩:=ZfG h1
  cases hr with
  | fn _ _ cs hl hh=>
    refine .fn f qs cs (by rw [h2,hl]) fun i q w hq hw=>?_
    obtain ⟨p,hp,hpq⟩:=h3 i q hq
    exact Zkp hX hpq (hh i p w hp hw)
| ptr t g off=>exact Zkp hX (p:=.ptr t g off) h hr
| cel cs=>exact Zkp hX (p:=.cel cs) h hr
| bool b=>exact Zeh hX (p:=.bool b) h hr
| int k n=>exact Zeh hX (p:=.int k n) h hr
| str b=>exact Zeh hX (p:=.str b) h hr
| sl els=>exact Zeh hX (p:=.sl els) h hr
| nil=>exact Zeh hX (p:=.nil) h hr
| row t g=>exact Zeh hX (p:=.row t g) h hr
| elp t g i k off=>cases h
| suf t g i k=>cases h
| mp t g=>cases h
| tup ps=>cases h
| un=>cases h}
def PV.dry1:PV->Bool | .bool _ | .int _ _ | .str _=>true | _=>false
def PV.dry2:PV->Bool | .agg ps=>ps.all PV.dry1 | p=>p.dry1
def PV.dry:PV->Bool | .tup ps=>ps.all PV.dry2 | p=>p.dry2
omit [WInv P] in
theorem Rep.dry1 {x y:Ctx} {p:PV} {v:Value} (h:Rep x p v) (hp:p.dry1=true):Rep y p v:=by
 cases h<;>simp [PV.dry1] at hp<;>constructor
omit [WInv P] in
theorem Rep.dry2 {x y:Ctx} {p:PV} {v:Value} (h:Rep x p v) (hp:p.dry2=true):Rep y p v:=by{
cases p with
| agg ps=>
  cases h with
  | agg _ cs hl hh=>exact .agg ps cs hl fun i q w hq hw=>(hh i q w hq hw).dry1 (List.all_eq_true.1 hp q (List.mem_of_getElem? hq))
| _=>exact h.dry1 hp}
omit [WInv P] in
theorem Rep.dry {x y:Ctx} {p:PV} {v:Value} (h:Rep x p v) (hp:p.dry=true):Rep y p v:=by{
cases p with
| tup ps=>
  cases h with
  | tup _ cs hl hh=>exact .tup ps cs hl fun i q w hq hw=>(hh i q w hq hw).dry2 (List.all_eq_true.1 hp q (List.mem_of_getElem? hq))
| _=>exact h.dry2 hp}
theorem Zhm {f f':Nat->Option (Gen×VObj)} {p:PV} (h:∀ t ∈ Zbk p,f t=f' t):Zqt f p=Zqt f' p:=by
 cases p<;>simp only [Zqt]
 rename_i t g
 rw [ZaH (h t (by simp [Zbk])) g]
theorem ZjA {f f':Nat->Option (Gen×VObj)} {p:PV} (h:∀ t ∈ ZsD p,f t=f' t) (h2:∀ t ∈ (ZsD p).flatMap (Zkz f),f t=f' t):Zph f p=Zph f' p:=by{
cases p<;>simp only [Zph]
rename_i t g off
have e:=h t (by simp [ZsD])
rw [ZaH e g]
split
rename_i cs hob
rw [Zet fun q hq=>Zhm fun t' ht'=>h2 t' (List.mem_flatMap.2 ⟨t,by simp [ZsD],?_⟩)]
unfold Zkz
rw [e,ZaI hob]
exact List.mem_flatMap.2 ⟨q,List.mem_of_mem_drop hq,ht'⟩
rfl}
theorem Zt8 {f f':Nat->Option (Gen×VObj)} {p:PV} (h:∀ t ∈ ZmJ f p,f t=f' t):frz f p=frz f' p:=by{
have h1:∀ t ∈ ZcE p,f t=f' t:=fun t ht=>h t (List.mem_append_left _ ht)
have h2:∀ t ∈ (ZcE p).flatMap (Zkz f),f t=f' t:=fun t ht=>h t (List.mem_append_right _ (List.mem_append_left _ ht))
cases p with
| agg ps=>
  simp only [frz]
  rw [Zet fun q hq=>Zhm fun t ht=>h1 t (List.mem_flatMap.2 ⟨q,hq,ht⟩)]
| fn g caps=>
  simp only [frz]
  rw [Zet fun q hq=>ZjA (fun t ht=>h1 t (List.mem_flatMap.2 ⟨q,hq,ht⟩)) (fun t ht=>h2 t ?_)]
  obtain ⟨u,hu,ht⟩:=List.mem_flatMap.1 ht
  exact List.mem_flatMap.2 ⟨u,List.mem_flatMap.2 ⟨q,hq,hu⟩,ht⟩
| ptr t g off=>exact ZjA (p:=.ptr t g off) h1 h2
| cel cs=>rfl
| row t g=>exact Zhm (p:=.row t g) h1
| _=>rfl}
omit [WInv P] in
theorem Zsk {a:Act} {e:Operand} {f:FuncId} {cs:Array Value} {es:Array Operand} {ts:Array TypeId} (ho:o.op = .call { callee:=.value e,args:=es,argTypes:=ts }) (he:a.eval e = .func (.func f) #[] cs) (hg:isGo P f=true) (W:World) :
  (execOp a.eval o).run P W = .ok (.enter f (es.map a.eval++cs)) W:=by{
unfold isGo at hg
split at hg
rename_i fn hfn
simp only [Bool.and_eq_true,bne_iff_ne,ne_eq] at hg
obtain ⟨h1,h2⟩:=hg
unfold execOp
rw [ho]
have h3:¬ fn.body=none:=by cases h:fn.body<;>simp_all
simp [resolve,he,Deferred.ofValue,invoke,callFunc,hfn,h3,h1]
cases hg}
theorem ZvV {e:Operand} {f:FuncId} {caps:List PV} {es:Array Operand} {ts:Array TypeId} {args1 args2:List PV} {res:PV} (ho:o.op = .call { callee:=.value e,args:=es,argTypes:=ts }) (hf:ev s e = .fn f caps)
  (ha:ZhE (frz s.ob) (es.toList.map (ev s))=some args1) (hcp:ZhE (Zph s.ob) caps=some args2) (hc:Contract P f (args1++args2) none res []) (hp:res.dry=true) (hI:r.I=WInv.I P):OpOK P r o i s ⟨res,[]⟩:=by{
intro S a x Q hX hi hd
have hr:=Zae hX e
rw [hf] at hr
generalize hv:a.eval e=v at hr
cases hr with
| fn _ _ cs hl hh=>
obtain ⟨h1,h2⟩:=ZfG ha
obtain ⟨h3,h4⟩:=ZfG hcp
have hl1:args1.length=(es.map a.eval).size:=by rw [h1];simp
have hpre:Pre (frozen s x) (args1++args2) none (es.map a.eval++cs):=by
 refine ⟨by rw [List.length_append,hl1,h3,hl];simp,fun j p w hj hw=>?_,fun j os h=>by simp at h,fun g hg=>hg.elim,fun b o hb=>?_⟩
 rw [List.getElem?_append] at hj
 rw [Array.getElem?_append] at hw
 by_cases hlt:j<args1.length
 rw [if_pos hlt] at hj
 rw [if_pos (by rw [<- hl1];exact hlt)] at hw
 obtain ⟨q,hq,hqp⟩:=h2 j p hj
 rw [List.getElem?_map,Option.map_eq_some_iff] at hq
 obtain ⟨e',he',rfl⟩:=hq
 rw [Array.getElem?_map,Option.map_eq_some_iff] at hw
 obtain ⟨e2,he2,rfl⟩:=hw
 rw [Array.getElem?_toList] at he'
 rw [he'] at he2
 injection he2 with he2
 subst he2
 exact ZxV hX hqp (Zae hX e')
 rw [if_neg hlt] at hj
 rw [if_neg (by rw [<- hl1];exact hlt),<- hl1] at hw
 obtain ⟨q,hq,hqp⟩:=h4 _ p hj
 exact Zkp hX hqp (hh _ q w hq hw)
 rcases hb with hb | hb
 exact hX.flt b o hb
 exact hb.1
have hcalls:=hc.calls (frozen s x) _ hpre fun W' hW=>by
 rw [<- hI]
 exact hX.inv.1 W' (hX.gr.trans' hW.os hW.tape hW.output hW.size fun b hb _=>hW.block b (Nat.lt_of_lt_of_le hb hX.gr.size) fun ⟨j,os,h,_⟩=>by simp at h)
unfold Oper.wp
rw [Zsk ho hv hc.isGo,Oper.upon_enter]
refine hcalls.mono ?_
rintro e' W' ⟨y,v,rfl,rfl,hpost⟩
have hgr:Gr (fun _=>False) x.W y.W:=⟨hpost.gr.os,hpost.gr.tape,hpost.gr.output,hpost.gr.size,fun b hb _=>hpost.gr.block b hb (fun ⟨j,os,h,_⟩=>by simp at h)⟩
let y':Ctx:=⟨x.G,x.F,y.W,x.ρ⟩
have k:Step x y':=⟨fun _ h=>⟨h,rfl⟩,fun _ _ h=>h,fun b o w hb hw=>(World.cell?_of_block (hgr.block b (hX.flt b o hb) (fun e=>e))).trans hw⟩
have hX2:RstX r S s a y':=hX.grow k (fun _ h=>h) hgr (fun _ _ h=>.inl h) (fun b o hb=>Nat.lt_of_lt_of_le (hX.flt b o hb) hgr.size)
exact ⟨y',rfl,(hX2.pureVal hd (hpost.rep.dry hp)).moreS fun _ h=>.inl h⟩}
theorem Zt9 {e:Operand} {f:FuncId} {caps:List PV} {es:Array Operand} {ts:Array TypeId} {args1 args2:List PV} {res:PV} (hw:Zo ops s o=some true) (ho:o.op = .call { callee:=.value e,args:=es,argTypes:=ts }) (hf:ev s e = .fn f caps)
  (ha:ZhE (frz s.ob) (es.toList.map (ev s))=some args1) (hcp:ZhE (Zph s.ob) caps=some args2) (hc:Contract P f (args1++args2) none res []) (hp:res.dry=true):OpR P ops i o s ⟨res,[]⟩:=.any hw fun s' r hA hI=>by
 obtain ⟨e1,e2,e3,e4⟩:=Zds ho hA
 refine ZvV ho (by rw [e3];exact hf) ?_ ?_ hc hp hI
 rw [e1,<- ha]
 exact (Zet fun p hp=>Zt8 fun t ht=>e2 p hp t ht).symm
 rw [<- hcp]
 refine (Zet fun q hq=>ZjA (fun t ht=>e4 t ?_) (fun t ht=>e4 t ?_)).symm
 rw [hf]
 exact List.mem_append_left _ (List.mem_flatMap.2 ⟨q,hq,ht⟩)
 rw [hf]
 obtain ⟨u,hu,ht⟩:=List.mem_flatMap.1 ht
 exact List.mem_append_right _ (List.mem_append_left _ (List.mem_flatMap.2 ⟨u,List.mem_flatMap.2 ⟨q,hq,hu⟩,ht⟩))
theorem Zo0 {f:FuncId} {es:Array Operand} (hw:Zo ops s o=some true) (ho:o.op = .makeFunc (.func f) #[] es):OpR P ops i o s ⟨.fn f (es.toList.map (ev s)),[]⟩:=.any hw fun s' r hA hI=>by
 have hm:∀ e ∈ es.toList,e ∈ o.op.operands:=fun e he=>by rw [ho];simp [Op.operands];simpa using he
 have e1:es.toList.map (ev s)=es.toList.map (ev s'):=List.map_congr_left fun e he=>hA.ev e (hm e he)
 rw [e1]
 intro S a x Q hX hi hd
 refine ZN (v:=.func (.func f) #[] (es.map a.eval)) (W':=x.W) ?_ (hX.val hd (.fn f _ _ (by simp) fun j p v hp hv=>?_))
 unfold execOp
 rw [ho]
 simp [Instr.makeFunc]
 rw [List.getElem?_map,Option.map_eq_some_iff] at hp
 obtain ⟨e,he,rfl⟩:=hp
 rw [Array.getElem?_map,Option.map_eq_some_iff] at hv
 obtain ⟨e2,he2,rfl⟩:=hv
 rw [Array.getElem?_toList] at he
 rw [he] at he2
 injection he2 with he2
 subst he2
 exact Zae hX e
end
section
variable {P:Program} [WInv P] {ops:Array Oper} {draw:Bool} {i:Nat} {L:List Oper} {acc:List (List Nat×List Nat)} {K:FS->Prop} {tm:List (Nat×PV)} {ob:List (Nat×Option (Gen×VObj))} {ng:Nat}
 {d:Option Tmp} {ty:TypeId} {pos:String} {after:Array Edge} {gd:Option (Nat×Bool)}
theorem Zua {f:FuncId} {es:Array Operand} {ts:Array TypeId} {t:Nat} {g:Gen} {E k:Nat} {els els':List (List PV)} (hc:ContractM P f E k els els') (hw:Zo ops (mkS tm ob ng) ⟨d,.call ⟨.value (.func f),es,ts⟩,ty,pos,after,gd⟩=some true)
  (he:es.toList.map (evL tm) = [.row t g]) (hob:ZI ob t=some (g,.row E k false els))
  (kk:GoL P ops draw (i+1) L (acc ++ [(ZG (mkS tm ob ng) ⟨d,.call ⟨.value (.func f),es,ts⟩,ty,pos,after,gd⟩,[t])]) (mkS (Zbt d (.tup []) tm) ((t,some (g,.row E k false els'))::ob) ng) K) :
  GoL P ops draw i (⟨d,.call ⟨.value (.func f),es,ts⟩,ty,pos,after,gd⟩::L) acc (mkS tm ob ng) K:=by
 refine Zgp (Zt6 hw rfl (by rw [Zai];exact he) hob hc) ?_
 rw [ZbD]
 exact kk
theorem Zub {e:Operand} {f:FuncId} {caps:List PV} {es:Array Operand} {ts:Array TypeId} {args1 args2:List PV} {res:PV} (hc:Contract P f (args1++args2) none res []) (hw:Zo ops (mkS tm ob ng) ⟨d,.call ⟨.value e,es,ts⟩,ty,pos,after,gd⟩=some true)
  (hf:evL tm e = .fn f caps) (ha:ZhE (frz (ZI ob)) (es.toList.map (evL tm))=some args1) (hcp:ZhE (Zph (ZI ob)) caps=some args2) (hp:res.dry=true)
  (k:GoL P ops draw (i+1) L (acc ++ [(ZG (mkS tm ob ng) ⟨d,.call ⟨.value e,es,ts⟩,ty,pos,after,gd⟩,[])]) (mkS (Zbt d res tm) ob ng) K):GoL P ops draw i (⟨d,.call ⟨.value e,es,ts⟩,ty,pos,after,gd⟩::L) acc (mkS tm ob ng) K:=by
 refine Zgp (Zt9 hw rfl (by rw [Zai];exact hf) (by rw [Zai];exact ha) hcp hc hp) ?_
 rw [ZbD]
 exact k
theorem ZiV {f:FuncId} {es:Array Operand} {ts:Array TypeId} {args:List PV} {res:PV} (hc:Contract P f args none res []) (hw:Zo ops (mkS tm ob ng) ⟨d,.call ⟨.value (.func f),es,ts⟩,ty,pos,after,gd⟩=some true)
  (ha:ZhE (frz (ZI ob)) (es.toList.map (evL tm))=some args) (hp:res.dry=true)
  (k:GoL P ops draw (i+1) L (acc ++ [(ZG (mkS tm ob ng) ⟨d,.call ⟨.value (.func f),es,ts⟩,ty,pos,after,gd⟩,[])]) (mkS (Zbt d res tm) ob ng) K):GoL P ops draw i (⟨d,.call ⟨.value (.func f),es,ts⟩,ty,pos,after,gd⟩::L) acc (mkS tm ob ng) K:=
 Zub (caps:=[]) (args2:=[]) (by rw [List.append_nil];exact hc) hw rfl ha rfl hp k
theorem ZjB {f:FuncId} {es:Array Operand} (hw:Zo ops (mkS tm ob ng) ⟨d,.makeFunc (.func f) #[] es,ty,pos,after,gd⟩=some true) {caps:List PV} (he:es.toList.map (evL tm)=caps)
  (k:GoL P ops draw (i+1) L (acc ++ [(ZG (mkS tm ob ng) ⟨d,.makeFunc (.func f) #[] es,ty,pos,after,gd⟩,[])]) (mkS (Zbt d (.fn f caps) tm) ob ng) K):GoL P ops draw i (⟨d,.makeFunc (.func f) #[] es,ty,pos,after,gd⟩::L) acc (mkS tm ob ng) K:=by
 refine Zgp (Zo0 hw rfl) ?_
 rw [ZbD,Zai,he]
 exact k
end
open Go.RowKit
def Zmu:List PV->Option (List Value)
 | []=>some []
 | p::ps=>match plain p,Zmu ps with
   | some v,some vs=>some (v::vs)
   | _,_=>none
theorem Zju {x:Ctx}:∀ (ps:List PV) {vs:List Value} (_:Zmu ps=some vs) (ws:List Value) (_:ps.length=ws.length) (_:∀ (i:Nat) (p:PV) (v:Value),ps[i]? = some p->ws[i]? = some v->Rep x p v),ws=vs
 | [],vs,h,ws,hl,_=>by
   simp only [Zmu,Option.some.injEq] at h
   subst h
   exact List.eq_nil_of_length_eq_zero hl.symm
 | p::ps,vs,h,[],hl,_=>by simp at hl
 | p::ps,vs,h,w::ws,hl,hr=>by
   simp only [Zmu] at h
   split at h
   rename_i v vs' h1 h2
   injection h with h
   subst h
   rw [Zow h1 (hr 0 p w rfl rfl),Zju ps h2 ws (by simpa using hl) fun i p v hp hv=>hr (i+1) p v (by simpa using hp) (by simpa using hv)]
   cases h
theorem Gr.ofBelow {w w':World} (h:Below w.heap.size w w'):Gr (fun _=>False) w w':=⟨h.os,h.tape,h.output,h.size,fun b hb _=>h.block b hb⟩
theorem PV.clean_of_dry {p:PV} (h:p.dry2=true):p.clean=true:=by{
have d1:∀ {p:PV},p.dry1=true->p.pure=true:=fun {p} h=>by cases p<;>simp_all [PV.dry1,PV.pure]
cases p with
| agg ps=>exact List.all_eq_true.2 fun q hq=>d1 (List.all_eq_true.1 h q hq)
| bool b=>rfl
| int k n=>rfl
| str s=>rfl
| _=>simp [PV.dry2,PV.dry1] at h}
theorem PV.result_of_dry {p:PV} (h:p.dry=true):p.result=true:=by{
cases p with
| tup ps=>exact List.all_eq_true.2 fun q hq=>PV.clean_of_dry (List.all_eq_true.1 h q hq)
| agg ps=>exact PV.clean_of_dry (p:=.agg ps) h
| bool b=>rfl
| int k n=>rfl
| str s=>rfl
| _=>simp [PV.dry,PV.dry2,PV.dry1] at h}
section
variable {P:Program} [WInv P]
theorem ZdB {f:FuncId} {args:List PV} {res:PV} {v:Value} (hg:isGo P f=true) (hr:res.dry=true) (hv:∀ x:Ctx,Rep x res v)
  (h:∀ (x:Ctx) (vs:Array Value),Pre x args none vs->WInv.I P x.W->Calls P f vs x.W fun e w'=>e = .returned v/\Below x.W.heap.size x.W w'):Contract P f args none res []:=by{
refine ⟨hg,PV.result_of_dry hr,rfl,fun x vs hpre hI=>?_⟩
refine (h x vs hpre (hI x.W (Gr.refl _ _))).mono ?_
rintro _ w' ⟨rfl,hb⟩
have hF:∀ b o v,x.F b o->x.W.cell? ⟨b,o,none⟩=some v->w'.cell? ⟨b,o,none⟩=some v:=fun b o v hF hv=>(World.cell?_of_block (hb.block b (hpre.flt b o hF))).trans hv
have st:Step x { x with W:=w' }:=⟨fun _ h=>⟨h,rfl⟩,fun _ _ h=>h,hF⟩
refine ⟨{ x with W:=w' },v,rfl,rfl,st,?_,fun _ _ h=>.inl h,fun b o h=>Nat.lt_of_lt_of_le (hpre.flt b o h) hb.size,hv _,fun j os h=>by cases h⟩
exact ⟨hb.os,hb.tape,hb.output,hb.size,fun b hlt _=>hb.block b hlt⟩}
theorem Zac {f:FuncId} {args:List PV} {vals:List Value} {res:PV} {v:Value} (hg:isGo P f=true) (hp:Zmu args=some vals) (hr:res.dry=true) (hv:∀ x:Ctx,Rep x res v)
  (h:∀ w,WInv.I P w->Calls P f vals.toArray w fun e w'=>e = .returned v/\Below w.heap.size w w'):Contract P f args none res []:=
 ZdB hg hr hv fun x vs hpre hI=>by
  have e:vs.toList=vals:=Zju args hp vs.toList (by simpa using hpre.size) fun i p v hp hv=>hpre.rep i p v hp (by simpa using hv)
  obtain rfl:vs=vals.toArray:=by rw [<- e]
  exact h x.W hI
theorem ZeE {x:Ctx} (hflt:∀ b o,x.F b o->b<x.W.heap.size) {L:List ByteArray} {v:Value} (h:Rep x (.sl (L.map fun s=>[.str s])) v):∃ A n c,v = .slice A n c/\SlR x.W A n c L:=by{
generalize hels:(L.map fun s=>[PV.str s])=els at h
cases h with
| sl _ A n c k b off f hn hc hm hk hA hcell hh=>
  subst hels
  refine ⟨A,n,c,rfl,by simpa using hn,hc,hm,fun h0=>?_⟩
  have hL:0<L.length:=by rw [hn,List.length_map] at h0;exact h0
  have at_:∀ i s,L[i]? = some s->x.F b (off+i * k+0)/\x.W.cell? ⟨b,off+i * k+0,none⟩=some (.string s):=fun i s hi=>by
   have h1:(L.map fun s=>[PV.str s])[i]? = some [.str s]:=by rw [List.getElem?_map,hi];rfl
   obtain ⟨_,h2,h3⟩:=hcell i 0 _ _ h1 rfl
   have h4:=hh i 0 _ _ h1 rfl
   refine ⟨h2,?_⟩
   rw [h3]
   generalize f i 0=u at h4
   cases h4
   rfl
  have hk1:k=1:=by
   obtain ⟨s,hs⟩:∃ s,L[0]? = some s:=⟨_,List.getElem?_eq_getElem hL⟩
   exact (hk [.str s] (List.mem_map.2 ⟨s,List.mem_of_getElem? hs,rfl⟩)).symm
  subst hk1
  obtain ⟨s0,hs0⟩:∃ s,L[0]? = some s:=⟨_,List.getElem?_eq_getElem hL⟩
  refine ⟨b,off,fun i=>match L[i]? with | some s=>[.string s] | none=>[],hA h0,trivial,hflt _ _ (at_ 0 s0 hs0).1,fun i s hi=>?_⟩
  simp only [hi]
  refine ⟨rfl,fun j v hj=>?_⟩
  cases j with
  | zero=>simp at hj;subst hj;exact (at_ i s hi).2
  | succ j=>simp at hj}
def ZxI (w:World):Ctx:=⟨fun _=>False,fun b _=>b<w.heap.size,w,fun _=>undef⟩
theorem Zjv {f:FuncId} {args:List PV} {res:PV} (hc:Contract P f args none res []) {w:World} {vs:Array Value} (hl:args.length=vs.size) (hr:∀ (i:Nat) (p:PV) (v:Value),args[i]? = some p->vs[i]? = some v->Rep (ZxI w) p v)
  (hI:∀ w',Below w.heap.size w w'->WInv.I P w'):Calls P f vs w fun e w'=>∃ y v,y.W=w'/\e = .returned v/\Rep y res v/\Below w.heap.size w w':=by
 refine (hc.calls (ZxI w) vs (show Pre (ZxI w) args none vs from ⟨hl,hr,fun j os h=>(by cases h),fun g (h:False)=>h.elim,fun b o h=>h⟩) fun w' h=>hI w' ⟨h.os,h.tape,h.output,h.size,fun b hb=>h.block b hb fun ⟨j,os,e,_⟩=>by cases e⟩).mono ?_
 rintro e w' ⟨y,v,rfl,rfl,hp⟩
 exact ⟨y,v,rfl,rfl,hp.rep,hp.gr.os,hp.gr.tape,hp.gr.output,hp.gr.size,fun b hb=>hp.gr.block b hb fun ⟨j,os,e,_⟩=>by cases e⟩
theorem Zmv {f:FuncId} {args:List PV} {b:Bool} (hc:Contract P f args none (.bool b) []) {w:World} {vs:Array Value} (hl:args.length=vs.size) (hr:∀ (i:Nat) (p:PV) (v:Value),args[i]? = some p->vs[i]? = some v->Rep (ZxI w) p v)
  (hI:∀ w',Below w.heap.size w w'->WInv.I P w'):Calls P f vs w fun e w'=>e = .returned (.bool b)/\Below w.heap.size w w':=by{
refine (Zjv hc hl hr hI).mono ?_
rintro e w' ⟨y,v,rfl,rfl,h,hb⟩
cases h
exact ⟨rfl,hb⟩}
end
class EncPV (α:Type) [Enc α] where
 cs:α->List PV
 rep:∀ (w:World) (x:α) (vs:List Value),Enc.R (fun _=>True) w x vs->(cs x).length=Enc.k α/\∀ (j:Nat) (p:PV) (v:Value),(cs x)[j]? = some p->vs[j]? = some v->p.pure=true/\Rep (ZxI w) p v
theorem ZoQ {α:Type} [Enc α] [EncPV α] {w:World} {A:Option Addr} {n c:Nat} {xs:List α} (h:SlR w A n c xs):Rep (ZxI w) (.sl (xs.map EncPV.cs)) (.slice A n c):=by{
obtain ⟨h1,h2,h3,h4⟩:=h
rcases Nat.eq_zero_or_pos n with h0 | h0
have:xs = []:=List.eq_nil_of_length_eq_zero (by omega)
subst this
subst h0
exact .sl [] A 0 c 0 0 0 (fun _ _=>undef) rfl h2 h3 (by simp) (by omega) (fun i j e p he=>by simp at he) (fun i j e p he=>by simp at he)
obtain ⟨b,off,css,hA,_,hlt,hx⟩:=h4 h0
have key:∀ (i j:Nat) (e:List PV) (p:PV),(xs.map EncPV.cs)[i]? = some e->e[j]? = some p->∃ v,w.cell? ⟨b,off+i * Enc.k α+j,none⟩=some v/\p.pure=true/\Rep (ZxI w) p v:=fun i j e p he hp=>by
 rw [List.getElem?_map,Option.map_eq_some_iff] at he
 obtain ⟨x,hxi,rfl⟩:=he
 obtain ⟨hr,hc⟩:=hx i x hxi
 obtain ⟨hl,hrep⟩:=EncPV.rep w x (css i) hr
 have hj:j<(css i).length:=by rw [Enc.len hr,<- hl];exact (List.getElem?_eq_some_iff.1 hp).1
 exact ⟨_,hc j _ (List.getElem?_eq_getElem hj),hrep j p _ hp (List.getElem?_eq_getElem hj)⟩
refine .sl _ A n c (Enc.k α) b off (fun i j=>(w.cell? ⟨b,off+i * Enc.k α+j,none⟩).getD undef) (by simpa using h1) h2 h3 (fun e he=>?_) (fun _=>hA) (fun i j e p he hp=>?_) (fun i j e p he hp=>?_)
obtain ⟨x,hxm,rfl⟩:=List.mem_map.1 he
obtain ⟨i,hi⟩:=List.getElem?_of_mem hxm
exact (EncPV.rep w x (css i) (hx i x hi).1).1
obtain ⟨v,hv,hp1,_⟩:=key i j e p he hp
refine ⟨hp1,hlt,?_⟩
show w.cell? _=_
rw [hv];rfl
obtain ⟨v,hv,_,hr⟩:=key i j e p he hp
rw [hv]
exact hr}
instance:EncPV Int:=⟨fun x=>[.int .i64 x],fun w x vs h=>⟨rfl,fun j p v hp hv=>by
 cases h
 cases j with
 | zero=>simp at hp hv;subst hp hv;exact ⟨rfl,.int .i64 x⟩
 | succ j=>simp at hp⟩⟩
instance:EncPV ByteArray:=⟨fun x=>[.str x],fun w x vs h=>⟨rfl,fun j p v hp hv=>by
 cases h
 cases j with
 | zero=>simp at hp hv;subst hp hv;exact ⟨rfl,.str x⟩
 | succ j=>simp at hp⟩⟩
open Go.RowKit
theorem Zk2 (ob:List (Nat×Option (Gen×VObj))) (u:Nat) (o:Option (Gen×VObj)):Zcv (ZI ob) u o=ZI ((u,o)::ob):=by
 have:=ZeK [(u,o)] ob
 simpa [flips] using this
theorem ZrR {s:FS} {t:Nat} {q:PV} {us:List (Nat×Option (Gen×VObj))} (h:Zpg s.ob (s.tm t)=some (q,us)):Shift s ⟨fun x=>if x=t then q else s.tm x,flips s.ob us,s.ng⟩:=fun r a x hX=>by
 obtain ⟨F',st,hX',hr,_,_⟩:=ZfB (Flip.refl _) hX h (hX.tm t)
 refine ⟨{ x with F:=F' },rfl,hX'.defers,hX'.size,hX'.gr,hX'.gens,fun t'=>?_,hX'.ob,hX'.apart,hX'.flt,hX'.f0,hX'.fnew,hX'.rho,hX'.inv,hX'.keep⟩
 show Rep _ (if t'=t then q else s.tm t') _
 split
 rename_i e
 rw [e]
 exact hr
 exact hX'.tm t'
theorem ZrS {s:FS} {u:Nat} {g:Gen} {cs qs:List PV} {us:List (Nat×Option (Gen×VObj))} (h0:s.ob u=some (g,.box cs)) (h:ZeZ s.ob cs=some (qs,us)):Shift s ⟨s.tm,Zcv (flips s.ob us) u (some (g,.box qs)),s.ng⟩:=fun r a x hX=>by
 obtain ⟨_,b,T,vs,e1,e2,e3,e4,e5,e6,e7⟩:=hX.ob u g _ h0
 obtain ⟨F',st,hX',hR,hl,hf⟩:=ZcD cs (Flip.refl _) hX (g:=fun j=>vs.getD j undef) h fun j p hj=>by
  have hlt:j<vs.size:=by rw [<- e3];exact (List.getElem?_eq_some_iff.1 hj).1
  have:vs[j]? = some (vs.getD j undef):=by simp [Array.getD,hlt]
  exact e5 j p _ hj this
 have hu:(flips s.ob us) u=some (g,.box cs):=by
  rcases hf u with e | ⟨g2,E2,k2,sh2,els2,e,_⟩
  ·rw [e,h0]
  ·rw [h0] at e;cases e
 refine ⟨{ x with F:=F' },rfl,hX'.defers,hX'.size,hX'.gr,hX'.gens,hX'.tm,fun t' g' o' ho=>?_,fun t1 t2 g1 g2 o1 o2 bb hne k1 k2 hb=>?_,hX'.flt,hX'.f0,hX'.fnew,hX'.rho,hX'.inv,hX'.keep⟩
 ·change (if t'=u then some (g,VObj.box qs) else flips s.ob us t')=some (g',o') at ho
  split at ho
  ·injection ho with ho
   injection ho with j1 j2
   subst j1 j2
   obtain ⟨j0,b2,T2,vs2,j1,j2,j3,j4,j5,j6,j7⟩:=hX'.ob u g _ hu
   refine ⟨j0,b,T,vs,e1,e2,by rw [hl,e3],fun p hp=>?_,fun j p v hp hv=>?_,e6,fun o hF=>?_⟩
   ·obtain ⟨j,hj⟩:=List.getElem?_of_mem hp
    exact PV.cell_of_pure (hR j p hj).1
   ·have:=(hR j p hp).2
    rw [Array.getD_eq_getD_getElem?,hv] at this
    exact this
   ·have jb:b2=b:=by
     change x.ρ g=_ at j1
     rw [e1] at j1
     injection j1 with j1
     injection j1 with j1
     injection j1 with j1
     exact j1.symm
    subst jb
    exact j7 o hF
  ·exact hX'.ob t' g' o' ho
 ·change (if t1=u then some (g,VObj.box qs) else flips s.ob us t1)=some (g1,o1) at k1
  change (if t2=u then some (g,VObj.box qs) else flips s.ob us t2)=some (g2,o2) at k2
  have f1:∃ o1',(flips s.ob us) t1=some (g1,o1'):=by
   split at k1
   ·rename_i e;subst e;injection k1 with k1;injection k1 with e3 e4;subst e3;exact ⟨_,hu⟩
   ·exact ⟨_,k1⟩
  have f2:∃ o2',(flips s.ob us) t2=some (g2,o2'):=by
   split at k2
   ·rename_i e;subst e;injection k2 with k2;injection k2 with e3 e4;subst e3;exact ⟨_,hu⟩
   ·exact ⟨_,k2⟩
  obtain ⟨o1',f1⟩:=f1
  obtain ⟨o2',f2⟩:=f2
  exact hX'.apart t1 t2 g1 g2 o1' o2' bb hne f1 f2 hb
theorem ZrT {s:FS} {u w j:Nat} {g:Gen} {cs:List PV} {E k:Nat} (hne:w≠u) (h0:s.ob u=some (g,.box cs)) (h:cs[j]? = some .nil) :
  Shift s ⟨s.tm,Zcv (Zcv s.ob u (some (g,.box (cs.set j (.row w (s.ng,0)))))) w (some ((s.ng,0),.row E k false [])),s.ng+1⟩:=fun r a x hX=>by
 have hnew:¬ x.G (s.ng,0):=fun hg=>by
  rcases hX.gens _ hg with e | ⟨_,e⟩
  exact absurd e (Nat.lt_irrefl _)
  exact e.elim
 let y:Ctx:=⟨fun g=>x.G g\/g=(s.ng,0),x.F,x.W,fun g=>if g=(s.ng,0) then .slice none 0 0 else x.ρ g⟩
 have st:Step x y:=⟨fun g hg=>⟨.inl hg,if_neg (fun (e:g=(s.ng,0))=>hnew (by rw [<- e];exact hg))⟩,fun _ _ h=>h,fun _ _ _ _ h=>h⟩
 have hρ:y.ρ (s.ng,0) = .slice none 0 0:=if_pos rfl
 obtain ⟨hgu,hO⟩:=hX.ob u g _ h0
 have hO2:ObRep y r.W0.heap.size r.D g (.box cs):=hO.step hgu st fun b _=>⟨rfl,fun _ h=>h⟩
 have old:∀ t' g' o',(if t'=w then some ((s.ng,0),VObj.row E k false []) else if t'=u then some (g,VObj.box (cs.set j (.row w (s.ng,0)))) else s.ob t')=some (g',o')->(t'=w/\g'=(s.ng,0)/\o' = .row E k false [])\/(t'=u/\g'=g/\o' = .box (cs.set j (.row w (s.ng,0))))\/s.ob t'=some (g',o'):=fun t' g' o' ho=>by
  split at ho
  rename_i e
  injection ho with ho
  injection ho with e1 e2
  exact .inl ⟨e,e1.symm,e2.symm⟩
  split at ho
  rename_i e
  injection ho with ho
  injection ho with e1 e2
  exact .inr (.inl ⟨e,e1.symm,e2.symm⟩)
  exact .inr (.inr ho)
 refine ⟨y,rfl,hX.defers,hX.size,hX.gr,fun g hg=>.inl ?_,fun t'=>(hX.tm t').step st,fun t' g' o' ho=>?_,fun t1 t2 g1 g2 o1 o2 b hne' k1 k2 hb=>?_,hX.flt,hX.f0,hX.fnew,fun g hg=>⟨(st.G g (hX.rho g hg).1).1,(st.G g (hX.rho g hg).1).2.trans (hX.rho g hg).2⟩,hX.inv,hX.keep⟩
 rcases hg with hg | rfl
 rcases hX.gens g hg with e | ⟨_,e⟩
 show g.1<s.ng+1;omega
 exact e.elim
 exact Nat.lt_succ_self _
 rcases old t' g' o' ho with ⟨rfl,rfl,rfl⟩ | ⟨rfl,rfl,rfl⟩ | ho
 exact ⟨.inr rfl,by simp,by simp,[],by rw [hρ];exact World.ownsRow_nil _ _ _ _,fun m p v hp=>by simp at hp,fun b hb=>by rw [hρ] at hb;simp [blk] at hb⟩
 obtain ⟨b,T,vs,e1,e2,e3,e4,e5,e6,e7⟩:=hO2
 refine ⟨.inl hgu,b,T,vs,e1,e2,by rw [List.length_set];exact e3,fun p hp=>?_,fun i p v hp hv=>?_,e6,e7⟩
 rcases List.mem_or_eq_of_mem_set hp with hp | rfl
 exact e4 p hp
 rfl
 by_cases hi:j=i
 subst hi
 have hr:=e5 j _ v h hv
 have hlt:j<cs.length:=(List.getElem?_eq_some_iff.1 h).1
 rw [List.getElem?_set_self hlt] at hp
 injection hp with hp
 subst hp
 cases hr
 exact .row w (s.ng,0) none 0 0 (.inr rfl) hρ
 rw [List.getElem?_set_ne hi] at hp
 exact e5 i p v hp hv
 obtain ⟨h3,h4⟩:=hX.ob t' g' o' ho
 exact ⟨.inl h3,h4.step h3 st fun b _=>⟨rfl,fun _ h=>h⟩⟩
 have noB:∀ b,blk (y.ρ (s.ng,0))≠some b:=fun b hb=>by rw [hρ] at hb;simp [blk] at hb
 have tr:∀ t' g' o',((t'=w/\g'=(s.ng,0)/\o' = .row E k false [])\/(t'=u/\g'=g/\o' = .box (cs.set j (.row w (s.ng,0))))\/s.ob t'=some (g',o'))->g'=(s.ng,0)\/∃ o2,s.ob t'=some (g',o2):=fun t' g' o' h=>by
  rcases h with ⟨_,e,_⟩ | ⟨e1,e2,_⟩ | h
  exact .inl e
  subst e1 e2;exact .inr ⟨_,h0⟩
  exact .inr ⟨_,h⟩
 rcases tr _ _ _ (old t1 g1 o1 k1) with rfl | ⟨p1,q1⟩
 exact absurd hb (noB b)
 rcases tr _ _ _ (old t2 g2 o2 k2) with rfl | ⟨p2,q2⟩
 exact noB b
 rw [(st.G g1 (hX.ob t1 g1 p1 q1).1).2] at hb
 rw [(st.G g2 (hX.ob t2 g2 p2 q2).1).2]
 exact hX.apart t1 t2 g1 g2 p1 p2 b hne' q1 q2 hb
section
variable {tm:List (Nat×PV)} {ob:List (Nat×Option (Gen×VObj))} {ng:Nat}
theorem Zjn (t:Nat) {p q:PV} {us:List (Nat×Option (Gen×VObj))} (h0:look tm t=p) (h:Zpg (ZI ob) p=some (q,us)):Shift (mkS tm ob ng) (mkS ((t,q)::tm) (us.reverse++ob) ng):=by{
have:=ZrR (s:=mkS tm ob ng) (t:=t) (q:=q) (us:=us) (by show Zpg (ZI ob) (look tm t)=_;rw [h0];exact h)
have e:(⟨fun x=>if x=t then q else look tm x,flips (ZI ob) us,ng⟩:FS)=mkS ((t,q)::tm) (us.reverse++ob) ng:=by
 rw [ZeK]
 rfl
rw [<- e]
exact this}
theorem ZfU (u:Nat) {g:Gen} {cs qs:List PV} {us:List (Nat×Option (Gen×VObj))} (h0:ZI ob u=some (g,.box cs)) (h:ZeZ (ZI ob) cs=some (qs,us)):Shift (mkS tm ob ng) (mkS tm ((u,some (g,.box qs))::(us.reverse++ob)) ng):=by{
have:=ZrS (s:=mkS tm ob ng) (u:=u) (g:=g) (cs:=cs) (qs:=qs) (us:=us) h0 h
have e:(⟨look tm,Zcv (flips (ZI ob) us) u (some (g,.box qs)),ng⟩:FS)=mkS tm ((u,some (g,.box qs))::(us.reverse++ob)) ng:=by
 rw [ZeK,Zk2]
 rfl
rw [<- e]
exact this}
theorem ZbO (u w j E k:Nat) {g:Gen} {cs:List PV} (hne:(w == u)=false) (h0:ZI ob u=some (g,.box cs)) (h:cs[j]? = some .nil):Shift (mkS tm ob ng) (mkS tm ((w,some ((ng,0),.row E k false []))::(u,some (g,.box (cs.set j (.row w (ng,0)))))::ob) (ng+1)):=by{
have:=ZrT (s:=mkS tm ob ng) (u:=u) (w:=w) (j:=j) (g:=g) (cs:=cs) (E:=E) (k:=k) (by simpa using hne) h0 h
have e:(⟨look tm,Zcv (Zcv (ZI ob) u (some (g,.box (cs.set j (.row w (ng,0)))))) w (some ((ng,0),.row E k false [])),ng+1⟩:FS)=mkS tm ((w,some ((ng,0),.row E k false []))::(u,some (g,.box (cs.set j (.row w (ng,0)))))::ob) (ng+1):=by
 rw [Zk2,Zk2]
 rfl
rw [<- e]
exact this}
end
open Go.RowKit
def Zyj (σ:List (Gen×Gen)):PV->Option PV | .fn f ps=>(ZoB σ ps).map (.fn f) | p=>ren σ p
section
variable {σ:List (Gen×Gen)} {x:Ctx}
theorem ZvN {p q:PV} {v:Value} (h:Zyj σ p=some q) (hr:Rep x q v):Rep (Zj3 σ x) p v:=by{
cases p with
| fn f ps=>
  simp only [Zyj,Option.map_eq_some_iff] at h
  obtain ⟨qs,h1,rfl⟩:=h
  obtain ⟨h2,h3⟩:=Zez h1
  cases hr with
  | fn _ _ cs hl hh=>
    refine .fn f ps cs (h2.trans hl) fun i p v hp hv=>?_
    obtain ⟨q,hq,hpq⟩:=h3 i p hp
    exact Ziy hpq (hh i q v hq hv)
| _=>exact Ztf h hr}
end
def ZxH (σ:List (Gen×Gen)) (tm:List (Nat×PV)):List (Nat×PV)->Prop | []=>True | (k,v)::r=>Zyj σ v=some (look tm k)/\ZxH σ tm r
theorem Zt (σ:List (Gen×Gen)) {tm tm':List (Nat×PV)} {ob ob':List (Nat×Option (Gen×VObj))} {ng ng':Nat} (h1:ZxH σ tm tm') (h2:ZpU σ ob ob') (h3:(decide (0<ng')&&σ.all fun q=>decide (q.1.1<ng'))=true):Shift (mkS tm ob ng) (mkS tm' ob' ng'):=fun r a x h=>by
 simp only [Bool.and_eq_true,decide_eq_true_eq,List.all_eq_true] at h3
 have k1:∀ (l:List (Nat×PV)),ZxH σ tm l->∀ t,look l t = .un\/Zyj σ (look l t)=some (look tm t):=fun l=>by
  induction l with
  | nil=>intro _ t;exact .inl rfl
  | cons q l ih=>
    obtain ⟨k,v⟩:=q
    intro hl t
    show (if t=k then v else look l t)=_\/Zyj σ (if t=k then v else look l t)=_
    split
    rename_i e;subst e;exact .inr hl.1
    exact ih hl.2 t
 have k2:∀ (l:List (Nat×Option (Gen×VObj))),ZpU σ ob l->∀ t,ZI l t=none\/(ZnX σ (ZI l t)=ZI ob t/\(ZnX σ (ZI l t)).isSome=true):=fun l=>by
  induction l with
  | nil=>intro _ t;exact .inl rfl
  | cons q l ih=>
    obtain ⟨k,v⟩:=q
    intro hl t
    show (if t=k then v else ZI l t)=_\/(ZnX σ (if t=k then v else ZI l t)=_/\(ZnX σ (if t=k then v else ZI l t)).isSome=true)
    split
    rename_i e;subst e;exact .inr hl.1
    exact ih hl.2 t
 have k3:∀ t g' o',ZI ob' t=some (g',o')->∃ g o,ZI ob t=some (g,o)/\ZnX σ (some (g',o'))=some (g,o):=fun t g' o' ho=>by
  rcases k2 ob' h2 t with e | ⟨e1,e2⟩
  rw [e] at ho;cases ho
  rw [ho] at e1 e2
  obtain ⟨⟨g,o⟩,hw⟩:=Option.isSome_iff_exists.1 e2
  exact ⟨g,o,by rw [<- e1,hw],hw⟩
 refine ⟨Zj3 σ x,rfl,h.defers,h.size,h.gr,fun g' hg'=>.inl ?_,fun t=>?_,fun t g' o' ho=>?_,fun t t' g g' o o' b hne e1 e2 hb=>?_,h.flt,h.f0,h.fnew,fun g hg=>?_,h.inv,h.keep⟩
 obtain ⟨g,hg,_⟩:=hg'
 unfold toG at hg
 show g'.1<ng'
 split at hg
 rename_i e;omega
 simp only [Option.map_eq_some_iff] at hg
 obtain ⟨q,hq,_⟩:=hg
 have hm:=List.mem_of_find?_eq_some hq
 have he:=List.find?_some hq
 simp only [beq_iff_eq] at he
 rw [<- he]
 exact h3.2 q hm
 rcases k1 tm' h1 t with e | e
 show Rep _ (look tm' t) _
 rw [e];exact .un _
 exact ZvN e (h.tm t)
 obtain ⟨g,o,e1,e2⟩:=k3 t g' o' ho
 exact (Zhf e2 (h.ob t g o e1)).2
 obtain ⟨g1,o1,q1,q2⟩:=k3 t g o e1
 obtain ⟨g2,o2,q3,q4⟩:=k3 t' g' o' e2
 have r1:=(Zhf q2 (h.ob t g1 o1 q1)).1
 have r2:=(Zhf q4 (h.ob t' g2 o2 q3)).1
 simp only [Zj3,r1,Option.getD_some] at hb
 simp only [Zj3,r2,Option.getD_some]
 exact h.apart t t' g1 g2 o1 o2 b hne q1 q3 hb
 have h0:=h.inv.2 g hg
 have:toG σ g=some g:=by unfold toG;rw [if_pos h0]
 exact ⟨⟨g,this,(h.rho g hg).1⟩,by simp only [Zj3,this,Option.getD_some];exact (h.rho g hg).2⟩
end VL
end Go.Proofs.YtpdaeclbndpabaaGreatDoor
