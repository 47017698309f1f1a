/- A body runs, in values without addresses; a region whatever its order. No program is named. -/
import Derived.Test.YtjoneoobolnnbaaGreatDoorCB01
import Derived.LoopN
import Derived.Test.YtjoneoobolnnbaaGreatDoorRows
namespace Go.Proofs.YtjoneoobolnnbaaGreatDoor
namespace VL
open Go.RowKit
def Zp (ops:Array Oper) (s:FS) (o:Oper):Option Bool:=match o.guard with
 | none=>some true
 | some (j,want)=>match (ops[j]?).bind (·.dst) with
   | some d=>match s.tm d with
     | .bool b=>some (b == want)
     | .tup []=>some false
     | _=>none
   | none=>none
def ZuN:PV→List Nat
 | .ptr t _ _ | .elp t _ _ _ _ | .row t _=>[t]
 | _=>[]
def Zcp:PV→List Nat
 | .ptr t _ _ | .elp t _ _ _ _ | .row t _=>[t]
 | .fn _ caps=>caps.flatMap ZuN
 | _=>[]
def ZfJ:PV→List Nat
 | .agg ps=>ps.flatMap Zcp
 | p=>Zcp p
def Zp6 (f:Nat→Option (Gen×VObj)) (t:Nat):List Nat:=match f t with
 | some (_,.box cs)=>cs.flatMap Zcp
 | _=>[]
def Zhb (f:Nat→Option (Gen×VObj)) (p:PV):List Nat:=ZfJ p++(ZfJ p).flatMap (Zp6 f)
def quiet:Op→Bool
 | .move _ | .assign _ | .nilCheck _=>true
 | _=>false
def ZN (s:FS) (o:Oper):List Nat:=if quiet o.op then [] else o.op.operands.toList.flatMap fun e=>Zhb s.ob (ev s e)
structure Agree (ops:Array Oper) (o:Oper) (s s':FS):Prop where
 ev:∀ e ∈ o.op.operands,VL.ev s e=VL.ev s' e
 ng:s.ng=s'.ng
 ob:∀ t ∈ ZN s o,s.ob t=s'.ob t
 wanted:Zp ops s o=Zp ops s' o
theorem Agree.refl (ops:Array Oper) (o:Oper) (s:FS):Agree ops o s s:=⟨fun _ _=>rfl,rfl,fun _ _=>rfl,rfl⟩
inductive OpR (P:Program) [WInv P] (ops:Array Oper) (i:Nat) (o:Oper) (s:FS):Upd→Prop
 | skip (hw:Zp ops s o=some false):OpR P ops i o s ⟨.tup [],[]⟩
 | act {u:Upd} (hw:Zp ops s o=some true) (h:ActR P i o s u):OpR P ops i o s u
 | call {f:FuncId} {es:Array Operand} {ts:Array TypeId} {args:List PV} {us:List (Nat×Option (Gen×VObj))} {res:PV} (hw:Zp ops s o=some true) (ho:o.op = .call { callee:=.value (.func f),args:=es,argTypes:=ts })
   (ha:Zf6 s.ob (es.toList.map (ev s))=some (args,us)) (hc:Contract P f args none res []):OpR P ops i o s ⟨res,us⟩
 | callO {f:FuncId} {es:Array Operand} {ts:Array TypeId} {pre post pre' post':List PV} {t:Nat} {g:Gen} {cs qs obj':List PV} {us us1 us2 us3:List (Nat×Option (Gen×VObj))} {res:PV} (hw:Zp ops s o=some true) (ho:o.op = .call { callee:=.value (.func f),args:=es,argTypes:=ts })
   (he:es.toList.map (ev s)=pre ++ .ptr t g 0::post) (hob:Zb5 s.ob t g=some (.box cs)) (h1:Zf6 s.ob pre=some (pre',us1)) (h2:ZfZ s.ob cs=some (qs,us2)) (h3:Zf6 s.ob post=some (post',us3)) (hus:us=us1++(us2++us3))
   (hc:Contract P f (pre' ++ .ptr pre.length (0,pre.length) 0::post') (some (pre.length,qs)) res obj'):OpR P ops i o s ⟨res,us ++ [(t,some (g,.box obj'))]⟩
 | any {u:Upd} (hw:Zp ops s o=some true) (h:∀ (s':FS) (r:Run),Agree ops o s s'→r.I=WInv.I P→OpOK P r o i s' u):OpR P ops i o s u
 | anyx {u:Upd} (hw:Zp ops s o=some true) (h:∀ (s':FS) (r:Run),Agree ops o s s'→r.I=WInv.I P→Zsi P r o i s' u):OpR P ops i o s u
def Zvb (fp:Option (List Nat×List Nat)) (K W:List Nat):Bool:=match fp with
 | none=>true
 | some (k,w)=>K.all (k.contains ·)&&W.all (w.contains ·)
inductive RunO (P:Program) [WInv P] (ops:Array Oper) (fp:Nat→Option (List Nat×List Nat)):List Nat→FS→FS→Prop
 | nil {s:FS}:RunO P ops fp [] s s
 | cons {i:Nat} {L:List Nat} {o:Oper} {u:Upd} {s s':FS} (ho:ops[i]? = some o) (h:OpR P ops i o s u) (hf:Zvb (fp i) (ZN s o) (u.obs.map (·.1))=true) (hr:RunO P ops fp L (s.app o.dst u) s'):RunO P ops fp (i::L) s s'
def indep (ops:Array Oper) (fp:Nat→Option (List Nat×List Nat)) (k i:Nat):Bool:=match ops[k]?,ops[i]?,fp k,fp i with
 | some ok,some oi,some (Kk,Wk),some (Ki,Wi)=>ok.apart ops oi&&Wk.all (fun t=>!Ki.contains t && !Wi.contains t)&&Wi.all (fun t=>!Kk.contains t)
 | _,_,_,_=>false
def reach (ops:Array Oper):Nat→Nat→Nat→Bool
 | 0,_,_=>false
 | n+1,k,i=>match ops[i]? with
   | some o=>o.after.toList.any fun e=>Region.binds .any e&&(e.on == k||reach ops n k e.on)
   | none=>false
def ZnV (ops:Array Oper) (fp:Nat→Option (List Nat×List Nat)):Bool:=
 (List.range ops.size).all fun i=>((ops[i]?).map fun o=>o.after.toList.all fun e=>!Region.binds .any e||decide (e.on<i)).getD false&&(List.range i).all fun k=>indep ops fp k i||reach ops ops.size k i
inductive Ex where
 | normal
 | exit (id:Nat)
 | ret
 deriving DecidableEq
def Ex.to:Ex→Exit
 | .normal=>.normal
 | .exit id=>.exit id
 | .ret=>.ret
def Ex.block (id:Nat):Ex→Ex
 | .exit k=>if k=id then .normal else .exit k
 | e=>e
def Shift (s s1:FS):Prop:=∀ (r:Run) (a:Act) (x:Ctx),RstX r (fun _=>False) s a x→∃ y:Ctx,y.W=x.W∧RstX r (fun _=>False) s1 a y
inductive RunC (P:Program) [WInv P]:Code→FS→Ex→FS→Prop
 | skip {s:FS}:RunC P .skip s .normal s
 | label {s:FS} {l:Nat}:RunC P (.label l) s .normal s
 | ret {s:FS}:RunC P .ret s .ret s
 | exit {s:FS} {id:Nat}:RunC P (.exit id) s (.exit id) s
 | seqN {c d:Code} {s s1 s2:FS} {e:Ex} (h:RunC P c s .normal s1) (k:RunC P d s1 e s2):RunC P (.seq c d) s e s2
 | seqX {c d:Code} {s s1:FS} {e:Ex} (h:RunC P c s e s1) (he:e≠.normal):RunC P (.seq c d) s e s1
 | cond {c:Operand} {x y:Code} {s s1:FS} {e:Ex} {t:Bool} (hc:ev s c = .bool t) (h:RunC P (if t then x else y) s e s1):RunC P (.cond c x y) s e s1
 | block {id:Nat} {c:Code} {s s1:FS} {e:Ex} (h:RunC P c s e s1):RunC P (.block id c) s (e.block id) s1
 | loopN {c:Code} {s s1 s2:FS} {e:Ex} (h:RunC P c s .normal s1) (k:RunC P (.loop c) s1 e s2):RunC P (.loop c) s e s2
 | loopX {c:Code} {s s1:FS} {e:Ex} (h:RunC P c s e s1) (he:e≠.normal):RunC P (.loop c) s e s1
 | region {id:Nat} {ops:Array Oper} {draw:Bool} {s s1:FS} (fp:Nat→Option (List Nat×List Nat)) (h:RunO P ops fp (List.range ops.size) s s1) (hd:draw=true→ZnV ops fp=true):RunC P (.region id ops draw) s .normal ⟨s1.tm,s1.ob,s1.ng+1⟩
 | shift {c:Code} {s s1 s2:FS} {e:Ex} (hs:Shift s s1) (h:RunC P c s1 e s2):RunC P c s e s2
def Zbq (N:Nat):Code→Bool
 | .region _ ops _=>decide (ops.size≤1000000)&&ops.all fun o=>match o.dst with | some d=>decide (d<N) | none=>true
 | .seq a b=>Zbq N a&&Zbq N b
 | .cond _ a b=>Zbq N a&&Zbq N b
 | .block _ c=>Zbq N c
 | .loop c=>Zbq N c
 | _=>true
section
variable {P:Program} [WInv P] {r:Run} {ops:Array Oper} {i:Nat} {o:Oper} {s:FS} {u:Upd}
theorem Zlg {S:Nat→Prop} {a:Act} {x:Ctx} {b:Bool} (hX:RstX r S s a x) (h:Zp ops s o=some b):Region.wanted o (yielded ops a.tmps)=b:=by
 unfold Zp at h
 unfold Region.wanted
 cases hg:o.guard with
 | none=>rw [hg] at h;simpa using h
 | some q=>
   obtain ⟨j,want⟩:=q
   rw [hg] at h
   simp only at h ⊢
   unfold yielded
   cases hd:(ops[j]?).bind (·.dst) with
   | none=>rw [hd] at h;simp at h
   | some d=>
     rw [hd] at h
     simp only at h
     simp only [Option.bind_some]
     have hr:=hX.tm d
     rw [Array.getD_eq_getD_getElem?] at hr
     split at h
     ·rename_i t ht
      rw [ht] at hr
      injection h with h
      cases hv:a.tmps[d]? with
      | none=>rw [hv] at hr;exact absurd hr (by intro hr;cases hr)
      | some v=>
        rw [hv] at hr
        cases hr
        simp only
        rw [← h]
        cases t<;>cases want<;>rfl
     ·rename_i ht
      rw [ht] at hr
      injection h with h
      subst h
      cases hv:a.tmps[d]? with
      | none=>simp
      | some v=>
        rw [hv] at hr
        generalize hw:(some v).getD undef=w at hr
        cases hr
        simp at hw
        subst hw
        simp
     ·cases h
theorem Zp7 (hI:r.I=WInv.I P) (ho:ops[i]? = some o) (h:OpR P ops i o s u) {S:Nat→Prop} {a:Act} {x:Ctx} {Q:Exit→Act→World→Prop} {K:Act→World→Prop} (hX:RstX r S s a x) (hiM:i<1000000) (hi:¬ S i) (hi2:∀ j,S (i+1000000 * (j+1))→S i) (hd:∀ k,o.dst=some k→k<r.N)
  (hK:∀ a' y,RstX r (fun j=>S j∨j=i∨1000000≤j∧j % 1000000=i) (s.app o.dst u) a' y→K a' y.W):wpOp P ops Q i K a x.W:=by
 unfold wpOp
 simp only [ho]
 have go:Zsi P r o i s u→Zp ops s o=some true→(if Region.wanted o (yielded ops a.tmps)=true then Oper.wp P o a x.W K Q∨(o.asks P a x.W∧LetsOut Q) else K (a.put o.dst undef) x.W):=fun hok hw=>by
  rw [if_pos (Zlg hX hw)]
  exact .inl (Oper.wp_mono (fun a' W' ⟨y,hy,hR⟩=>hy ▸ hK a' y hR) (hok S a x Q hX hiM hi hi2 hd))
 cases h with
 | skip hw=>
   rw [if_neg (by rw [Zlg hX hw];simp)]
   exact hK _ x ((hX.pureVal hd (.tup [] #[] rfl (fun i p v hp=>by simp at hp))).moreS fun _ h=>.inl h)
 | act hw h=>exact go (ZyB h).x hw
 | call hw hop ha hc=>exact go (ZwS hop ha hc hI).x hw
 | callO hw hop he hob h1 h2 h3 hus hc=>exact go (Zvj hop he hob h1 h2 h3 hus hc hI).x hw
 | any hw h=>exact go (h s r (Agree.refl ops o s) hI).x hw
 | anyx hw h=>exact go (h s r (Agree.refl ops o s) hI) hw
theorem ZuO (hI:r.I=WInv.I P) {fp:Nat→Option (List Nat×List Nat)} {L:List Nat} {s s':FS} (h:RunO P ops fp L s s') (hN:∀ (i:Nat) (o:Oper),ops[i]? = some o→∀ k,o.dst=some k→k<r.N) :
  ∀ {S:Nat→Prop} {a:Act} {x:Ctx} {Q:Exit→Act→World→Prop},RstX r S s a x→L.Nodup→(∀ i ∈ L,i<1000000)→(∀ i ∈ L,¬ S i∧∀ j,S (i+1000000 * (j+1))→S i)→(∀ a' y S',RstX r S' s' a' y→Q .normal a' y.W)→wpOps P ops Q L a x.W:=by
 induction h with
 | nil=>exact fun hX _ _ _ hQ=>hQ _ _ _ hX
 | cons ho h hf hr ih=>
   rename_i i0 L0 o0 u0 s0 s1
   intro S a x Q hX hnd hM hS hQ
   rw [wpOps_cons]
   refine Zp7 hI ho h hX (hM _ (List.mem_cons_self ..)) (hS _ (List.mem_cons_self ..)).1 (hS _ (List.mem_cons_self ..)).2 (hN _ _ ho) fun a' y hY=>?_
   have hne:∀ j,j ∈ L0→j≠i0:=fun j hj e=>(List.nodup_cons.1 hnd).1 (e ▸ hj)
   have hi0:=hM i0 (List.mem_cons_self ..)
   refine ih hY (List.nodup_cons.1 hnd).2 (fun j hj=>hM j (List.mem_cons_of_mem _ hj)) (fun j hj=>⟨fun hSj=>?_,fun k hSk=>?_⟩) hQ
   ·have hjm:=hM j (List.mem_cons_of_mem _ hj)
    rcases hSj with h1 | h1 | h1
    ·exact (hS j (List.mem_cons_of_mem _ hj)).1 h1
    ·exact hne j hj h1
    ·omega
   ·have hjm:=hM j (List.mem_cons_of_mem _ hj)
    rcases hSk with h1 | h1 | h1
    ·exact .inl ((hS j (List.mem_cons_of_mem _ hj)).2 k h1)
    ·omega
    ·exact absurd (show j=i0 by omega) (hne j hj)
end
end VL
end Go.Proofs.YtjoneoobolnnbaaGreatDoor
namespace Go.Proofs.YtjoneoobolnnbaaGreatDoor
namespace VL
open Go.RowKit
section
variable {f f':Nat→Option (Gen×VObj)}
theorem Zbf {t:Nat} (h:f t=f' t) (g:Gen):Zb5 f t g=Zb5 f' t g:=by unfold Zb5;rw [h]
theorem ZnJ {p:PV} (h:∀ t ∈ Zcp p,f t=f' t):Zqj f p=Zqj f' p:=by
 cases p<;>simp only [Zqj]
 rename_i t g
 rw [Zbf (h t (by simp [Zcp])) g]
theorem Zgw:∀ {ps:List PV} (_:∀ t ∈ ps.flatMap Zcp,f t=f' t),ZfZ f ps=ZfZ f' ps
 | [],_=>rfl
 | p::ps,h=>by
   simp only [ZfZ]
   rw [ZnJ fun t ht=>h t (by simp [ht]),Zgw fun t ht=>h t (by
    rw [List.flatMap_cons];exact List.mem_append_right _ ht)]
theorem Zuh {p:PV} (h:∀ t ∈ ZfJ p,f t=f' t):res f p=res f' p:=by
 cases p with
 | agg ps=>simp only [res];rw [Zgw h]
 | _=>simp only [ZfJ] at h;simp only [res];exact ZnJ h
theorem Zdt:∀ {ps:List PV} (_:∀ p ∈ ps,∀ t ∈ ZfJ p,f t=f' t),Zf6 f ps=Zf6 f' ps
 | [],_=>rfl
 | p::ps,h=>by
   simp only [Zf6]
   rw [Zuh (h p (List.mem_cons_self ..)),Zdt fun q hq=>h q (List.mem_cons_of_mem _ hq)]
theorem ZpN {p:PV} (h:∀ t ∈ Zcp p,f t=f' t):ZhX f p=ZhX f' p:=by
 cases p<;>simp only [ZhX]<;>rw [Zbf (h _ (by simp [Zcp])) _]
theorem ZsM {p:PV} (h:∀ t ∈ Zcp p,f t=f' t):Zu9 f p=Zu9 f' p:=by
 cases p<;>simp only [Zu9]<;>rw [Zbf (h _ (by simp [Zcp])) _]
theorem ZnK {p:PV} (h:∀ t ∈ Zcp p,f t=f' t):Zlc f p=Zlc f' p:=by
 cases p<;>simp only [Zlc]<;>rw [Zbf (h _ (by simp [Zcp])) _]
theorem ZsN {p:PV} (h:∀ t ∈ Zcp p,f t=f' t):Zva f p=Zva f' p:=by
 cases p<;>simp only [Zva]<;>rw [Zbf (h _ (by simp [Zcp])) _]
end
theorem Zxd {p:PV} {t:Nat} (h:t ∈ Zcp p):t ∈ ZfJ p:=by
 cases p<;>first | exact h | (simp [Zcp] at h)
theorem ZhT {f:Nat→Option (Gen×VObj)} {p:PV} {t:Nat} (h:t ∈ ZfJ p):t ∈ Zhb f p:=List.mem_append_left _ h
theorem ZnL {p:PV}:p.cells.flatMap Zcp=ZfJ p:=by
 cases p<;>simp [PV.cells,ZfJ,Zcp]
theorem ZnM {place:Nat→Option (Nat×Nat)}:∀ (parts:List (Nat×PV)) {cs out:List PV} (_:Zgx place cs parts=some out),∀ t ∈ out.flatMap Zcp,t ∈ cs.flatMap Zcp∨∃ q ∈ parts,t ∈ ZfJ q.2
 | [],cs,out,h,t,ht=>by
   simp only [Zgx,Option.some.injEq] at h
   subst h
   exact .inl ht
 | (i,v)::parts,cs,out,h,t,ht=>by
  simp only [Zgx] at h
  split at h
  ·cases h
  ·split at h
   ·cases h
   ·rcases ZnM parts h t ht with h1 | ⟨q,hq,h1⟩
    ·unfold ZdT at h1
     rw [List.flatMap_append,List.flatMap_append,List.mem_append,List.mem_append] at h1
     rcases h1 with (h1 | h1) | h1
     ·obtain ⟨p,hp,h2⟩:=List.mem_flatMap.1 h1
      exact .inl (List.mem_flatMap.2 ⟨p,List.mem_of_mem_take hp,h2⟩)
     ·rw [ZnL] at h1
      exact .inr ⟨_,List.mem_cons_self ..,h1⟩
     ·obtain ⟨p,hp,h2⟩:=List.mem_flatMap.1 h1
      exact .inl (List.mem_flatMap.2 ⟨p,List.mem_of_mem_drop hp,h2⟩)
    ·exact .inr ⟨q,List.mem_cons_of_mem _ hq,h1⟩
theorem Zq0 (v:Value):Zcp (Zci v) = []:=by
 unfold Zci
 split<;>rfl
section
variable {P:Program} {ops:Array Oper} {i:Nat} {o:Oper} {s s':FS} {u:Upd}
theorem Agree.key (h:Agree ops o s s') {e:Operand} (he:e ∈ o.op.operands) (hq:quiet o.op=false:=by rfl):∀ t ∈ Zhb s.ob (VL.ev s e),s.ob t=s'.ob t:=fun t ht=>
 h.ob t (by unfold ZN;rw [hq];exact List.mem_flatMap.2 ⟨e,by simpa using he,ht⟩)
theorem Agree.key1 (h:Agree ops o s s') {e:Operand} (he:e ∈ o.op.operands) (hq:quiet o.op=false:=by rfl):∀ t ∈ Zcp (VL.ev s' e),s.ob t=s'.ob t:=fun t ht=>
 h.key he hq t (ZhT (Zxd (by rw [h.ev e he];exact ht)))
theorem Agree.key2 (h:Agree ops o s s') {e:Operand} (he:e ∈ o.op.operands) (hq:quiet o.op=false:=by rfl):∀ t ∈ ZfJ (VL.ev s' e),s.ob t=s'.ob t:=fun t ht=>
 h.key he hq t (ZhT (by rw [h.ev e he];exact ht))
theorem Agree.keysP_eq (h:Agree ops o s s') {e:Operand} (he:e ∈ o.op.operands) (hq:quiet o.op=false:=by rfl):Zhb s.ob (VL.ev s e)=Zhb s'.ob (VL.ev s' e):=by
 have hk:=h.key2 he hq
 rw [h.ev e he]
 unfold Zhb
 congr 1
 rw [List.flatMap_def,List.flatMap_def]
 congr 1
 refine List.map_congr_left fun t ht=>?_
 unfold Zp6
 rw [hk t ht]
theorem Agree.keys_eq (h:Agree ops o s s'):ZN s o=ZN s' o:=by
 unfold ZN
 cases hq:quiet o.op with
 | true=>rfl
 | false=>
 simp only [Bool.false_eq_true,if_false]
 have:∀ (l:List Operand),(∀ e ∈ l,e ∈ o.op.operands)→(l.flatMap fun e=>Zhb s.ob (VL.ev s e))=l.flatMap fun e=>Zhb s'.ob (VL.ev s' e):=fun l=>by
  induction l with
  | nil=>intro _;rfl
  | cons e l ih=>
    intro hl
    rw [List.flatMap_cons,List.flatMap_cons,h.keysP_eq (hl e (List.mem_cons_self ..)) hq,ih fun e' he'=>hl e' (List.mem_cons_of_mem _ he')]
 exact this _ fun e he=>by simpa using he
theorem Agree.trans {s2:FS} (h:Agree ops o s s') (k:Agree ops o s' s2):Agree ops o s s2:=
 ⟨fun e he=>(h.ev e he).trans (k.ev e he),h.ng.trans k.ng,fun t ht=>(h.ob t ht).trans (k.ob t (by rw [← h.keys_eq];exact ht)),h.wanted.trans k.wanted⟩
theorem Zui (h:Agree ops o s s'):act P i o s=act P i o s':=by
 obtain ⟨dst,op,ty,pos,after,guard⟩:=o
 have hng:=h.ng
 unfold act
 cases op with
 | move x=>simp only;rw [h.ev x (by simp [Op.operands])]
 | assign x=>simp only;rw [h.ev x (by simp [Op.operands])]
 | nilCheck x=>simp only;rw [h.ev x (by simp [Op.operands])]
 | pick c a b=>simp only;rw [h.ev c (by simp [Op.operands]),h.ev a (by simp [Op.operands]),h.ev b (by simp [Op.operands])]
 | alloc T=>simp only;rw [hng]
 | box T x=>simp only;rw [h.ev x (by simp [Op.operands]),hng]
 | build T parts=>
   have e1:(parts.toList.map fun q=>(q.1,ev s q.2))=parts.toList.map fun q=>(q.1,ev s' q.2):=List.map_congr_left fun q hq=>by
    rw [h.ev q.2 (by simp only [Op.operands];simp;exact ⟨q.1,by simpa using hq⟩)]
   simp only
   rw [e1]
 | buildSlice T n parts=>
   have e1:(parts.toList.map fun q=>(q.1,ev s q.2))=parts.toList.map fun q=>(q.1,ev s' q.2):=List.map_congr_left fun q hq=>by
    rw [h.ev q.2 (by simp only [Op.operands];simp;exact ⟨q.1,by simpa using hq⟩)]
   simp only
   rw [e1,hng]
   split
   ·rename_i E _ _ _ d hT hdst
    split
    ·rename_i te hte
     split
     ·rename_i cs hf
      have:ZfZ s.ob cs=ZfZ s'.ob cs:=Zgw fun t ht=>by
       rcases ZnM _ hf t ht with h1 | ⟨q,hq,h1⟩
       ·obtain ⟨p,hp,h2⟩:=List.mem_flatMap.1 h1
        obtain ⟨l,hl,hp⟩:=List.mem_flatten.1 hp
        rw [List.eq_of_mem_replicate hl] at hp
        obtain ⟨_,_,_,_,_,_,_,hz⟩:=Zak hte
        rw [hz] at hp
        obtain ⟨v,_,rfl⟩:=List.mem_map.1 hp
        rw [Zq0] at h2
        cases h2
       ·obtain ⟨q',hq',rfl⟩:=List.mem_map.1 hq
        have hm:q'.2 ∈ (Op.buildSlice T n parts).operands:=by simp only [Op.operands];simp;exact ⟨q'.1,by simpa using hq'⟩
        exact h.key2 hm rfl t h1
      rw [this]
     ·rfl
    ·rfl
   ·rfl
 | load T x=>
   have hx:x ∈ (Op.load T x).operands:=by simp [Op.operands]
   simp only
   rw [h.ev x hx,ZpN (h.key1 hx)]
 | store T x y=>
   have hx:x ∈ (Op.store T x y).operands:=by simp [Op.operands]
   have hy:y ∈ (Op.store T x y).operands:=by simp [Op.operands]
   simp only
   rw [h.ev x hx,h.ev y hy]
   have hk:=h.key1 hx
   have hr:ZfZ s.ob (ev s' y).cells=ZfZ s'.ob (ev s' y).cells:=Zgw (by rw [ZnL];exact h.key2 hy)
   rw [hr]
   split
   ·split
    ·split
     ·rename_i t g off hp
      rw [hp] at hk
      rw [Zbf (hk t (by simp [Zcp])) g]
     ·rename_i t g i' k off hp
      rw [hp] at hk
      rw [Zbf (hk t (by simp [Zcp])) g]
     ·rfl
    ·rfl
   ·rfl
 | fieldAddr T x f=>simp only;rw [h.ev x (by simp [Op.operands])]
 | field T x f=>simp only;rw [h.ev x (by simp [Op.operands])]
 | indexAddr T x y=>
   have hx:x ∈ (Op.indexAddr T x y).operands:=by simp [Op.operands]
   simp only
   rw [h.ev x hx,h.ev y (by simp [Op.operands])]
   have hk:=h.key1 hx
   split
   ·split
    ·split
     ·rfl
     ·rename_i t g hp
      rw [hp] at hk
      rw [Zbf (hk t (by simp [Zcp])) g]
     ·rfl
    ·rfl
   ·rfl
   ·rfl
 | slice T x lo hi m=>
   have hx:x ∈ (Op.slice T x lo hi m).operands:=by simp [Op.operands]
   cases m with
   | some m=>rfl
   | none=>
     simp only
     rw [h.ev x hx,ZnK (h.key1 hx),ZsN (h.key1 hx)]
     have e1:∀ l,lo=some l→ev s l=ev s' l:=fun l hl=>h.ev l (by subst hl;simp [Op.operands])
     have e2:∀ l,hi=some l→ev s l=ev s' l:=fun l hl=>h.ev l (by subst hl;simp [Op.operands])
     cases lo with
     | none=>
       cases hi with
       | none=>rfl
       | some b=>simp only;rw [e2 b rfl]
     | some a=>
       cases hi with
       | none=>simp only;rw [e1 a rfl]
       | some b=>simp only;rw [e1 a rfl,e2 b rfl]
 | makeSlice T l c=>simp only;rw [h.ev l (by simp [Op.operands]),h.ev c (by simp [Op.operands]),hng]
 | extract x k=>simp only;rw [h.ev x (by simp [Op.operands])]
 | call c=>
   obtain ⟨callee,args,argTypes⟩:=c
   simp only
   cases callee with
   | builtin b=>
     cases b with
     | len=>
       simp only
       split
       ·rename_i x T e1 e2
        have hx:x ∈ (Op.call { callee:=.builtin .len,args:=args,argTypes:=argTypes }).operands:=by rw [Zvx e1];simp [Op.operands,Call.operands]
        simp only [ZrY]
        rw [h.ev x hx,ZsM (h.key1 hx)]
       ·rfl
     | append=>
       simp only
       split
       ·rename_i x y T T' e1 e2
        have hx:x ∈ (Op.call { callee:=.builtin .append,args:=args,argTypes:=argTypes }).operands:=by rw [Zss e1];simp [Op.operands,Call.operands]
        have hy:y ∈ (Op.call { callee:=.builtin .append,args:=args,argTypes:=argTypes }).operands:=by rw [Zss e1];simp [Op.operands,Call.operands]
        split
        ·simp only [ZhY]
         rw [h.ev x hx,h.ev y hy,ZnK (h.key1 hy),hng]
         have hk:=h.key1 hx
         split
         ·split
          ·split
           ·rfl
           ·rename_i t g hp
            rw [hp] at hk
            rw [Zbf (hk t (by simp [Zcp])) g]
           ·rfl
          ·rfl
         ·rfl
        ·rfl
       ·rfl
     | _=>rfl
   | _=>rfl
 | _=>rfl
theorem ZpO [WInv P] (h:Agree ops o s s') (k:OpR P ops i o s u):OpR P ops i o s' u:=by
 cases k with
 | skip hw=>exact .skip (by rw [← h.wanted];exact hw)
 | act hw ha=>
   refine .act (by rw [← h.wanted];exact hw) ?_
   cases ha with
   | fn ha=>exact .fn (by rw [← Zui h];exact ha)
   | plain hp hs hr=>
     refine .plain (fun e he=>by rw [← h.ev e he];exact hp e he) hs fun w=>?_
     rw [execOp_congr (ρ:=cv s') (ρ':=cv s) o hs fun e he=>by unfold cv;rw [h.ev e he]]
     exact hr w
 | call hw ho ha hc=>
   rename_i f es ts args us res
   have hm:∀ e ∈ es.toList,e ∈ o.op.operands:=fun e he=>by rw [ho];simp [Op.operands,Call.operands];exact .inr (by simpa using he)
   have e1:es.toList.map (ev s)=es.toList.map (ev s'):=List.map_congr_left fun e he=>h.ev e (hm e he)
   refine .call (by rw [← h.wanted];exact hw) ho ?_ hc
   rw [← ha,← e1]
   refine (Zdt fun p hp t ht=>?_).symm
   obtain ⟨e,he,rfl⟩:=List.mem_map.1 hp
   exact h.key (hm e he) (by rw [ho];rfl) t (ZhT ht)
 | callO hw ho he hob h1 h2 h3 hus hc=>
   rename_i f es ts pre post pre' post' t g cs qs obj' us us1 us2 us3 res
   have hm:∀ e ∈ es.toList,e ∈ o.op.operands:=fun e he=>by rw [ho];simp [Op.operands,Call.operands];exact .inr (by simpa using he)
   have e1:es.toList.map (ev s)=es.toList.map (ev s'):=List.map_congr_left fun e he=>h.ev e (hm e he)
   have hp:∀ p ∈ pre ++ .ptr t g 0::post,∀ t' ∈ Zhb s.ob p,s.ob t'=s'.ob t':=fun p hp t' ht'=>by
    rw [← he] at hp
    obtain ⟨e,he',rfl⟩:=List.mem_map.1 hp
    exact h.key (hm e he') (by rw [ho];rfl) t' ht'
   have ht:=hp (.ptr t g 0) (by simp)
   refine .callO (by rw [← h.wanted];exact hw) ho (by rw [← e1];exact he) (by rw [← hob];exact (Zbf (ht t (by simp [Zhb,ZfJ,Zcp])) g).symm) ?_ ?_ ?_ hus hc
   ·rw [← h1];exact (Zdt fun p hpp t' ht'=>hp p (List.mem_append_left _ hpp) t' (ZhT ht')).symm
   ·rw [← h2]
    refine (Zgw fun t' ht'=>ht t' ?_).symm
    refine List.mem_append_right _ (List.mem_flatMap.2 ⟨t,by simp [ZfJ,Zcp],?_⟩)
    unfold Zp6
    rw [Za0 hob]
    exact ht'
   ·rw [← h3];exact (Zdt fun p hpp t' ht'=>hp p (List.mem_append_right _ (List.mem_cons_of_mem _ hpp)) t' (ZhT ht')).symm
 | any hw ha=>exact .any (by rw [← h.wanted];exact hw) fun s2 r hA hI=>ha s2 r (h.trans hA) hI
 | anyx hw ha=>exact .anyx (by rw [← h.wanted];exact hw) fun s2 r hA hI=>ha s2 r (h.trans hA) hI
end
end VL
end Go.Proofs.YtjoneoobolnnbaaGreatDoor
namespace Go.Proofs.YtjoneoobolnnbaaGreatDoor
namespace VL
open Go.RowKit
theorem Zo2:∀ (us:List (Nat×Option (Gen×VObj))) (f f':Nat→Option (Gen×VObj)) (t:Nat) (_:t ∈ us.map (·.1)),flips f us t=flips f' us t
 | [],_,_,_,h=>by simp at h
 | q::us,f,f',t,h=>by
   show flips (Zdk f q.1 q.2) us t=flips (Zdk f' q.1 q.2) us t
   by_cases h1:t ∈ us.map (·.1)
   ·exact Zo2 us _ _ t h1
   ·have h2:us.all (fun q=>q.1 != t)=true:=List.all_eq_true.2 fun q' hq'=>by
     simp only [bne_iff_ne,ne_eq]
     exact fun e=>h1 (List.mem_map.2 ⟨q',hq',e⟩)
    rw [ZjQ us _ t h2,ZjQ us _ t h2]
    rw [List.map_cons,List.mem_cons] at h
    have e:t=q.1:=h.resolve_right h1
    unfold Zdk
    rw [if_pos e,if_pos e]
theorem ZfF {us:List (Nat×Option (Gen×VObj))} (f:Nat→Option (Gen×VObj)) {t:Nat} (h:t ∉ us.map (·.1)):flips f us t=f t:=
 ZjQ us f t (List.all_eq_true.2 fun q' hq'=>by
  simp only [bne_iff_ne,ne_eq]
  exact fun e=>h (List.mem_map.2 ⟨q',hq',e⟩))
theorem Zwc {s:FS} {d e:Option Tmp} {u v:Upd} (hd:∀ k,d=some k→e≠some k) (hw:∀ t,t ∈ u.obs.map (·.1)→t ∉ v.obs.map (·.1)):(s.app d u).app e v=(s.app e v).app d u:=by
 unfold FS.app
 simp only [FS.mk.injEq,and_true]
 constructor
 ·cases d with
  | none=>rfl
  | some k=>
    cases e with
    | none=>rfl
    | some l=>
      have hne:k≠l:=fun h=>hd k rfl (by rw [h])
      funext t
      simp only [ZsQ]
      by_cases h1:t=l
      ·rw [if_pos h1,if_neg (fun h2=>hne (h2.symm.trans h1)),if_pos h1]
      ·rw [if_neg h1,if_neg h1]
 ·change flips (flips s.ob u.obs) v.obs=flips (flips s.ob v.obs) u.obs
  funext t
  by_cases h1:t ∈ v.obs.map (·.1)
  ·have h2:t ∉ u.obs.map (·.1):=fun h=>hw t h h1
   rw [ZfF _ h2,Zo2 _ (flips s.ob u.obs) s.ob t h1]
  ·rw [ZfF _ h1]
   by_cases h2:t ∈ u.obs.map (·.1)
   ·exact Zo2 _ _ _ t h2
   ·rw [ZfF _ h2,ZfF _ h2,ZfF _ h1]
section
variable {P:Program} {ops:Array Oper} {fp:Nat→Option (List Nat×List Nat)}
theorem ZuQ {o o':Oper} {s:FS} {u:Upd} (hd:∀ k,o'.dst=some k→k ∉ o.looksAt ops) (hk:∀ t ∈ ZN s o,t ∉ u.obs.map (·.1)):Agree ops o s (s.app o'.dst u):=by
 have htm:∀ t,(∀ k,o'.dst=some k→t≠k)→(s.app o'.dst u).tm t=s.tm t:=fun t h=>by
  show ZsQ s.tm o'.dst u.val t=_
  cases hd:o'.dst with
  | none=>rfl
  | some k=>simp only [ZsQ];rw [if_neg (h k hd)]
 refine ⟨fun e he=>?_,rfl,fun t ht=>(ZfF s.ob (hk t ht)).symm,?_⟩
 ·cases e with
  | tmp t=>exact (htm t fun k h e=>hd k h (by
    subst e
    exact List.mem_append_left _ (List.mem_filterMap.2 ⟨.tmp t,by simpa using he,rfl⟩))).symm
  | _=>rfl
 ·unfold Zp
  cases hg:o.guard with
  | none=>rfl
  | some q=>
    obtain ⟨j,want⟩:=q
    simp only
    cases hj:(ops[j]?).bind (·.dst) with
    | none=>rfl
    | some d=>
      simp only
      rw [htm d fun k h e=>hd k h (by
       subst e
       refine List.mem_append_right _ ?_
       simp [hg,hj])]
theorem ZuR {i:Nat} {K W k w:List Nat} (h:Zvb (fp i) K W=true) (e:fp i=some (k,w)):(∀ t ∈ K,t ∈ k)∧∀ t ∈ W,t ∈ w:=by
 unfold Zvb at h
 rw [e] at h
 simp only [Bool.and_eq_true,List.all_eq_true] at h
 exact ⟨fun t ht=>by simpa using h.1 t ht,fun t ht=>by simpa using h.2 t ht⟩
theorem swap [WInv P] {k i:Nat} {ok oi:Oper} {s:FS} {uk ui:Upd} (hok:ops[k]? = some ok) (hoi:ops[i]? = some oi) (hk:OpR P ops k ok s uk) (hfk:Zvb (fp k) (ZN s ok) (uk.obs.map (·.1))=true)
  (hi:OpR P ops i oi (s.app ok.dst uk) ui) (hfi:Zvb (fp i) (ZN (s.app ok.dst uk) oi) (ui.obs.map (·.1))=true) (hind:indep ops fp k i=true) :
  OpR P ops i oi s ui∧Zvb (fp i) (ZN s oi) (ui.obs.map (·.1))=true∧OpR P ops k ok (s.app oi.dst ui) uk∧Zvb (fp k) (ZN (s.app oi.dst ui) ok) (uk.obs.map (·.1))=true∧(s.app ok.dst uk).app oi.dst ui=(s.app oi.dst ui).app ok.dst uk:=by
 unfold indep at hind
 rw [hok,hoi] at hind
 split at hind
 ·rename_i _ _ _ _ Kk Wk Ki Wi e1 e2 e3 e4
  injection e1 with e1
  injection e2 with e2
  subst e1 e2
  simp only [Bool.and_eq_true,List.all_eq_true,Bool.not_eq_true'] at hind
  obtain ⟨⟨hap,hW⟩,hW2⟩:=hind
  obtain ⟨a1,a2,a3⟩:=Oper.apart_spec hap
  obtain ⟨k1,k2⟩:=ZuR hfk e3
  obtain ⟨i1,i2⟩:=ZuR hfi e4
  have hback:Agree ops oi (s.app ok.dst uk) s:=by
   have hkeys:∀ t ∈ ZN (s.app ok.dst uk) oi,t ∉ uk.obs.map (·.1):=fun t ht hu=>by
    have h1:=(hW t (k2 t hu)).1
    have h2:=i1 t ht
    rw [List.contains_iff_mem.2 h2] at h1
    cases h1
   have htm:∀ t,(∀ k,ok.dst=some k→t≠k)→(s.app ok.dst uk).tm t=s.tm t:=fun t h=>by
    show ZsQ s.tm ok.dst uk.val t=_
    cases hd:ok.dst with
    | none=>rfl
    | some k=>simp only [ZsQ];rw [if_neg (h k hd)]
   refine ⟨fun e he=>?_,rfl,fun t ht=>ZfF s.ob (hkeys t ht),?_⟩
   ·cases e with
    | tmp t=>exact htm t fun k h e=>a1 k h (by
      subst e
      exact List.mem_append_left _ (List.mem_filterMap.2 ⟨.tmp t,by simpa using he,rfl⟩))
    | _=>rfl
   ·unfold Zp
    cases hg:oi.guard with
    | none=>rfl
    | some q=>
      obtain ⟨j,want⟩:=q
      simp only
      cases hj:(ops[j]?).bind (·.dst) with
      | none=>rfl
      | some d=>
        simp only
        rw [htm d fun k h e=>a1 k h (by
         subst e
         refine List.mem_append_right _ ?_
         simp [hg,hj])]
  have hfwd:Agree ops ok s (s.app oi.dst ui):=ZuQ a3 fun t ht hu=>by
   have h1:=hW2 t (i2 t hu)
   have h2:=k1 t ht
   rw [List.contains_iff_mem.2 h2] at h1
   cases h1
  refine ⟨ZpO hback hi,by rw [← hback.keys_eq];exact hfi,ZpO hfwd hk,by rw [← hfwd.keys_eq];exact hfk,Zwc (fun k h e=>a2 k h e) fun t ht hu=>?_⟩
  have h1:=(hW t (k2 t ht)).2
  rw [List.contains_iff_mem.2 (i2 t hu)] at h1
  cases h1
 ·cases hind
theorem front [WInv P] {L:List Nat} {s send:FS} (h:RunO P ops fp L s send):∀ {i:Nat},i ∈ L→L.Pairwise (· < ·)→(∀ k ∈ L,k<i→indep ops fp k i=true)→
  ∃ o u,ops[i]? = some o∧OpR P ops i o s u∧Zvb (fp i) (ZN s o) (u.obs.map (·.1))=true∧RunO P ops fp (L.erase i) (s.app o.dst u) send:=by
 induction h with
 | nil=>intro i hi;simp at hi
 | cons ho h hf hr ih=>
   rename_i k L o u s s'
   intro i hi hp hind
   by_cases e:i=k
   ·subst e
    refine ⟨o,u,ho,h,hf,?_⟩
    rw [List.erase_cons_head]
    exact hr
   ·have hiL:i ∈ L:=(List.mem_cons.1 hi).resolve_left e
    obtain ⟨hlt,hp'⟩:=List.pairwise_cons.1 hp
    obtain ⟨oi,ui,hoi,h1,h2,h3⟩:=ih hiL hp' fun k' hk'=>hind k' (List.mem_cons_of_mem _ hk')
    obtain ⟨q1,q2,q3,q4,q5⟩:=swap ho hoi h hf h1 h2 (hind k (List.mem_cons_self ..) (hlt i hiL))
    refine ⟨oi,ui,hoi,q1,q2,?_⟩
    rw [List.erase_cons_tail (by simpa using fun h=>e h.symm)]
    refine .cons ho q3 q4 ?_
    rw [← q5]
    exact h3
theorem Zlh {listed:Array Bool} (hdown:∀ i o,ops[i]? = some o→listed.getD i true=true→∀ e ∈ o.after.toList,Region.binds .any e=true→listed.getD e.on false=true)
  (hsz:listed.size=ops.size):∀ (n k i:Nat),reach ops n k i=true→(∀ o,ops[i]? = some o→∀ e ∈ o.after.toList,Region.binds .any e=true→listed.getD e.on false=true)→listed.getD k false=true
 | 0,_,_,h,_=>by simp [reach] at h
 | n+1,k,i,h,hi=>by
   simp only [reach] at h
   split at h
   ·rename_i o ho
    obtain ⟨e,he,h1⟩:=List.any_eq_true.1 h
    simp only [Bool.and_eq_true,Bool.or_eq_true,beq_iff_eq] at h1
    obtain ⟨hb,h2⟩:=h1
    have hl:=hi o ho e he hb
    rcases h2 with h2 | h2
    ·rw [← h2];exact hl
    ·refine Zlh hdown hsz n k e.on h2 fun o' ho'=>hdown _ o' ho' ?_
     rw [Array.getD_eq_getD_getElem?] at hl ⊢
     cases hx:listed[e.on]? with
     | none=>rfl
     | some b=>rw [hx] at hl;simpa using hl
   ·cases h
end
end VL
end Go.Proofs.YtjoneoobolnnbaaGreatDoor
namespace Go.Proofs.YtjoneoobolnnbaaGreatDoor
namespace VL
open Go.RowKit
section
variable {P:Program} [WInv P] {r:Run} {ops:Array Oper} {fp:Nat→Option (List Nat×List Nat)}
def ZhP (n:Nat) (listed:Array Bool):List Nat:=(List.range n).filter fun i=>!listed.getD i true
theorem Zj1 {n i:Nat} {listed:Array Bool}:i ∈ ZhP n listed↔i<n∧listed.getD i true=false:=by
 unfold ZhP
 simp
theorem ZrQ {n i:Nat} {listed:Array Bool} (hs:listed.size=n) (hi:i ∈ ZhP n listed):ZhP n (listed.setIfInBounds i true)=(ZhP n listed).erase i:=by
 have hnd:(ZhP n listed).Nodup:=List.nodup_range.sublist List.filter_sublist
 rw [List.Nodup.erase_eq_filter hnd]
 unfold ZhP
 rw [List.filter_filter]
 refine List.filter_congr fun j hj=>?_
 have hjn:j<n:=by simpa using hj
 rw [Array.getD_eq_getD_getElem?,Array.getD_eq_getD_getElem?]
 by_cases e:j=i
 ·subst e
  rw [Array.getElem?_setIfInBounds_self_of_lt (by rw [hs];exact hjn)]
  simp
 ·rw [Array.getElem?_setIfInBounds_ne (fun h=>e h.symm)]
  simp [e]
theorem ZvO (hI:r.I=WInv.I P) (hdraw:ZnV ops fp=true) (hM:ops.size≤1000000) (hN:∀ (i:Nat) (o:Oper),ops[i]? = some o→∀ k,o.dst=some k→k<r.N) {send:FS} {Q:Exit→Act→World→Prop} (hQ:∀ a' y S',RstX r S' send a' y→Q .normal a' y.W) :
  ∀ (fuel:Nat) (listed:Array Bool) {s:FS} {a:Act} {x:Ctx},listed.size=ops.size→(ZhP ops.size listed).length≤fuel→
   (∀ i o,ops[i]? = some o→listed.getD i true=true→∀ e ∈ o.after.toList,Region.binds .any e=true→listed.getD e.on false=true)→
   RunO P ops fp (ZhP ops.size listed) s send→RstX r (fun j=>listed.getD j false=true∨1000000≤j∧listed.getD (j % 1000000) false=true) s a x→wpAny P .any ops Q fuel listed a x.W:=by
 have hd:∀ i o,ops[i]? = some o→(∀ e ∈ o.after.toList,Region.binds .any e=true→e.on<i)∧∀ k,k<i→indep ops fp k i=true∨reach ops ops.size k i=true:=fun i o ho=>by
  unfold ZnV at hdraw
  have hin:i<ops.size:=(Array.getElem?_eq_some_iff.1 ho).1
  have:=List.all_eq_true.1 hdraw i (List.mem_range.2 hin)
  rw [ho] at this
  simp only [Option.map_some,Option.getD_some,Bool.and_eq_true,List.all_eq_true] at this
  refine ⟨fun e he hb=>?_,fun k hk=>?_⟩
  ·have:=this.1 e he
   rw [hb] at this
   simpa using this
  ·have:=this.2 k (List.mem_range.2 hk)
   simpa using this
 have hready:∀ (listed:Array Bool),listed.size=ops.size→∀ i,i ∈ ZhP ops.size listed→∃ j,j ∈ Region.ready .any ops listed:=fun listed hs i=>by
  induction i using Nat.strongRecOn with
  | _ i ih=>
    intro hi
    obtain ⟨hin,hil⟩:=Zj1.1 hi
    by_cases hall:∃ o,ops[i]? = some o∧∀ e ∈ o.after.toList,Region.binds .any e=true→listed.getD e.on false=true
    ·obtain ⟨o,ho,hall⟩:=hall
     refine ⟨i,?_⟩
     unfold Region.ready
     simp only [List.mem_filter,List.mem_range,Bool.and_eq_true,Bool.not_eq_true']
     refine ⟨hin,hil,?_⟩
     rw [ho]
     simp only [Option.map_some,Option.getD_some]
     rw [← Array.all_toList,List.all_eq_true]
     intro e he
     by_cases hb:Region.binds .any e=true
     ·simp [hall e he hb]
     ·simp [hb]
    ·have ho:ops[i]? = some ops[i]:=Array.getElem?_eq_getElem hin
     have:∃ e ∈ (ops[i]).after.toList,Region.binds .any e=true∧¬ listed.getD e.on false=true:=by
      refine Classical.byContradiction fun hno=>hall ⟨_,ho,fun e he hb=>Classical.byContradiction fun h=>hno ⟨e,he,hb,h⟩⟩
     obtain ⟨e,he,hb,hl⟩:=this
     have hlt:=(hd i _ ho).1 e he hb
     refine ih e.on hlt (Zj1.2 ⟨by omega,?_⟩)
     have he2:e.on<listed.size:=by omega
     rw [Array.getD_eq_getD_getElem?,Array.getElem?_eq_getElem he2] at hl ⊢
     simpa using hl
 intro fuel
 induction fuel with
 | zero=>
   intro listed s a x hs hl _ hrun hX
   have hnil:ZhP ops.size listed = []:=List.eq_nil_of_length_eq_zero (Nat.le_zero.1 hl)
   rw [hnil] at hrun
   cases hrun
   refine ⟨?_,hQ _ _ _ hX⟩
   rcases hr:Region.ready .any ops listed with _ | ⟨j,l⟩
   ·rfl
   ·have:j ∈ Region.ready .any ops listed:=by rw [hr];exact List.mem_cons_self ..
    unfold Region.ready at this
    simp only [List.mem_filter,List.mem_range,Bool.and_eq_true,Bool.not_eq_true'] at this
    have hm:=(Zj1 (n:=ops.size)).2 ⟨this.1,this.2.1⟩
    rw [hnil] at hm
    cases hm
 | succ fuel ih=>
   intro listed s a x hs hl hdown hrun hX
   refine ⟨fun hr=>?_,fun i hi=>?_⟩
   ·have hnil:ZhP ops.size listed = []:=by
     rcases he:ZhP ops.size listed with _ | ⟨j,l⟩
     ·rfl
     ·obtain ⟨k,hk⟩:=hready listed hs j (by rw [he];exact List.mem_cons_self ..)
      rw [hr] at hk
      cases hk
    rw [hnil] at hrun
    cases hrun
    exact hQ _ _ _ hX
   ·unfold Region.ready at hi
    simp only [List.mem_filter,List.mem_range,Bool.and_eq_true,Bool.not_eq_true'] at hi
    obtain ⟨hin,hil,hie⟩:=hi
    have hm:i ∈ ZhP ops.size listed:=Zj1.2 ⟨hin,hil⟩
    have ho:ops[i]? = some ops[i]:=Array.getElem?_eq_getElem hin
    have hedges:∀ o,ops[i]? = some o→∀ e ∈ o.after.toList,Region.binds .any e=true→listed.getD e.on false=true:=fun o ho e he hb=>by
     rw [ho] at hie
     simp only [Option.map_some,Option.getD_some] at hie
     rw [← Array.all_toList,List.all_eq_true] at hie
     have:=hie e he
     rw [hb] at this
     simpa using this
    have hpw:(ZhP ops.size listed).Pairwise (· < ·):=List.Pairwise.filter _ List.pairwise_lt_range
    obtain ⟨o,u,ho',h1,_,h2⟩:=front hrun hm hpw fun k hk hlt=>by
     obtain ⟨hkn,hkl⟩:=Zj1.1 hk
     rcases (hd i _ ho).2 k hlt with h | h
     ·exact h
     ·have:=Zlh hdown hs _ k i h hedges
      have hk2:k<listed.size:=by omega
      rw [Array.getD_eq_getD_getElem?,Array.getElem?_eq_getElem hk2] at this hkl
      simp only [Option.getD_some] at this hkl
      rw [this] at hkl
      cases hkl
    have hi2:i<listed.size:=by omega
    have hS:¬ listed.getD i false=true:=by
     rw [Array.getD_eq_getD_getElem?,Array.getElem?_eq_getElem hi2] at hil ⊢
     simp only [Option.getD_some] at hil ⊢
     rw [hil]
     simp
    refine Zp7 hI ho' h1 hX (by omega) (fun h=>h.elim hS fun h=>by omega) (fun k hk=>?_) (hN _ _ ho') fun a' y hY=>?_
    ·rcases hk with hk | hk
     ·have hbig:¬ i+1000000 * (k+1)<listed.size:=by omega
      rw [Array.getD_eq_getD_getElem?,Array.getElem?_eq_none (by omega)] at hk
      cases hk
     ·have e:(i+1000000 * (k+1)) % 1000000=i:=by omega
      rw [e] at hk
      exact .inl hk.2
    have mono:∀ j,listed.getD j false=true→(listed.setIfInBounds i true).getD j false=true:=fun j hj=>by
     rw [Array.getD_eq_getD_getElem?]
     by_cases e2:j=i
     ·rw [e2,Array.getElem?_setIfInBounds_self_of_lt hi2];rfl
     ·rw [Array.getElem?_setIfInBounds_ne (fun h=>e2 h.symm),← Array.getD_eq_getD_getElem?];exact hj
    have self:(listed.setIfInBounds i true).getD i false=true:=by
     rw [Array.getD_eq_getD_getElem?,Array.getElem?_setIfInBounds_self_of_lt hi2];rfl
    rw [← ZrQ hs hm] at h2
    refine ih (listed.setIfInBounds i true) (by simpa using hs) ?_ (fun j oj hoj hj e he hb=>?_) h2 (hY.moreS fun j hj=>?_)
    ·rw [ZrQ hs hm,List.length_erase_of_mem hm]
     omega
    ·have key:listed.getD e.on false=true:=by
      by_cases e1:j=i
      ·subst e1
       exact hedges oj hoj e he hb
      ·rw [Array.getD_eq_getD_getElem?,Array.getElem?_setIfInBounds_ne (fun h=>e1 h.symm)] at hj
       exact hdown j oj hoj (by rw [Array.getD_eq_getD_getElem?];exact hj) e he hb
     rw [Array.getD_eq_getD_getElem?] at key ⊢
     by_cases e2:e.on=i
     ·rw [e2,Array.getElem?_setIfInBounds_self_of_lt hi2];rfl
     ·rw [Array.getElem?_setIfInBounds_ne (fun h=>e2 h.symm)];exact key
    ·rcases hj with (hj | hj) | hj | hj
     ·exact .inl (mono j hj)
     ·exact .inr ⟨hj.1,mono _ hj.2⟩
     ·exact .inl (hj ▸ self)
     ·exact .inr ⟨hj.1,by rw [hj.2];exact self⟩
end
theorem RstX.regionEnd {r:Run} {S:Nat→Prop} {s:FS} {a:Act} {x:Ctx} (h:RstX r S s a x):RstX r (fun _=>False) ⟨s.tm,s.ob,s.ng+1⟩ a x:=
 ⟨h.defers,h.size,h.gr,fun g hg=>.inl (by rcases h.gens g hg with e | ⟨e,_⟩<;>show g.1<s.ng+1<;>omega),h.tm,h.ob,h.apart,h.flt,h.f0,h.fnew,h.rho,h.inv,h.keep⟩
theorem ZsB (id:Nat) (e:Ex) (Q:Exit→Act→World→Prop) (a:Act) (w:World) (h:Q (e.block id).to a w):Exit.inBlock id Q e.to a w:=by
 cases e with
 | exit k=>
   simp only [Ex.block] at h
   show if k=id then Q .normal a w else Q (.exit k) a w
   split at h
   ·rename_i hk;rw [if_pos hk];exact h
   ·rename_i hk;rw [if_neg hk];exact h
 | _=>exact h
theorem ZpA {e:Ex} (he:e≠.normal) {K:Act→World→Prop} {Q:Exit→Act→World→Prop} {a:Act} {w:World} (h:Q e.to a w):Exit.then K Q e.to a w:=by
 cases e with
 | normal=>exact absurd rfl he
 | _=>exact h
section
variable {P:Program} [WInv P]
theorem ZiA (hmix:P.follows .mixedOrders=true) {c:Code} {s s1:FS} {e:Ex} (h:RunC P c s e s1) :
  (∀ (r:Run) (a:Act) (x:Ctx) (Q:Exit→Act→World→Prop),(r.I=WInv.I P∧Zbq r.N c=true)→RstX r (fun _=>False) s a x→(∀ a' y,RstX r (fun _=>False) s1 a' y→Q e.to a' y.W)→c.wp P Q a x.W)∧
  ∀ d,c = .loop d→∃ n,∀ (r:Run) (a:Act) (x:Ctx) (Q:Exit→Act→World→Prop),(r.I=WInv.I P∧Zbq r.N d=true)→RstX r (fun _=>False) s a x→(∀ a' y,RstX r (fun _=>False) s1 a' y→Q e.to a' y.W)→Code.rounds P d Q n a x.W:=by
 induction h with
 | skip=>exact ⟨fun r a x Q _ hX hQ=>wp_skip (hQ _ _ hX),fun d hd=>by cases hd⟩
 | label=>exact ⟨fun r a x Q _ hX hQ=>wp_label (hQ _ _ hX),fun d hd=>by cases hd⟩
 | ret=>exact ⟨fun r a x Q _ hX hQ=>wp_ret (hQ _ _ hX),fun d hd=>by cases hd⟩
 | exit=>exact ⟨fun r a x Q _ hX hQ=>wp_exit (hQ _ _ hX),fun d hd=>by cases hd⟩
 | seqN h k ih1 ih2=>
   refine ⟨fun r a x Q hok hX hQ=>?_,fun d hd=>by cases hd⟩
   simp only [Zbq,Bool.and_eq_true] at hok
   exact wp_seq (ih1.1 r a x _ ⟨hok.1,hok.2.1⟩ hX fun a' y hY=>ih2.1 r a' y Q ⟨hok.1,hok.2.2⟩ hY hQ)
 | seqX h he ih=>
   refine ⟨fun r a x Q hok hX hQ=>?_,fun d hd=>by cases hd⟩
   simp only [Zbq,Bool.and_eq_true] at hok
   exact wp_seq (ih.1 r a x _ ⟨hok.1,hok.2.1⟩ hX fun a' y hY=>ZpA he (hQ a' y hY))
 | cond hc h ih=>
   rename_i co cx cy s s1 e t
   refine ⟨fun r a x Q hok hX hQ=>?_,fun d hd=>by cases hd⟩
   simp only [Zbq,Bool.and_eq_true] at hok
   have hr:=Zaz hX co
   rw [hc] at hr
   generalize hv:a.eval co=v at hr
   cases hr
   exact wp_cond hv (ih.1 r a x Q (by cases t<;>simp [hok.1,hok.2.1,hok.2.2]) hX hQ)
 | block h ih=>
   refine ⟨fun r a x Q hok hX hQ=>?_,fun d hd=>by cases hd⟩
   simp only [Zbq] at hok
   exact wp_block (ih.1 r a x _ hok hX fun a' y hY=>ZsB _ _ _ _ _ (hQ a' y hY))
 | loopN h k ih1 ih2=>
   rename_i c s s1 s2 e
   have hL:∃ n,∀ (r:Run) (a:Act) (x:Ctx) (Q:Exit→Act→World→Prop),(r.I=WInv.I P∧Zbq r.N c=true)→RstX r (fun _=>False) s a x→(∀ a' y,RstX r (fun _=>False) s2 a' y→Q e.to a' y.W)→Code.rounds P c Q n a x.W:=by
    obtain ⟨n,hn⟩:=ih2.2 c rfl
    refine ⟨n+1,fun r a x Q hok hX hQ=>?_⟩
    rw [rounds_succ]
    exact ih1.1 r a x _ hok hX fun a' y hY=>hn r a' y Q hok hY hQ
   refine ⟨fun r a x Q hok hX hQ=>?_,fun d hd=>by cases hd;exact hL⟩
   obtain ⟨n,hn⟩:=hL
   exact wp_loop_rounds n (hn r a x Q hok hX hQ)
 | loopX h he ih=>
   rename_i c s s1 e
   have hL:∀ (r:Run) (a:Act) (x:Ctx) (Q:Exit→Act→World→Prop),(r.I=WInv.I P∧Zbq r.N c=true)→RstX r (fun _=>False) s a x→(∀ a' y,RstX r (fun _=>False) s1 a' y→Q e.to a' y.W)→Code.rounds P c Q 1 a x.W:=fun r a x Q hok hX hQ=>by
    rw [rounds_succ]
    exact ih.1 r a x _ hok hX fun a' y hY=>ZpA he (hQ a' y hY)
   exact ⟨fun r a x Q hok hX hQ=>wp_loop_rounds 1 (hL r a x Q hok hX hQ),fun d hd=>by cases hd;exact ⟨1,hL⟩⟩
 | region fp h hd=>
   rename_i id ops draw s s1
   refine ⟨fun r a x Q hok hX hQ=>?_,fun d hd=>by cases hd⟩
   have hN:∀ (i:Nat) (o:Oper),ops[i]? = some o→∀ k,o.dst=some k→k<r.N:=fun i o ho k hk=>by
    simp only [Zbq,Bool.and_eq_true] at hok
    have:=Array.all_eq_true.1 hok.2.2 i (Array.getElem?_eq_some_iff.1 ho).1
    rw [(Array.getElem?_eq_some_iff.1 ho).2,hk] at this
    simpa using this
   have hM:ops.size≤1000000:=by
    simp only [Zbq,Bool.and_eq_true,decide_eq_true_eq] at hok
    exact hok.2.1
   cases draw with
   | false=>exact wp_region (ZuO hok.1 h hN hX List.nodup_range (fun i hi=>by have:=List.mem_range.1 hi;omega) (fun _ _=>⟨fun h=>h,fun _ h=>h⟩) fun a' y S' hY=>hQ a' y hY.regionEnd)
   | true=>
     refine wp_region_any hmix ?_
     have hX':RstX r (fun _=>False) s a { x with W:={ x.W with drawn:=x.W.drawn+1 } }:=hX.world rfl rfl rfl rfl
     have hleft:ZhP ops.size (Array.replicate ops.size false)=List.range ops.size:=by
      unfold ZhP
      refine List.filter_eq_self.2 fun i hi=>?_
      have:i<ops.size:=by simpa using hi
      simp [Array.getD_eq_getD_getElem?,this]
     refine ZvO hok.1 (hd rfl) hM hN (fun a' y S' hY=>hQ a' y hY.regionEnd) ops.size (Array.replicate ops.size false) (by simp) (by rw [hleft];simp) (fun i o ho hi=>?_) (by rw [hleft];exact h) (hX'.moreS fun i hi=>hi.elim)
     have:i<ops.size:=(Array.getElem?_eq_some_iff.1 ho).1
     simp [Array.getD_eq_getD_getElem?,this] at hi
 | shift hs h ih=>
   refine ⟨fun r a x Q hok hX hQ=>?_,fun d hd=>?_⟩
   ·obtain ⟨y,hy,hY⟩:=hs r a x hX
    rw [← hy]
    exact ih.1 r a y Q hok hY hQ
   ·obtain ⟨n,hn⟩:=ih.2 d hd
    refine ⟨n,fun r a x Q hok hX hQ=>?_⟩
    obtain ⟨y,hy,hY⟩:=hs r a x hX
    rw [← hy]
    exact hn r a y Q hok hY hQ
theorem ZpB {f:Nat→Option (Gen×VObj)} {p q:PV} {us:List (Nat×Option (Gen×VObj))} (h:Zqj f p=some (q,us)):q.pure=true:=by
 cases p<;>simp only [Zqj] at h<;>first
  | (cases h;done)
  | (injection h with h;injection h with e1 e2;subst e1;rfl)
  | (split at h
     ·injection h with h;injection h with e1 e2;subst e1;rfl
     ·cases h)
theorem ZiB {f:Nat→Option (Gen×VObj)}:∀ (ps:List PV) {qs:List PV} {us:List (Nat×Option (Gen×VObj))} (_:ZfZ f ps=some (qs,us)),qs.all PV.pure=true
 | [],qs,us,h=>by
   simp only [ZfZ,Option.some.injEq,Prod.mk.injEq] at h
   rw [← h.1];rfl
 | p::ps,qs,us,h=>by
   simp only [ZfZ] at h
   split at h
   ·rename_i q us1 qs2 us2 h1 h2
    injection h with h
    injection h with e1 e2
    subst e1
    rw [List.all_cons,ZpB h1,ZiB ps h2];rfl
   ·cases h
def Zt1 (obj:Option (Nat×List PV)) (t:Nat):Option (Gen×VObj):=match obj with
 | some (j,os)=>if t=j then some ((0,j),.box os) else none
 | none=>none
def Zoy (args:List PV) (obj:Option (Nat×List PV)):FS:=⟨fun t=>args.getD t (.tup []),Zt1 obj,1⟩
def Zw6 (P:Program) (s:FS):ResultVar→Option PV
 | .tmp t=>some (s.tm t)
 | .cell a T=>match tyI P T,ZhX s.ob (s.tm a) with
   | some ti,some cs=>ZmK ti cs
   | _,_=>none
def Zgt (P:Program) (s:FS):List ResultVar→Option (List PV)
 | []=>some []
 | v::vs=>match Zw6 P s v,Zgt P s vs with
   | some p,some ps=>some (p::ps)
   | _,_=>none
def Zt2 (a:Act):ResultVar→Sem Value
 | .tmp t=>pure (a.tmps.getD t undef)
 | .cell b t=>do loadVar t (← asAddr (a.tmps.getD b undef))
theorem Zt3 {f:Nat→Option (Gen×VObj)} {p q:PV} {us:List (Nat×Option (Gen×VObj))} (h:res f p=some (q,us)):q.clean=true:=by
 cases p with
 | agg ps=>
   simp only [res] at h
   cases h1:ZfZ f ps with
   | none=>rw [h1] at h;simp at h
   | some z=>
     obtain ⟨qs,us'⟩:=z
     rw [h1] at h
     simp only [Option.map_some,Option.some.injEq,Prod.mk.injEq] at h
     obtain ⟨rfl,rfl⟩:=h
     exact ZiB ps h1
 | _=>
   simp only [res] at h
   have:=ZpB h
   cases q<;>first | exact this | (simp [PV.pure] at this)
def Zf8:List PV→PV
 | [p]=>p
 | ps=>.tup ps
omit [WInv P] in
theorem ZdO {r:Run} {S:Nat→Prop} {s:FS} {a:Act} {x:Ctx} (hX:RstX r S s a x):∀ (vs:List ResultVar) {ps:List PV} (_:Zgt P s vs=some ps),
  ∃ ws:List Value,(vs.mapM (Zt2 a)).run P x.W = .ok ws x.W∧ws.length=ps.length∧∀ (j:Nat) (p:PV),ps[j]? = some p→Rep x p (ws.getD j undef)
 | [],ps,h=>by
   simp only [Zgt,Option.some.injEq] at h
   subst h
   exact ⟨[],by rw [List.mapM_nil];rfl,rfl,fun j p hp=>by simp at hp⟩
 | v::vs,ps,h=>by
   simp only [Zgt] at h
   split at h
   ·rename_i p ps' h1 h2
    injection h with h
    subst h
    obtain ⟨ws,h3,h4,h5⟩:=ZdO hX vs h2
    have hv:∃ w,(Zt2 a v).run P x.W = .ok w x.W∧Rep x p w:=by
     cases v with
     | tmp t=>
       simp only [Zw6,Option.some.injEq] at h1
       subst h1
       exact ⟨_,rfl,hX.tm t⟩
     | cell b T=>
       simp only [Zw6] at h1
       split at h1
       ·rename_i ti cs ht hr
        obtain ⟨bb,off,hv,hc⟩:=ZhK hX hr (hX.tm b)
        obtain ⟨w,h6,h7⟩:=ZeZ ht hc h1
        refine ⟨w,?_,h7⟩
        unfold Zt2
        simp only [hv]
        have h6':(loadVar T ⟨bb,off,none⟩).run P x.W = .ok w x.W:=by simpa [Instr.loadAt,Instr.sureAddr] using h6
        simp [asAddr,h6']
       ·cases h1
    obtain ⟨w,h6,h7⟩:=hv
    refine ⟨w::ws,?_,by simp [h4],fun j q hq=>?_⟩
    ·rw [List.mapM_cons,Sem.run_bind,h6]
     simp only [Result.andThen_ok,Sem.run_bind,h3,Sem.run_pure]
    ·cases j with
     | zero=>simp at hq;subst hq;exact h7
     | succ j=>exact h5 j q (by simpa using hq)
   ·cases h
theorem ZkA {obj:Option (Nat×List PV)} {t:Nat} {g:Gen} {o:VObj} (h:Zt1 obj t=some (g,o)):∃ os,obj=some (t,os)∧g=(0,t)∧o = .box os:=by
 unfold Zt1 at h
 split at h
 ·rename_i j os
  split at h
  ·rename_i e
   subst e
   injection h with h
   injection h with e1 e2
   exact ⟨os,rfl,e1.symm,e2.symm⟩
  ·cases h
 ·cases h
theorem ZgY (hmix:P.follows .mixedOrders=true) {f:FuncId} {fn:Func} {c:Code} {args:List PV} {obj:Option (Nat×List PV)} {e:Ex} {s1:FS} {ps qs:List PV} {us us2:List (Nat×Option (Gen×VObj))} {obj' obj2:List PV}
  (hg:isGo P f=true) (hf:P.funcs[f]? = some fn) (hb:fn.body=some c) (hn:args.length≤fn.ntmps) (hok:Zbq fn.ntmps c=true) (hrun:RunC P c (Zoy args obj) e s1) (he:e = .normal∨e = .ret)
  (hres:Zgt P s1 fn.results.toList=some ps) (hpub:Zf6 s1.ob ps=some (qs,us))
  (hobj:∀ j os,obj=some (j,os)→s1.ob j=some ((0,j),.box obj2)∧ZfZ s1.ob obj2=some (obj',us2)) (hnone:obj=none→obj' = []) :
  Contract P f args obj (Zf8 qs) obj':=by
 have hclean:(Zf8 qs).result=true∧obj'.all PV.pure=true∧True:=by
  refine ⟨?_,?_,trivial⟩
  ·have h1:∀ (l:List PV) {qs:List PV} {us:List (Nat×Option (Gen×VObj))},Zf6 s1.ob l=some (qs,us)→qs.all PV.clean=true:=fun l=>by
    induction l with
    | nil=>intro qs us h;simp only [Zf6,Option.some.injEq,Prod.mk.injEq] at h;rw [← h.1];rfl
    | cons p l ih=>
      intro qs us h
      simp only [Zf6] at h
      split at h
      ·rename_i q us1 qs2 us2 h1 h2
       injection h with h
       injection h with e1 e2
       subst e1
       rw [List.all_cons,ih h2,Bool.and_true]
       exact Zt3 h1
      ·cases h
   have:=h1 ps hpub
   unfold Zf8
   split
   ·rename_i p
    have hp:p.clean=true:=by simpa using this
    cases p<;>first | exact hp | (simp [PV.clean,PV.pure] at hp)
   ·exact this
  ·cases obj with
   | none=>rw [hnone rfl];rfl
   | some q=>exact ZiB _ (hobj q.1 q.2 rfl).2
 refine ⟨hg,hclean.1,hclean.2.1,fun x vs hpre hinv=>?_⟩
 let r:Run:=⟨x.W,Dof x obj,(vs++Array.replicate (fn.ntmps - vs.size) undef).size,x.F,x.G,x.ρ,WInv.I P⟩
 have hNr:r.N=fn.ntmps:=by
  have:=hpre.size
  simp [r]
  omega
 have hX:RstX r (fun _=>False) (Zoy args obj) { tmps:=vs++Array.replicate (fn.ntmps - vs.size) undef,defers:=[] } x:=by
  refine ⟨rfl,rfl,Gr.refl _ _,fun g hg=>?_,fun t=>?_,fun t g o ho=>?_,fun t t' g g' o o' b hne h1 h2=>?_,hpre.flt,fun _ _ h=>h,fun _ _ h=>.inl h,fun _ h=>⟨h,rfl⟩,⟨hinv,fun g hg=>by obtain ⟨j,os,_,rfl⟩:=hpre.gen g hg;rfl⟩,fun _ _ _ _ h=>h⟩
  ·obtain ⟨j,os,_,rfl⟩:=hpre.gen g hg
   exact .inl Nat.zero_lt_one
  ·show Rep x (args.getD t (.tup [])) _
   rw [Array.getD_eq_getD_getElem?,Array.getElem?_append,List.getD_eq_getElem?_getD]
   by_cases ht:t<vs.size
   ·rw [if_pos ht,List.getElem?_eq_getElem (by rw [hpre.size];exact ht),Array.getElem?_eq_getElem ht]
    exact hpre.rep t _ _ (List.getElem?_eq_getElem (by rw [hpre.size];exact ht)) (Array.getElem?_eq_getElem ht)
   ·rw [if_neg ht,List.getElem?_eq_none (by rw [hpre.size];omega)]
    have:(Array.replicate (fn.ntmps - vs.size) undef)[t - vs.size]?.getD undef=undef:=by
     rw [Array.getElem?_replicate]
     split<;>rfl
    rw [this]
    exact .tup [] #[] rfl (fun i p v hp=>by simp at hp)
  ·obtain ⟨os,h1,rfl,rfl⟩:=ZkA ho
   have:=hpre.ob t os h1
   exact ⟨this.1,this.2⟩
  ·obtain ⟨os,h3,_,_⟩:=ZkA h1
   obtain ⟨os',h4,_,_⟩:=ZkA h2
   rw [h3] at h4
   injection h4 with h4
   injection h4 with h4
   exact absurd h4 hne
 refine calls_of_wp hf hb ?_
 refine (ZiA hmix hrun).1 r _ x _ ⟨rfl,by rw [hNr];exact hok⟩ hX fun a' y hY=>?_
 obtain ⟨ws,h1,h2,h3⟩:=ZdO hY fn.results.toList hres
 obtain ⟨F1,st1,hY1,hR1,hf1⟩:=ZcR ps (Flip.refl s1.ob) hY (g:=fun j=>ws.getD j undef) hpub h3
 obtain ⟨F2,st2,hY2,hob⟩:∃ F2,Step { y with F:=F1 } { y with F:=F2 }∧(∃ s2,RstX r (fun _=>False) s2 a' { y with F:=F2 })∧∀ j os,obj=some (j,os)→ObRep { y with F:=F2 } x.W.heap.size (Dof x obj) (0,j) (.box obj'):=by
  cases hobj2:obj with
  | none=>exact ⟨F1,Step.refl _,⟨_,hY1⟩,fun j os h=>by cases h⟩
  | some q=>
    obtain ⟨j,os⟩:=q
    obtain ⟨g1,g2⟩:=hobj j os hobj2
    have g3:=hf1.box g1
    obtain ⟨_,b,T,cv,q1,q2,q3,q4,q5,q6,q7⟩:=hY1.ob j _ _ g3
    obtain ⟨F2,st2,hY2,hR2,hl2,hf2⟩:=Zds obj2 hf1 hY1 (g:=fun j=>cv.getD j undef) g2 (fun j p hp=>by
     have hlt:j<cv.size:=by rw [← q3];exact (List.getElem?_eq_some_iff.1 hp).1
     have:cv.getD j undef=cv[j]:=by simp [hlt]
     rw [this]
     exact q5 j p _ hp (Array.getElem?_eq_getElem hlt))
    refine ⟨F2,st2,⟨_,hY2⟩,fun j' os' h=>?_⟩
    injection h with h
    injection h with e1 e2
    subst e1 e2
    obtain ⟨_,b2,T2,cv2,w1,w2,w3,w4,w5,w6,w7⟩:=hY2.ob j _ _ (hf2.box g1)
    change y.ρ (0,j)=_ at q1 w1
    rw [q1] at w1
    injection w1 with w1
    injection w1 with w1
    injection w1 with w1
    subst w1
    refine ⟨b,T,cv,q1,q2,by rw [hl2,q3],fun p hp=>?_,fun k p v hp hv=>?_,?_,w7⟩
    ·obtain ⟨k,hk⟩:=List.getElem?_of_mem hp
     exact PV.cell_of_pure (hR2 k p hk).1
    ·have:=(hR2 k p hp).2
     rw [Array.getD_eq_getD_getElem?,hv] at this
     exact this
    ·rw [← hobj2];exact q6
 obtain ⟨s2,hY2⟩:=hY2
 have hstep:Step x { y with F:=F2 }:=by
  refine ⟨fun g hg=>hY2.rho g hg,fun b o hb=>hY2.f0 b o hb,fun b o v hb hv=>?_⟩
  have hlt:=hpre.flt b o hb
  have hnD:¬ Dof x obj b:=fun ⟨j,os,ho,hbk⟩=>by
   obtain ⟨_,b2,T,cv,q1,_,_,_,_,_,q7⟩:=hpre.ob j os ho
   rw [q1] at hbk
   obtain rfl:b2=b:=by simpa [blk] using hbk
   exact q7 o hb
  exact (World.cell?_of_block (hY2.gr.block b hlt hnD)).trans hv
 have hfn:∀ b o,F2 b o→x.F b o∨x.W.heap.size≤b:=fun b o hF=>by
  rcases hY2.fnew b o hF with h | h | h
  ·exact .inl h
  ·exact .inr h
  ·obtain ⟨j,os,h,hbk⟩:=h
   obtain ⟨b2,T,cv,q1,_,_,_,_,_,q7⟩:=hob j os h
   have e:y.ρ (0,j)=x.ρ (0,j):=(hstep.G (0,j) (hpre.ob j os h).1).2
   change blk (x.ρ (0,j))=some b at hbk
   change y.ρ (0,j)=_ at q1
   rw [← e,q1] at hbk
   obtain rfl:b2=b:=by simpa [blk] using hbk
   exact absurd hF (q7 o)
 have hend:(results fn a'.tmps).run P y.W = .ok (if ws.length=1 then ws.getD 0 undef else .tuple ws.toArray) y.W:=by
  have:(fn.results.mapM (Zt2 a')).run P y.W = .ok ws.toArray y.W:=by
   rw [Array.mapM_eq_mapM_toList,map_eq_pure_bind,Sem.run_bind,h1]
   rfl
  have e:results fn a'.tmps=(fn.results.mapM (Zt2 a') >>= fun vs=>pure (if h:vs.size=1 then vs[0] else .tuple vs)):=by
   unfold results
   congr 1
  rw [e,Sem.run_bind,this]
  simp only [Result.andThen_ok,Sem.run_pure]
  congr 1
  by_cases hl:ws.length=1
  ·simp [hl]
  ·simp [hl]
 have hfin:∃ v,(results fn a'.tmps).run P y.W = .ok v y.W∧(fun e W'=>∃ y v,y.W=W'∧e=Ending.returned v∧Post x y obj (Zf8 qs) obj' v) (Ending.returned v) y.W:=by
  refine ⟨_,hend,{ y with F:=F2 },_,rfl,rfl,hstep,hY2.gr,hfn,hY2.flt,?_,hob⟩
  have hR:∀ (j:Nat) (q:PV),qs[j]? = some q→Rep { y with F:=F2 } q (ws.getD j undef):=fun j q hq=>(hR1 j q hq).2.step st2
  have hlq:qs.length=ws.length:=by rw [ZfQ _ hpub,h2]
  unfold Zf8
  split
  ·rename_i p
   rw [if_pos (by simpa using hlq.symm)]
   exact hR 0 p rfl
  ·rename_i hne
   have hn1:¬ ws.length=1:=fun h=>by
    rw [h] at hlq
    match qs,hlq with
    | [q],_=>exact hne q rfl
   rw [if_neg hn1]
   refine .tup qs ws.toArray (by simpa using hlq) fun j q v hq hv=>?_
   have:=hR j q hq
   have hv':ws[j]? = some v:=by simpa using hv
   rw [List.getD_eq_getElem?_getD,hv'] at this
   exact this
 rcases he with rfl | rfl
 ·exact ⟨hY.defers,hfin⟩
 ·exact ⟨hY.defers,hfin⟩
end
end VL
end Go.Proofs.YtjoneoobolnnbaaGreatDoor
namespace Go.Proofs.YtjoneoobolnnbaaGreatDoor
namespace VL
open Go.RowKit
def look:List (Nat×PV)→Nat→PV
 | [],_=>.un
 | (k,v)::r,t=>if t=k then v else look r t
def ZO:List (Nat×Option (Gen×VObj))→Nat→Option (Gen×VObj)
 | [],_=>none
 | (k,v)::r,t=>if t=k then v else ZO r t
def mkS (tm:List (Nat×PV)) (ob:List (Nat×Option (Gen×VObj))) (ng:Nat):FS:=⟨look tm,ZO ob,ng⟩
def evL (tm:List (Nat×PV)):Operand→PV
 | .tmp t=>look tm t
 | .const v=>ZeU v
 | .func f=>.fn f []
 | .global _=>.un
theorem ZaD (tm:List (Nat×PV)) (ob:List (Nat×Option (Gen×VObj))) (ng:Nat):ev (mkS tm ob ng)=evL tm:=by funext e;cases e<;>rfl
def ZbZ (d:Option Tmp) (v:PV) (tm:List (Nat×PV)):List (Nat×PV):=match d with
 | some d=>(d,v)::tm
 | none=>tm
theorem Zfv:∀ (us ob:List (Nat×Option (Gen×VObj))),flips (ZO ob) us=ZO (us.reverse++ob)
 | [],ob=>rfl
 | q::us,ob=>by
   show flips (Zdk (ZO ob) q.1 q.2) us=_
   have:Zdk (ZO ob) q.1 q.2=ZO (q::ob):=rfl
   rw [this,Zfv us (q::ob)]
   simp
theorem Zcg (tm:List (Nat×PV)) (ob:List (Nat×Option (Gen×VObj))) (ng:Nat) (d:Option Tmp) (v:PV) (us:List (Nat×Option (Gen×VObj))) :
  (mkS tm ob ng).app d ⟨v,us⟩=mkS (ZbZ d v tm) (us.reverse++ob) ng:=by
 unfold FS.app mkS
 simp only [FS.mk.injEq,and_true]
 constructor
 ·cases d<;>rfl
 ·exact Zfv us ob
def PW (P:Program) [WInv P] (c:Code) (Q:Ex→FS→Prop) (s:FS):Prop:=∃ e s',RunC P c s e s'∧Q e s'
def GoL (P:Program) [WInv P] (ops:Array Oper) (draw:Bool) (i:Nat) (L:List Oper) (acc:List (List Nat×List Nat)) (s:FS) (K:FS→Prop):Prop:=
 acc.length=i→ops.toList.drop i=L→∃ (fps:List (List Nat×List Nat)) (s':FS),(∀ fp:Nat→Option (List Nat×List Nat),(∀ j,j<fps.length→fp (i+j)=none∨fp (i+j)=fps[j]?)→RunO P ops fp ((List.range L.length).map (i + ·)) s s')∧
  fps.length=L.length∧(draw=true→ZnV ops (fun j=>(acc++fps)[j]?)=true)∧K s'
section
variable {P:Program} [WInv P] {ops:Array Oper} {draw:Bool} {i:Nat} {L:List Oper} {acc:List (List Nat×List Nat)} {s:FS} {K:FS→Prop} {Q:Ex→FS→Prop}
theorem ZtN (K W:List Nat):Zvb (some (K,W)) K W=true:=by
 simp [Zvb]
theorem Zwq (hd:draw=true→ZnV ops (fun j=>acc[j]?)=true) (h:K s):GoL P ops draw i [] acc s K:=fun _ _=>
 ⟨[],s,fun _ _=>.nil,rfl,by simpa using hd,h⟩
theorem Zhp {o:Oper} {u:Upd} (h:OpR P ops i o s u) (k:GoL P ops draw (i+1) L (acc ++ [(ZN s o,u.obs.map (·.1))]) (s.app o.dst u) K):GoL P ops draw i (o::L) acc s K:=fun hacc hL=>by
 have h2:ops.toList.drop (i+1)=L:=by rw [← List.drop_drop,hL];rfl
 obtain ⟨fps,s',h3,h4,h5,h6⟩:=k (by simp [hacc]) h2
 have ho:ops[i]? = some o:=by
  have:(ops.toList.drop i)[0]? = some o:=by rw [hL];rfl
  rw [List.getElem?_drop] at this
  simpa using this
 refine ⟨(ZN s o,u.obs.map (·.1))::fps,s',fun fp hfp=>?_,by simp [h4],by simpa using h5,h6⟩
 have e:(List.range (o::L).length).map (i + ·)=i::(List.range L.length).map (i+1 + ·):=by
  rw [List.length_cons,List.range_succ_eq_map,List.map_cons,List.map_map,Nat.add_zero]
  congr 1
  refine List.map_congr_left fun j _=>?_
  simp only [Function.comp]
  omega
 rw [e]
 refine .cons ho h ?_ (h3 fp fun j hj=>?_)
 ·rcases hfp 0 (by simp) with h | h
  ·rw [Nat.add_zero] at h;rw [h];rfl
  ·rw [Nat.add_zero] at h;rw [h];exact ZtN _ _
 ·have:=hfp (j+1) (by simpa using hj)
  have e2:i+(j+1)=i+1+j:=by omega
  rw [e2] at this
  simpa using this
theorem ZtO {id:Nat} (h:GoL P ops draw 0 ops.toList [] s fun s'=>Q .normal ⟨s'.tm,s'.ob,s'.ng+1⟩):PW P (.region id ops draw) Q s:=by
 obtain ⟨fps,s',h1,h2,h3,h4⟩:=h rfl rfl
 cases draw with
 | false=>
   refine ⟨.normal,_,.region (fun _=>none) ?_ (fun h=>by cases h),h4⟩
   have:=h1 (fun _=>none) fun j _=>.inl rfl
   simpa using this
 | true=>
   refine ⟨.normal,_,.region (fun j=>fps[j]?) ?_ (fun _=>by simpa using h3 rfl),h4⟩
   have:=h1 (fun j=>fps[j]?) fun j _=>.inr (by simp)
   simpa using this
theorem ZqN {a:Code} {Q':Ex→FS→Prop} (h:PW P a Q s) (hq:∀ e s,Q e s→Q' e s):PW P a Q' s:=by
 obtain ⟨e,s',h1,h2⟩:=h
 exact ⟨e,s',h1,hq _ _ h2⟩
def ZyD (N:FS→Prop) (Q:Ex→FS→Prop):Ex→FS→Prop
 | .normal,s=>N s
 | e,s=>Q e s
theorem Zw1 {a b:Code} (h:PW P a (ZyD (PW P b Q) Q) s):PW P (.seq a b) Q s:=by
 obtain ⟨e,s',h1,h2⟩:=h
 cases e with
 | normal=>
   obtain ⟨e2,s2,h3,h4⟩:=h2
   exact ⟨e2,s2,.seqN h1 h3,h4⟩
 | exit id=>exact ⟨_,s',.seqX h1 (by simp),h2⟩
 | ret=>exact ⟨_,s',.seqX h1 (by simp),h2⟩
end
def PWs (P:Program) [WInv P]:List Code→(Ex→FS→Prop)→FS→Prop
 | [],Q,s=>Q .normal s
 | c::cs,Q,s=>PW P c (ZyD (PWs P cs Q) Q) s
section
variable {P:Program} [WInv P] {ops:Array Oper} {draw:Bool} {s:FS} {Q:Ex→FS→Prop} {cs:List Code}
theorem Zoq (h:Q .normal s):PWs P [] Q s:=h
theorem Zor {a b:Code} (h:PWs P (a::b::cs) Q s):PWs P (.seq a b::cs) Q s:=by
 refine Zw1 (ZqN h fun e s h=>?_)
 cases e<;>exact h
theorem Zsu {id:Nat} (h:GoL P ops draw 0 ops.toList [] s fun s'=>PWs P cs Q ⟨s'.tm,s'.ob,s'.ng+1⟩):PWs P (.region id ops draw::cs) Q s:=ZtO h
theorem ZlB (h:PWs P cs Q s):PWs P (.skip::cs) Q s:=⟨_,_,.skip,h⟩
theorem Zos (h:Q .ret s):PWs P (.ret::cs) Q s:=⟨_,_,.ret,h⟩
theorem ZlC {id:Nat} (h:Q (.exit id) s):PWs P (.exit id::cs) Q s:=⟨_,_,.exit,h⟩
theorem ZlD {c:Operand} {x y:Code} {t:Bool} (hc:ev s c = .bool t) (h:PWs P ((if t then x else y)::cs) Q s):PWs P (.cond c x y::cs) Q s:=by
 obtain ⟨e,s',h1,h2⟩:=h
 exact ⟨e,s',.cond hc h1,h2⟩
theorem ZvA {c:Operand} {x y:Code} (hc:ev s c = .bool true) (h:PWs P (x::cs) Q s):PWs P (.cond c x y::cs) Q s:=ZlD hc h
theorem ZtP {c:Operand} {x y:Code} (hc:ev s c = .bool false) (h:PWs P (y::cs) Q s):PWs P (.cond c x y::cs) Q s:=ZlD hc h
theorem ZtQ {c:Operand} {x y:Code} {t:Bool} (hc:ev s c = .bool t) (h1:t=true→PWs P (x::cs) Q s) (h2:t=false→PWs P (y::cs) Q s):PWs P (.cond c x y::cs) Q s:=by
 cases t
 ·exact ZlD hc (h2 rfl)
 ·exact ZlD hc (h1 rfl)
def Zpt (id:Nat) (N:FS→Prop) (Q:Ex→FS→Prop):Ex→FS→Prop
 | .normal,s=>N s
 | .exit k,s=>if k=id then N s else Q (.exit k) s
 | .ret,s=>Q .ret s
theorem Zot {id:Nat} {N:FS→Prop} (h:N s):Zpt id N Q (.exit id) s:=by show if id=id then N s else _;rw [if_pos rfl];exact h
theorem ZjU {id:Nat} {N:FS→Prop} (h:N s):Zpt id N Q .normal s:=h
theorem ZrI {id:Nat} {N:FS→Prop} (h:Q .ret s):Zpt id N Q .ret s:=h
theorem ZdM {c:Code} (h:PWs P [c] Q s):PW P c Q s:=ZqN h fun e s h=>by cases e<;>exact h
theorem ZdN {id:Nat} {c:Code} (h:PWs P [c] (Zpt id (PWs P cs Q) Q) s):PWs P (.block id c::cs) Q s:=by
 obtain ⟨e,s',h1,h2⟩:=ZdM h
 refine ⟨e.block id,s',.block h1,?_⟩
 cases e with
 | exit k=>
   simp only [Ex.block]
   change (if k=id then PWs P cs Q s' else Q (.exit k) s') at h2
   split
   ·rename_i hk;rw [if_pos hk] at h2;exact h2
   ·rename_i hk;rw [if_neg hk] at h2;exact h2
 | normal=>exact h2
 | ret=>exact h2
def Zpu {α:Type} (St:α→Nat→FS) (J:α→Prop) (m:α→Nat) (a:α) (Q:Ex→FS→Prop):Ex→FS→Prop
 | .normal,s=>∃ a' ng,J a'∧m a'<m a∧Shift s (St a' ng)
 | e,s=>Q e s
theorem Zk {α:Type} {c:Code} (St:α→Nat→FS) (J:α→Prop) (m:α→Nat) (a0:α) (ng0:Nat) (h0:J a0) (hs:Shift s (St a0 ng0)) (round:∀ a ng,J a→PWs P [c] (Zpu St J m a Q) (St a ng)) :
  PWs P (.loop c::cs) Q s:=by
 have key:∀ n a ng,m a=n→J a→∃ e s',RunC P (.loop c) (St a ng) e s'∧e≠.normal∧Q e s':=fun n=>by
  induction n using Nat.strongRecOn with
  | _ n ih=>
    intro a ng hn hJ
    obtain ⟨e,s',h1,h2⟩:=ZdM (round a ng hJ)
    cases e with
    | normal=>
      obtain ⟨a',ng',h3,h4,h5⟩:=h2
      obtain ⟨e2,s2,h6,h7,h8⟩:=ih (m a') (hn ▸ h4) a' ng' rfl h3
      exact ⟨e2,s2,.loopN h1 (.shift h5 h6),h7,h8⟩
    | exit id=>exact ⟨_,s',.loopX h1 (by simp),by simp,h2⟩
    | ret=>exact ⟨_,s',.loopX h1 (by simp),by simp,h2⟩
 obtain ⟨e,s',h1,h2,h3⟩:=key _ a0 ng0 rfl h0
 refine ⟨e,s',.shift hs h1,?_⟩
 cases e with
 | normal=>exact absurd rfl h2
 | _=>exact h3
theorem ZaL {α:Type} {St:α→Nat→FS} {J:α→Prop} {m:α→Nat} {a:α} (a':α) (ng:Nat) (h1:J a') (h2:m a'<m a) (h3:Shift s (St a' ng)):Zpu St J m a Q .normal s:=⟨a',ng,h1,h2,h3⟩
theorem Zou {α:Type} {St:α→Nat→FS} {J:α→Prop} {m:α→Nat} {a:α} {id:Nat} (h:Q (.exit id) s):Zpu St J m a Q (.exit id) s:=h
theorem ZrJ {α:Type} {St:α→Nat→FS} {J:α→Prop} {m:α→Nat} {a:α} (h:Q .ret s):Zpu St J m a Q .ret s:=h
theorem Zgq {s s1:FS} (h1:∀ t,s1.tm t = .un∨s1.tm t=s.tm t) (h2:∀ t,s1.ob t=none∨s1.ob t=s.ob t) (h3:s.ng≤s1.ng):Shift s s1:=fun r a x h=>⟨x,rfl,by
 refine ⟨h.defers,h.size,h.gr,fun g hg=>.inl ?_,fun t=>?_,fun t g o ho=>?_,fun t t' g g' o o' b hne e1 e2=>?_,h.flt,h.f0,h.fnew,h.rho,h.inv,h.keep⟩
 ·rcases h.gens g hg with e | ⟨_,e⟩
  ·omega
  ·exact e.elim
 ·rcases h1 t with e | e
  ·rw [e];exact .un _
  ·rw [e];exact h.tm t
 ·rcases h2 t with e | e
  ·rw [e] at ho;cases ho
  ·rw [e] at ho;exact h.ob t g o ho
 ·rcases h2 t with e | e
  ·rw [e] at e1;cases e1
  ·rcases h2 t' with e' | e'
   ·rw [e'] at e2;cases e2
   ·rw [e] at e1;rw [e'] at e2;exact h.apart t t' g g' o o' b hne e1 e2⟩
theorem Shift.trans {s s1 s2:FS} (h:Shift s s1) (k:Shift s1 s2):Shift s s2:=fun r a x hx=>by
 obtain ⟨y,h1,h2⟩:=h r a x hx
 obtain ⟨z,h3,h4⟩:=k r a y h2
 exact ⟨z,h3.trans h1,h4⟩
def Zx9 (P:Program) (rs:List ResultVar) (res:PV):Ex→FS→Prop
 | .exit _,_=>False
 | _,s=>∃ ps qs us,Zgt P s rs=some ps∧Zf6 s.ob ps=some (qs,us)∧Zf8 qs=res
omit [WInv P] in
theorem Zc5 {rs:List ResultVar} {res:PV} {ps qs:List PV} {us:List (Nat×Option (Gen×VObj))} (h1:Zgt P s rs=some ps) (h2:Zf6 s.ob ps=some (qs,us)) (h3:Zf8 qs=res):Zx9 P rs res .ret s:=⟨ps,qs,us,h1,h2,h3⟩
def ZfI:Nat→List PV→List (Nat×PV)
 | _,[]=>[]
 | i,p::ps=>(i,p)::ZfI (i+1) ps
theorem Zfg:∀ (args:List PV) (i t:Nat),look (ZfI i args) t = .un∨(i≤t∧look (ZfI i args) t=args.getD (t - i) (.tup []))
 | [],i,t=>.inl rfl
 | p::ps,i,t=>by
   show (if t=i then p else look (ZfI (i+1) ps) t)=_∨(_∧(if t=i then p else look (ZfI (i+1) ps) t)=_)
   by_cases e:t=i
   ·rw [if_pos e]
    right
    refine ⟨by omega,?_⟩
    rw [e,Nat.sub_self]
    rfl
   ·rw [if_neg e]
    rcases Zfg ps (i+1) t with h | ⟨h1,h2⟩
    ·exact .inl h
    ·right
     refine ⟨by omega,?_⟩
     rw [h2]
     have:t - i=(t - (i+1))+1:=by omega
     rw [this]
     rfl
theorem ZbK (hmix:P.follows .mixedOrders=true) {f:FuncId} {fn:Func} {c:Code} {args:List PV} {res:PV} (hf:P.funcs[f]? = some fn) (hg:isGo P f=true) (hb:fn.body=some c) (hok:(decide (args.length≤fn.ntmps)&&Zbq fn.ntmps c)=true)
  (h:PWs P [c] (Zx9 P fn.results.toList res) (mkS (ZfI 0 args) [] 1)):Contract P f args none res []:=by
 simp only [Bool.and_eq_true,decide_eq_true_eq] at hok
 obtain ⟨e,s',h1,h2⟩:=ZdM h
 have hsh:Shift (Zoy args none) (mkS (ZfI 0 args) [] 1):=Zgq (fun t=>by
  rcases Zfg args 0 t with h | ⟨_,h⟩
  ·exact .inl h
  ·exact .inr h) (fun t=>.inl rfl) (Nat.le_refl _)
 cases e with
 | exit id=>exact h2.elim
 | normal=>
   obtain ⟨ps,qs,us,h3,h4,h5⟩:=h2
   subst h5
   exact ZgY (us2:=[]) (obj2:=[]) hmix hg hf hb hok.1 hok.2 (.shift hsh h1) (.inl rfl) h3 h4 (fun j os h=>by cases h) (fun _=>rfl)
 | ret=>
   obtain ⟨ps,qs,us,h3,h4,h5⟩:=h2
   subst h5
   exact ZgY (us2:=[]) (obj2:=[]) hmix hg hf hb hok.1 hok.2 (.shift hsh h1) (.inr rfl) h3 h4 (fun j os h=>by cases h) (fun _=>rfl)
end
end VL
end Go.Proofs.YtjoneoobolnnbaaGreatDoor
namespace Go.Proofs.YtjoneoobolnnbaaGreatDoor
namespace VL
open Go.RowKit
class Ze (P:Program) (T:TypeId) (z:outParam (List PV)):Prop where
 eq:(tyI P T).map (·.zero)=some z
class Ld (P:Program) (T:TypeId) (agg:outParam Bool) (n:outParam Nat):Prop where
 eq:(tyI P T).map (fun ti=>(TypeDesc.isAgg ti.desc,ti.size))=some (agg,n)
class Fld (P:Program) (T:TypeId) (f:Nat) (off:outParam Nat) (agg:outParam Bool) (n:outParam Nat):Prop where
 eq:(fieldAt P T f).map (fun q=>(q.1,TypeDesc.isAgg q.2.desc,q.2.size))=some (off,agg,n)
 pos:(n == 0)=false
def slI (P:Program) (T:TypeId):Option (TypeId×TI):=match tyI P T with
 | some ⟨.slice E,_,_,_⟩=>(tyI P E).map fun te=>(E,te)
 | _=>none
class Sl (P:Program) (T:TypeId) (E k by_:outParam Nat) (z:outParam (List PV)):Prop where
 eq:(slI P T).map (fun q=>(q.1,q.2.size,q.2.bytes,q.2.zero))=some (E,k,by_,z)
 pos:(k == 0)=false
 len:z.length=k
def arI (P:Program) (T:TypeId):Option (Nat×TI):=match tyI P T with
 | some ⟨.array len E,_,_,_⟩=>(tyI P E).map fun te=>(len,te)
 | _=>none
class Ar (P:Program) (T:TypeId) (len k:outParam Nat):Prop where
 eq:(arI P T).map (fun q=>(q.1,q.2.size))=some (len,k)
def stI (P:Program) (T:TypeId):Option (List (Option (Nat×Nat))×List PV):=match tyI P T with
 | some ⟨.struct fs,_,_,z⟩=>if fs.toList.all fun f=>(tyI P f.type).isSome then some ((List.range fs.size).map (Zlb P fs),z) else none
 | _=>none
class St (P:Program) (T:TypeId) (pl:outParam (List (Option (Nat×Nat)))) (z:outParam (List PV)):Prop where
 eq:stI P T=some (pl,z)
class Az (P:Program) (T:TypeId) (k:outParam Nat) (z:outParam (List PV)):Prop where
 eq:(arI P T).map (fun q=>q.2.size)=some k
 zero:(tyI P T).map (·.zero)=some z
def Zq1 (agg:Bool) (n:Nat) (cs:List PV):Option PV:=if agg then (if n≤cs.length then some (.agg (cs.take n)) else none) else cs[0]?
def evs (tm:List (Nat×PV)):List (Nat×Operand)→List (Nat×PV)
 | []=>[]
 | (i,e)::r=>(i,evL tm e)::evs tm r
theorem ZrT (tm:List (Nat×PV)):∀ (l:List (Nat×Operand)),(l.map fun q=>(q.1,evL tm q.2))=evs tm l
 | []=>rfl
 | (i,e)::r=>by simp [evs,ZrT tm r]
theorem ZoE {P:Program} {T:TypeId} {agg:Bool} {n:Nat} [h:Ld P T agg n]:∃ ti,tyI P T=some ti∧TypeDesc.isAgg ti.desc=agg∧ti.size=n:=by
 have:=h.eq
 cases ht:tyI P T with
 | none=>rw [ht] at this;cases this
 | some ti=>
   rw [ht] at this
   simp only [Option.map_some,Option.some.injEq,Prod.mk.injEq] at this
   exact ⟨ti,rfl,this.1,this.2⟩
theorem Zf9 {P:Program} {T:TypeId} {E k by_:Nat} {z:List PV} [h:Sl P T E k by_ z]:∃ s b zz te,tyI P T=some ⟨.slice E,s,b,zz⟩∧tyI P E=some te∧te.size=k∧te.bytes=by_∧te.zero=z∧0<k∧z.length=k:=by
 have:=h.eq
 unfold slI at this
 split at this
 ·rename_i E' s b zz ht
  cases hte:tyI P E' with
  | none=>rw [hte] at this;cases this
  | some te=>
    rw [hte] at this
    simp only [Option.map_some,Option.some.injEq,Prod.mk.injEq] at this
    obtain ⟨rfl,h2,h3,h4⟩:=this
    have hp:=h.pos
    simp only [beq_eq_false_iff_ne,ne_eq] at hp
    exact ⟨s,b,zz,te,ht,hte,h2,h3,h4,by omega,h.len⟩
 ·cases this
theorem Zq2 {ti:TI} {agg:Bool} {n:Nat} (h1:TypeDesc.isAgg ti.desc=agg) (h2:ti.size=n) (cs:List PV):ZmK ti cs=Zq1 agg n cs:=by
 unfold ZmK Zq1
 rw [h1,h2]
section
variable {P:Program} [WInv P] {ops:Array Oper} {draw:Bool} {i:Nat} {L:List Oper} {acc:List (List Nat×List Nat)} {K:FS→Prop} {tm:List (Nat×PV)} {ob:List (Nat×Option (Gen×VObj))} {ng:Nat}
 {d:Option Tmp} {ty:TypeId} {pos:String} {after:Array Edge} {gd:Option (Nat×Bool)} {T:TypeId} {x y:Operand}
theorem ZcD {o:Oper} {v:PV} {us:List (Nat×Option (Gen×VObj))} (hw:Zp ops (mkS tm ob ng) o=some true) (ha:ActR P i o (mkS tm ob ng) ⟨v,us⟩)
  (k:GoL P ops draw (i+1) L (acc ++ [(ZN (mkS tm ob ng) o,us.map (·.1))]) (mkS (ZbZ o.dst v tm) (us.reverse++ob) ng) K):GoL P ops draw i (o::L) acc (mkS tm ob ng) K:=by
 refine Zhp (.act hw ha) ?_
 rw [Zcg]
 exact k
theorem Zi {o:Oper} (hw:Zp ops (mkS tm ob ng) o=some false) (k:GoL P ops draw (i+1) L (acc ++ [(ZN (mkS tm ob ng) o,[])]) (mkS (ZbZ o.dst (.tup []) tm) ob ng) K):GoL P ops draw i (o::L) acc (mkS tm ob ng) K:=by
 refine Zhp (.skip hw) ?_
 rw [Zcg]
 exact k
theorem ZrU (hw:Zp ops (mkS tm ob ng) ⟨d,.move x,ty,pos,after,gd⟩=some true) {v:PV} (hv:evL tm x=v)
  (k:GoL P ops draw (i+1) L (acc ++ [(ZN (mkS tm ob ng) ⟨d,.move x,ty,pos,after,gd⟩,[])]) (mkS (ZbZ d v tm) ob ng) K):GoL P ops draw i (⟨d,.move x,ty,pos,after,gd⟩::L) acc (mkS tm ob ng) K:=
 ZcD (us:=[]) (v:=v) hw (.fn (by simp only [act,ZaD,hv])) k
theorem ZlH (hw:Zp ops (mkS tm ob ng) ⟨d,.assign x,ty,pos,after,gd⟩=some true) {v:PV} (hv:evL tm x=v)
  (k:GoL P ops draw (i+1) L (acc ++ [(ZN (mkS tm ob ng) ⟨d,.assign x,ty,pos,after,gd⟩,[])]) (mkS (ZbZ d v tm) ob ng) K):GoL P ops draw i (⟨d,.assign x,ty,pos,after,gd⟩::L) acc (mkS tm ob ng) K:=
 ZcD (us:=[]) (v:=v) hw (.fn (by simp only [act,ZaD,hv])) k
theorem ZrV {c:Operand} (hw:Zp ops (mkS tm ob ng) ⟨d,.pick c x y,ty,pos,after,gd⟩=some true) {t:Bool} {v:PV} (hc:evL tm c = .bool t) (hv:(if t then evL tm x else evL tm y)=v)
  (k:GoL P ops draw (i+1) L (acc ++ [(ZN (mkS tm ob ng) ⟨d,.pick c x y,ty,pos,after,gd⟩,[])]) (mkS (ZbZ d v tm) ob ng) K):GoL P ops draw i (⟨d,.pick c x y,ty,pos,after,gd⟩::L) acc (mkS tm ob ng) K:=
 ZcD (us:=[]) (v:=v) hw (.fn (by simp only [act,ZaD,hc,hv])) k
theorem ZmB {dd:Nat} {z:List PV} [Ze P T z] (hw:Zp ops (mkS tm ob ng) ⟨some dd,.alloc T,ty,pos,after,gd⟩=some true) (hz:z.all PV.cell=true)
  (k:GoL P ops draw (i+1) L (acc ++ [(ZN (mkS tm ob ng) ⟨some dd,.alloc T,ty,pos,after,gd⟩,[dd])]) (mkS ((dd,.ptr dd (ng,i) 0)::tm) ((dd,some ((ng,i),.box z))::ob) ng) K) :
  GoL P ops draw i (⟨some dd,.alloc T,ty,pos,after,gd⟩::L) acc (mkS tm ob ng) K:=by
 refine ZcD (us:=[(dd,some ((ng,i),.box z))]) hw (.fn ?_) k
 have:=Ze.eq (P:=P) (T:=T) (z:=z)
 cases ht:tyI P T with
 | none=>rw [ht] at this;cases this
 | some ti=>
   rw [ht] at this
   simp only [Option.map_some,Option.some.injEq] at this
   subst this
   simp only [act,ht,hz,if_true]
   rfl
theorem ZvV {dd:Nat} (hw:Zp ops (mkS tm ob ng) ⟨some dd,.box T x,ty,pos,after,gd⟩=some true) {p:PV} {cs:List PV} (hv:evL tm x=p) (hc:p.cells=cs) (hz:cs.all PV.cell=true)
  (k:GoL P ops draw (i+1) L (acc ++ [(ZN (mkS tm ob ng) ⟨some dd,.box T x,ty,pos,after,gd⟩,[dd])]) (mkS ((dd,.ptr dd (ng,i) 0)::tm) ((dd,some ((ng,i),.box cs))::ob) ng) K) :
  GoL P ops draw i (⟨some dd,.box T x,ty,pos,after,gd⟩::L) acc (mkS tm ob ng) K:=by
 refine ZcD (us:=[(dd,some ((ng,i),.box cs))]) hw (.fn ?_) k
 subst hc
 subst hv
 simp only [act,ZaD,hz,if_true]
 rfl
theorem ZnN {agg:Bool} {n:Nat} [h:Ld P T agg n] (hw:Zp ops (mkS tm ob ng) ⟨d,.load T x,ty,pos,after,gd⟩=some true) {cs:List PV} {v:PV} (hr:ZhX (ZO ob) (evL tm x)=some cs) (hv:Zq1 agg n cs=some v)
  (k:GoL P ops draw (i+1) L (acc ++ [(ZN (mkS tm ob ng) ⟨d,.load T x,ty,pos,after,gd⟩,[])]) (mkS (ZbZ d v tm) ob ng) K):GoL P ops draw i (⟨d,.load T x,ty,pos,after,gd⟩::L) acc (mkS tm ob ng) K:=by
 refine ZcD (us:=[]) hw (.fn ?_) k
 obtain ⟨ti,ht,h1,h2⟩:=ZoE (P:=P) (T:=T) (agg:=agg) (n:=n)
 have hr':ZhX (mkS tm ob ng).ob (ev (mkS tm ob ng) x)=some cs:=by rw [ZaD];exact hr
 simp only [act,ht,hr',Zq2 h1 h2,hv,Option.map_some]
theorem ZmC {agg:Bool} {n:Nat} [Ld P T agg n] (hw:Zp ops (mkS tm ob ng) ⟨d,.store T x y,ty,pos,after,gd⟩=some true) {t:Nat} {g:Gen} {off:Nat} {cs:List PV} {p:PV} {ps:List PV} (hx:evL tm x = .ptr t g off) (hb:Zb5 (ZO ob) t g=some (.box cs))
  (hy:evL tm y=p) (hps:p.cells=ps) (hl:ps.length=n) (hz:ps.all PV.cell=true) (hf:off+n≤cs.length) {cs':List PV} (hcs:ZdT cs off ps=cs')
  (k:GoL P ops draw (i+1) L (acc ++ [(ZN (mkS tm ob ng) ⟨d,.store T x y,ty,pos,after,gd⟩,[t])]) (mkS (ZbZ d .un tm) ((t,some (g,.box cs'))::ob) ng) K):GoL P ops draw i (⟨d,.store T x y,ty,pos,after,gd⟩::L) acc (mkS tm ob ng) K:=by
 refine ZcD (us:=[(t,some (g,.box cs'))]) hw (.fn ?_) k
 obtain ⟨ti,ht,h1,h2⟩:=ZoE (P:=P) (T:=T) (agg:=agg) (n:=n)
 have hb':Zb5 (mkS tm ob ng).ob t g=some (.box cs):=hb
 have hc:(p.cells.all PV.cell=true∧off+ti.size≤cs.length):=by rw [hps,h2];exact ⟨hz,hf⟩
 have hl':p.cells.length=ti.size:=by rw [hps,h2];exact hl
 simp only [act,ht,ZaD,hx,hy,hb',if_pos hc,if_pos hl']
 rw [hps,hcs]
theorem Zq3 {agg:Bool} {n:Nat} [Ld P T agg n] (hw:Zp ops (mkS tm ob ng) ⟨d,.store T x y,ty,pos,after,gd⟩=some true) {t:Nat} {g:Gen} {E q kk off:Nat} {els:List (List PV)} {e:List PV} {p:PV} {ps qs:List PV} {us:List (Nat×Option (Gen×VObj))}
  (hx:evL tm x = .elp t g q kk off) (hb:Zb5 (ZO ob) t g=some (.row E kk false els)) (he:els[q]? = some e) (hy:evL tm y=p) (hps:p.cells=ps) (hl:ps.length=n) (hr:ZfZ (ZO ob) ps=some (qs,us)) (hf:off+n≤kk) (hus:us.all (fun q=>q.1 != t)=true)
  (k:GoL P ops draw (i+1) L (acc ++ [(ZN (mkS tm ob ng) ⟨d,.store T x y,ty,pos,after,gd⟩,(us ++ [(t,some (g,VObj.row E kk false (els.set q (ZdT e off qs))))]).map (·.1))]) (mkS (ZbZ d .un tm) ((us ++ [(t,some (g,VObj.row E kk false (els.set q (ZdT e off qs))))]).reverse++ob) ng) K) :
  GoL P ops draw i (⟨d,.store T x y,ty,pos,after,gd⟩::L) acc (mkS tm ob ng) K:=by
 refine ZcD hw (.fn ?_) k
 obtain ⟨ti,ht,h1,h2⟩:=ZoE (P:=P) (T:=T) (agg:=agg) (n:=n)
 have hb':Zb5 (mkS tm ob ng).ob t g=some (.row E kk false els):=hb
 have hr':ZfZ (mkS tm ob ng).ob p.cells=some (qs,us):=by rw [hps];exact hr
 have hl':p.cells.length=ti.size:=by rw [hps,h2];exact hl
 have hc:True∧off+ti.size≤kk∧us.all (fun q=>q.1 != t)=true:=⟨trivial,by rw [h2];exact hf,hus⟩
 simp only [act,ht,ZaD,hx,hy,hb',hr',he,if_pos hl',if_pos hc]
omit [WInv P] in
theorem ZrW {f off:Nat} {agg:Bool} {n:Nat} [h:Fld P T f off agg n]:∃ ti,fieldAt P T f=some (off,ti)∧TypeDesc.isAgg ti.desc=agg∧ti.size=n∧¬ ti.size=0:=by
 have:=h.eq
 cases hf:fieldAt P T f with
 | none=>rw [hf] at this;cases this
 | some q=>
   obtain ⟨o,ti⟩:=q
   rw [hf] at this
   simp only [Option.map_some,Option.some.injEq,Prod.mk.injEq] at this
   obtain ⟨rfl,h1,h2⟩:=this
   refine ⟨ti,rfl,h1,h2,fun e=>?_⟩
   have hp:=h.pos
   rw [← h2,e] at hp
   cases hp
def ZzM (off:Nat):PV→Option PV
 | .ptr t g o=>some (.ptr t g (o+off))
 | .elp t g i k o=>some (.elp t g i k (o+off))
 | .cel cs=>some (.cel (cs.drop off))
 | _=>none
theorem Zg1 {f off:Nat} {agg:Bool} {n:Nat} [Fld P T f off agg n] (hw:Zp ops (mkS tm ob ng) ⟨d,.fieldAddr T x f,ty,pos,after,gd⟩=some true) {v:PV} (hv:ZzM off (evL tm x)=some v)
  (k:GoL P ops draw (i+1) L (acc ++ [(ZN (mkS tm ob ng) ⟨d,.fieldAddr T x f,ty,pos,after,gd⟩,[])]) (mkS (ZbZ d v tm) ob ng) K):GoL P ops draw i (⟨d,.fieldAddr T x f,ty,pos,after,gd⟩::L) acc (mkS tm ob ng) K:=by
 refine ZcD (us:=[]) hw (.fn ?_) k
 obtain ⟨ti,h1,h2,h3,h4⟩:=ZrW (P:=P) (T:=T) (f:=f) (off:=off) (agg:=agg) (n:=n)
 simp only [act,h1,ZaD,if_neg h4]
 unfold ZzM at hv
 split at hv<;>first | (cases hv;done) | (rename_i he;injection hv with hv;subst hv;simp only [he])
theorem ZoF {f off:Nat} {agg:Bool} {n:Nat} [Fld P T f off agg n] (hw:Zp ops (mkS tm ob ng) ⟨d,.field T x f,ty,pos,after,gd⟩=some true) {cs:List PV} {v:PV} (hx:evL tm x = .agg cs) (hv:Zq1 agg n (cs.drop off)=some v)
  (k:GoL P ops draw (i+1) L (acc ++ [(ZN (mkS tm ob ng) ⟨d,.field T x f,ty,pos,after,gd⟩,[])]) (mkS (ZbZ d v tm) ob ng) K):GoL P ops draw i (⟨d,.field T x f,ty,pos,after,gd⟩::L) acc (mkS tm ob ng) K:=by
 refine ZcD (us:=[]) hw (.fn ?_) k
 obtain ⟨ti,h1,h2,h3,h4⟩:=ZrW (P:=P) (T:=T) (f:=f) (off:=off) (agg:=agg) (n:=n)
 simp only [act,h1,ZaD,hx,Zq2 h2 h3,hv,Option.map_some]
theorem ZiC {k:IntKind} {n:Nat}:toNat? (.int k (n:Int))=some n:=by simp [toNat?]
theorem Zel {E kk by_:Nat} {z:List PV} [Sl P T E kk by_ z] (hw:Zp ops (mkS tm ob ng) ⟨d,.indexAddr T x y,ty,pos,after,gd⟩=some true) {els:List (List PV)} {e:List PV} {kd:IntKind} {n:Nat} (hx:evL tm x = .sl els) (hy:evL tm y = .int kd (n:Int)) (he:els[n]? = some e) (hl:e.length=kk)
  (k:GoL P ops draw (i+1) L (acc ++ [(ZN (mkS tm ob ng) ⟨d,.indexAddr T x y,ty,pos,after,gd⟩,[])]) (mkS (ZbZ d (.cel e) tm) ob ng) K):GoL P ops draw i (⟨d,.indexAddr T x y,ty,pos,after,gd⟩::L) acc (mkS tm ob ng) K:=by
 refine ZcD (us:=[]) hw (.fn ?_) k
 obtain ⟨s,b,zz,te,h1,h2,h3,_,_,_,_⟩:=Zf9 (P:=P) (T:=T) (E:=E) (k:=kk) (by_:=by_) (z:=z)
 have hl':e.length=te.size:=by rw [h3];exact hl
 simp only [act,h1,ZaD,hx,hy,ZiC,h2,he,if_pos hl']
theorem Zq4 {E kk by_:Nat} {z:List PV} [Sl P T E kk by_ z] (hw:Zp ops (mkS tm ob ng) ⟨d,.indexAddr T x y,ty,pos,after,gd⟩=some true) {t:Nat} {g:Gen} {E':Nat} {sh:Bool} {els:List (List PV)} {kd:IntKind} {n:Nat} (hx:evL tm x = .row t g) (hb:Zb5 (ZO ob) t g=some (.row E' kk sh els)) (hy:evL tm y = .int kd (n:Int)) (hn:n<els.length)
  (k:GoL P ops draw (i+1) L (acc ++ [(ZN (mkS tm ob ng) ⟨d,.indexAddr T x y,ty,pos,after,gd⟩,[])]) (mkS (ZbZ d (.elp t g n kk 0) tm) ob ng) K):GoL P ops draw i (⟨d,.indexAddr T x y,ty,pos,after,gd⟩::L) acc (mkS tm ob ng) K:=by
 refine ZcD (us:=[]) hw (.fn ?_) k
 obtain ⟨s,b,zz,te,h1,h2,h3,_,_,_,_⟩:=Zf9 (P:=P) (T:=T) (E:=E) (k:=kk) (by_:=by_) (z:=z)
 have hb':Zb5 (mkS tm ob ng).ob t g=some (.row E' kk sh els):=hb
 simp only [act,h1,ZaD,hx,hy,ZiC,h2,hb',if_pos (And.intro hn h3.symm)]
def loV (tm:List (Nat×PV)):Option Operand→Option Nat
 | none=>some 0
 | some l=>toNat? (evL tm l)
def hiV (tm:List (Nat×PV)) (n:Nat):Option Operand→Option Nat
 | none=>some n
 | some l=>toNat? (evL tm l)
theorem Zxf {E kk by_:Nat} {z:List PV} [Sl P T E kk by_ z] {lo hi:Option Operand} (hw:Zp ops (mkS tm ob ng) ⟨d,.slice T x lo hi none,ty,pos,after,gd⟩=some true) {els els':List (List PV)} {l h:Nat} {us:List (Nat×Option (Gen×VObj))} (hx:Zlc (ZO ob) (evL tm x)=some els)
  (hlo:loV tm lo=some l) (hhi:hiV tm els.length hi=some h) (h1:l≤h) (h2:h≤els.length) (h3:(els.all fun e=>e.length == kk)=true) (hus:Zva (ZO ob) (evL tm x)=us) (hr:(els.drop l).take (h - l)=els')
  (k:GoL P ops draw (i+1) L (acc ++ [(ZN (mkS tm ob ng) ⟨d,.slice T x lo hi none,ty,pos,after,gd⟩,us.map (·.1))]) (mkS (ZbZ d (.sl els') tm) (us.reverse++ob) ng) K):GoL P ops draw i (⟨d,.slice T x lo hi none,ty,pos,after,gd⟩::L) acc (mkS tm ob ng) K:=by
 refine ZcD hw (.fn ?_) k
 obtain ⟨s,b,zz,te,q1,q2,q3,_,_,_,_⟩:=Zf9 (P:=P) (T:=T) (E:=E) (k:=kk) (by_:=by_) (z:=z)
 have hx':Zlc (mkS tm ob ng).ob (evL tm x)=some els:=hx
 have hus':Zva (mkS tm ob ng).ob (evL tm x)=us:=hus
 have hc:l≤h∧h≤els.length∧(tyI P E).any (fun te=>els.all fun e=>e.length == te.size)=true:=⟨h1,h2,by rw [q2];simp only [Option.any_some,q3];exact h3⟩
 cases lo<;>cases hi<;>simp only [loV,hiV] at hlo hhi<;>simp only [act,q1,ZaD,hx']<;>(try rw [hlo])<;>(try rw [hhi])<;>(try (injection hlo with hlo;rw [hlo]))<;>(try (injection hhi with hhi;rw [hhi]))<;>first | (simp only [if_pos hc,hus',hr];done) | (simp only [hus',hr];rw [if_pos ⟨hc.1,Nat.le_refl _,hc.2.2⟩])
theorem ZyV {E kk by_:Nat} {z:List PV} [Sl P T E kk by_ z] (hw:Zp ops (mkS tm ob ng) ⟨d,.call ⟨.builtin .len,#[x],#[T]⟩,ty,pos,after,gd⟩=some true) {n:Nat} (hx:Zu9 (ZO ob) (evL tm x)=some n)
  (k:GoL P ops draw (i+1) L (acc ++ [(ZN (mkS tm ob ng) ⟨d,.call ⟨.builtin .len,#[x],#[T]⟩,ty,pos,after,gd⟩,[])]) (mkS (ZbZ d (.int .i64 (n:Int)) tm) ob ng) K):GoL P ops draw i (⟨d,.call ⟨.builtin .len,#[x],#[T]⟩,ty,pos,after,gd⟩::L) acc (mkS tm ob ng) K:=by
 refine ZcD (us:=[]) hw (.fn ?_) k
 obtain ⟨s,b,zz,te,q1,q2,q3,_,_,_,_⟩:=Zf9 (P:=P) (T:=T) (E:=E) (k:=kk) (by_:=by_) (z:=z)
 have hx':Zu9 (mkS tm ob ng).ob (evL tm x)=some n:=hx
 simp only [act,ZrY,q1,ZaD,hx']
theorem ZpP {dd:Nat} {E kk by_:Nat} {z:List PV} [Sl P T E kk by_ z] (hw:Zp ops (mkS tm ob ng) ⟨some dd,.call ⟨.builtin .append,#[x,y],#[T,T]⟩,ty,pos,after,gd⟩=some true) {new:List (List PV)} (hx:evL tm x = .nil) (hy:Zlc (ZO ob) (evL tm y)=some new) (hb:new.length * by_≤140737488355328) (hl:new.length≤9223372036854775807) (ha:(new.all fun e=>e.length == kk)=true)
  (k:GoL P ops draw (i+1) L (acc ++ [(ZN (mkS tm ob ng) ⟨some dd,.call ⟨.builtin .append,#[x,y],#[T,T]⟩,ty,pos,after,gd⟩,[dd])]) (mkS ((dd,.row dd (ng,i))::tm) ((dd,some ((ng,i),.row E kk false new))::ob) ng) K) :
  GoL P ops draw i (⟨some dd,.call ⟨.builtin .append,#[x,y],#[T,T]⟩,ty,pos,after,gd⟩::L) acc (mkS tm ob ng) K:=by
 refine ZcD (us:=[(dd,some ((ng,i),.row E kk false new))]) hw (.fn ?_) k
 obtain ⟨s,b,zz,te,q1,q2,q3,q4,q5,q6,q7⟩:=Zf9 (P:=P) (T:=T) (E:=E) (k:=kk) (by_:=by_) (z:=z)
 have hy':Zlc (mkS tm ob ng).ob (evL tm y)=some new:=hy
 have hc:new.length * te.bytes≤140737488355328∧new.length≤9223372036854775807∧0<te.size∧te.zero.length=te.size∧(new.all fun e=>e.length == te.size)=true:=by
  rw [q3,q4,q5]
  exact ⟨hb,hl,q6,q7,ha⟩
 simp only [act,ZhY,q1,ZaD,hx,hy',q2,if_pos hc,if_true]
 rw [q3]
 rfl
theorem ZeH {dd:Nat} {E kk by_:Nat} {z:List PV} [Sl P T E kk by_ z] (hw:Zp ops (mkS tm ob ng) ⟨some dd,.call ⟨.builtin .append,#[x,y],#[T,T]⟩,ty,pos,after,gd⟩=some true) {t:Nat} {g:Gen} {sh:Bool} {els new:List (List PV)} (hx:evL tm x = .row t g) (ho:Zb5 (ZO ob) t g=some (.row E kk sh els)) (hy:Zlc (ZO ob) (evL tm y)=some new)
  (hb:(els.length+new.length) * by_≤140737488355328) (hl:els.length+new.length≤9223372036854775807) (ha:(new.all fun e=>e.length == kk)=true)
  (k:GoL P ops draw (i+1) L (acc ++ [(ZN (mkS tm ob ng) ⟨some dd,.call ⟨.builtin .append,#[x,y],#[T,T]⟩,ty,pos,after,gd⟩,[t])]) (mkS ((dd,.row t (ng,i))::tm) ((t,some ((ng,i),.row E kk sh (els++new)))::ob) ng) K) :
  GoL P ops draw i (⟨some dd,.call ⟨.builtin .append,#[x,y],#[T,T]⟩,ty,pos,after,gd⟩::L) acc (mkS tm ob ng) K:=by
 refine ZcD (us:=[(t,some ((ng,i),.row E kk sh (els++new)))]) hw (.fn ?_) k
 obtain ⟨s,b,zz,te,q1,q2,q3,q4,q5,q6,q7⟩:=Zf9 (P:=P) (T:=T) (E:=E) (k:=kk) (by_:=by_) (z:=z)
 have hy':Zlc (mkS tm ob ng).ob (evL tm y)=some new:=hy
 have ho':Zb5 (mkS tm ob ng).ob t g=some (.row E kk sh els):=ho
 have hc:True∧kk=te.size∧(els.length+new.length) * te.bytes≤140737488355328∧els.length+new.length≤9223372036854775807∧0<te.size∧te.zero.length=te.size∧(new.all fun e=>e.length == te.size)=true:=by
  rw [q3,q4,q5]
  exact ⟨trivial,rfl,hb,hl,q6,q7,ha⟩
 simp only [act,ZhY,q1,ZaD,hx,hy',ho',q2,if_true]
 rw [if_pos ⟨trivial,hc.2⟩]
 rfl
theorem Zk9 {dd:Nat} {E kk by_:Nat} {z:List PV} [Sl P T E kk by_ z] {n:Nat} {parts:Array (Nat×Operand)} (hw:Zp ops (mkS tm ob ng) ⟨some dd,.buildSlice T n parts,ty,pos,after,gd⟩=some true) {cs qs:List PV} {els:List (List PV)} {us:List (Nat×Option (Gen×VObj))}
  (hf:Zgx (fun i=>some (i * kk,kk)) (List.replicate n z).flatten (evs tm parts.toList)=some cs) (hr:ZfZ (ZO ob) cs=some (qs,us)) (hl:qs.length=n * kk) (hm:n * kk≤16777216) (hc:chunks kk n qs=els)
  (k:GoL P ops draw (i+1) L (acc ++ [(ZN (mkS tm ob ng) ⟨some dd,.buildSlice T n parts,ty,pos,after,gd⟩,(us ++ [(dd,some ((ng,i),VObj.row E kk false els))]).map (·.1))]) (mkS ((dd,.row dd (ng,i))::tm) ((us ++ [(dd,some ((ng,i),VObj.row E kk false els))]).reverse++ob) ng) K) :
  GoL P ops draw i (⟨some dd,.buildSlice T n parts,ty,pos,after,gd⟩::L) acc (mkS tm ob ng) K:=by
 refine ZcD hw (.fn ?_) k
 obtain ⟨s,b,zz,te,q1,q2,q3,q4,q5,q6,q7⟩:=Zf9 (P:=P) (T:=T) (E:=E) (k:=kk) (by_:=by_) (z:=z)
 have hr':ZfZ (mkS tm ob ng).ob cs=some (qs,us):=hr
 have hcc:qs.length=n * kk∧n * kk≤16777216∧0<kk:=⟨hl,hm,q6⟩
 simp only [act,q1,ZaD,q2,ZrT,q3,q5,hf,hr',if_pos hcc,hc]
 rfl
theorem ZmD {pl:List (Option (Nat×Nat))} {z:List PV} [h:St P T pl z] {parts:Array (Nat×Operand)} (hw:Zp ops (mkS tm ob ng) ⟨d,.build T parts,ty,pos,after,gd⟩=some true) {cs:List PV} (hf:Zgx (fun i=>(pl[i]?).join) z (evs tm parts.toList)=some cs)
  (k:GoL P ops draw (i+1) L (acc ++ [(ZN (mkS tm ob ng) ⟨d,.build T parts,ty,pos,after,gd⟩,[])]) (mkS (ZbZ d (.agg cs) tm) ob ng) K):GoL P ops draw i (⟨d,.build T parts,ty,pos,after,gd⟩::L) acc (mkS tm ob ng) K:=by
 refine ZcD (us:=[]) hw (.fn ?_) k
 have:=h.eq
 unfold stI at this
 split at this
 ·rename_i fs s b zz ht
  split at this
  ·rename_i hall
   injection this with this
   injection this with e1 e2
   subst e1 e2
   have hpl:(fun i=>(((List.range fs.size).map (Zlb P fs))[i]?).join)=Zlb P fs:=by
    funext i
    rw [List.getElem?_map]
    by_cases hi:i<fs.size
    ·rw [List.getElem?_range hi];rfl
    ·rw [List.getElem?_eq_none (by simpa using hi)]
     unfold Zlb
     rw [Array.getElem?_eq_none (by omega)]
     rfl
   rw [hpl] at hf
   simp only [act,ht,ZaD,ZrT,if_pos hall,hf,Option.map_some]
  ·cases this
 ·cases this
theorem ZkG {kk:Nat} {z:List PV} [h:Az P T kk z] {parts:Array (Nat×Operand)} (hw:Zp ops (mkS tm ob ng) ⟨d,.build T parts,ty,pos,after,gd⟩=some true) {cs:List PV} (hf:Zgx (fun i=>some (i * kk,kk)) z (evs tm parts.toList)=some cs)
  (k:GoL P ops draw (i+1) L (acc ++ [(ZN (mkS tm ob ng) ⟨d,.build T parts,ty,pos,after,gd⟩,[])]) (mkS (ZbZ d (.agg cs) tm) ob ng) K):GoL P ops draw i (⟨d,.build T parts,ty,pos,after,gd⟩::L) acc (mkS tm ob ng) K:=by
 refine ZcD (us:=[]) hw (.fn ?_) k
 have h1:=h.eq
 have h2:=h.zero
 unfold arI at h1
 split at h1
 ·rename_i len' E' s b zz ht
  rw [ht] at h2
  simp only [Option.map_some,Option.some.injEq] at h2
  subst h2
  cases hte:tyI P E' with
  | none=>rw [hte] at h1;cases h1
  | some te=>
    rw [hte] at h1
    simp only [Option.map_some,Option.some.injEq] at h1
    simp only [act,ht,ZaD,ZrT,hte,h1,hf,Option.map_some]
 ·cases h1
theorem Zj6 {kx:Nat} (hw:Zp ops (mkS tm ob ng) ⟨d,.extract x kx,ty,pos,after,gd⟩=some true) {vs:List PV} {v:PV} (hx:evL tm x = .tup vs) (hv:vs[kx]? = some v)
  (k:GoL P ops draw (i+1) L (acc ++ [(ZN (mkS tm ob ng) ⟨d,.extract x kx,ty,pos,after,gd⟩,[])]) (mkS (ZbZ d v tm) ob ng) K):GoL P ops draw i (⟨d,.extract x kx,ty,pos,after,gd⟩::L) acc (mkS tm ob ng) K:=
 ZcD (us:=[]) hw (.fn (by simp only [act,ZaD,hx,hv,Option.map_some])) k
theorem ZfX {f:FuncId} {es:Array Operand} {ts:Array TypeId} {args:List PV} {us:List (Nat×Option (Gen×VObj))} {res:PV} (hc:Contract P f args none res []) (hw:Zp ops (mkS tm ob ng) ⟨d,.call ⟨.value (.func f),es,ts⟩,ty,pos,after,gd⟩=some true)
  (ha:Zf6 (ZO ob) (es.toList.map (evL tm))=some (args,us))
  (k:GoL P ops draw (i+1) L (acc ++ [(ZN (mkS tm ob ng) ⟨d,.call ⟨.value (.func f),es,ts⟩,ty,pos,after,gd⟩,us.map (·.1))]) (mkS (ZbZ d res tm) (us.reverse++ob) ng) K):GoL P ops draw i (⟨d,.call ⟨.value (.func f),es,ts⟩,ty,pos,after,gd⟩::L) acc (mkS tm ob ng) K:=by
 refine Zhp (.call hw rfl (by rw [ZaD];exact ha) hc) ?_
 rw [Zcg]
 exact k
theorem Zq5 {o:Oper} (hw:Zp ops (mkS tm ob ng) o=some true) {v:Value} {p:PV} (hp:∀ e ∈ o.op.operands,(plain (evL tm e)).isSome=true) (hs:∀ cs b,o.op≠.select cs b) (h:∀ w,(execOp (fun e=>(plain (evL tm e)).getD undef) o).run P w = .ok (.value v) w) (hv:ZeU v=p)
  (k:GoL P ops draw (i+1) L (acc ++ [(ZN (mkS tm ob ng) o,[])]) (mkS (ZbZ o.dst p tm) ob ng) K):GoL P ops draw i (o::L) acc (mkS tm ob ng) K:=by
 subst hv
 refine ZcD (us:=[]) hw (.plain (fun e he=>by rw [ZaD];exact hp e he) hs fun w=>?_) k
 have:cv (mkS tm ob ng)=fun e=>(plain (evL tm e)).getD undef:=by
  funext e
  unfold cv
  rw [ZaD]
 rw [this]
 exact h w
end
end VL
end Go.Proofs.YtjoneoobolnnbaaGreatDoor
namespace Go.Proofs.YtjoneoobolnnbaaGreatDoor
namespace VL
open Go.RowKit
theorem Zv {P:Program} [WInv P] {draw:Bool} {s:FS} {Q:Ex→FS→Prop} {cs:List Code} {id:Nat} {l:List Oper} (h:GoL P l.toArray draw 0 l [] s fun s'=>PWs P cs Q ⟨s'.tm,s'.ob,s'.ng+1⟩):PWs P (.region id l.toArray draw::cs) Q s:=
 Zsu h
theorem ZaC {P:Program} [WInv P] {Q:Ex→FS→Prop} {cs:List Code} {tm:List (Nat×PV)} {ob:List (Nat×Option (Gen×VObj))} {ng:Nat} {c:Operand} {x y:Code} {t:Bool} (hc:evL tm c = .bool t) (ht:t=true) (h:PWs P (x::cs) Q (mkS tm ob ng)):PWs P (.cond c x y::cs) Q (mkS tm ob ng):=
 ZvA (by rw [ZaD,hc,ht]) h
theorem Zal {P:Program} [WInv P] {Q:Ex→FS→Prop} {cs:List Code} {tm:List (Nat×PV)} {ob:List (Nat×Option (Gen×VObj))} {ng:Nat} {c:Operand} {x y:Code} {t:Bool} (hc:evL tm c = .bool t) (ht:t=false) (h:PWs P (y::cs) Q (mkS tm ob ng)):PWs P (.cond c x y::cs) Q (mkS tm ob ng):=
 ZtP (by rw [ZaD,hc,ht]) h
theorem Zbv {P:Program} [WInv P] {Q:Ex→FS→Prop} {cs:List Code} {tm:List (Nat×PV)} {ob:List (Nat×Option (Gen×VObj))} {ng:Nat} {c:Operand} {x y:Code} {t:Bool} (hc:evL tm c = .bool t) (h1:t=true→PWs P (x::cs) Q (mkS tm ob ng)) (h2:t=false→PWs P (y::cs) Q (mkS tm ob ng)):PWs P (.cond c x y::cs) Q (mkS tm ob ng):=
 ZtQ (by rw [ZaD,hc]) h1 h2
section
variable {P:Program} [WInv P] {ops:Array Oper} {draw:Bool} {i:Nat} {L:List Oper} {acc:List (List Nat×List Nat)} {K:FS→Prop} {tm:List (Nat×PV)} {ob:List (Nat×Option (Gen×VObj))} {ng:Nat}
 {d:Option Tmp} {ty T T':TypeId} {pos:String} {after:Array Edge} {gd:Option (Nat×Bool)} {x y:Operand}
theorem Zdd {op:Op} (hop:op.operands = #[x,y]) (hs:∀ cs b,op≠.select cs b) (hw:Zp ops (mkS tm ob ng) ⟨d,op,ty,pos,after,gd⟩=some true) {p q:PV} {v w:Value} {r:Value} {pv:PV} (hx:evL tm x=p) (hy:evL tm y=q) (hp:plain p=some v) (hq:plain q=some w)
  (h:∀ (ρ:Operand→Value) (W:World),ρ x=v→ρ y=w→(execOp ρ ⟨d,op,ty,pos,after,gd⟩).run P W = .ok (.value r) W) (hv:ZeU r=pv)
  (k:GoL P ops draw (i+1) L (acc ++ [(ZN (mkS tm ob ng) ⟨d,op,ty,pos,after,gd⟩,[])]) (mkS (ZbZ d pv tm) ob ng) K):GoL P ops draw i (⟨d,op,ty,pos,after,gd⟩::L) acc (mkS tm ob ng) K:=by
 refine Zq5 hw (fun e he=>?_) hs (fun W=>h _ W (by rw [hx,hp];rfl) (by rw [hy,hq];rfl)) hv k
 rw [hop] at he
 simp at he
 rcases he with rfl | rfl
 ·rw [hx,hp];rfl
 ·rw [hy,hq];rfl
theorem Zog {op:Op} (hop:op.operands = #[x]) (hs:∀ cs b,op≠.select cs b) (hw:Zp ops (mkS tm ob ng) ⟨d,op,ty,pos,after,gd⟩=some true) {p:PV} {v:Value} {r:Value} {pv:PV} (hx:evL tm x=p) (hp:plain p=some v)
  (h:∀ (ρ:Operand→Value) (W:World),ρ x=v→(execOp ρ ⟨d,op,ty,pos,after,gd⟩).run P W = .ok (.value r) W) (hv:ZeU r=pv)
  (k:GoL P ops draw (i+1) L (acc ++ [(ZN (mkS tm ob ng) ⟨d,op,ty,pos,after,gd⟩,[])]) (mkS (ZbZ d pv tm) ob ng) K):GoL P ops draw i (⟨d,op,ty,pos,after,gd⟩::L) acc (mkS tm ob ng) K:=by
 refine Zq5 hw (fun e he=>?_) hs (fun W=>h _ W (by rw [hx,hp];rfl)) hv k
 rw [hop] at he
 simp at he
 subst he
 rw [hx,hp];rfl
def ZtA (op:BinOp) (k:IntKind) (a b:Int):Option Value:=match op with
 | .add=>some (.int k (k.wrap (a+b)))
 | .sub=>some (.int k (k.wrap (a - b)))
 | .mul=>some (.int k (k.wrap (a * b)))
 | .eql=>some (.bool (decide (a=b)))
 | .neq=>some (.bool (!decide (a=b)))
 | .lss=>some (.bool (decide (a<b)))
 | .leq=>some (.bool (decide (a≤b)))
 | .gtr=>some (.bool (decide (b<a)))
 | .geq=>some (.bool (decide (b≤a)))
 | _=>none
omit [WInv P] in
theorem Zsl {op:BinOp} {k:IntKind} {a b:Int} {r:Value} (h:ZtA op k a b=some r) (T:TypeId) (ρ:Operand→Value) (W:World) (hx:ρ x = .int k a) (hy:ρ y = .int k b):(execOp ρ ⟨d,.binOp op T x y T',ty,pos,after,gd⟩).run P W = .ok (.value r) W:=by
 unfold ZtA at h
 cases op<;>first
  | (cases h;done)
  | (injection h with h
     subst h
     simp only [execOp,hx,hy,eqGuard,binOp,Op.intArith,Op.intCmp]
     simp
     try rfl)
theorem Zsm {op:BinOp} (hw:Zp ops (mkS tm ob ng) ⟨d,.binOp op T x y T',ty,pos,after,gd⟩=some true) {k:IntKind} {a b:Int} {r:Value} {pv:PV} (hx:evL tm x = .int k a) (hy:evL tm y = .int k b) (hv:ZtA op k a b=some r) (hp:ZeU r=pv)
  (kk:GoL P ops draw (i+1) L (acc ++ [(ZN (mkS tm ob ng) ⟨d,.binOp op T x y T',ty,pos,after,gd⟩,[])]) (mkS (ZbZ d pv tm) ob ng) K):GoL P ops draw i (⟨d,.binOp op T x y T',ty,pos,after,gd⟩::L) acc (mkS tm ob ng) K:=
 Zdd rfl (fun _ _ h=>by cases h) hw hx hy (v:=.int k a) (w:=.int k b) rfl rfl (fun ρ W h1 h2=>Zsl hv T ρ W h1 h2) hp kk
theorem Zam (hw:Zp ops (mkS tm ob ng) ⟨d,.binOp .add T x y T',ty,pos,after,gd⟩=some true) {a b:Int} (hx:evL tm x = .int .i64 a) (hy:evL tm y = .int .i64 b) (h1 : -9223372036854775808≤a+b) (h2:a+b≤9223372036854775807)
  (kk:GoL P ops draw (i+1) L (acc ++ [(ZN (mkS tm ob ng) ⟨d,.binOp .add T x y T',ty,pos,after,gd⟩,[])]) (mkS (ZbZ d (.int .i64 (a+b)) tm) ob ng) K):GoL P ops draw i (⟨d,.binOp .add T x y T',ty,pos,after,gd⟩::L) acc (mkS tm ob ng) K:=by
 refine Zsm hw hx hy rfl ?_ kk
 show PV.int .i64 (IntKind.i64.wrap (a+b))=_
 rw [IntKind.wrap_i64]
 congr 1
 omega
theorem Zan (hw:Zp ops (mkS tm ob ng) ⟨d,.binOp .sub T x y T',ty,pos,after,gd⟩=some true) {a b:Int} (hx:evL tm x = .int .i64 a) (hy:evL tm y = .int .i64 b) (h1 : -9223372036854775808≤a - b) (h2:a - b≤9223372036854775807)
  (kk:GoL P ops draw (i+1) L (acc ++ [(ZN (mkS tm ob ng) ⟨d,.binOp .sub T x y T',ty,pos,after,gd⟩,[])]) (mkS (ZbZ d (.int .i64 (a - b)) tm) ob ng) K):GoL P ops draw i (⟨d,.binOp .sub T x y T',ty,pos,after,gd⟩::L) acc (mkS tm ob ng) K:=by
 refine Zsm hw hx hy rfl ?_ kk
 show PV.int .i64 (IntKind.i64.wrap (a - b))=_
 rw [IntKind.wrap_i64]
 congr 1
 omega
theorem Zyz (hw:Zp ops (mkS tm ob ng) ⟨d,.binOp .add T x y T',ty,pos,after,gd⟩=some true) {a b c:Nat} (hx:evL tm x = .int .i64 (a:Int)) (hy:evL tm y = .int .i64 (b:Int)) (hc:a+b=c) (h2:c≤9223372036854775807)
  (kk:GoL P ops draw (i+1) L (acc ++ [(ZN (mkS tm ob ng) ⟨d,.binOp .add T x y T',ty,pos,after,gd⟩,[])]) (mkS (ZbZ d (.int .i64 (c:Int)) tm) ob ng) K):GoL P ops draw i (⟨d,.binOp .add T x y T',ty,pos,after,gd⟩::L) acc (mkS tm ob ng) K:=by
 refine Zam hw hx hy (by omega) (by omega) ?_
 have:(a:Int)+(b:Int)=((c:Nat):Int):=by omega
 rw [this]
 exact kk
def ZtB (op:BinOp) (a b:ByteArray):Option Value:=match op with
 | .eql=>some (.bool (decide (a=b)))
 | .neq=>some (.bool (!decide (a=b)))
 | .lss=>some (.bool (Op.bytesLess a.toList b.toList))
 | .leq=>some (.bool (Op.bytesLess a.toList b.toList||decide (a=b)))
 | .gtr=>some (.bool (!(Op.bytesLess a.toList b.toList||decide (a=b))))
 | .geq=>some (.bool (!Op.bytesLess a.toList b.toList))
 | _=>none
omit [WInv P] in
theorem Zsn {op:BinOp} {a b:ByteArray} {r:Value} (h:ZtB op a b=some r) (T:TypeId) (ρ:Operand→Value) (W:World) (hx:ρ x = .string a) (hy:ρ y = .string b):(execOp ρ ⟨d,.binOp op T x y T',ty,pos,after,gd⟩).run P W = .ok (.value r) W:=by
 have e:=ZuW a b
 unfold ZtB at h
 cases op<;>first
  | (cases h;done)
  | (injection h with h
     subst h
     simp only [execOp,hx,hy,eqGuard,binOp,Op.stringOp,e]
     simp)
theorem Zvm {op:BinOp} (hw:Zp ops (mkS tm ob ng) ⟨d,.binOp op T x y T',ty,pos,after,gd⟩=some true) {a b:ByteArray} {r:Value} {pv:PV} (hx:evL tm x = .str a) (hy:evL tm y = .str b) (hv:ZtB op a b=some r) (hp:ZeU r=pv)
  (kk:GoL P ops draw (i+1) L (acc ++ [(ZN (mkS tm ob ng) ⟨d,.binOp op T x y T',ty,pos,after,gd⟩,[])]) (mkS (ZbZ d pv tm) ob ng) K):GoL P ops draw i (⟨d,.binOp op T x y T',ty,pos,after,gd⟩::L) acc (mkS tm ob ng) K:=
 Zdd rfl (fun _ _ h=>by cases h) hw hx hy (v:=.string a) (w:=.string b) rfl rfl (fun ρ W h1 h2=>Zsn hv T ρ W h1 h2) hp kk
theorem Zzw (hw:Zp ops (mkS tm ob ng) ⟨d,.binOp .add T x y T',ty,pos,after,gd⟩=some true) {a b:ByteArray} (hx:evL tm x = .str a) (hy:evL tm y = .str b) (hl:a.size+b.size≤9223372036854775807)
  (kk:GoL P ops draw (i+1) L (acc ++ [(ZN (mkS tm ob ng) ⟨d,.binOp .add T x y T',ty,pos,after,gd⟩,[])]) (mkS (ZbZ d (.str (a++b)) tm) ob ng) K):GoL P ops draw i (⟨d,.binOp .add T x y T',ty,pos,after,gd⟩::L) acc (mkS tm ob ng) K:=by
 refine Zdd rfl (fun _ _ h=>by cases h) hw hx hy (v:=.string a) (w:=.string b) (r:=.string (a++b)) rfl rfl (fun ρ W h1 h2=>?_) rfl kk
 have:¬ (((a.size+b.size:Nat):Int) > IntKind.i64.max):=by
  have:IntKind.i64.max=9223372036854775807:=rfl
  omega
 simp only [execOp,h1,h2,eqGuard,binOp,Op.stringOp,if_neg this]
 simp
theorem Zvn (hw:Zp ops (mkS tm ob ng) ⟨d,.unOp .not T x,ty,pos,after,gd⟩=some true) {b:Bool} (hx:evL tm x = .bool b)
  (kk:GoL P ops draw (i+1) L (acc ++ [(ZN (mkS tm ob ng) ⟨d,.unOp .not T x,ty,pos,after,gd⟩,[])]) (mkS (ZbZ d (.bool (!b)) tm) ob ng) K):GoL P ops draw i (⟨d,.unOp .not T x,ty,pos,after,gd⟩::L) acc (mkS tm ob ng) K:=by
 refine Zog rfl (fun _ _ h=>by cases h) hw hx (v:=.bool b) (r:=.bool (!b)) rfl (fun ρ W h1=>?_) rfl kk
 simp [execOp,h1,Op.unary]
class EqT (P:Program) (T:TypeId):Prop where
 guard:P.eqGuardType P.depth T=false
theorem Ze3 [h:EqT P T] {op:BinOp} (hop:op = .eql∨op = .neq) (hw:Zp ops (mkS tm ob ng) ⟨d,.binOp op T x y T',ty,pos,after,gd⟩=some true) {cx cy:List PV} {vx vy:List Value} {b:Bool} (hx:evL tm x = .agg cx) (hy:evL tm y = .agg cy) (hpx:ZbL cx=some vx) (hpy:ZbL cy=some vy)
  (hr:∀ W,(binOp op T (.agg vx.toArray) (.agg vy.toArray)).run P W = .ok (.bool b) W)
  (kk:GoL P ops draw (i+1) L (acc ++ [(ZN (mkS tm ob ng) ⟨d,.binOp op T x y T',ty,pos,after,gd⟩,[])]) (mkS (ZbZ d (.bool b) tm) ob ng) K):GoL P ops draw i (⟨d,.binOp op T x y T',ty,pos,after,gd⟩::L) acc (mkS tm ob ng) K:=by
 refine Zdd rfl (fun _ _ h=>by cases h) hw hx hy (v:=.agg vx.toArray) (w:=.agg vy.toArray) (r:=.bool b) (by simp [plain,hpx]) (by simp [plain,hpy]) (fun ρ W h1 h2=>?_) rfl kk
 have hg:(eqGuard op T x y (.agg vx.toArray) (.agg vy.toArray)).run P W = .ok () W:=by
  unfold eqGuard
  rcases hop with rfl | rfl<;>simp [h.guard]
 simp only [execOp,h1,h2,Sem.run_bind,hg,Result.andThen_ok,hr]
 simp
theorem ZM (hT:P.underlying T=some .string) (hw:Zp ops (mkS tm ob ng) ⟨d,.call ⟨.builtin .len,#[x],#[T]⟩,ty,pos,after,gd⟩=some true) {a:ByteArray} (hx:evL tm x = .str a)
  (k:GoL P ops draw (i+1) L (acc ++ [(ZN (mkS tm ob ng) ⟨d,.call ⟨.builtin .len,#[x],#[T]⟩,ty,pos,after,gd⟩,[])]) (mkS (ZbZ d (.int .i64 (a.size:Int)) tm) ob ng) K):GoL P ops draw i (⟨d,.call ⟨.builtin .len,#[x],#[T]⟩,ty,pos,after,gd⟩::L) acc (mkS tm ob ng) K:=by
 refine Zog (x:=x) rfl (fun _ _ h=>by cases h) hw hx (v:=.string a) (r:=.int .i64 (a.size:Int)) rfl (fun ρ W h1=>?_) rfl k
 simp [execOp,resolve,invoke,builtin,Builtin.len_,run_underlying hT,goInt]
 rw [h1]
 simp
theorem Zoh (hT:P.underlying T=some .string) (hw:Zp ops (mkS tm ob ng) ⟨d,.index T x y,ty,pos,after,gd⟩=some true) {a:ByteArray} {kd:IntKind} {n:Nat} {c:UInt8} (hx:evL tm x = .str a) (hy:evL tm y = .int kd (n:Int)) (hn:a[n]? = some c)
  (k:GoL P ops draw (i+1) L (acc ++ [(ZN (mkS tm ob ng) ⟨d,.index T x y,ty,pos,after,gd⟩,[])]) (mkS (ZbZ d (.int .u8 (c.toNat:Int)) tm) ob ng) K):GoL P ops draw i (⟨d,.index T x y,ty,pos,after,gd⟩::L) acc (mkS tm ob ng) K:=by
 refine Zdd rfl (fun _ _ h=>by cases h) hw hx hy (v:=.string a) (w:=.int kd n) (r:=.int .u8 (c.toNat:Int)) rfl rfl (fun ρ W h1 h2=>?_) rfl k
 simp [execOp,Instr.index,asIntOf,h1,h2,run_underlying hT,hn]
theorem Zoi (hT:P.underlying T=some .string) {lo hi:Option Operand} (hw:Zp ops (mkS tm ob ng) ⟨d,.slice T x lo hi none,ty,pos,after,gd⟩=some true) {a b:ByteArray} {l h:Nat} (hx:evL tm x = .str a) (hlo:loV tm lo=some l) (hhi:hiV tm a.size hi=some h) (h1:l≤h) (h2:h≤a.size) (hb:a.extract l h=b)
  (k:GoL P ops draw (i+1) L (acc ++ [(ZN (mkS tm ob ng) ⟨d,.slice T x lo hi none,ty,pos,after,gd⟩,[])]) (mkS (ZbZ d (.str b) tm) ob ng) K):GoL P ops draw i (⟨d,.slice T x lo hi none,ty,pos,after,gd⟩::L) acc (mkS tm ob ng) K:=by
 subst hb
 have hn:∀ {e:Operand} {m:Nat},toNat? (evL tm e)=some m→∃ kd,evL tm e = .int kd (m:Int):=fun {e m} h=>by
  unfold toNat? at h
  split at h
  ·rename_i kd q hq
   split at h
   ·injection h with h
    exact ⟨kd,by rw [hq];congr 1;omega⟩
   ·cases h
  ·cases h
 refine Zq5 (v:=.string (a.extract l h)) hw (fun e he=>?_) (fun _ _ h=>by cases h) (fun W=>?_) rfl k
 ·simp only [Op.operands] at he
  simp at he
  rcases he with rfl | he | he
  ·rw [hx];rfl
  ·subst he
   obtain ⟨kd,h3⟩:=hn hlo
   rw [h3];rfl
  ·subst he
   obtain ⟨kd,h3⟩:=hn hhi
   rw [h3];rfl
 ·cases lo with
  | none=>
    simp only [loV,Option.some.injEq] at hlo
    subst hlo
    cases hi with
    | none=>
      simp only [hiV,Option.some.injEq] at hhi
      subst hhi
      simp [execOp,Instr.sliceAt,Instr.slice,hx,plain,Zka,run_underlying hT,Instr.sliceBounds]
    | some e=>
      obtain ⟨kd,h3⟩:=hn hhi
      simp [execOp,Instr.sliceAt,Instr.slice,hx,h3,plain,Zka,run_underlying hT,Instr.sliceBounds,Instr.sliceBound,asIntOf,h2]
  | some e'=>
    obtain ⟨kd',h3'⟩:=hn hlo
    cases hi with
    | none=>
      simp only [hiV,Option.some.injEq] at hhi
      subst hhi
      simp [execOp,Instr.sliceAt,Instr.slice,hx,h3',plain,Zka,run_underlying hT,Instr.sliceBounds,Instr.sliceBound,asIntOf,h1]
    | some e=>
      obtain ⟨kd,h3⟩:=hn hhi
      simp [execOp,Instr.sliceAt,Instr.slice,hx,h3,h3',plain,Zka,run_underlying hT,Instr.sliceBounds,Instr.sliceBound,asIntOf,h1,h2]
end
end VL
end Go.Proofs.YtjoneoobolnnbaaGreatDoor
namespace Go.Proofs.YtjoneoobolnnbaaGreatDoor
namespace VL
open Go.RowKit
theorem Zco {P:Program} [WInv P] {Q:Ex→FS→Prop} {cs:List Code} {s s1:FS} (h:Shift s s1) (k:PWs P cs Q s1) (hne:cs≠[]):PWs P cs Q s:=by
 cases cs with
 | nil=>exact absurd rfl hne
 | cons c cs=>
   obtain ⟨e,s',h1,h2⟩:=k
   exact ⟨e,s',.shift h h1,h2⟩
theorem Ztq {s:FS} {t u:Nat} {E k:Nat} (h:s.tm t = .nil):Shift s ⟨fun x=>if x=t then .row u (s.ng,0) else s.tm x,Zdk s.ob u (some ((s.ng,0),.row E k false [])),s.ng+1⟩:=fun r a x hX=>by
 have hnew:¬ x.G (s.ng,0):=fun hg=>by
  rcases hX.gens _ hg with e | ⟨_,e⟩
  ·exact absurd e (Nat.lt_irrefl _)
  ·exact e.elim
 let y:Ctx:=⟨fun g=>x.G g∨g=(s.ng,0),x.F,x.W,fun g=>if g=(s.ng,0) then .slice none 0 0 else x.ρ g⟩
 have st:Step x y:=⟨fun g hg=>⟨.inl hg,if_neg (fun (e:g=(s.ng,0))=>hnew (by rw [← e];exact hg))⟩,fun _ _ h=>h,fun _ _ _ _ h=>h⟩
 have hρ:y.ρ (s.ng,0) = .slice none 0 0:=if_pos rfl
 refine ⟨y,rfl,hX.defers,hX.size,hX.gr,fun g hg=>.inl ?_,fun t'=>?_,fun t' g o ho=>?_,fun t1 t2 g1 g2 o1 o2 b hne h1 h2 hb=>?_,hX.flt,hX.f0,hX.fnew,fun g hg=>⟨(st.G g (hX.rho g hg).1).1,(st.G g (hX.rho g hg).1).2.trans (hX.rho g hg).2⟩,hX.inv,hX.keep⟩
 ·rcases hg with hg | rfl
  ·rcases hX.gens g hg with e | ⟨_,e⟩
   ·show g.1<s.ng+1;omega
   ·exact e.elim
  ·exact Nat.lt_succ_self _
 ·show Rep y (if t'=t then .row u (s.ng,0) else s.tm t') _
  split
  ·rename_i e
   subst e
   have hr:=hX.tm t'
   rw [h] at hr
   generalize a.tmps.getD t' undef=v at hr
   cases hr
   exact .row u (s.ng,0) none 0 0 (.inr rfl) hρ
  ·exact (hX.tm t').step st
 ·change (if t'=u then some ((s.ng,0),VObj.row E k false []) else s.ob t')=some (g,o) at ho
  split at ho
  ·injection ho with ho
   injection ho with e1 e2
   subst e1 e2
   exact ⟨.inr rfl,by simp,by simp,[],by rw [hρ];exact World.ownsRow_nil _ _ _ _,fun m p v hp=>by simp at hp,fun b hb=>by rw [hρ] at hb;simp [blk] at hb⟩
  ·obtain ⟨h3,h4⟩:=hX.ob t' g o ho
   exact ⟨.inl h3,h4.step h3 st fun b _=>⟨rfl,fun _ h=>h⟩⟩
 ·change (if t1=u then some ((s.ng,0),VObj.row E k false []) else s.ob t1)=some (g1,o1) at h1
  change (if t2=u then some ((s.ng,0),VObj.row E k false []) else s.ob t2)=some (g2,o2) at h2
  split at h1
  ·injection h1 with h1
   injection h1 with e1 e2
   subst e1
   rw [hρ] at hb
   simp [blk] at hb
  ·split at h2
   ·injection h2 with h2
    injection h2 with e1 e2
    subst e1
    rw [hρ]
    simp [blk]
   ·rw [(st.G g1 (hX.ob t1 g1 o1 h1).1).2] at hb
    rw [(st.G g2 (hX.ob t2 g2 o2 h2).1).2]
    exact hX.apart t1 t2 g1 g2 o1 o2 b hne h1 h2 hb
section
variable {P:Program} [WInv P] {ops:Array Oper} {draw:Bool} {i:Nat} {L:List Oper} {acc:List (List Nat×List Nat)} {K:FS→Prop} {tm:List (Nat×PV)} {ob:List (Nat×Option (Gen×VObj))} {ng:Nat}
 {d:Option Tmp} {ty T T':TypeId} {pos:String} {after:Array Edge} {gd:Option (Nat×Bool)} {x y:Operand}
theorem Zn8 {cs:List Code} {Q:Ex→FS→Prop} (h:PWs P cs Q (mkS tm ob (ng+1))):GoL P ops false i [] acc (mkS tm ob ng) (fun s'=>PWs P cs Q ⟨s'.tm,s'.ob,s'.ng+1⟩):=Zwq (fun h=>by cases h) h
theorem Zn9 {cs:List Code} {Q:Ex→FS→Prop} (hd:ZnV ops (fun j=>acc[j]?)=true) (h:PWs P cs Q (mkS tm ob (ng+1))):GoL P ops true i [] acc (mkS tm ob ng) (fun s'=>PWs P cs Q ⟨s'.tm,s'.ob,s'.ng+1⟩):=Zwq (fun _=>hd) h
theorem Zaq (hw:Zp ops (mkS tm ob ng) ⟨d,.binOp .add T x (.const (.int .i64 1)) T',ty,pos,after,gd⟩=some true) {a:Nat} (hx:evL tm x = .int .i64 (a:Int)) (h2:a+1≤9223372036854775807)
  (kk:GoL P ops draw (i+1) L (acc ++ [(ZN (mkS tm ob ng) ⟨d,.binOp .add T x (.const (.int .i64 1)) T',ty,pos,after,gd⟩,[])]) (mkS (ZbZ d (.int .i64 ((a+1:Nat):Int)) tm) ob ng) K):GoL P ops draw i (⟨d,.binOp .add T x (.const (.int .i64 1)) T',ty,pos,after,gd⟩::L) acc (mkS tm ob ng) K:=
 Zyz (b:=1) hw hx rfl rfl h2 kk
end
end VL
end Go.Proofs.YtjoneoobolnnbaaGreatDoor
namespace Go.Proofs.YtjoneoobolnnbaaGreatDoor
namespace VL
open Go.RowKit
section
variable {P:Program} [WInv P] {ops:Array Oper} {draw:Bool} {i:Nat} {L:List Oper} {acc:List (List Nat×List Nat)} {K:FS→Prop} {tm:List (Nat×PV)} {ob:List (Nat×Option (Gen×VObj))} {ng:Nat}
 {d:Option Tmp} {ty:TypeId} {pos:String} {after:Array Edge} {gd:Option (Nat×Bool)} {s:FS}
theorem Zts {f:FuncId} {es:Array Operand} {ts:Array TypeId} {pre post pre' post':List PV} {t:Nat} {g:Gen} {cs qs obj':List PV} {us1 us2 us3:List (Nat×Option (Gen×VObj))} {res:PV}
  (hc:Contract P f (pre' ++ .ptr pre.length (0,pre.length) 0::post') (some (pre.length,qs)) res obj') (hw:Zp ops (mkS tm ob ng) ⟨d,.call ⟨.value (.func f),es,ts⟩,ty,pos,after,gd⟩=some true)
  (he:es.toList.map (evL tm)=pre ++ .ptr t g 0::post) (hob:Zb5 (ZO ob) t g=some (.box cs)) (h1:Zf6 (ZO ob) pre=some (pre',us1)) (h2:ZfZ (ZO ob) cs=some (qs,us2)) (h3:Zf6 (ZO ob) post=some (post',us3))
  (k:GoL P ops draw (i+1) L (acc ++ [(ZN (mkS tm ob ng) ⟨d,.call ⟨.value (.func f),es,ts⟩,ty,pos,after,gd⟩,(us1++(us2++us3) ++ [(t,some (g,VObj.box obj'))]).map (·.1))])
   (mkS (ZbZ d res tm) ((us1++(us2++us3) ++ [(t,some (g,VObj.box obj'))]).reverse++ob) ng) K):GoL P ops draw i (⟨d,.call ⟨.value (.func f),es,ts⟩,ty,pos,after,gd⟩::L) acc (mkS tm ob ng) K:=by
 refine Zhp (.callO hw rfl (by rw [ZaD];exact he) hob h1 h2 h3 rfl hc) ?_
 rw [Zcg]
 exact k
theorem ZeS {f:FuncId} {es:Array Operand} {ts:Array TypeId} {post post':List PV} {t:Nat} {g:Gen} {cs qs obj':List PV} {us2 us3:List (Nat×Option (Gen×VObj))} {res:PV}
  (hc:Contract P f (.ptr 0 (0,0) 0::post') (some (0,qs)) res obj') (hw:Zp ops (mkS tm ob ng) ⟨d,.call ⟨.value (.func f),es,ts⟩,ty,pos,after,gd⟩=some true)
  (he:es.toList.map (evL tm) = .ptr t g 0::post) (hob:Zb5 (ZO ob) t g=some (.box cs)) (h2:ZfZ (ZO ob) cs=some (qs,us2)) (h3:Zf6 (ZO ob) post=some (post',us3))
  (k:GoL P ops draw (i+1) L (acc ++ [(ZN (mkS tm ob ng) ⟨d,.call ⟨.value (.func f),es,ts⟩,ty,pos,after,gd⟩,(us2++us3 ++ [(t,some (g,VObj.box obj'))]).map (·.1))])
   (mkS (ZbZ d res tm) ((us2++us3 ++ [(t,some (g,VObj.box obj'))]).reverse++ob) ng) K):GoL P ops draw i (⟨d,.call ⟨.value (.func f),es,ts⟩,ty,pos,after,gd⟩::L) acc (mkS tm ob ng) K:=
 Zts (pre:=[]) (pre':=[]) (us1:=[]) hc hw he hob rfl h2 h3 k
def Zzv (P:Program) (rs:List ResultVar) (res:PV) (j:Nat) (obj':List PV) (e:Ex) (s:FS):Prop:=
 Zx9 P rs res e s∧∃ obj2 us2,s.ob j=some ((0,j),.box obj2)∧ZfZ s.ob obj2=some (obj',us2)
omit [WInv P] in
theorem Zhi {rs:List ResultVar} {res:PV} {j:Nat} {obj' obj2 ps qs:List PV} {us us2:List (Nat×Option (Gen×VObj))} (h1:Zgt P s rs=some ps) (h2:Zf6 s.ob ps=some (qs,us)) (h3:Zf8 qs=res)
  (h4:s.ob j=some ((0,j),.box obj2)) (h5:ZfZ s.ob obj2=some (obj',us2)):Zzv P rs res j obj' .ret s:=⟨Zc5 h1 h2 h3,_,_,h4,h5⟩
theorem Zob (hmix:P.follows .mixedOrders=true) {f:FuncId} {fn:Func} {c:Code} {args:List PV} {j:Nat} {os obj':List PV} {res:PV} (hf:P.funcs[f]? = some fn) (hg:isGo P f=true) (hb:fn.body=some c) (hok:(decide (args.length≤fn.ntmps)&&Zbq fn.ntmps c)=true)
  (h:PWs P [c] (Zzv P fn.results.toList res j obj') (mkS (ZfI 0 args) [(j,some ((0,j),.box os))] 1)):Contract P f args (some (j,os)) res obj':=by
 simp only [Bool.and_eq_true,decide_eq_true_eq] at hok
 obtain ⟨e,s',h1,h2⟩:=ZdM h
 have hsh:Shift (Zoy args (some (j,os))) (mkS (ZfI 0 args) [(j,some ((0,j),.box os))] 1):=Zgq (fun t=>by
  rcases Zfg args 0 t with h | ⟨_,h⟩
  ·exact .inl h
  ·exact .inr h) (fun t=>by
   by_cases e:t=j
   ·right
    show (if t=j then _ else _)=(if t=j then _ else _)
    rw [if_pos e,if_pos e]
   ·left
    show (if t=j then _ else _)=_
    rw [if_neg e];rfl) (Nat.le_refl _)
 obtain ⟨h2,obj2,us2,ho1,ho2⟩:=h2
 have hobj:∀ j' os',some (j,os)=some (j',os')→s'.ob j'=some ((0,j'),.box obj2)∧ZfZ s'.ob obj2=some (obj',us2):=fun j' os' h=>by
  injection h with h
  injection h with e1 e2
  subst e1
  exact ⟨ho1,ho2⟩
 cases e with
 | exit id=>exact h2.elim
 | normal=>
   obtain ⟨ps,qs,us,h3,h4,h5⟩:=h2
   subst h5
   exact ZgY hmix hg hf hb hok.1 hok.2 (.shift hsh h1) (.inl rfl) h3 h4 hobj (fun h=>by cases h)
 | ret=>
   obtain ⟨ps,qs,us,h3,h4,h5⟩:=h2
   subst h5
   exact ZgY hmix hg hf hb hok.1 hok.2 (.shift hsh h1) (.inr rfl) h3 h4 hobj (fun h=>by cases h)
end
end VL
end Go.Proofs.YtjoneoobolnnbaaGreatDoor
namespace Go.Proofs.YtjoneoobolnnbaaGreatDoor
namespace VL
open Go.RowKit
section
variable {P:Program} [WInv P] {ops:Array Oper} {draw:Bool} {i:Nat} {L:List Oper} {acc:List (List Nat×List Nat)} {K:FS→Prop} {tm:List (Nat×PV)} {ob:List (Nat×Option (Gen×VObj))} {ng:Nat}
 {d:Option Tmp} {ty T T':TypeId} {pos:String} {after:Array Edge} {gd:Option (Nat×Bool)} {x y:Operand}
theorem Zvy (hw:Zp ops (mkS tm ob ng) ⟨d,.nilCheck x,ty,pos,after,gd⟩=some true) {t:Nat} {g:Gen} {o:Nat} (hv:evL tm x = .ptr t g o)
  (k:GoL P ops draw (i+1) L (acc ++ [(ZN (mkS tm ob ng) ⟨d,.nilCheck x,ty,pos,after,gd⟩,[])]) (mkS (ZbZ d (.ptr t g o) tm) ob ng) K):GoL P ops draw i (⟨d,.nilCheck x,ty,pos,after,gd⟩::L) acc (mkS tm ob ng) K:=
 ZcD (us:=[]) hw (.fn (by simp only [act,ZaD,hv])) k
theorem Zzy (hw:Zp ops (mkS tm ob ng) ⟨d,.binOp .rem T x y T',ty,pos,after,gd⟩=some true) {k:IntKind} {a b:Int} (hx:evL tm x = .int k a) (hy:evL tm y = .int k b) (h0:b≠0)
  (kk:GoL P ops draw (i+1) L (acc ++ [(ZN (mkS tm ob ng) ⟨d,.binOp .rem T x y T',ty,pos,after,gd⟩,[])]) (mkS (ZbZ d (.int k (a.tmod b)) tm) ob ng) K):GoL P ops draw i (⟨d,.binOp .rem T x y T',ty,pos,after,gd⟩::L) acc (mkS tm ob ng) K:=by
 refine Zdd rfl (fun _ _ h=>by cases h) hw hx hy (v:=.int k a) (w:=.int k b) (r:=.int k (a.tmod b)) rfl rfl (fun ρ W h1 h2=>?_) rfl kk
 simp [execOp,h1,h2,eqGuard,binOp,Op.intDiv,h0]
theorem Zzz (hw:Zp ops (mkS tm ob ng) ⟨d,.binOp .quo T x y T',ty,pos,after,gd⟩=some true) {k:IntKind} {a b:Int} (hx:evL tm x = .int k a) (hy:evL tm y = .int k b) (h0:b≠0)
  (kk:GoL P ops draw (i+1) L (acc ++ [(ZN (mkS tm ob ng) ⟨d,.binOp .quo T x y T',ty,pos,after,gd⟩,[])]) (mkS (ZbZ d (.int k (k.wrap (a.tdiv b))) tm) ob ng) K):GoL P ops draw i (⟨d,.binOp .quo T x y T',ty,pos,after,gd⟩::L) acc (mkS tm ob ng) K:=by
 refine Zdd rfl (fun _ _ h=>by cases h) hw hx hy (v:=.int k a) (w:=.int k b) (r:=.int k (k.wrap (a.tdiv b))) rfl rfl (fun ρ W h1 h2=>?_) rfl kk
 simp [execOp,h1,h2,eqGuard,binOp,Op.intDiv,h0]
def ZzA (op:BinOp) (k:IntKind) (a b:Int):Option Int:=match op with
 | .and=>some (k.wrap (BitVec.ofInt k.bits a &&& BitVec.ofInt k.bits b).toNat)
 | .or=>some (k.wrap (BitVec.ofInt k.bits a ||| BitVec.ofInt k.bits b).toNat)
 | .xor=>some (k.wrap (BitVec.ofInt k.bits a ^^^ BitVec.ofInt k.bits b).toNat)
 | .andNot=>some (k.wrap (BitVec.ofInt k.bits a &&& ~~~BitVec.ofInt k.bits b).toNat)
 | _=>none
theorem ZrG {op:BinOp} (hw:Zp ops (mkS tm ob ng) ⟨d,.binOp op T x y T',ty,pos,after,gd⟩=some true) {k:IntKind} {a b c:Int} (hx:evL tm x = .int k a) (hy:evL tm y = .int k b) (h0:ZzA op k a b=some c)
  (kk:GoL P ops draw (i+1) L (acc ++ [(ZN (mkS tm ob ng) ⟨d,.binOp op T x y T',ty,pos,after,gd⟩,[])]) (mkS (ZbZ d (.int k c) tm) ob ng) K):GoL P ops draw i (⟨d,.binOp op T x y T',ty,pos,after,gd⟩::L) acc (mkS tm ob ng) K:=by
 refine Zdd rfl (fun _ _ h=>by cases h) hw hx hy (v:=.int k a) (w:=.int k b) (r:=.int k c) rfl rfl (fun ρ W h1 h2=>?_) rfl kk
 cases op<;>first
  | (cases h0;done)
  | (injection h0 with h0
     subst h0
     simp [execOp,h1,h2,eqGuard,binOp,Op.intBits])
theorem ZyC (hw:Zp ops (mkS tm ob ng) ⟨d,.binOp .shr T x y T',ty,pos,after,gd⟩=some true) {k k':IntKind} {a b:Int} (hx:evL tm x = .int k a) (hy:evL tm y = .int k' b) (h0:¬ b<0)
  (kk:GoL P ops draw (i+1) L (acc ++ [(ZN (mkS tm ob ng) ⟨d,.binOp .shr T x y T',ty,pos,after,gd⟩,[])]) (mkS (ZbZ d (.int k (a.fdiv (2 ^ (min b.toNat k.bits)))) tm) ob ng) K):GoL P ops draw i (⟨d,.binOp .shr T x y T',ty,pos,after,gd⟩::L) acc (mkS tm ob ng) K:=by
 refine Zdd rfl (fun _ _ h=>by cases h) hw hx hy (v:=.int k a) (w:=.int k' b) (r:=.int k (a.fdiv (2 ^ (min b.toNat k.bits)))) rfl rfl (fun ρ W h1 h2=>?_) rfl kk
 simp [execOp,h1,h2,eqGuard,binOp,Op.shift,h0]
class Kd (P:Program) (T:TypeId) (k:outParam IntKind):Prop where
 eq:P.underlying T=some (.int k)
theorem ZrH {k k':IntKind} [h':Kd P T' k'] [h:Kd P T k] (hw:Zp ops (mkS tm ob ng) ⟨d,.convert T T' x,ty,pos,after,gd⟩=some true) {a:Int} (hx:evL tm x = .int k a)
  (kk:GoL P ops draw (i+1) L (acc ++ [(ZN (mkS tm ob ng) ⟨d,.convert T T' x,ty,pos,after,gd⟩,[])]) (mkS (ZbZ d (.int k' (k'.wrap a)) tm) ob ng) K):GoL P ops draw i (⟨d,.convert T T' x,ty,pos,after,gd⟩::L) acc (mkS tm ob ng) K:=by
 refine Zog rfl (fun _ _ h=>by cases h) hw hx (v:=.int k a) (r:=.int k' (k'.wrap a)) rfl (fun ρ W h1=>?_) rfl kk
 simp [execOp,h1,convert,run_underlying h.eq,run_underlying h'.eq,Conv.intToInt]
theorem Zvz (hw:Zp ops (mkS tm ob ng) ⟨d,.call ⟨.builtin .min,#[x,y],#[T,T']⟩,ty,pos,after,gd⟩=some true) {k:IntKind} {a b:Int} (hx:evL tm x = .int k a) (hy:evL tm y = .int k b)
  (kk:GoL P ops draw (i+1) L (acc ++ [(ZN (mkS tm ob ng) ⟨d,.call ⟨.builtin .min,#[x,y],#[T,T']⟩,ty,pos,after,gd⟩,[])]) (mkS (ZbZ d (.int k (if b<a then b else a)) tm) ob ng) K):GoL P ops draw i (⟨d,.call ⟨.builtin .min,#[x,y],#[T,T']⟩,ty,pos,after,gd⟩::L) acc (mkS tm ob ng) K:=by
 refine Zdd (x:=x) (y:=y) rfl (fun _ _ h=>by cases h) hw hx hy (v:=.int k a) (w:=.int k b) (r:=.int k (if b<a then b else a)) rfl rfl (fun ρ W h1 h2=>?_) rfl kk
 simp [execOp,resolve,invoke,builtin,Builtin.min_,Builtin.min2]
 rw [h1,h2]
 rfl
theorem ZwZ (hw:Zp ops (mkS tm ob ng) ⟨d,.call ⟨.builtin .max,#[x,y],#[T,T']⟩,ty,pos,after,gd⟩=some true) {k:IntKind} {a b:Int} (hx:evL tm x = .int k a) (hy:evL tm y = .int k b)
  (kk:GoL P ops draw (i+1) L (acc ++ [(ZN (mkS tm ob ng) ⟨d,.call ⟨.builtin .max,#[x,y],#[T,T']⟩,ty,pos,after,gd⟩,[])]) (mkS (ZbZ d (.int k (if b > a then b else a)) tm) ob ng) K):GoL P ops draw i (⟨d,.call ⟨.builtin .max,#[x,y],#[T,T']⟩,ty,pos,after,gd⟩::L) acc (mkS tm ob ng) K:=by
 refine Zdd (x:=x) (y:=y) rfl (fun _ _ h=>by cases h) hw hx hy (v:=.int k a) (w:=.int k b) (r:=.int k (if b > a then b else a)) rfl rfl (fun ρ W h1 h2=>?_) rfl kk
 simp [execOp,resolve,invoke,builtin,Builtin.max_,Builtin.max2]
 rw [h1,h2]
 rfl
end
end VL
end Go.Proofs.YtjoneoobolnnbaaGreatDoor
namespace Go.Proofs.YtjoneoobolnnbaaGreatDoor
namespace VL
open Go.RowKit
def ixI (P:Program) (T:TypeId):Option Nat:=match P.underlying T with
 | some (.array len E)=>match P.underlying E,tyI P E with
   | some de,some te=>if TypeDesc.isAgg de=false∧te.size=1 then some len else none
   | _,_=>none
 | _=>none
class Ix (P:Program) (T:TypeId) (len:outParam Nat):Prop where
 eq:ixI P T=some len
theorem Zgs:∀ {cs:List PV} {vs:List Value} {n:Nat} {p:PV},ZbL cs=some vs→cs[n]? = some p→∃ r,vs[n]? = some r∧ZeU r=p
 | [],_,n,p,h,hn=>by simp at hn
 | c::cs,vs,n,p,h,hn=>by
   simp only [ZbL] at h
   split at h
   ·rename_i v vs' h1 h2
    injection h with h
    subst h
    cases n with
    | zero=>
      simp only [List.getElem?_cons_zero,Option.some.injEq] at hn
      subst hn
      refine ⟨v,rfl,?_⟩
      cases c<;>first | (cases h1;done) | (injection h1 with h1;subst h1;rfl)
    | succ n=>
      obtain ⟨r,h3,h4⟩:=Zgs h2 (n:=n) (by simpa using hn)
      exact ⟨r,by simpa using h3,h4⟩
   ·cases h
section
variable {P:Program} [WInv P] {ops:Array Oper} {draw:Bool} {i:Nat} {L:List Oper} {acc:List (List Nat×List Nat)} {K:FS→Prop} {tm:List (Nat×PV)} {ob:List (Nat×Option (Gen×VObj))} {ng:Nat}
 {d:Option Tmp} {ty T T':TypeId} {pos:String} {after:Array Edge} {gd:Option (Nat×Bool)} {x y:Operand}
theorem ZzO {len:Nat} [h:Ix P T len] (hw:Zp ops (mkS tm ob ng) ⟨d,.index T x y,ty,pos,after,gd⟩=some true) {cs:List PV} {vs:List Value} {kd:IntKind} {n:Nat} {pv:PV}
  (hx:evL tm x = .agg cs) (hps:ZbL cs=some vs) (hy:evL tm y = .int kd (n:Int)) (hl:cs.length=len) (hr:cs[n]? = some pv)
  (k:GoL P ops draw (i+1) L (acc ++ [(ZN (mkS tm ob ng) ⟨d,.index T x y,ty,pos,after,gd⟩,[])]) (mkS (ZbZ d pv tm) ob ng) K):GoL P ops draw i (⟨d,.index T x y,ty,pos,after,gd⟩::L) acc (mkS tm ob ng) K:=by
 have:=h.eq
 unfold ixI at this
 split at this
 ·rename_i len' E hu
  split at this
  ·rename_i de te hd1 hte
   split at this
   ·rename_i hc
    injection this with this
    subst this
    obtain ⟨inf,_,q1,q2,_,q4,_⟩:=Zak hte
    obtain ⟨r,hr1,hr2⟩:=Zgs hps hr
    have hn:n<len':=by rw [← hl];exact (List.getElem?_eq_some_iff.1 hr).1
    refine Zdd (x:=x) (y:=y) rfl (fun _ _ h=>by cases h) hw hx hy (v:=.agg vs.toArray) (w:=.int kd n) (r:=r) (by simp [plain,hps]) rfl (fun ρ W h3 h4=>?_) hr2 k
    have hag:(isAgg E).run P W = .ok false W:=by
     unfold isAgg
     have hd2:=hc.1
     cases de<;>first | (cases hd2;done) | simp [run_underlying hd1]
    simp [execOp,Instr.index,asIntOf,h3,h4,run_underlying hu,hn,part,hag,sizeOf,typeInfo,q2,q4,hc.2,hr1]
   ·cases this
  ·cases this
 ·cases this
end
end VL
end Go.Proofs.YtjoneoobolnnbaaGreatDoor
namespace Go.Proofs.YtjoneoobolnnbaaGreatDoor
namespace VL
instance:Ld Tryz.prog 3 false 1:=⟨by kernel_rfl⟩
instance:Kd Tryz.prog 3 .i64:=⟨by kernel_rfl⟩
instance:Ze Tryz.prog 4 [.bool false]:=⟨by kernel_rfl⟩
instance:Ld Tryz.prog 4 false 1:=⟨by kernel_rfl⟩
instance:Ld Tryz.prog 5 false 1:=⟨by kernel_rfl⟩
instance:Kd Tryz.prog 5 .u8:=⟨by kernel_rfl⟩
instance:Ld Tryz.prog 9 false 1:=⟨by kernel_rfl⟩
instance:Ld Tryz.prog 21 false 1:=⟨by kernel_rfl⟩
instance:Ld Tryz.prog 22 false 1:=⟨by kernel_rfl⟩
instance:Sl Tryz.prog 22 48 3 48 [.int .i64 0,.str ⟨#[]⟩,.nil]:=⟨by kernel_rfl,rfl,rfl⟩
instance:Ld Tryz.prog 23 false 1:=⟨by kernel_rfl⟩
instance:Sl Tryz.prog 23 183 8 96 [.int .i64 0,.str ⟨#[]⟩,.str ⟨#[]⟩,.int .i64 0,.str ⟨#[]⟩,.int .i64 0,.str ⟨#[]⟩,.int .i64 0]:=⟨by kernel_rfl,rfl,rfl⟩
instance:Ld Tryz.prog 24 false 1:=⟨by kernel_rfl⟩
instance:Sl Tryz.prog 24 34 3 40 [.str ⟨#[]⟩,.int .i64 0,.str ⟨#[]⟩]:=⟨by kernel_rfl,rfl,rfl⟩
instance:Ld Tryz.prog 25 false 1:=⟨by kernel_rfl⟩
instance:Sl Tryz.prog 25 134 2 24 [.str ⟨#[]⟩,.int .i64 0]:=⟨by kernel_rfl,rfl,rfl⟩
instance:Ze Tryz.prog 27 [.int .i64 0,.int .i64 0,.nil,.nil,.nil,.int .i64 0,.nil,.nil]:=⟨by kernel_rfl⟩
instance:Ld Tryz.prog 27 true 8:=⟨by kernel_rfl⟩
instance:Fld Tryz.prog 27 0 0 false 1:=⟨by kernel_rfl,rfl⟩
instance:Fld Tryz.prog 27 1 1 false 1:=⟨by kernel_rfl,rfl⟩
instance:Fld Tryz.prog 27 2 2 false 1:=⟨by kernel_rfl,rfl⟩
instance:Fld Tryz.prog 27 3 3 false 1:=⟨by kernel_rfl,rfl⟩
instance:Fld Tryz.prog 27 4 4 false 1:=⟨by kernel_rfl,rfl⟩
instance:Fld Tryz.prog 27 5 5 false 1:=⟨by kernel_rfl,rfl⟩
instance:Fld Tryz.prog 27 6 6 false 1:=⟨by kernel_rfl,rfl⟩
instance:Fld Tryz.prog 27 7 7 false 1:=⟨by kernel_rfl,rfl⟩
instance:St Tryz.prog 27 [some (0,1),some (1,1),some (2,1),some (3,1),some (4,1),some (5,1),some (6,1),some (7,1)] [.int .i64 0,.int .i64 0,.nil,.nil,.nil,.int .i64 0,.nil,.nil]:=⟨by kernel_rfl⟩
instance:Ze Tryz.prog 29 [.int .i64 0,.str ⟨#[]⟩]:=⟨by kernel_rfl⟩
instance:Ld Tryz.prog 29 true 2:=⟨by kernel_rfl⟩
instance:EqT Tryz.prog 29:=⟨by kernel_rfl⟩
instance:Fld Tryz.prog 29 0 0 false 1:=⟨by kernel_rfl,rfl⟩
instance:Fld Tryz.prog 29 1 1 false 1:=⟨by kernel_rfl,rfl⟩
instance:St Tryz.prog 29 [some (0,1),some (1,1)] [.int .i64 0,.str ⟨#[]⟩]:=⟨by kernel_rfl⟩
instance:Ze Tryz.prog 34 [.str ⟨#[]⟩,.int .i64 0,.str ⟨#[]⟩]:=⟨by kernel_rfl⟩
instance:Ld Tryz.prog 34 true 3:=⟨by kernel_rfl⟩
instance:EqT Tryz.prog 34:=⟨by kernel_rfl⟩
instance:Fld Tryz.prog 34 0 0 false 1:=⟨by kernel_rfl,rfl⟩
instance:Fld Tryz.prog 34 1 1 true 2:=⟨by kernel_rfl,rfl⟩
instance:St Tryz.prog 34 [some (0,1),some (1,2)] [.str ⟨#[]⟩,.int .i64 0,.str ⟨#[]⟩]:=⟨by kernel_rfl⟩
instance:Ld Tryz.prog 35 false 1:=⟨by kernel_rfl⟩
instance:Sl Tryz.prog 35 3 1 8 [.int .i64 0]:=⟨by kernel_rfl,rfl,rfl⟩
instance:Ze Tryz.prog 37 [.nil]:=⟨by kernel_rfl⟩
instance:Ld Tryz.prog 37 false 1:=⟨by kernel_rfl⟩
instance:Sl Tryz.prog 37 9 1 16 [.str ⟨#[]⟩]:=⟨by kernel_rfl,rfl,rfl⟩
instance:Sl Tryz.prog 40 29 2 24 [.int .i64 0,.str ⟨#[]⟩]:=⟨by kernel_rfl,rfl,rfl⟩
instance:Sl Tryz.prog 43 52 6 72 [.int .i64 0,.str ⟨#[]⟩,.int .i64 0,.str ⟨#[]⟩,.str ⟨#[]⟩,.int .i64 0]:=⟨by kernel_rfl,rfl,rfl⟩
instance:Ld Tryz.prog 46 false 1:=⟨by kernel_rfl⟩
instance:Sl Tryz.prog 46 55 6 72 [.int .i64 0,.str ⟨#[]⟩,.str ⟨#[]⟩,.str ⟨#[]⟩,.int .i64 0,.int .i64 0]:=⟨by kernel_rfl,rfl,rfl⟩
instance:Ze Tryz.prog 48 [.int .i64 0,.str ⟨#[]⟩,.nil]:=⟨by kernel_rfl⟩
instance:Ld Tryz.prog 48 true 3:=⟨by kernel_rfl⟩
instance:Fld Tryz.prog 48 0 0 true 2:=⟨by kernel_rfl,rfl⟩
instance:Fld Tryz.prog 48 1 2 false 1:=⟨by kernel_rfl,rfl⟩
instance:St Tryz.prog 48 [some (0,2),some (2,1)] [.int .i64 0,.str ⟨#[]⟩,.nil]:=⟨by kernel_rfl⟩
instance:Ld Tryz.prog 52 true 6:=⟨by kernel_rfl⟩
instance:EqT Tryz.prog 52:=⟨by kernel_rfl⟩
instance:Fld Tryz.prog 52 0 0 true 2:=⟨by kernel_rfl,rfl⟩
instance:Fld Tryz.prog 52 1 2 false 1:=⟨by kernel_rfl,rfl⟩
instance:St Tryz.prog 52 [some (0,2),some (2,1),some (3,1),some (4,1),some (5,1)] [.int .i64 0,.str ⟨#[]⟩,.int .i64 0,.str ⟨#[]⟩,.str ⟨#[]⟩,.int .i64 0]:=⟨by kernel_rfl⟩
instance:Ze Tryz.prog 55 [.int .i64 0,.str ⟨#[]⟩,.str ⟨#[]⟩,.str ⟨#[]⟩,.int .i64 0,.int .i64 0]:=⟨by kernel_rfl⟩
instance:Ld Tryz.prog 55 true 6:=⟨by kernel_rfl⟩
instance:Fld Tryz.prog 55 0 0 false 1:=⟨by kernel_rfl,rfl⟩
instance:Fld Tryz.prog 55 1 1 false 1:=⟨by kernel_rfl,rfl⟩
instance:Fld Tryz.prog 55 2 2 false 1:=⟨by kernel_rfl,rfl⟩
instance:Fld Tryz.prog 55 3 3 false 1:=⟨by kernel_rfl,rfl⟩
instance:Fld Tryz.prog 55 4 4 false 1:=⟨by kernel_rfl,rfl⟩
instance:Fld Tryz.prog 55 5 5 false 1:=⟨by kernel_rfl,rfl⟩
instance:St Tryz.prog 55 [some (0,1),some (1,1),some (2,1),some (3,1),some (4,1),some (5,1)] [.int .i64 0,.str ⟨#[]⟩,.str ⟨#[]⟩,.str ⟨#[]⟩,.int .i64 0,.int .i64 0]:=⟨by kernel_rfl⟩
instance:Sl Tryz.prog 61 66 10 136 [.int .i64 0,.str ⟨#[]⟩,.str ⟨#[]⟩,.int .i64 0,.str ⟨#[]⟩,.int .i64 0,.str ⟨#[]⟩,.str ⟨#[]⟩,.int .i64 0,.nil]:=⟨by kernel_rfl,rfl,rfl⟩
instance:Ze Tryz.prog 66 [.int .i64 0,.str ⟨#[]⟩,.str ⟨#[]⟩,.int .i64 0,.str ⟨#[]⟩,.int .i64 0,.str ⟨#[]⟩,.str ⟨#[]⟩,.int .i64 0,.nil]:=⟨by kernel_rfl⟩
instance:Ld Tryz.prog 66 true 10:=⟨by kernel_rfl⟩
instance:Fld Tryz.prog 66 0 0 false 1:=⟨by kernel_rfl,rfl⟩
instance:Fld Tryz.prog 66 1 1 false 1:=⟨by kernel_rfl,rfl⟩
instance:Fld Tryz.prog 66 2 2 false 1:=⟨by kernel_rfl,rfl⟩
instance:Fld Tryz.prog 66 3 3 true 2:=⟨by kernel_rfl,rfl⟩
instance:Fld Tryz.prog 66 4 5 true 2:=⟨by kernel_rfl,rfl⟩
instance:Fld Tryz.prog 66 5 7 false 1:=⟨by kernel_rfl,rfl⟩
instance:Fld Tryz.prog 66 6 8 false 1:=⟨by kernel_rfl,rfl⟩
instance:Fld Tryz.prog 66 7 9 false 1:=⟨by kernel_rfl,rfl⟩
instance:St Tryz.prog 66 [some (0,1),some (1,1),some (2,1),some (3,2),some (5,2),some (7,1),some (8,1),some (9,1)] [.int .i64 0,.str ⟨#[]⟩,.str ⟨#[]⟩,.int .i64 0,.str ⟨#[]⟩,.int .i64 0,.str ⟨#[]⟩,.str ⟨#[]⟩,.int .i64 0,.nil]:=⟨by kernel_rfl⟩
instance:Ld Tryz.prog 72 false 1:=⟨by kernel_rfl⟩
instance:Sl Tryz.prog 72 116 2 32 [.int .i64 0,.nil]:=⟨by kernel_rfl,rfl,rfl⟩
instance:Ix Tryz.prog 86 3:=⟨by kernel_rfl⟩
instance:Az Tryz.prog 86 1 [.str ⟨#[]⟩,.str ⟨#[]⟩,.str ⟨#[]⟩]:=⟨by kernel_rfl,by kernel_rfl⟩
instance:Ld Tryz.prog 94 false 1:=⟨by kernel_rfl⟩
instance:Kd Tryz.prog 94 .u64:=⟨by kernel_rfl⟩
instance:Fld Tryz.prog 96 0 0 false 1:=⟨by kernel_rfl,rfl⟩
instance:Fld Tryz.prog 96 1 1 false 1:=⟨by kernel_rfl,rfl⟩
instance:Fld Tryz.prog 96 2 2 false 1:=⟨by kernel_rfl,rfl⟩
instance:St Tryz.prog 96 [some (0,1),some (1,1),some (2,1)] [.nil,.int .i64 0,.int .u64 0]:=⟨by kernel_rfl⟩
instance:Kd Tryz.prog 97 .u64:=⟨by kernel_rfl⟩
instance:Ld Tryz.prog 104 false 1:=⟨by kernel_rfl⟩
instance:Sl Tryz.prog 104 149 2 40 [.str ⟨#[]⟩,.nil]:=⟨by kernel_rfl,rfl,rfl⟩
instance:Ld Tryz.prog 105 false 1:=⟨by kernel_rfl⟩
instance:Sl Tryz.prog 105 145 6 64 [.bool false,.int .i64 0,.str ⟨#[]⟩,.int .i64 0,.int .i64 0,.str ⟨#[]⟩]:=⟨by kernel_rfl,rfl,rfl⟩
instance:Ld Tryz.prog 106 false 1:=⟨by kernel_rfl⟩
instance:Sl Tryz.prog 106 233 5 64 [.bool false,.str ⟨#[]⟩,.int .i64 0,.str ⟨#[]⟩,.str ⟨#[]⟩]:=⟨by kernel_rfl,rfl,rfl⟩
instance:Ze Tryz.prog 108 [.nil,.nil,.nil]:=⟨by kernel_rfl⟩
instance:Ld Tryz.prog 108 true 3:=⟨by kernel_rfl⟩
instance:Fld Tryz.prog 108 0 0 false 1:=⟨by kernel_rfl,rfl⟩
instance:Fld Tryz.prog 108 1 1 false 1:=⟨by kernel_rfl,rfl⟩
instance:Fld Tryz.prog 108 2 2 false 1:=⟨by kernel_rfl,rfl⟩
instance:St Tryz.prog 108 [some (0,1),some (1,1),some (2,1)] [.nil,.nil,.nil]:=⟨by kernel_rfl⟩
instance:St Tryz.prog 116 [some (0,1),some (1,1)] [.int .i64 0,.nil]:=⟨by kernel_rfl⟩
instance:Sl Tryz.prog 121 123 7 80 [.int .i64 0,.str ⟨#[]⟩,.int .i64 0,.str ⟨#[]⟩,.str ⟨#[]⟩,.int .i64 0,.int .i64 0]:=⟨by kernel_rfl,rfl,rfl⟩
instance:Ze Tryz.prog 123 [.int .i64 0,.str ⟨#[]⟩,.int .i64 0,.str ⟨#[]⟩,.str ⟨#[]⟩,.int .i64 0,.int .i64 0]:=⟨by kernel_rfl⟩
instance:Ld Tryz.prog 123 true 7:=⟨by kernel_rfl⟩
instance:Fld Tryz.prog 123 0 0 true 6:=⟨by kernel_rfl,rfl⟩
instance:Fld Tryz.prog 123 1 6 false 1:=⟨by kernel_rfl,rfl⟩
instance:St Tryz.prog 123 [some (0,6),some (6,1)] [.int .i64 0,.str ⟨#[]⟩,.int .i64 0,.str ⟨#[]⟩,.str ⟨#[]⟩,.int .i64 0,.int .i64 0]:=⟨by kernel_rfl⟩
instance:Ix Tryz.prog 129 28:=⟨by kernel_rfl⟩
instance:Az Tryz.prog 129 1 [.str ⟨#[]⟩,.str ⟨#[]⟩,.str ⟨#[]⟩,.str ⟨#[]⟩,.str ⟨#[]⟩,.str ⟨#[]⟩,.str ⟨#[]⟩,.str ⟨#[]⟩,.str ⟨#[]⟩,.str ⟨#[]⟩,.str ⟨#[]⟩,.str ⟨#[]⟩,.str ⟨#[]⟩,.str ⟨#[]⟩,.str ⟨#[]⟩,.str ⟨#[]⟩,.str ⟨#[]⟩,.str ⟨#[]⟩,.str ⟨#[]⟩,.str ⟨#[]⟩,.str ⟨#[]⟩,.str ⟨#[]⟩,.str ⟨#[]⟩,.str ⟨#[]⟩,.str ⟨#[]⟩,.str ⟨#[]⟩,.str ⟨#[]⟩,.str ⟨#[]⟩]:=⟨by kernel_rfl,by kernel_rfl⟩
instance:Ze Tryz.prog 134 [.str ⟨#[]⟩,.int .i64 0]:=⟨by kernel_rfl⟩
instance:Ld Tryz.prog 134 true 2:=⟨by kernel_rfl⟩
instance:Fld Tryz.prog 134 0 0 false 1:=⟨by kernel_rfl,rfl⟩
instance:Fld Tryz.prog 134 1 1 false 1:=⟨by kernel_rfl,rfl⟩
instance:St Tryz.prog 134 [some (0,1),some (1,1)] [.str ⟨#[]⟩,.int .i64 0]:=⟨by kernel_rfl⟩
instance:Sl Tryz.prog 140 143 3 32 [.int .i64 0,.int .i64 0,.str ⟨#[]⟩]:=⟨by kernel_rfl,rfl,rfl⟩
instance:Ze Tryz.prog 143 [.int .i64 0,.int .i64 0,.str ⟨#[]⟩]:=⟨by kernel_rfl⟩
instance:Ld Tryz.prog 143 true 3:=⟨by kernel_rfl⟩
instance:Fld Tryz.prog 143 0 0 false 1:=⟨by kernel_rfl,rfl⟩
instance:Fld Tryz.prog 143 1 1 true 2:=⟨by kernel_rfl,rfl⟩
instance:St Tryz.prog 143 [some (0,1),some (1,2)] [.int .i64 0,.int .i64 0,.str ⟨#[]⟩]:=⟨by kernel_rfl⟩
instance:Ze Tryz.prog 145 [.bool false,.int .i64 0,.str ⟨#[]⟩,.int .i64 0,.int .i64 0,.str ⟨#[]⟩]:=⟨by kernel_rfl⟩
instance:Ld Tryz.prog 145 true 6:=⟨by kernel_rfl⟩
instance:Fld Tryz.prog 145 0 0 false 1:=⟨by kernel_rfl,rfl⟩
instance:Fld Tryz.prog 145 1 1 false 1:=⟨by kernel_rfl,rfl⟩
instance:Fld Tryz.prog 145 2 2 false 1:=⟨by kernel_rfl,rfl⟩
instance:Fld Tryz.prog 145 3 3 true 3:=⟨by kernel_rfl,rfl⟩
instance:St Tryz.prog 145 [some (0,1),some (1,1),some (2,1),some (3,3)] [.bool false,.int .i64 0,.str ⟨#[]⟩,.int .i64 0,.int .i64 0,.str ⟨#[]⟩]:=⟨by kernel_rfl⟩
instance:Ze Tryz.prog 149 [.str ⟨#[]⟩,.nil]:=⟨by kernel_rfl⟩
instance:Ld Tryz.prog 149 true 2:=⟨by kernel_rfl⟩
instance:Fld Tryz.prog 149 0 0 false 1:=⟨by kernel_rfl,rfl⟩
instance:Fld Tryz.prog 149 1 1 false 1:=⟨by kernel_rfl,rfl⟩
instance:St Tryz.prog 149 [some (0,1),some (1,1)] [.str ⟨#[]⟩,.nil]:=⟨by kernel_rfl⟩
instance:Fld Tryz.prog 154 0 0 false 1:=⟨by kernel_rfl,rfl⟩
instance:Fld Tryz.prog 154 1 1 false 1:=⟨by kernel_rfl,rfl⟩
instance:Fld Tryz.prog 154 2 2 false 1:=⟨by kernel_rfl,rfl⟩
instance:Fld Tryz.prog 154 3 3 false 1:=⟨by kernel_rfl,rfl⟩
instance:St Tryz.prog 154 [some (0,1),some (1,1),some (2,1),some (3,1)] [.nil,.nil,.nil,.nil]:=⟨by kernel_rfl⟩
instance:Sl Tryz.prog 156 158 1 24 [.nil]:=⟨by kernel_rfl,rfl,rfl⟩
instance:Ld Tryz.prog 158 false 1:=⟨by kernel_rfl⟩
instance:Sl Tryz.prog 158 21 1 4 [.int .i32 0]:=⟨by kernel_rfl,rfl,rfl⟩
instance:Ix Tryz.prog 159 8:=⟨by kernel_rfl⟩
instance:Az Tryz.prog 159 1 [.str ⟨#[]⟩,.str ⟨#[]⟩,.str ⟨#[]⟩,.str ⟨#[]⟩,.str ⟨#[]⟩,.str ⟨#[]⟩,.str ⟨#[]⟩,.str ⟨#[]⟩]:=⟨by kernel_rfl,by kernel_rfl⟩
instance:Ix Tryz.prog 160 5:=⟨by kernel_rfl⟩
instance:Az Tryz.prog 160 1 [.str ⟨#[]⟩,.str ⟨#[]⟩,.str ⟨#[]⟩,.str ⟨#[]⟩,.str ⟨#[]⟩]:=⟨by kernel_rfl,by kernel_rfl⟩
instance:Ze Tryz.prog 183 [.int .i64 0,.str ⟨#[]⟩,.str ⟨#[]⟩,.int .i64 0,.str ⟨#[]⟩,.int .i64 0,.str ⟨#[]⟩,.int .i64 0]:=⟨by kernel_rfl⟩
instance:Ld Tryz.prog 183 true 8:=⟨by kernel_rfl⟩
instance:Fld Tryz.prog 183 0 0 false 1:=⟨by kernel_rfl,rfl⟩
instance:Fld Tryz.prog 183 1 1 false 1:=⟨by kernel_rfl,rfl⟩
instance:Fld Tryz.prog 183 2 2 false 1:=⟨by kernel_rfl,rfl⟩
instance:Fld Tryz.prog 183 3 3 true 2:=⟨by kernel_rfl,rfl⟩
instance:Fld Tryz.prog 183 4 5 false 1:=⟨by kernel_rfl,rfl⟩
instance:Fld Tryz.prog 183 5 6 false 1:=⟨by kernel_rfl,rfl⟩
instance:Fld Tryz.prog 183 6 7 false 1:=⟨by kernel_rfl,rfl⟩
instance:St Tryz.prog 183 [some (0,1),some (1,1),some (2,1),some (3,2),some (5,1),some (6,1),some (7,1)] [.int .i64 0,.str ⟨#[]⟩,.str ⟨#[]⟩,.int .i64 0,.str ⟨#[]⟩,.int .i64 0,.str ⟨#[]⟩,.int .i64 0]:=⟨by kernel_rfl⟩
instance:Ze Tryz.prog 233 [.bool false,.str ⟨#[]⟩,.int .i64 0,.str ⟨#[]⟩,.str ⟨#[]⟩]:=⟨by kernel_rfl⟩
instance:Ld Tryz.prog 233 true 5:=⟨by kernel_rfl⟩
instance:Fld Tryz.prog 233 1 1 false 1:=⟨by kernel_rfl,rfl⟩
instance:Fld Tryz.prog 233 2 2 true 2:=⟨by kernel_rfl,rfl⟩
instance:Fld Tryz.prog 233 3 4 false 1:=⟨by kernel_rfl,rfl⟩
instance:St Tryz.prog 233 [some (0,1),some (1,1),some (2,2),some (4,1)] [.bool false,.str ⟨#[]⟩,.int .i64 0,.str ⟨#[]⟩,.str ⟨#[]⟩]:=⟨by kernel_rfl⟩
instance:Sl Tryz.prog 238 5 1 1 [.int .u8 0]:=⟨by kernel_rfl,rfl,rfl⟩
instance:Ix Tryz.prog 250 14:=⟨by kernel_rfl⟩
instance:Az Tryz.prog 250 1 [.int .i64 0,.int .i64 0,.int .i64 0,.int .i64 0,.int .i64 0,.int .i64 0,.int .i64 0,.int .i64 0,.int .i64 0,.int .i64 0,.int .i64 0,.int .i64 0,.int .i64 0,.int .i64 0]:=⟨by kernel_rfl,by kernel_rfl⟩
instance:WInv Tryz.prog:=⟨fun W=>(∃ m,W.cell? ⟨1,0,none⟩=some (.int .i64 m))∧W.cell? ⟨0,0,none⟩=some (.int .i64 5)∧W.cell? ⟨0,1,none⟩=some (.string ⟨#[80,111,108,105,99,121]⟩)⟩
theorem mix:Tryz.prog.follows .mixedOrders=true:=by kernel_rfl
end VL
end Go.Proofs.YtjoneoobolnnbaaGreatDoor
namespace Go.Proofs.YtjoneoobolnnbaaGreatDoor
open Go.RowKit
structure Revision where
 number:Int
 user:ByteArray
 note:ByteArray
 text:ByteArray
 minute:Int
 seq:Int
 deriving DecidableEq
structure Stored where
 title:Title
 history:List Revision
 deriving DecidableEq
structure Proposal where
 id:Int
 user:ByteArray
 note:ByteArray
 title:Title
 base:Int
 text:ByteArray
 minute:Int
 deriving DecidableEq
structure Watch where
 user:ByteArray
 title:Title
 deriving DecidableEq
structure Last where
 user:ByteArray
 seq:Int
 deriving DecidableEq
structure State where
 seq:Int
 clock:Int
 pages:List Stored
 gone:List Stored
 proposals:List Proposal
 proposed:Int
 watches:List Watch
 lasts:List Last
 deriving DecidableEq
structure Change where
 kind:Int
 user:ByteArray
 note:ByteArray
 title:Title
 to:Title
 text:ByteArray
 n:Int
 history:List Revision
 deriving DecidableEq
structure Scope where
 kind:Int
 title:Title
 deriving DecidableEq
structure Rule where
 allow:Bool
 right:Int
 group:ByteArray
 scope:Scope
 deriving DecidableEq
structure Guard where
 strict:Bool
 group:ByteArray
 title:Title
 section_:ByteArray
 deriving DecidableEq
structure Group where
 name:ByteArray
 members:List ByteArray
 deriving DecidableEq
structure Policy where
 groups:List Group
 rules:List Rule
 guards:List Guard
 deriving DecidableEq
end Go.Proofs.YtjoneoobolnnbaaGreatDoor
namespace Go.Proofs.YtjoneoobolnnbaaGreatDoor
open VL
def Title.cs (x:Title):List PV:=[.int .i64 x.space,.str x.name]
def Title.pv (x:Title):PV:=.agg x.cs
def Revision.cs (x:Revision):List PV:=[.int .i64 x.number,.str x.user,.str x.note,.str x.text,.int .i64 x.minute,.int .i64 x.seq]
def Revision.pv (x:Revision):PV:=.agg x.cs
def Stored.cs (x:Stored):List PV:=[.int .i64 x.title.space,.str x.title.name,.sl (x.history.map Revision.cs)]
def Stored.pv (x:Stored):PV:=.agg x.cs
def Proposal.cs (x:Proposal):List PV:=[.int .i64 x.id,.str x.user,.str x.note,.int .i64 x.title.space,.str x.title.name,.int .i64 x.base,.str x.text,.int .i64 x.minute]
def Watch.cs (x:Watch):List PV:=[.str x.user,.int .i64 x.title.space,.str x.title.name]
def Watch.pv (x:Watch):PV:=.agg x.cs
def Last.cs (x:Last):List PV:=[.str x.user,.int .i64 x.seq]
def State.cs (x:State):List PV:=[.int .i64 x.seq,.int .i64 x.clock,.sl (x.pages.map Stored.cs),.sl (x.gone.map Stored.cs),.sl (x.proposals.map Proposal.cs),.int .i64 x.proposed,.sl (x.watches.map Watch.cs),.sl (x.lasts.map Last.cs)]
def State.pv (x:State):PV:=.agg x.cs
def Change.cs (x:Change):List PV:=[.int .i64 x.kind,.str x.user,.str x.note,.int .i64 x.title.space,.str x.title.name,.int .i64 x.to.space,.str x.to.name,.str x.text,.int .i64 x.n,.sl (x.history.map Revision.cs)]
def Change.pv (x:Change):PV:=.agg x.cs
def Scope.cs (x:Scope):List PV:=[.int .i64 x.kind,.int .i64 x.title.space,.str x.title.name]
def Scope.pv (x:Scope):PV:=.agg x.cs
def Rule.cs (x:Rule):List PV:=[.bool x.allow,.int .i64 x.right,.str x.group,.int .i64 x.scope.kind,.int .i64 x.scope.title.space,.str x.scope.title.name]
def Rule.pv (x:Rule):PV:=.agg x.cs
def Guard.cs (x:Guard):List PV:=[.bool x.strict,.str x.group,.int .i64 x.title.space,.str x.title.name,.str x.section_]
def Guard.pv (x:Guard):PV:=.agg x.cs
def Group.cs (x:Group):List PV:=[.str x.name,.sl (x.members.map fun y=>[.str y])]
def Group.pv (x:Group):PV:=.agg x.cs
def Policy.cs (x:Policy):List PV:=[.sl (x.groups.map Group.cs),.sl (x.rules.map Rule.cs),.sl (x.guards.map Guard.cs)]
def Policy.pv (x:Policy):PV:=.agg x.cs
abbrev Zp3 (l:List ByteArray):PV:=.sl (l.map fun y=>[.str y])
end Go.Proofs.YtjoneoobolnnbaaGreatDoor
namespace Go.Proofs.YtjoneoobolnnbaaGreatDoor
open Go.RowKit
theorem ZdP (a b:Title) (W:World):(binOp .eql 29 (.agg #[.int .i64 a.space,.string a.name]) (.agg #[.int .i64 b.space,.string b.name])).run Tryz.prog W = .ok (.bool (decide (a=b))) W:=by
 have e:(if a.space=b.space then if a.name.toList=b.name.toList then true else false else false)=(decide (a=b)):=by
  obtain ⟨a1,a2⟩:=a
  obtain ⟨b1,b2⟩:=b
  simp only [Title.mk.injEq,Zcw]
  (repeat' split)<;>simp_all
 rw [← e]
 go_simp
 (repeat' split)<;>simp_all
theorem ZfU (a b:Title) (W:World):(binOp .neq 29 (.agg #[.int .i64 a.space,.string a.name]) (.agg #[.int .i64 b.space,.string b.name])).run Tryz.prog W = .ok (.bool (!decide (a=b))) W:=by
 have e:(if a.space=b.space then if a.name.toList=b.name.toList then false else true else true)=(!decide (a=b)):=by
  obtain ⟨a1,a2⟩:=a
  obtain ⟨b1,b2⟩:=b
  simp only [Title.mk.injEq,Zcw]
  (repeat' split)<;>simp_all
 rw [← e]
 go_simp
 (repeat' split)<;>simp_all
theorem ZvS (a b:Watch) (W:World):(binOp .eql 34 (.agg #[.string a.user,.int .i64 a.title.space,.string a.title.name]) (.agg #[.string b.user,.int .i64 b.title.space,.string b.title.name])).run Tryz.prog W = .ok (.bool (decide (a=b))) W:=by
 have e:(if a.user.toList=b.user.toList then if a.title.space=b.title.space then if a.title.name.toList=b.title.name.toList then true else false else false else false)=(decide (a=b)):=by
  obtain ⟨a1,⟨a2,a3⟩⟩:=a
  obtain ⟨b1,⟨b2,b3⟩⟩:=b
  simp only [Title.mk.injEq,Watch.mk.injEq,Zcw]
  (repeat' split)<;>simp_all
 rw [← e]
 go_simp
 (repeat' split)<;>simp_all
end Go.Proofs.YtjoneoobolnnbaaGreatDoor
namespace Go.Proofs.YtjoneoobolnnbaaGreatDoor
namespace VL
open Go.RowKit
section
variable {P:Program} [WInv P]
theorem Zxc {c:Code} {s s':FS} {e:Ex} {Q:Ex→FS→Prop} (h:RunC P c s e s') (hq:Q e s'):PWs P [c] Q s:=⟨e,s',h,by cases e<;>exact hq⟩
def Zuf {α:Type} (St:α→Nat→FS) (J:α→Prop) (Q:Ex→FS→Prop):Ex→FS→Prop
 | .normal,s=>∃ a ng,J a∧Shift s (St a ng)
 | e,s=>Q e s
theorem ZaO {α:Type} {c c2:Code} {cs:List Code} {Q:Ex→FS→Prop} {s:FS} (St:α→Nat→FS) (J:α→Prop) (h:PWs P [c] (Zuf St J Q) s) (k:∀ a ng,J a→PWs P (c2::cs) Q (St a ng)):PWs P (c::c2::cs) Q s:=by
 refine ZqN (ZdM h) fun e s' h=>?_
 cases e with
 | normal=>
   obtain ⟨a,ng,h1,h2⟩:=h
   exact Zco h2 (k a ng h1) (by simp)
 | exit id=>exact h
 | ret=>exact h
theorem Zbm {α:Type} {St:α→Nat→FS} {J:α→Prop} {Q:Ex→FS→Prop} {s:FS} (a:α) (ng:Nat) (h1:J a) (h3:Shift s (St a ng)):Zuf St J Q .normal s:=⟨a,ng,h1,h3⟩
end
end VL
end Go.Proofs.YtjoneoobolnnbaaGreatDoor
namespace Go.Proofs.YtjoneoobolnnbaaGreatDoor
namespace VL
open Go.RowKit
def toG (σ:List (Gen×Gen)) (g:Gen):Option Gen:=if g.1=0 then some g else (σ.find? fun q=>q.1 == g).map (·.2)
def Zu8 (σ:List (Gen×Gen)):PV→Option PV
 | .ptr t g o=>(toG σ g).map fun g=>.ptr t g o
 | .elp t g i k o=>(toG σ g).map fun g=>.elp t g i k o
 | .row t g=>(toG σ g).map fun g=>.row t g
 | .agg _=>none
 | .tup _=>none
 | .fn _ _=>none
 | p=>some p
def Zvl (σ:List (Gen×Gen)):List PV→Option (List PV)
 | []=>some []
 | p::ps=>match Zu8 σ p,Zvl σ ps with
   | some q,some qs=>some (q::qs)
   | _,_=>none
def ren (σ:List (Gen×Gen)):PV→Option PV
 | .agg ps=>(Zvl σ ps).map .agg
 | p=>Zu8 σ p
def ZqD (σ:List (Gen×Gen)):Option (Gen×VObj)→Option (Gen×VObj)
 | some (g,.box cs)=>match toG σ g,Zvl σ cs with
   | some g,some cs=>some (g,.box cs)
   | _,_=>none
 | some (g,.row E k sh els)=>(toG σ g).map fun g=>(g,.row E k sh els)
 | none=>none
def Zof (σ:List (Gen×Gen)) (x:Ctx):Ctx:=⟨fun g'=>∃ g,toG σ g'=some g∧x.G g,x.F,x.W,fun g'=>x.ρ ((toG σ g').getD g')⟩
section
variable {σ:List (Gen×Gen)} {x:Ctx}
theorem Zly {p q:PV} {v:Value} (h:Zu8 σ p=some q) (hr:Rep x q v):Rep (Zof σ x) p v:=by
 cases p with
 | ptr t g' o=>
   simp only [Zu8,Option.map_eq_some_iff] at h
   obtain ⟨g,h1,rfl⟩:=h
   cases hr with
   | ptr _ _ _ b hG hb=>exact .ptr _ _ _ b ⟨g,h1,hG⟩ (by simp only [Zof,h1];exact hb)
 | elp t g' i k o=>
   simp only [Zu8,Option.map_eq_some_iff] at h
   obtain ⟨g,h1,rfl⟩:=h
   cases hr with
   | elp _ _ _ _ _ b hG hb=>exact .elp _ _ _ _ _ b ⟨g,h1,hG⟩ (by simp only [Zof,h1];exact hb)
 | row t g'=>
   simp only [Zu8,Option.map_eq_some_iff] at h
   obtain ⟨g,h1,rfl⟩:=h
   cases hr with
   | row _ _ A n c hG hv=>exact .row _ _ A n c ⟨g,h1,hG⟩ (by simp only [Zof,h1];exact hv)
 | agg ps=>cases h
 | tup ps=>cases h
 | fn f ps=>cases h
 | un=>exact .un _
 | nil=>
   injection h with h
   subst h
   cases hr
   exact .nil
 | cel cs=>
   injection h with h
   subst h
   cases hr with
   | cel _ b off f hcell hh=>exact .cel cs b off f hcell fun j p hp=>(hh j p hp).pure_mono (hcell j p hp).1 (fun _ _ h=>h) (fun _ _ _ _ h=>h)
 | bool b=>injection h with h;subst h;exact hr.pure_mono rfl (fun _ _ h=>h) (fun _ _ _ _ h=>h)
 | int k n=>injection h with h;subst h;exact hr.pure_mono rfl (fun _ _ h=>h) (fun _ _ _ _ h=>h)
 | str s=>injection h with h;subst h;exact hr.pure_mono rfl (fun _ _ h=>h) (fun _ _ _ _ h=>h)
 | sl els=>injection h with h;subst h;exact hr.pure_mono rfl (fun _ _ h=>h) (fun _ _ _ _ h=>h)
theorem Ztx {p q:PV} (h:Zu8 σ p=some q) (hq:q.cell=true):p.cell=true:=by
 cases p with
 | ptr t g' o=>rfl
 | row t g'=>rfl
 | agg ps=>cases h
 | tup ps=>cases h
 | fn f ps=>cases h
 | elp t g' i k o=>
   simp only [Zu8,Option.map_eq_some_iff] at h
   obtain ⟨g,h1,rfl⟩:=h
   cases hq
 | un=>injection h with h;subst h;exact hq
 | nil=>rfl
 | cel cs=>injection h with h;subst h;exact hq
 | bool b=>rfl
 | int k n=>rfl
 | str s=>rfl
 | sl els=>rfl
theorem ZjM:∀ {ps qs:List PV},Zvl σ ps=some qs→ps.length=qs.length∧∀ (i:Nat) (p:PV),ps[i]? = some p→∃ q,qs[i]? = some q∧Zu8 σ p=some q
 | [],qs,h=>by
   injection h with h
   subst h
   exact ⟨rfl,fun i p hp=>by simp at hp⟩
 | p::ps,qs,h=>by
   simp only [Zvl] at h
   split at h
   ·rename_i q qs' h1 h2
    injection h with h
    subst h
    obtain ⟨h3,h4⟩:=ZjM h2
    refine ⟨by simp [h3],fun i p' hp=>?_⟩
    cases i with
    | zero=>
      simp only [List.getElem?_cons_zero,Option.some.injEq] at hp
      subst hp
      exact ⟨q,rfl,h1⟩
    | succ i=>
      simp only [List.getElem?_cons_succ] at hp ⊢
      exact h4 i p' hp
   ·cases h
theorem Zty {p q:PV} {v:Value} (h:ren σ p=some q) (hr:Rep x q v):Rep (Zof σ x) p v:=by
 cases p with
 | agg ps=>
   simp only [ren,Option.map_eq_some_iff] at h
   obtain ⟨qs,h1,rfl⟩:=h
   obtain ⟨h2,h3⟩:=ZjM h1
   cases hr with
   | agg _ cs hl hh=>
     refine .agg ps cs (h2.trans hl) fun i p v hp hv=>?_
     obtain ⟨q,hq,hpq⟩:=h3 i p hp
     exact Zly hpq (hh i q v hq hv)
 | _=>exact Zly h hr
theorem Zir {B:Nat} {D:Nat→Prop} {g' g:Gen} {o' o:VObj} (h:ZqD σ (some (g',o'))=some (g,o)) (hr:x.G g∧ObRep x B D g o):toG σ g'=some g∧(Zof σ x).G g'∧ObRep (Zof σ x) B D g' o':=by
 cases o' with
 | box cs'=>
   simp only [ZqD] at h
   split at h
   ·rename_i g1 cs h1 h2
    injection h with h
    injection h with e1 e2
    subst e1 e2
    refine ⟨h1,⟨_,h1,hr.1⟩,?_⟩
    obtain ⟨b,T,vs,q1,q2,q3,q4,q5,q6⟩:=hr.2
    obtain ⟨h3,h4⟩:=ZjM h2
    refine ⟨b,T,vs,by simp only [Zof,h1];exact q1,q2,h3.trans q3,fun p hp=>?_,fun j p v hp hv=>?_,q6⟩
    ·obtain ⟨i,hi⟩:=List.getElem?_of_mem hp
     obtain ⟨q,hq,hpq⟩:=h4 i p hi
     exact Ztx hpq (q4 q (List.mem_of_getElem? hq))
    ·obtain ⟨q,hq,hpq⟩:=h4 j p hp
     exact Zly hpq (q5 j q v hq hv)
   ·cases h
 | row E k sh els=>
   simp only [ZqD,Option.map_eq_some_iff] at h
   obtain ⟨g1,h1,h2⟩:=h
   injection h2 with e1 e2
   subst e1 e2
   refine ⟨h1,⟨_,h1,hr.1⟩,?_⟩
   obtain ⟨q1,q2,vs,q3,q4,q5⟩:=hr.2
   have hρ:(Zof σ x).ρ g'=x.ρ g1:=by simp only [Zof,h1];rfl
   refine ⟨q1,q2,vs,by rw [hρ];exact q3,fun m p v hp hv=>(q4 m p v hp hv).pure_mono ?_ (fun _ _ h=>h) (fun _ _ _ _ h=>h),by rw [hρ];exact q5⟩
   obtain ⟨e,he,hpe⟩:=List.mem_flatten.1 (List.mem_of_getElem? hp)
   exact q2 e he p hpe
end
def Ztz (σ:List (Gen×Gen)) (tm:List (Nat×PV)):List (Nat×PV)→Prop
 | []=>True
 | (k,v)::r=>ren σ v=some (look tm k)∧Ztz σ tm r
def ZqE (σ:List (Gen×Gen)) (ob:List (Nat×Option (Gen×VObj))):List (Nat×Option (Gen×VObj))→Prop
 | []=>True
 | (k,v)::r=>(ZqD σ v=ZO ob k∧(ZqD σ v).isSome=true)∧ZqE σ ob r
theorem ZF (σ:List (Gen×Gen)) {tm tm':List (Nat×PV)} {ob ob':List (Nat×Option (Gen×VObj))} {ng ng':Nat} (h1:Ztz σ tm tm') (h2:ZqE σ ob ob') (h3:(decide (0<ng')&&σ.all fun q=>decide (q.1.1<ng'))=true):Shift (mkS tm ob ng) (mkS tm' ob' ng'):=fun r a x h=>by
 simp only [Bool.and_eq_true,decide_eq_true_eq,List.all_eq_true] at h3
 have k1:∀ (l:List (Nat×PV)),Ztz σ tm l→∀ t,look l t = .un∨ren σ (look l t)=some (look tm t):=fun l=>by
  induction l with
  | nil=>intro _ t;exact .inl rfl
  | cons q l ih=>
    obtain ⟨k,v⟩:=q
    intro hl t
    show (if t=k then v else look l t)=_∨ren σ (if t=k then v else look l t)=_
    split
    ·rename_i e;subst e;exact .inr hl.1
    ·exact ih hl.2 t
 have k2:∀ (l:List (Nat×Option (Gen×VObj))),ZqE σ ob l→∀ t,ZO l t=none∨(ZqD σ (ZO l t)=ZO ob t∧(ZqD σ (ZO l t)).isSome=true):=fun l=>by
  induction l with
  | nil=>intro _ t;exact .inl rfl
  | cons q l ih=>
    obtain ⟨k,v⟩:=q
    intro hl t
    show (if t=k then v else ZO l t)=_∨(ZqD σ (if t=k then v else ZO l t)=_∧(ZqD σ (if t=k then v else ZO l t)).isSome=true)
    split
    ·rename_i e;subst e;exact .inr hl.1
    ·exact ih hl.2 t
 have k3:∀ t g' o',ZO ob' t=some (g',o')→∃ g o,ZO ob t=some (g,o)∧ZqD σ (some (g',o'))=some (g,o):=fun t g' o' ho=>by
  rcases k2 ob' h2 t with e | ⟨e1,e2⟩
  ·rw [e] at ho;cases ho
  ·rw [ho] at e1 e2
   obtain ⟨⟨g,o⟩,hw⟩:=Option.isSome_iff_exists.1 e2
   exact ⟨g,o,by rw [← e1,hw],hw⟩
 refine ⟨Zof σ x,rfl,h.defers,h.size,h.gr,fun g' hg'=>.inl ?_,fun t=>?_,fun t g' o' ho=>?_,fun t t' g g' o o' b hne e1 e2 hb=>?_,h.flt,h.f0,h.fnew,fun g hg=>?_,h.inv,h.keep⟩
 ·obtain ⟨g,hg,_⟩:=hg'
  unfold toG at hg
  show g'.1<ng'
  split at hg
  ·rename_i e;omega
  ·simp only [Option.map_eq_some_iff] at hg
   obtain ⟨q,hq,_⟩:=hg
   have hm:=List.mem_of_find?_eq_some hq
   have he:=List.find?_some hq
   simp only [beq_iff_eq] at he
   rw [← he]
   exact h3.2 q hm
 ·rcases k1 tm' h1 t with e | e
  ·show Rep _ (look tm' t) _
   rw [e];exact .un _
  ·exact Zty e (h.tm t)
 ·obtain ⟨g,o,e1,e2⟩:=k3 t g' o' ho
  exact (Zir e2 (h.ob t g o e1)).2
 ·obtain ⟨g1,o1,q1,q2⟩:=k3 t g o e1
  obtain ⟨g2,o2,q3,q4⟩:=k3 t' g' o' e2
  have r1:=(Zir q2 (h.ob t g1 o1 q1)).1
  have r2:=(Zir q4 (h.ob t' g2 o2 q3)).1
  simp only [Zof,r1,Option.getD_some] at hb
  simp only [Zof,r2,Option.getD_some]
  exact h.apart t t' g1 g2 o1 o2 b hne q1 q3 hb
 ·have h0:=h.inv.2 g hg
  have:toG σ g=some g:=by unfold toG;rw [if_pos h0]
  exact ⟨⟨g,this,(h.rho g hg).1⟩,by simp only [Zof,this,Option.getD_some];exact (h.rho g hg).2⟩
theorem Za9 (σ:List (Gen×Gen)) {tm tm':List (Nat×PV)} {ob ob':List (Nat×Option (Gen×VObj))} {ng ng':Nat} (t E k:Nat) (h0:look tm t = .nil) (h1:Ztz (((1,t),(ng,0))::σ) ((t,.row t (ng,0))::tm) tm') (h2:ZqE (((1,t),(ng,0))::σ) ((t,some ((ng,0),.row E k false []))::ob) ob')
  (h3:(decide (0<ng')&&(((1,t),(ng,0))::σ).all fun q=>decide (q.1.1<ng'))=true):Shift (mkS tm ob ng) (mkS tm' ob' ng'):=
 Shift.trans (Ztq (t:=t) (u:=t) (E:=E) (k:=k) h0) (ZF (tm:=(t,.row t (ng,0))::tm) (ob:=(t,some ((ng,0),.row E k false []))::ob) _ h1 h2 h3)
end VL
end Go.Proofs.YtjoneoobolnnbaaGreatDoor
namespace Go.Proofs.YtjoneoobolnnbaaGreatDoor
namespace VL
open Go.RowKit
def Zhj (o:VObj) (d:Nat) (g:Gen):PV:=match o with
 | .box _=>.ptr d g 0
 | .row _ _ _ _=>.row d g
structure ContractN (P:Program) [WInv P] (f:FuncId) (args:List PV) (o:VObj):Prop where
 isGo:VL.isGo P f=true
 pure:∀ cs,o = .box cs→cs.all PV.pure=true
 calls:∀ (x:Ctx) (vs:Array Value),Pre x args none vs→(∀ W',Gr (fun _=>False) x.W W'→WInv.I P W')→Calls P f vs x.W fun e W'=>
  ∃ y v,y.W=W'∧e = .returned v∧Step x y∧Gr (fun _=>False) x.W y.W∧(∀ b o,y.F b o→x.F b o∨x.W.heap.size≤b)∧(∀ b o,y.F b o→b<y.W.heap.size)∧∃ g,y.ρ g=v∧ObRep y x.W.heap.size (fun _=>False) g o
section
variable {P:Program} [WInv P] {r:Run} {ops:Array Oper} {o:Oper} {i:Nat} {s s':FS}
omit [WInv P] in
theorem Zeg {f:Operand} {es:Array Operand} {ts:Array TypeId} (ho:o.op = .call { callee:=.value f,args:=es,argTypes:=ts }) (h:Agree ops o s s') :
  es.toList.map (ev s')=es.toList.map (ev s)∧(∀ p ∈ es.toList.map (ev s),∀ t ∈ Zhb s.ob p,s.ob t=s'.ob t)∧ev s' f=ev s f∧∀ t ∈ Zhb s.ob (ev s f),s.ob t=s'.ob t:=by
 have hm:∀ e ∈ es.toList,e ∈ o.op.operands:=fun e he=>by rw [ho];simp [Op.operands,Call.operands];exact .inr (by simpa using he)
 have hf:f ∈ o.op.operands:=by rw [ho];simp [Op.operands,Call.operands]
 refine ⟨(List.map_congr_left fun e he=>h.ev e (hm e he)).symm,fun p hp t ht=>?_,(h.ev f hf).symm,fun t ht=>h.key hf (by rw [ho];rfl) t ht⟩
 obtain ⟨e,he,rfl⟩:=List.mem_map.1 hp
 exact h.key (hm e he) (by rw [ho];rfl) t ht
omit [WInv P] in
theorem ObRep.newOf {x y:Ctx} {B B':Nat} {D:Nat→Prop} {g g':Gen} {ob:VObj} (h:ObRep x B (fun _=>False) g ob) (hρ:y.ρ g'=x.ρ g) (hF:y.F=x.F) (hW:y.W=x.W) (hB:B'≤B) (hp:∀ cs,ob = .box cs→cs.all PV.pure=true):ObRep y B' D g' ob:=by
 have hr:∀ (p:PV) (v:Value),p.pure=true→Rep x p v→Rep y p v:=fun p v hp h=>h.pure_mono hp (fun _ _ h=>by rw [hF];exact h) (fun _ _ _ _ h=>by rw [hW];exact h)
 cases ob with
 | box cs=>
   obtain ⟨b,T,vs,h1,h2,h3,h4,h5,h6,h7⟩:=h
   refine ⟨b,T,vs,hρ.trans h1,by rw [hW];exact h2,h3,h4,fun j p w hj hw=>hr p w (List.all_eq_true.1 (hp cs rfl) p (List.mem_of_getElem? hj)) (h5 j p w hj hw),.inl (Nat.le_trans hB (h6.resolve_right fun e=>e)),fun o=>by rw [hF];exact h7 o⟩
 | row E k sh els=>
   obtain ⟨h1,h2,vs,h3,h4,h5⟩:=h
   refine ⟨h1,h2,vs,?_,fun m p w hj hw=>?_,fun b hb=>⟨.inl (Nat.le_trans hB ((h5 b (by rw [← hρ];exact hb)).1.resolve_right fun e=>e)),fun o ho=>(h5 b (by rw [← hρ];exact hb)).2 o (by rw [← hF];exact ho)⟩⟩
   ·rw [hW,hρ]
    exact h3
   ·obtain ⟨e,he,hpe⟩:=List.mem_flatten.1 (List.mem_of_getElem? hj)
    exact hr p w (h2 e he p hpe) (h4 m p w hj hw)
omit [WInv P] in
theorem ZnA {y:Ctx} {B:Nat} {D:Nat→Prop} {g:Gen} {ob:VObj} {d:Nat} {v:Value} (h:ObRep y B D g ob) (hG:y.G g) (hv:y.ρ g=v):Rep y (Zhj ob d g) v:=by
 cases ob with
 | box cs=>
   obtain ⟨b,T,vs,h1,_⟩:=h
   rw [← hv,h1]
   exact .ptr _ _ _ b hG (by rw [h1];rfl)
 | row E k sh els=>
   obtain ⟨_,_,vs,h3,_⟩:=h
   obtain ⟨A,c,e,_⟩:=ZfR h3
   rw [← hv,e]
   exact .row _ _ _ _ _ hG e
theorem Zvr {f:FuncId} {es:Array Operand} {ts:Array TypeId} {args:List PV} {us:List (Nat×Option (Gen×VObj))} {dd:Nat} {ob:VObj} (ho:o.op = .call { callee:=.value (.func f),args:=es,argTypes:=ts })
  (ha:Zf6 s.ob (es.toList.map (ev s))=some (args,us)) (hc:ContractN P f args ob) (hI:r.I=WInv.I P):OpOK P r o i s ⟨Zhj ob dd (s.ng,i),us ++ [(dd,some ((s.ng,i),ob))]⟩:=by
 intro S a x Q hX hi hd
 obtain ⟨F1,st1,hX1,hR1,_⟩:=ZcR _ (Flip.refl s.ob) hX (g:=fun j=>(es.map a.eval).getD j undef) ha (fun j p hp=>by
  rw [List.getElem?_map] at hp
  cases he:es.toList[j]? with
  | none=>rw [he] at hp;simp at hp
  | some e=>
    rw [he] at hp
    simp only [Option.map_some,Option.some.injEq] at hp
    subst hp
    have hea:es[j]? = some e:=by simpa using he
    have:(es.map a.eval).getD j undef=a.eval e:=by simp [hea]
    rw [this]
    exact Zaz hX e)
 let z:Ctx:=⟨fun _=>False,F1,x.W,x.ρ⟩
 have hlen:args.length=es.size:=by rw [ZfQ _ ha];simp
 have hpre:Pre z args none (es.map a.eval):=by
  refine ⟨by simpa using hlen,fun j p v hp hv=>?_,fun j os h=>by simp at h,fun g hg=>hg.elim,fun b o hb=>hX1.flt b o hb⟩
  obtain ⟨h1,h2⟩:=hR1 j p hp
  rw [Array.getD_eq_getD_getElem?,hv] at h2
  exact h2.clean_mono h1 (fun _ _ h=>h) (fun _ _ _ _ h=>h)
 have hcalls:=hc.calls z _ hpre fun W' hW=>by
  rw [← hI]
  exact hX.inv.1 W' (hX.gr.trans' hW.os hW.tape hW.output hW.size fun b hb _=>hW.block b (Nat.lt_of_lt_of_le hb hX.gr.size) fun h=>h)
 unfold Oper.wp
 rw [Zfr ho hc.isGo,Oper.upon_enter]
 refine hcalls.mono ?_
 rintro e W' ⟨y,v,rfl,rfl,hst,hgr,hfn,hfl,g0,hv,hob⟩
 have hnew:¬ x.G (s.ng,i):=fun hg=>by
  rcases hX.gens _ hg with e | ⟨_,e⟩
  ·exact absurd e (Nat.lt_irrefl _)
  ·exact hi e
 let y':Ctx:=⟨fun g=>x.G g∨g=(s.ng,i),y.F,y.W,fun g=>if g=(s.ng,i) then v else x.ρ g⟩
 have hρ:y'.ρ (s.ng,i)=v:=if_pos rfl
 have k:Step { x with F:=F1 } y':=⟨fun g hg=>⟨.inl hg,if_neg (fun (e:g=(s.ng,i))=>hnew (by rw [← e];exact hg))⟩,fun b o hb=>hst.F b o hb,fun b o v hb hv=>hst.W b o v hb hv⟩
 have hob':∀ {B:Nat} {D:Nat→Prop},B≤x.W.heap.size→ObRep y' B D (s.ng,i) ob:=fun hB=>hob.newOf (hρ.trans hv.symm) rfl rfl hB hc.pure
 refine ⟨y',rfl,?_⟩
 rw [ZjX]
 refine hX1.change k hd hgr.os hgr.tape hgr.output hgr.size (fun b hb _=>hgr.block b hb (fun e=>e)) hfn hfl (fun g hg=>?_) (.inr rfl) (hob' hX1.gr.size) (fun b hb=>.inl ?_) (ZnA (hob' (Nat.le_refl _) (D:=fun _=>False)) (.inr rfl) hρ)
 ·rcases hg with hg | rfl
  ·exact (hX.gens g hg).imp id fun ⟨e,f⟩=>⟨e,.inl f⟩
  ·exact .inr ⟨rfl,.inr rfl⟩
 ·exact (((hob' (Nat.le_refl _) (D:=fun _=>False)).lt b hb).2).resolve_right fun e=>e
theorem ZtI {f:FuncId} {es:Array Operand} {ts:Array TypeId} {args:List PV} {us:List (Nat×Option (Gen×VObj))} {dd:Nat} {ob:VObj} (hw:Zp ops s o=some true) (ho:o.op = .call { callee:=.value (.func f),args:=es,argTypes:=ts })
  (ha:Zf6 s.ob (es.toList.map (ev s))=some (args,us)) (hc:ContractN P f args ob):OpR P ops i o s ⟨Zhj ob dd (s.ng,i),us ++ [(dd,some ((s.ng,i),ob))]⟩:=.any hw fun s' r hA hI=>by
 obtain ⟨e1,e2,_⟩:=Zeg ho hA
 rw [hA.ng]
 refine Zvr ho ?_ hc hI
 rw [e1,← ha]
 exact (Zdt fun p hp t ht=>e2 p hp t (ZhT ht)).symm
def Zwp (f:Nat→Option (Gen×VObj)):VObj→Option (VObj×List (Nat×Option (Gen×VObj)))
 | .box cs=>(ZfZ f cs).map fun (qs,us)=>(.box qs,us)
 | .row E k false els=>some (.row E k false els,[])
 | .row _ _ true _=>none
theorem Zk0 (hmix:P.follows .mixedOrders=true) {f:FuncId} {fn:Func} {c:Code} {args:List PV} {e:Ex} {s1:FS} {t:Nat} {g:Gen} {o2 ob:VObj} {us:List (Nat×Option (Gen×VObj))}
  (hg:isGo P f=true) (hf:P.funcs[f]? = some fn) (hb:fn.body=some c) (hn:args.length≤fn.ntmps) (hok:Zbq fn.ntmps c=true) (hrun:RunC P c (Zoy args none) e s1) (he:e = .normal∨e = .ret)
  (hres:Zgt P s1 fn.results.toList=some [Zhj o2 t g]) (hob:s1.ob t=some (g,o2)) (hpub:Zwp s1.ob o2=some (ob,us)):ContractN P f args ob:=by
 have hpure:∀ cs,ob = .box cs→cs.all PV.pure=true:=fun cs hcs=>by
  subst hcs
  cases o2 with
  | row E k sh els=>cases sh<;>simp [Zwp] at hpub
  | box cs2=>
    simp only [Zwp,Option.map_eq_some_iff] at hpub
    obtain ⟨⟨qs,us'⟩,h1,h2⟩:=hpub
    simp only [Prod.mk.injEq,VObj.box.injEq] at h2
    rw [← h2.1]
    exact ZiB _ h1
 refine ⟨hg,hpure,fun x vs hpre hinv=>?_⟩
 let r:Run:=⟨x.W,fun _=>False,(vs++Array.replicate (fn.ntmps - vs.size) undef).size,x.F,x.G,x.ρ,WInv.I P⟩
 have hNr:r.N=fn.ntmps:=by
  have:=hpre.size
  simp [r]
  omega
 have hX:RstX r (fun _=>False) (Zoy args none) { tmps:=vs++Array.replicate (fn.ntmps - vs.size) undef,defers:=[] } x:=by
  refine ⟨rfl,rfl,Gr.refl _ _,fun g hg=>?_,fun t=>?_,fun t g o ho=>by simp [Zoy,Zt1] at ho,fun t t' g g' o o' b hne h1 h2=>by simp [Zoy,Zt1] at h1,hpre.flt,fun _ _ h=>h,fun _ _ h=>.inl h,fun _ h=>⟨h,rfl⟩,⟨hinv,fun g hg=>by obtain ⟨j,os,h,_⟩:=hpre.gen g hg;cases h⟩,fun _ _ _ _ h=>h⟩
  ·obtain ⟨j,os,h,_⟩:=hpre.gen g hg
   cases h
  ·show Rep x (args.getD t (.tup [])) _
   rw [Array.getD_eq_getD_getElem?,Array.getElem?_append,List.getD_eq_getElem?_getD]
   by_cases ht:t<vs.size
   ·rw [if_pos ht,List.getElem?_eq_getElem (by rw [hpre.size];exact ht),Array.getElem?_eq_getElem ht]
    exact hpre.rep t _ _ (List.getElem?_eq_getElem (by rw [hpre.size];exact ht)) (Array.getElem?_eq_getElem ht)
   ·rw [if_neg ht,List.getElem?_eq_none (by rw [hpre.size];omega)]
    have:(Array.replicate (fn.ntmps - vs.size) undef)[t - vs.size]?.getD undef=undef:=by
     rw [Array.getElem?_replicate]
     split<;>rfl
    rw [this]
    exact .tup [] #[] rfl (fun i p v hp=>by simp at hp)
 refine calls_of_wp hf hb ?_
 refine (ZiA hmix hrun).1 r _ x _ ⟨rfl,by rw [hNr];exact hok⟩ hX fun a' y hY=>?_
 obtain ⟨ws,h1,h2,h3⟩:=ZdO hY fn.results.toList hres
 match ws,h2 with
 | [w],_=>
 have hw:Rep y (Zhj o2 t g) w:=h3 0 _ rfl
 obtain ⟨hG,hO⟩:=hY.ob t g o2 hob
 have hρw:y.ρ g=w:=by
  cases o2 with
  | box cs=>
    obtain ⟨b,T,cv,q1,_⟩:=hO
    cases hw with
    | ptr _ _ _ b2 _ hb2=>
      rw [q1] at hb2 ⊢
      obtain rfl:b=b2:=by simpa [blk] using hb2
      rfl
  | row E k sh els=>cases hw with | row _ _ A n c _ hv=>exact hv
 have hend:(results fn a'.tmps).run P y.W = .ok w y.W:=by
  have:(fn.results.mapM (Zt2 a')).run P y.W = .ok #[w] y.W:=by
   rw [Array.mapM_eq_mapM_toList,map_eq_pure_bind,Sem.run_bind,h1]
   rfl
  have e:results fn a'.tmps=(fn.results.mapM (Zt2 a') >>= fun vs=>pure (if h:vs.size=1 then vs[0] else .tuple vs)):=by
   unfold results
   congr 1
  rw [e,Sem.run_bind,this]
  rfl
 have fin:∀ (F2:Nat→Nat→Prop) (s2:FS),RstX r (fun _=>False) s2 a' { y with F:=F2 }→ObRep { y with F:=F2 } x.W.heap.size (fun _=>False) g ob→
   ∃ v,(results fn a'.tmps).run P y.W = .ok v y.W∧(fun e W'=>∃ y v,y.W=W'∧e=Ending.returned v∧Step x y∧Gr (fun _=>False) x.W y.W∧(∀ b o,y.F b o→x.F b o∨x.W.heap.size≤b)∧(∀ b o,y.F b o→b<y.W.heap.size)∧∃ g,y.ρ g=v∧ObRep y x.W.heap.size (fun _=>False) g ob) (Ending.returned v) y.W:=fun F2 s2 hY2 hO2=>by
  refine ⟨w,hend,{ y with F:=F2 },w,rfl,rfl,⟨fun g hg=>hY2.rho g hg,fun b o hb=>hY2.f0 b o hb,fun b o v hb hv=>?_⟩,hY2.gr,fun b o h=>(hY2.fnew b o h).imp id fun h=>h.resolve_right fun e=>e,hY2.flt,g,hρw,hO2⟩
  exact (World.cell?_of_block (hY2.gr.block b (hpre.flt b o hb) (fun e=>e))).trans hv
 have hfin:∃ v,(results fn a'.tmps).run P y.W = .ok v y.W∧(fun e W'=>∃ y v,y.W=W'∧e=Ending.returned v∧Step x y∧Gr (fun _=>False) x.W y.W∧(∀ b o,y.F b o→x.F b o∨x.W.heap.size≤b)∧(∀ b o,y.F b o→b<y.W.heap.size)∧∃ g,y.ρ g=v∧ObRep y x.W.heap.size (fun _=>False) g ob) (Ending.returned v) y.W:=by
  cases o2 with
  | row E k sh els=>
    cases sh with
    | true=>simp [Zwp] at hpub
    | false=>
      simp only [Zwp,Option.some.injEq,Prod.mk.injEq] at hpub
      obtain ⟨rfl,_⟩:=hpub
      exact fin y.F s1 hY hO
  | box cs2=>
    simp only [Zwp,Option.map_eq_some_iff] at hpub
    obtain ⟨⟨qs,us'⟩,g2,g3⟩:=hpub
    simp only [Prod.mk.injEq] at g3
    obtain ⟨rfl,_⟩:=g3
    obtain ⟨b,T,cv,q1,q2,q3,q4,q5,q6,q7⟩:=hO
    obtain ⟨F2,st2,hY2,hR2,hl2,hf2⟩:=Zds cs2 (Flip.refl s1.ob) hY (g:=fun j=>cv.getD j undef) g2 (fun j p hp=>by
     have hlt:j<cv.size:=by rw [← q3];exact (List.getElem?_eq_some_iff.1 hp).1
     have:cv.getD j undef=cv[j]:=by simp [hlt]
     rw [this]
     exact q5 j p _ hp (Array.getElem?_eq_getElem hlt))
    obtain ⟨_,b2,T2,cv2,w1,w2,w3,w4,w5,w6,w7⟩:=hY2.ob t _ _ (hf2.box hob)
    change y.ρ g=_ at w1
    rw [q1] at w1
    injection w1 with w1
    injection w1 with w1
    injection w1 with w1
    subst w1
    refine fin F2 _ hY2 ⟨b,T,cv,q1,q2,by rw [hl2,q3],fun p hp=>?_,fun k p v hp hv=>?_,q6,w7⟩
    ·obtain ⟨k,hk⟩:=List.getElem?_of_mem hp
     exact PV.cell_of_pure (hR2 k p hk).1
    ·have:=(hR2 k p hp).2
     rw [Array.getD_eq_getD_getElem?,hv] at this
     exact this
 rcases he with rfl | rfl
 ·exact ⟨hY.defers,hfin⟩
 ·exact ⟨hY.defers,hfin⟩
def Zzx (P:Program) (rs:List ResultVar) (ob:VObj):Ex→FS→Prop
 | .exit _,_=>False
 | _,s=>∃ t g o2 us,Zgt P s rs=some [Zhj o2 t g]∧s.ob t=some (g,o2)∧Zwp s.ob o2=some (ob,us)
omit [WInv P] in
theorem ZtJ {rs:List ResultVar} {ob o2:VObj} {t:Nat} {g:Gen} {us:List (Nat×Option (Gen×VObj))} (h1:Zgt P s rs=some [Zhj o2 t g]) (h2:s.ob t=some (g,o2)) (h3:Zwp s.ob o2=some (ob,us)):Zzx P rs ob .ret s:=⟨t,g,o2,us,h1,h2,h3⟩
theorem Zom (hmix:P.follows .mixedOrders=true) {f:FuncId} {fn:Func} {c:Code} {args:List PV} {ob:VObj} (hf:P.funcs[f]? = some fn) (hg:isGo P f=true) (hb:fn.body=some c) (hok:(decide (args.length≤fn.ntmps)&&Zbq fn.ntmps c)=true)
  (h:PWs P [c] (Zzx P fn.results.toList ob) (mkS (ZfI 0 args) [] 1)):ContractN P f args ob:=by
 simp only [Bool.and_eq_true,decide_eq_true_eq] at hok
 obtain ⟨e,s',h1,h2⟩:=ZdM h
 have hsh:Shift (Zoy args none) (mkS (ZfI 0 args) [] 1):=Zgq (fun t=>by
  rcases Zfg args 0 t with h | ⟨_,h⟩
  ·exact .inl h
  ·exact .inr h) (fun t=>.inl rfl) (Nat.le_refl _)
 cases e with
 | exit id=>exact h2.elim
 | normal=>
   obtain ⟨t,g,o2,us,h3,h4,h5⟩:=h2
   exact Zk0 hmix hg hf hb hok.1 hok.2 (.shift hsh h1) (.inl rfl) h3 h4 h5
 | ret=>
   obtain ⟨t,g,o2,us,h3,h4,h5⟩:=h2
   exact Zk0 hmix hg hf hb hok.1 hok.2 (.shift hsh h1) (.inr rfl) h3 h4 h5
end
section
variable {P:Program} [WInv P] {ops:Array Oper} {draw:Bool} {i:Nat} {L:List Oper} {acc:List (List Nat×List Nat)} {K:FS→Prop} {tm:List (Nat×PV)} {ob:List (Nat×Option (Gen×VObj))} {ng:Nat}
 {ty:TypeId} {pos:String} {after:Array Edge} {gd:Option (Nat×Bool)}
theorem ZqK {dd:Nat} {f:FuncId} {es:Array Operand} {ts:Array TypeId} {args:List PV} {us:List (Nat×Option (Gen×VObj))} {o2:VObj} (hc:ContractN P f args o2) (hw:Zp ops (mkS tm ob ng) ⟨some dd,.call ⟨.value (.func f),es,ts⟩,ty,pos,after,gd⟩=some true)
  (ha:Zf6 (ZO ob) (es.toList.map (evL tm))=some (args,us))
  (k:GoL P ops draw (i+1) L (acc ++ [(ZN (mkS tm ob ng) ⟨some dd,.call ⟨.value (.func f),es,ts⟩,ty,pos,after,gd⟩,(us ++ [(dd,some ((ng,i),o2))]).map (·.1))])
   (mkS ((dd,Zhj o2 dd (ng,i))::tm) ((us ++ [(dd,some ((ng,i),o2))]).reverse++ob) ng) K):GoL P ops draw i (⟨some dd,.call ⟨.value (.func f),es,ts⟩,ty,pos,after,gd⟩::L) acc (mkS tm ob ng) K:=by
 refine Zhp (ZtI (dd:=dd) hw rfl (by rw [ZaD];exact ha) hc) ?_
 rw [Zcg]
 exact k
end
end VL
end Go.Proofs.YtjoneoobolnnbaaGreatDoor
namespace Go.Proofs.YtjoneoobolnnbaaGreatDoor
namespace VL
open Go.RowKit
structure ContractM (P:Program) [WInv P] (f:FuncId) (E k:Nat) (els els':List (List PV)):Prop where
 isGo:VL.isGo P f=true
 len:∀ e ∈ els',e.length=k
 pure:∀ e ∈ els',∀ p ∈ e,p.pure=true
 plain:(ZbL els.flatten).isSome=true
 calls:∀ (W:World) (v:Value) (vs:List Value),W.ownsRow 0 E k v els.length vs→ZbL els.flatten=some vs→(∀ W',Gr (fun b=>blk v=some b) W W'→WInv.I P W')→Calls P f #[v] W fun e W'=>
  ∃ vs',e = .returned (.tuple #[])∧ZbL els'.flatten=some vs'∧W'.ownsRow 0 E k v els'.length vs'∧Gr (fun b=>blk v=some b) W W'
section
variable {P:Program} [WInv P] {r:Run} {ops:Array Oper} {o:Oper} {i:Nat} {s s':FS}
theorem Zvp {f:FuncId} {es:Array Operand} {ts:Array TypeId} {t:Nat} {g:Gen} {E k:Nat} {els els':List (List PV)} (ho:o.op = .call { callee:=.value (.func f),args:=es,argTypes:=ts })
  (he:es.toList.map (ev s) = [.row t g]) (hob:s.ob t=some (g,.row E k false els)) (hc:ContractM P f E k els els') (hI:r.I=WInv.I P):OpOK P r o i s ⟨.tup [],[(t,some (g,.row E k false els'))]⟩:=by
 intro S a x Q hX hi hd
 obtain ⟨e,hes,hev⟩:∃ e,es = #[e]∧ev s e = .row t g:=by
  match h:es.toList with
  | []=>rw [h] at he;simp at he
  | [e]=>rw [h] at he;exact ⟨e,Zvx h,by simpa using he⟩
  | _::_::_=>rw [h] at he;simp at he
 have hr:=Zaz hX e
 rw [hev] at hr
 generalize hv:a.eval e=v at hr
 obtain ⟨hG,hO⟩:=hX.ob t g _ hob
 obtain ⟨h1,h2,vs,h3,h4,h5⟩:=hO
 have hρ:x.ρ g=v:=by cases hr with | row _ _ A n c _ hvv=>exact hvv
 rw [hρ] at h3
 obtain ⟨vs0,hp0⟩:=Option.isSome_iff_exists.1 hc.plain
 have hvs:vs=vs0:=Zky _ hp0 vs (by rw [ZcW els h1];exact h3.1.symm) h4
 rw [← hvs] at hp0
 have hbig:r.W0.heap.size≤x.W.heap.size:=hX.gr.size
 have hown:∀ b,blk v=some b→r.W0.heap.size≤b∨r.D b:=fun b hb=>(h5 b (by rw [hρ];exact hb)).1
 have hcalls:=hc.calls x.W v vs h3 hp0 fun W' hW=>by
  rw [← hI]
  exact hX.inv.1 W' (hX.gr.trans' hW.os hW.tape hW.output hW.size fun b hb hD=>hW.block b (Nat.lt_of_lt_of_le hb hbig) fun e=>by
   rcases hown b e with h | h
   ·omega
   ·exact hD h)
 unfold Oper.wp
 rw [Zfr ho hc.isGo,Oper.upon_enter,hes]
 have:(#[e].map a.eval) = #[v]:=by simp [hv]
 rw [this]
 refine hcalls.mono ?_
 rintro e' W' ⟨vs',rfl,hp',hown',hgr⟩
 have hnF:∀ b o,x.F b o→¬ blk v=some b:=fun b o hF hb=>by
  have:=((h5 b (by rw [hρ];exact hb)).2 o hF).1
  cases this
 let y:Ctx:={ x with W:=W' }
 have k2:Step x y:=⟨fun _ h=>⟨h,rfl⟩,fun _ _ h=>h,fun b o w hF hw=>(World.cell?_of_block (hgr.block b (hX.flt b o hF) (hnF b o hF))).trans hw⟩
 refine ⟨y,rfl,hX.change k2 hd hgr.os hgr.tape hgr.output hgr.size (fun b hb hne=>hgr.block b hb fun e=>hne g _ hob (by rw [hρ];exact e)) (fun _ _ h=>.inl h) (fun b o hb=>Nat.lt_of_lt_of_le (hX.flt b o hb) hgr.size)
  (fun g' hg'=>(hX.gens g' hg').imp id fun ⟨e1,e2⟩=>⟨e1,.inl e2⟩) hG ⟨hc.len,hc.pure,vs',?_,fun m p w hm hw=>?_,fun b hb=>⟨(h5 b hb).1,fun o ho=>absurd ((h5 b hb).2 o ho).1 (by simp)⟩⟩ (fun b hb=>.inr ⟨g,_,hob,hb⟩) (.tup [] #[] rfl (fun i p v hp=>by simp at hp))⟩
 ·show W'.ownsRow 0 E k (x.ρ g) els'.length vs'
  rw [hρ]
  exact hown'
 ·obtain ⟨w2,h6,h7⟩:=Zgs hp' hm
  rw [hw] at h6
  injection h6 with h6
  subst h6
  rw [← h7]
  exact Zki y w
theorem ZtC {f:FuncId} {es:Array Operand} {ts:Array TypeId} {t:Nat} {g:Gen} {E k:Nat} {els els':List (List PV)} (hw:Zp ops s o=some true) (ho:o.op = .call { callee:=.value (.func f),args:=es,argTypes:=ts })
  (he:es.toList.map (ev s) = [.row t g]) (hob:s.ob t=some (g,.row E k false els)) (hc:ContractM P f E k els els'):OpR P ops i o s ⟨.tup [],[(t,some (g,.row E k false els'))]⟩:=.any hw fun s' r hA hI=>by
 obtain ⟨e1,e2,_⟩:=Zeg ho hA
 refine Zvp ho (by rw [e1,he]) ?_ hc hI
 rw [← e2 (.row t g) (by rw [he];simp) t (by simp [Zhb,ZfJ,Zcp])]
 exact hob
def ZiX (h:PV→Option PV):List PV→Option (List PV)
 | []=>some []
 | p::ps=>match h p,ZiX h ps with
   | some q,some qs=>some (q::qs)
   | _,_=>none
theorem Zgo {h:PV→Option PV}:∀ {ps qs:List PV},ZiX h ps=some qs→qs.length=ps.length∧∀ (i:Nat) (q:PV),qs[i]? = some q→∃ p,ps[i]? = some p∧h p=some q
 | [],qs,e=>by
   injection e with e
   subst e
   exact ⟨rfl,fun i q hq=>by simp at hq⟩
 | p::ps,qs,e=>by
   simp only [ZiX] at e
   split at e
   ·rename_i q qs' h1 h2
    injection e with e
    subst e
    obtain ⟨h3,h4⟩:=Zgo h2
    refine ⟨by simp [h3],fun i q' hq=>?_⟩
    cases i with
    | zero=>
      simp only [List.getElem?_cons_zero,Option.some.injEq] at hq
      subst hq
      exact ⟨p,rfl,h1⟩
    | succ i=>
      simp only [List.getElem?_cons_succ] at hq ⊢
      exact h4 i q' hq
   ·cases e
theorem Zff {h h':PV→Option PV}:∀ {ps:List PV},(∀ p ∈ ps,h p=h' p)→ZiX h ps=ZiX h' ps
 | [],_=>rfl
 | p::ps,e=>by
   simp only [ZiX]
   rw [e p (List.mem_cons_self ..),Zff fun q hq=>e q (List.mem_cons_of_mem _ hq)]
def ZqJ (f:Nat→Option (Gen×VObj)):PV→Option PV
 | .bool b=>some (.bool b)
 | .int k n=>some (.int k n)
 | .str s=>some (.str s)
 | .sl els=>some (.sl els)
 | .nil=>some (.sl [])
 | .row t g=>match Zb5 f t g with
   | some (.row _ _ _ els)=>some (.sl els)
   | _=>none
 | _=>none
def Zqi (f:Nat→Option (Gen×VObj)):PV→Option PV
 | .ptr t g off=>match Zb5 f t g with
   | some (.box cs)=>(ZiX (ZqJ f) (cs.drop off)).map .cel
   | _=>none
 | .cel cs=>some (.cel cs)
 | _=>none
def frz (f:Nat→Option (Gen×VObj)):PV→Option PV
 | .agg ps=>(ZiX (ZqJ f) ps).map .agg
 | .fn g caps=>(ZiX (Zqi f) caps).map (.fn g)
 | .ptr t g off=>Zqi f (.ptr t g off)
 | .cel cs=>some (.cel cs)
 | p=>ZqJ f p
def frozen (s:FS) (x:Ctx):Ctx:=⟨fun _=>False,fun b o=>x.F b o∨(b<x.W.heap.size∧∃ t g ob,s.ob t=some (g,ob)∧blk (x.ρ g)=some b),x.W,x.ρ⟩
theorem ZtD {f:Nat→Option (Gen×VObj)} {p q:PV} (h:ZqJ f p=some q):q.pure=true:=by
 cases p<;>simp only [ZqJ] at h<;>first
  | (cases h;done)
  | (injection h with h;subst h;rfl)
  | (split at h
     ·injection h with h;subst h;rfl
     ·cases h)
omit [WInv P] in
theorem ZwX {S:Nat→Prop} {a:Act} {x:Ctx} (hX:RstX r S s a x) {t:Nat} {g:Gen} {E k:Nat} {sh:Bool} {els:List (List PV)} (ho:s.ob t=some (g,.row E k sh els)):Rep (frozen s x) (.sl els) (x.ρ g):=by
 obtain ⟨hg,hO⟩:=hX.ob t g _ ho
 have hO':=hO
 obtain ⟨h1,h2,vs,h3,h4,h5⟩:=hO
 rcases h3.2 with ⟨hn,hl⟩ | ⟨b,cap,cur,hv,hB,hh,hc,hm,hs,ht⟩
 ·rw [hn]
  have:els = []:=List.eq_nil_of_length_eq_zero hl
  subst this
  exact .sl [] none 0 0 k 0 0 (fun _ _=>undef) rfl (Nat.le_refl _) (by omega) (by simp) (by omega) (fun i j e p he=>by simp at he) (fun i j e p he=>by simp at he)
 ·have hblk:blk (x.ρ g)=some b:=by rw [hv];rfl
  have hlt:b<x.W.heap.size:=(hO'.lt b hblk).1
  rw [hv]
  have key:∀ (i j:Nat) (e:List PV) (p:PV),els[i]? = some e→e[j]? = some p→∃ v,x.W.cell? ⟨b,i * k+j,none⟩=some v∧Rep x p v:=fun i j e p hi hj=>by
   obtain ⟨b',n,c,e1,_,_,_,_,hc⟩:=Zgz hO' hi
   rw [hv] at e1
   injection e1 with e1
   injection e1 with e1
   injection e1 with e1
   subst e1
   exact hc j p hj
  refine .sl els _ _ _ k b 0 (fun i j=>(x.W.cell? ⟨b,i * k+j,none⟩).getD undef) rfl hc (by unfold maxLen at hm;omega) h1 (fun _=>rfl) (fun i j e p hi hj=>?_) (fun i j e p hi hj=>?_)
  ·obtain ⟨v,hv2,_⟩:=key i j e p hi hj
   refine ⟨h2 e (List.mem_of_getElem? hi) p (List.mem_of_getElem? hj),.inr ⟨hlt,t,g,_,ho,hblk⟩,?_⟩
   rw [Nat.zero_add]
   show x.W.cell? _=_
   rw [hv2];rfl
  ·obtain ⟨v,hv2,hr⟩:=key i j e p hi hj
   rw [hv2]
   exact hr.pure_mono (h2 e (List.mem_of_getElem? hi) p (List.mem_of_getElem? hj)) (fun _ _ h=>.inl h) (fun _ _ _ _ h=>h)
omit [WInv P] in
theorem Ze4 {S:Nat→Prop} {a:Act} {x:Ctx} (hX:RstX r S s a x) {p q:PV} {v:Value} (h:ZqJ s.ob p=some q) (hr:Rep x p v):Rep (frozen s x) q v:=by
 have pm:∀ {p:PV} {v:Value},p.pure=true→Rep x p v→Rep (frozen s x) p v:=fun hp hr=>hr.pure_mono hp (fun _ _ h=>.inl h) (fun _ _ _ _ h=>h)
 cases p with
 | bool b=>injection h with h;subst h;exact pm rfl hr
 | int k n=>injection h with h;subst h;exact pm rfl hr
 | str b=>injection h with h;subst h;exact pm rfl hr
 | sl els=>injection h with h;subst h;exact pm rfl hr
 | nil=>
   injection h with h
   subst h
   cases hr
   exact .sl [] none 0 0 0 0 0 (fun _ _=>undef) rfl (Nat.le_refl _) (by omega) (by simp) (by omega) (fun i j e p he=>by simp at he) (fun i j e p he=>by simp at he)
 | row t g=>
   simp only [ZqJ] at h
   split at h
   ·rename_i E k sh els hob
    injection h with h
    subst h
    cases hr with
    | row _ _ A n c hG hv=>
      rw [← hv]
      exact ZwX hX (Za0 hob)
   ·cases h
 | _=>cases h
omit [WInv P] in
theorem ZlA {S:Nat→Prop} {a:Act} {x:Ctx} (hX:RstX r S s a x) {p q:PV} {v:Value} (h:Zqi s.ob p=some q) (hr:Rep x p v):Rep (frozen s x) q v:=by
 cases p with
 | ptr t g off=>
   simp only [Zqi] at h
   split at h
   ·rename_i cs hob
    simp only [Option.map_eq_some_iff] at h
    obtain ⟨qs,h1,rfl⟩:=h
    obtain ⟨h2,h3⟩:=Zgo h1
    obtain ⟨b,off',rfl,hc⟩:=ZhK hX (p:=.ptr t g off) (cs:=cs.drop off) (by simp only [ZhX,hob]) hr
    have hbk:b<x.W.heap.size∧blk (x.ρ g)=some b:=by
     obtain ⟨_,hO⟩:=hX.ob t g _ (Za0 hob)
     cases hr with
     | ptr _ _ _ _ _ hb=>exact ⟨(hO.lt b hb).1,hb⟩
    refine .cel qs b off' (fun j=>(x.W.cell? ⟨b,off'+j,none⟩).getD undef) (fun j q hq=>?_) (fun j q hq=>?_)
    ·obtain ⟨p,hp,hpq⟩:=h3 j q hq
     obtain ⟨u,hu,_⟩:=hc j p hp
     refine ⟨ZtD hpq,.inr ⟨hbk.1,t,g,_,Za0 hob,hbk.2⟩,?_⟩
     show x.W.cell? _=_
     rw [hu];rfl
    ·obtain ⟨p,hp,hpq⟩:=h3 j q hq
     obtain ⟨u,hu,hru⟩:=hc j p hp
     rw [hu]
     exact Ze4 hX hpq hru
   ·cases h
 | cel cs=>
   injection h with h
   subst h
   cases hr with
   | cel _ b off f hcell hh=>exact .cel cs b off f (fun j p hp=>⟨(hcell j p hp).1,.inl (hcell j p hp).2.1,(hcell j p hp).2.2⟩) fun j p hp=>(hh j p hp).pure_mono (hcell j p hp).1 (fun _ _ h=>.inl h) (fun _ _ _ _ h=>h)
 | _=>cases h
omit [WInv P] in
theorem ZwY {S:Nat→Prop} {a:Act} {x:Ctx} (hX:RstX r S s a x) {p q:PV} {v:Value} (h:frz s.ob p=some q) (hr:Rep x p v):Rep (frozen s x) q v:=by
 cases p with
 | agg ps=>
   simp only [frz,Option.map_eq_some_iff] at h
   obtain ⟨qs,h1,rfl⟩:=h
   obtain ⟨h2,h3⟩:=Zgo h1
   cases hr with
   | agg _ cs hl hh=>
     refine .agg qs cs (by rw [h2,hl]) fun i q w hq hw=>?_
     obtain ⟨p,hp,hpq⟩:=h3 i q hq
     exact Ze4 hX hpq (hh i p w hp hw)
 | fn f caps=>
   simp only [frz,Option.map_eq_some_iff] at h
   obtain ⟨qs,h1,rfl⟩:=h
   obtain ⟨h2,h3⟩:=Zgo h1
   cases hr with
   | fn _ _ cs hl hh=>
     refine .fn f qs cs (by rw [h2,hl]) fun i q w hq hw=>?_
     obtain ⟨p,hp,hpq⟩:=h3 i q hq
     exact ZlA hX hpq (hh i p w hp hw)
 | ptr t g off=>exact ZlA hX (p:=.ptr t g off) h hr
 | cel cs=>exact ZlA hX (p:=.cel cs) h hr
 | bool b=>exact Ze4 hX (p:=.bool b) h hr
 | int k n=>exact Ze4 hX (p:=.int k n) h hr
 | str b=>exact Ze4 hX (p:=.str b) h hr
 | sl els=>exact Ze4 hX (p:=.sl els) h hr
 | nil=>exact Ze4 hX (p:=.nil) h hr
 | row t g=>exact Ze4 hX (p:=.row t g) h hr
 | elp t g i k off=>cases h
 | tup ps=>cases h
 | un=>cases h
def PV.dry1:PV→Bool
 | .bool _ | .int _ _ | .str _=>true
 | _=>false
def PV.dry2:PV→Bool
 | .agg ps=>ps.all PV.dry1
 | p=>p.dry1
def PV.dry:PV→Bool
 | .tup ps=>ps.all PV.dry2
 | p=>p.dry2
omit [WInv P] in
theorem Rep.dry1 {x y:Ctx} {p:PV} {v:Value} (h:Rep x p v) (hp:p.dry1=true):Rep y p v:=by
 cases h<;>simp [PV.dry1] at hp<;>constructor
omit [WInv P] in
theorem Rep.dry2 {x y:Ctx} {p:PV} {v:Value} (h:Rep x p v) (hp:p.dry2=true):Rep y p v:=by
 cases p with
 | agg ps=>
   cases h with
   | agg _ cs hl hh=>exact .agg ps cs hl fun i q w hq hw=>(hh i q w hq hw).dry1 (List.all_eq_true.1 hp q (List.mem_of_getElem? hq))
 | _=>exact h.dry1 hp
omit [WInv P] in
theorem Rep.dry {x y:Ctx} {p:PV} {v:Value} (h:Rep x p v) (hp:p.dry=true):Rep y p v:=by
 cases p with
 | tup ps=>
   cases h with
   | tup _ cs hl hh=>exact .tup ps cs hl fun i q w hq hw=>(hh i q w hq hw).dry2 (List.all_eq_true.1 hp q (List.mem_of_getElem? hq))
 | _=>exact h.dry2 hp
theorem Ziu {f f':Nat→Option (Gen×VObj)} {p:PV} (h:∀ t ∈ Zcp p,f t=f' t):ZqJ f p=ZqJ f' p:=by
 cases p<;>simp only [ZqJ]
 rename_i t g
 rw [Zbf (h t (by simp [Zcp])) g]
theorem Zkw {f f':Nat→Option (Gen×VObj)} {p:PV} (h:∀ t ∈ ZuN p,f t=f' t) (h2:∀ t ∈ (ZuN p).flatMap (Zp6 f),f t=f' t):Zqi f p=Zqi f' p:=by
 cases p<;>simp only [Zqi]
 rename_i t g off
 have e:=h t (by simp [ZuN])
 rw [Zbf e g]
 split
 ·rename_i cs hob
  rw [Zff fun q hq=>Ziu fun t' ht'=>h2 t' (List.mem_flatMap.2 ⟨t,by simp [ZuN],?_⟩)]
  unfold Zp6
  rw [e,Za0 hob]
  exact List.mem_flatMap.2 ⟨q,List.mem_of_mem_drop hq,ht'⟩
 ·rfl
theorem ZtE {f f':Nat→Option (Gen×VObj)} {p:PV} (h:∀ t ∈ Zhb f p,f t=f' t):frz f p=frz f' p:=by
 have h1:∀ t ∈ ZfJ p,f t=f' t:=fun t ht=>h t (List.mem_append_left _ ht)
 have h2:∀ t ∈ (ZfJ p).flatMap (Zp6 f),f t=f' t:=fun t ht=>h t (List.mem_append_right _ ht)
 cases p with
 | agg ps=>
   simp only [frz]
   rw [Zff fun q hq=>Ziu fun t ht=>h1 t (List.mem_flatMap.2 ⟨q,hq,ht⟩)]
 | fn g caps=>
   simp only [frz]
   rw [Zff fun q hq=>Zkw (fun t ht=>h1 t (List.mem_flatMap.2 ⟨q,hq,ht⟩)) (fun t ht=>h2 t ?_)]
   obtain ⟨u,hu,ht⟩:=List.mem_flatMap.1 ht
   exact List.mem_flatMap.2 ⟨u,List.mem_flatMap.2 ⟨q,hq,hu⟩,ht⟩
 | ptr t g off=>exact Zkw (p:=.ptr t g off) h1 h2
 | cel cs=>rfl
 | row t g=>exact Ziu (p:=.row t g) h1
 | _=>rfl
omit [WInv P] in
theorem Zsr {a:Act} {e:Operand} {f:FuncId} {cs:Array Value} {es:Array Operand} {ts:Array TypeId} (ho:o.op = .call { callee:=.value e,args:=es,argTypes:=ts }) (he:a.eval e = .func (.func f) #[] cs) (hg:isGo P f=true) (W:World) :
  (execOp a.eval o).run P W = .ok (.enter f (es.map a.eval++cs)) W:=by
 unfold isGo at hg
 split at hg
 ·rename_i fn hfn
  simp only [Bool.and_eq_true,bne_iff_ne,ne_eq] at hg
  obtain ⟨h1,h2⟩:=hg
  unfold execOp
  rw [ho]
  have h3:¬ fn.body=none:=by cases h:fn.body<;>simp_all
  simp [resolve,he,Deferred.ofValue,invoke,callFunc,hfn,h3,h1]
 ·cases hg
theorem Zvq {e:Operand} {f:FuncId} {caps:List PV} {es:Array Operand} {ts:Array TypeId} {args1 args2:List PV} {res:PV} (ho:o.op = .call { callee:=.value e,args:=es,argTypes:=ts }) (hf:ev s e = .fn f caps)
  (ha:ZiX (frz s.ob) (es.toList.map (ev s))=some args1) (hcp:ZiX (Zqi s.ob) caps=some args2) (hc:Contract P f (args1++args2) none res []) (hp:res.dry=true) (hI:r.I=WInv.I P):OpOK P r o i s ⟨res,[]⟩:=by
 intro S a x Q hX hi hd
 have hr:=Zaz hX e
 rw [hf] at hr
 generalize hv:a.eval e=v at hr
 cases hr with
 | fn _ _ cs hl hh=>
 obtain ⟨h1,h2⟩:=Zgo ha
 obtain ⟨h3,h4⟩:=Zgo hcp
 have hl1:args1.length=(es.map a.eval).size:=by rw [h1];simp
 have hpre:Pre (frozen s x) (args1++args2) none (es.map a.eval++cs):=by
  refine ⟨by rw [List.length_append,hl1,h3,hl];simp,fun j p w hj hw=>?_,fun j os h=>by simp at h,fun g hg=>hg.elim,fun b o hb=>?_⟩
  ·rw [List.getElem?_append] at hj
   rw [Array.getElem?_append] at hw
   by_cases hlt:j<args1.length
   ·rw [if_pos hlt] at hj
    rw [if_pos (by rw [← hl1];exact hlt)] at hw
    obtain ⟨q,hq,hqp⟩:=h2 j p hj
    rw [List.getElem?_map,Option.map_eq_some_iff] at hq
    obtain ⟨e',he',rfl⟩:=hq
    rw [Array.getElem?_map,Option.map_eq_some_iff] at hw
    obtain ⟨e2,he2,rfl⟩:=hw
    rw [Array.getElem?_toList] at he'
    rw [he'] at he2
    injection he2 with he2
    subst he2
    exact ZwY hX hqp (Zaz hX e')
   ·rw [if_neg hlt] at hj
    rw [if_neg (by rw [← hl1];exact hlt),← hl1] at hw
    obtain ⟨q,hq,hqp⟩:=h4 _ p hj
    exact ZlA hX hqp (hh _ q w hq hw)
  ·rcases hb with hb | hb
   ·exact hX.flt b o hb
   ·exact hb.1
 have hcalls:=hc.calls (frozen s x) _ hpre fun W' hW=>by
  rw [← hI]
  exact hX.inv.1 W' (hX.gr.trans' hW.os hW.tape hW.output hW.size fun b hb _=>hW.block b (Nat.lt_of_lt_of_le hb hX.gr.size) fun ⟨j,os,h,_⟩=>by simp at h)
 unfold Oper.wp
 rw [Zsr ho hv hc.isGo,Oper.upon_enter]
 refine hcalls.mono ?_
 rintro e' W' ⟨y,v,rfl,rfl,hpost⟩
 have hgr:Gr (fun _=>False) x.W y.W:=⟨hpost.gr.os,hpost.gr.tape,hpost.gr.output,hpost.gr.size,fun b hb _=>hpost.gr.block b hb (fun ⟨j,os,h,_⟩=>by simp at h)⟩
 let y':Ctx:=⟨x.G,x.F,y.W,x.ρ⟩
 have k:Step x y':=⟨fun _ h=>⟨h,rfl⟩,fun _ _ h=>h,fun b o w hb hw=>(World.cell?_of_block (hgr.block b (hX.flt b o hb) (fun e=>e))).trans hw⟩
 have hX2:RstX r S s a y':=hX.grow k (fun _ h=>h) hgr (fun _ _ h=>.inl h) (fun b o hb=>Nat.lt_of_lt_of_le (hX.flt b o hb) hgr.size)
 exact ⟨y',rfl,(hX2.pureVal hd (hpost.rep.dry hp)).moreS fun _ h=>.inl h⟩
theorem ZtF {e:Operand} {f:FuncId} {caps:List PV} {es:Array Operand} {ts:Array TypeId} {args1 args2:List PV} {res:PV} (hw:Zp ops s o=some true) (ho:o.op = .call { callee:=.value e,args:=es,argTypes:=ts }) (hf:ev s e = .fn f caps)
  (ha:ZiX (frz s.ob) (es.toList.map (ev s))=some args1) (hcp:ZiX (Zqi s.ob) caps=some args2) (hc:Contract P f (args1++args2) none res []) (hp:res.dry=true):OpR P ops i o s ⟨res,[]⟩:=.any hw fun s' r hA hI=>by
 obtain ⟨e1,e2,e3,e4⟩:=Zeg ho hA
 refine Zvq ho (by rw [e3];exact hf) ?_ ?_ hc hp hI
 ·rw [e1,← ha]
  exact (Zff fun p hp=>ZtE fun t ht=>e2 p hp t ht).symm
 ·rw [← hcp]
  refine (Zff fun q hq=>Zkw (fun t ht=>e4 t ?_) (fun t ht=>e4 t ?_)).symm
  ·rw [hf]
   exact List.mem_append_left _ (List.mem_flatMap.2 ⟨q,hq,ht⟩)
  ·rw [hf]
   obtain ⟨u,hu,ht⟩:=List.mem_flatMap.1 ht
   exact List.mem_append_right _ (List.mem_flatMap.2 ⟨u,List.mem_flatMap.2 ⟨q,hq,hu⟩,ht⟩)
theorem Zpk {f:FuncId} {es:Array Operand} (hw:Zp ops s o=some true) (ho:o.op = .makeFunc (.func f) #[] es):OpR P ops i o s ⟨.fn f (es.toList.map (ev s)),[]⟩:=.any hw fun s' r hA hI=>by
 have hm:∀ e ∈ es.toList,e ∈ o.op.operands:=fun e he=>by rw [ho];simp [Op.operands];simpa using he
 have e1:es.toList.map (ev s)=es.toList.map (ev s'):=List.map_congr_left fun e he=>hA.ev e (hm e he)
 rw [e1]
 intro S a x Q hX hi hd
 refine Zaf (v:=.func (.func f) #[] (es.map a.eval)) (W':=x.W) ?_ (hX.val hd (.fn f _ _ (by simp) fun j p v hp hv=>?_))
 ·unfold execOp
  rw [ho]
  simp [Instr.makeFunc]
 ·rw [List.getElem?_map,Option.map_eq_some_iff] at hp
  obtain ⟨e,he,rfl⟩:=hp
  rw [Array.getElem?_map,Option.map_eq_some_iff] at hv
  obtain ⟨e2,he2,rfl⟩:=hv
  rw [Array.getElem?_toList] at he
  rw [he] at he2
  injection he2 with he2
  subst he2
  exact Zaz hX e
end
section
variable {P:Program} [WInv P] {ops:Array Oper} {draw:Bool} {i:Nat} {L:List Oper} {acc:List (List Nat×List Nat)} {K:FS→Prop} {tm:List (Nat×PV)} {ob:List (Nat×Option (Gen×VObj))} {ng:Nat}
 {d:Option Tmp} {ty:TypeId} {pos:String} {after:Array Edge} {gd:Option (Nat×Bool)}
theorem ZtG {f:FuncId} {es:Array Operand} {ts:Array TypeId} {t:Nat} {g:Gen} {E k:Nat} {els els':List (List PV)} (hc:ContractM P f E k els els') (hw:Zp ops (mkS tm ob ng) ⟨d,.call ⟨.value (.func f),es,ts⟩,ty,pos,after,gd⟩=some true)
  (he:es.toList.map (evL tm) = [.row t g]) (hob:ZO ob t=some (g,.row E k false els))
  (kk:GoL P ops draw (i+1) L (acc ++ [(ZN (mkS tm ob ng) ⟨d,.call ⟨.value (.func f),es,ts⟩,ty,pos,after,gd⟩,[t])]) (mkS (ZbZ d (.tup []) tm) ((t,some (g,.row E k false els'))::ob) ng) K) :
  GoL P ops draw i (⟨d,.call ⟨.value (.func f),es,ts⟩,ty,pos,after,gd⟩::L) acc (mkS tm ob ng) K:=by
 refine Zhp (ZtC hw rfl (by rw [ZaD];exact he) hob hc) ?_
 rw [Zcg]
 exact kk
theorem ZtH {e:Operand} {f:FuncId} {caps:List PV} {es:Array Operand} {ts:Array TypeId} {args1 args2:List PV} {res:PV} (hc:Contract P f (args1++args2) none res []) (hw:Zp ops (mkS tm ob ng) ⟨d,.call ⟨.value e,es,ts⟩,ty,pos,after,gd⟩=some true)
  (hf:evL tm e = .fn f caps) (ha:ZiX (frz (ZO ob)) (es.toList.map (evL tm))=some args1) (hcp:ZiX (Zqi (ZO ob)) caps=some args2) (hp:res.dry=true)
  (k:GoL P ops draw (i+1) L (acc ++ [(ZN (mkS tm ob ng) ⟨d,.call ⟨.value e,es,ts⟩,ty,pos,after,gd⟩,[])]) (mkS (ZbZ d res tm) ob ng) K):GoL P ops draw i (⟨d,.call ⟨.value e,es,ts⟩,ty,pos,after,gd⟩::L) acc (mkS tm ob ng) K:=by
 refine Zhp (ZtF hw rfl (by rw [ZaD];exact hf) (by rw [ZaD];exact ha) hcp hc hp) ?_
 rw [Zcg]
 exact k
theorem ZjO {f:FuncId} {es:Array Operand} {ts:Array TypeId} {args:List PV} {res:PV} (hc:Contract P f args none res []) (hw:Zp ops (mkS tm ob ng) ⟨d,.call ⟨.value (.func f),es,ts⟩,ty,pos,after,gd⟩=some true)
  (ha:ZiX (frz (ZO ob)) (es.toList.map (evL tm))=some args) (hp:res.dry=true)
  (k:GoL P ops draw (i+1) L (acc ++ [(ZN (mkS tm ob ng) ⟨d,.call ⟨.value (.func f),es,ts⟩,ty,pos,after,gd⟩,[])]) (mkS (ZbZ d res tm) ob ng) K):GoL P ops draw i (⟨d,.call ⟨.value (.func f),es,ts⟩,ty,pos,after,gd⟩::L) acc (mkS tm ob ng) K:=
 ZtH (caps:=[]) (args2:=[]) (by rw [List.append_nil];exact hc) hw rfl ha rfl hp k
theorem Zkx {f:FuncId} {es:Array Operand} (hw:Zp ops (mkS tm ob ng) ⟨d,.makeFunc (.func f) #[] es,ty,pos,after,gd⟩=some true) {caps:List PV} (he:es.toList.map (evL tm)=caps)
  (k:GoL P ops draw (i+1) L (acc ++ [(ZN (mkS tm ob ng) ⟨d,.makeFunc (.func f) #[] es,ty,pos,after,gd⟩,[])]) (mkS (ZbZ d (.fn f caps) tm) ob ng) K):GoL P ops draw i (⟨d,.makeFunc (.func f) #[] es,ty,pos,after,gd⟩::L) acc (mkS tm ob ng) K:=by
 refine Zhp (Zpk hw rfl) ?_
 rw [Zcg,ZaD,he]
 exact k
end
end VL
end Go.Proofs.YtjoneoobolnnbaaGreatDoor
namespace Go.Proofs.YtjoneoobolnnbaaGreatDoor
namespace VL
open Go.RowKit
def ZnG:List PV→Option (List Value)
 | []=>some []
 | p::ps=>match plain p,ZnG ps with
   | some v,some vs=>some (v::vs)
   | _,_=>none
theorem ZkE {x:Ctx}:∀ (ps:List PV) {vs:List Value} (_:ZnG ps=some vs) (ws:List Value) (_:ps.length=ws.length) (_:∀ (i:Nat) (p:PV) (v:Value),ps[i]? = some p→ws[i]? = some v→Rep x p v),ws=vs
 | [],vs,h,ws,hl,_=>by
   simp only [ZnG,Option.some.injEq] at h
   subst h
   exact List.eq_nil_of_length_eq_zero hl.symm
 | p::ps,vs,h,[],hl,_=>by simp at hl
 | p::ps,vs,h,w::ws,hl,hr=>by
   simp only [ZnG] at h
   split at h
   ·rename_i v vs' h1 h2
    injection h with h
    subst h
    rw [Zpp h1 (hr 0 p w rfl rfl),ZkE ps h2 ws (by simpa using hl) fun i p v hp hv=>hr (i+1) p v (by simpa using hp) (by simpa using hv)]
   ·cases h
theorem Gr.ofBelow {w w':World} (h:Below w.heap.size w w'):Gr (fun _=>False) w w':=⟨h.os,h.tape,h.output,h.size,fun b hb _=>h.block b hb⟩
theorem PV.clean_of_dry {p:PV} (h:p.dry2=true):p.clean=true:=by
 have d1:∀ {p:PV},p.dry1=true→p.pure=true:=fun {p} h=>by cases p<;>simp_all [PV.dry1,PV.pure]
 cases p with
 | agg ps=>exact List.all_eq_true.2 fun q hq=>d1 (List.all_eq_true.1 h q hq)
 | bool b=>rfl
 | int k n=>rfl
 | str s=>rfl
 | _=>simp [PV.dry2,PV.dry1] at h
theorem PV.result_of_dry {p:PV} (h:p.dry=true):p.result=true:=by
 cases p with
 | tup ps=>exact List.all_eq_true.2 fun q hq=>PV.clean_of_dry (List.all_eq_true.1 h q hq)
 | agg ps=>exact PV.clean_of_dry (p:=.agg ps) h
 | bool b=>rfl
 | int k n=>rfl
 | str s=>rfl
 | _=>simp [PV.dry,PV.dry2,PV.dry1] at h
section
variable {P:Program} [WInv P]
theorem Zeu {f:FuncId} {args:List PV} {res:PV} {v:Value} (hg:isGo P f=true) (hr:res.dry=true) (hv:∀ x:Ctx,Rep x res v)
  (h:∀ (x:Ctx) (vs:Array Value),Pre x args none vs→WInv.I P x.W→Calls P f vs x.W fun e w'=>e = .returned v∧Below x.W.heap.size x.W w'):Contract P f args none res []:=by
 refine ⟨hg,PV.result_of_dry hr,rfl,fun x vs hpre hI=>?_⟩
 refine (h x vs hpre (hI x.W (Gr.refl _ _))).mono ?_
 rintro _ w' ⟨rfl,hb⟩
 have hF:∀ b o v,x.F b o→x.W.cell? ⟨b,o,none⟩=some v→w'.cell? ⟨b,o,none⟩=some v:=fun b o v hF hv=>(World.cell?_of_block (hb.block b (hpre.flt b o hF))).trans hv
 have st:Step x { x with W:=w' }:=⟨fun _ h=>⟨h,rfl⟩,fun _ _ h=>h,hF⟩
 refine ⟨{ x with W:=w' },v,rfl,rfl,st,?_,fun _ _ h=>.inl h,fun b o h=>Nat.lt_of_lt_of_le (hpre.flt b o h) hb.size,hv _,fun j os h=>by cases h⟩
 exact ⟨hb.os,hb.tape,hb.output,hb.size,fun b hlt _=>hb.block b hlt⟩
theorem Zay {f:FuncId} {args:List PV} {vals:List Value} {res:PV} {v:Value} (hg:isGo P f=true) (hp:ZnG args=some vals) (hr:res.dry=true) (hv:∀ x:Ctx,Rep x res v)
  (h:∀ w,WInv.I P w→Calls P f vals.toArray w fun e w'=>e = .returned v∧Below w.heap.size w w'):Contract P f args none res []:=
 Zeu hg hr hv fun x vs hpre hI=>by
  have e:vs.toList=vals:=ZkE args hp vs.toList (by simpa using hpre.size) fun i p v hp hv=>hpre.rep i p v hp (by simpa using hv)
  obtain rfl:vs=vals.toArray:=by rw [← e]
  exact h x.W hI
theorem Zjg {x:Ctx} (hflt:∀ b o,x.F b o→b<x.W.heap.size) {L:List ByteArray} {v:Value} (h:Rep x (.sl (L.map fun s=>[.str s])) v):∃ A n c,v = .slice A n c∧SlR x.W A n c L:=by
 generalize hels:(L.map fun s=>[PV.str s])=els at h
 cases h with
 | sl _ A n c k b off f hn hc hm hk hA hcell hh=>
   subst hels
   refine ⟨A,n,c,rfl,by simpa using hn,hc,hm,fun h0=>?_⟩
   have hL:0<L.length:=by rw [hn,List.length_map] at h0;exact h0
   have at_:∀ i s,L[i]? = some s→x.F b (off+i * k+0)∧x.W.cell? ⟨b,off+i * k+0,none⟩=some (.string s):=fun i s hi=>by
    have h1:(L.map fun s=>[PV.str s])[i]? = some [.str s]:=by rw [List.getElem?_map,hi];rfl
    obtain ⟨_,h2,h3⟩:=hcell i 0 _ _ h1 rfl
    have h4:=hh i 0 _ _ h1 rfl
    refine ⟨h2,?_⟩
    rw [h3]
    generalize f i 0=u at h4
    cases h4
    rfl
   have hk1:k=1:=by
    obtain ⟨s,hs⟩:∃ s,L[0]? = some s:=⟨_,List.getElem?_eq_getElem hL⟩
    exact (hk [.str s] (List.mem_map.2 ⟨s,List.mem_of_getElem? hs,rfl⟩)).symm
   subst hk1
   obtain ⟨s0,hs0⟩:∃ s,L[0]? = some s:=⟨_,List.getElem?_eq_getElem hL⟩
   refine ⟨b,off,fun i=>match L[i]? with | some s=>[.string s] | none=>[],hA h0,trivial,hflt _ _ (at_ 0 s0 hs0).1,fun i s hi=>?_⟩
   simp only [hi]
   refine ⟨rfl,fun j v hj=>?_⟩
   cases j with
   | zero=>simp at hj;subst hj;exact (at_ i s hi).2
   | succ j=>simp at hj
def Zxa (w:World):Ctx:=⟨fun _=>False,fun b _=>b<w.heap.size,w,fun _=>undef⟩
theorem ZkF {f:FuncId} {args:List PV} {res:PV} (hc:Contract P f args none res []) {w:World} {vs:Array Value} (hl:args.length=vs.size) (hr:∀ (i:Nat) (p:PV) (v:Value),args[i]? = some p→vs[i]? = some v→Rep (Zxa w) p v)
  (hI:∀ w',Below w.heap.size w w'→WInv.I P w'):Calls P f vs w fun e w'=>∃ y v,y.W=w'∧e = .returned v∧Rep y res v∧Below w.heap.size w w':=by
 refine (hc.calls (Zxa w) vs (show Pre (Zxa w) args none vs from ⟨hl,hr,fun j os h=>(by cases h),fun g (h:False)=>h.elim,fun b o h=>h⟩) fun w' h=>hI w' ⟨h.os,h.tape,h.output,h.size,fun b hb=>h.block b hb fun ⟨j,os,e,_⟩=>by cases e⟩).mono ?_
 rintro e w' ⟨y,v,rfl,rfl,hp⟩
 exact ⟨y,v,rfl,rfl,hp.rep,hp.gr.os,hp.gr.tape,hp.gr.output,hp.gr.size,fun b hb=>hp.gr.block b hb fun ⟨j,os,e,_⟩=>by cases e⟩
theorem Zgv {f:FuncId} {args:List PV} {b:Bool} (hc:Contract P f args none (.bool b) []) {w:World} {vs:Array Value} (hl:args.length=vs.size) (hr:∀ (i:Nat) (p:PV) (v:Value),args[i]? = some p→vs[i]? = some v→Rep (Zxa w) p v)
  (hI:∀ w',Below w.heap.size w w'→WInv.I P w'):Calls P f vs w fun e w'=>e = .returned (.bool b)∧Below w.heap.size w w':=by
 refine (ZkF hc hl hr hI).mono ?_
 rintro e w' ⟨y,v,rfl,rfl,h,hb⟩
 cases h
 exact ⟨rfl,hb⟩
end
class EncPV (α:Type) [Enc α] where
 cs:α→List PV
 rep:∀ (w:World) (x:α) (vs:List Value),Enc.R (fun _=>True) w x vs→(cs x).length=Enc.k α∧∀ (j:Nat) (p:PV) (v:Value),(cs x)[j]? = some p→vs[j]? = some v→p.pure=true∧Rep (Zxa w) p v
theorem ZeG {α:Type} [Enc α] [EncPV α] {w:World} {A:Option Addr} {n c:Nat} {xs:List α} (h:SlR w A n c xs):Rep (Zxa w) (.sl (xs.map EncPV.cs)) (.slice A n c):=by
 obtain ⟨h1,h2,h3,h4⟩:=h
 rcases Nat.eq_zero_or_pos n with h0 | h0
 ·have:xs = []:=List.eq_nil_of_length_eq_zero (by omega)
  subst this
  subst h0
  exact .sl [] A 0 c 0 0 0 (fun _ _=>undef) rfl h2 h3 (by simp) (by omega) (fun i j e p he=>by simp at he) (fun i j e p he=>by simp at he)
 ·obtain ⟨b,off,css,hA,_,hlt,hx⟩:=h4 h0
  have key:∀ (i j:Nat) (e:List PV) (p:PV),(xs.map EncPV.cs)[i]? = some e→e[j]? = some p→∃ v,w.cell? ⟨b,off+i * Enc.k α+j,none⟩=some v∧p.pure=true∧Rep (Zxa w) p v:=fun i j e p he hp=>by
   rw [List.getElem?_map,Option.map_eq_some_iff] at he
   obtain ⟨x,hxi,rfl⟩:=he
   obtain ⟨hr,hc⟩:=hx i x hxi
   obtain ⟨hl,hrep⟩:=EncPV.rep w x (css i) hr
   have hj:j<(css i).length:=by rw [Enc.len hr,← hl];exact (List.getElem?_eq_some_iff.1 hp).1
   exact ⟨_,hc j _ (List.getElem?_eq_getElem hj),hrep j p _ hp (List.getElem?_eq_getElem hj)⟩
  refine .sl _ A n c (Enc.k α) b off (fun i j=>(w.cell? ⟨b,off+i * Enc.k α+j,none⟩).getD undef) (by simpa using h1) h2 h3 (fun e he=>?_) (fun _=>hA) (fun i j e p he hp=>?_) (fun i j e p he hp=>?_)
  ·obtain ⟨x,hxm,rfl⟩:=List.mem_map.1 he
   obtain ⟨i,hi⟩:=List.getElem?_of_mem hxm
   exact (EncPV.rep w x (css i) (hx i x hi).1).1
  ·obtain ⟨v,hv,hp1,_⟩:=key i j e p he hp
   refine ⟨hp1,hlt,?_⟩
   show w.cell? _=_
   rw [hv];rfl
  ·obtain ⟨v,hv,_,hr⟩:=key i j e p he hp
   rw [hv]
   exact hr
instance:EncPV Int:=⟨fun x=>[.int .i64 x],fun w x vs h=>⟨rfl,fun j p v hp hv=>by
 cases h
 cases j with
 | zero=>simp at hp hv;subst hp hv;exact ⟨rfl,.int .i64 x⟩
 | succ j=>simp at hp⟩⟩
instance:EncPV ByteArray:=⟨fun x=>[.str x],fun w x vs h=>⟨rfl,fun j p v hp hv=>by
 cases h
 cases j with
 | zero=>simp at hp hv;subst hp hv;exact ⟨rfl,.str x⟩
 | succ j=>simp at hp⟩⟩
end VL
end Go.Proofs.YtjoneoobolnnbaaGreatDoor
