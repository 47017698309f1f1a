/- A body runs, in values without addresses; a region whatever its order. No program is named. | An operation sees its operands and their objects alone; operations that do not meet may change places. No program is named. | A region whatever its order; a body does in the world what it does to the state. No program is named. | A body does in the world what it does to the state; what is said of a function. No program is named. | How a body is run by hand: states that are written out, one rule an operation. No program is named. | One rule for each form of operation. No program is named. | Rules for plain operations: numbers, strings, comparisons. No program is named. | States that are written out, again: what may be let go; counting. No program is named. | Calls with an object behind a pointer, and functions that take one. No program is named. | Rules for division, bits, shifts, conversion of numbers, min and max. No program is named. | An element of an array that is no place (a list of constants). No program is named. -/
import Derived.Test.YthmlnffponjikaaGreatDoorZa01
import Derived.LoopN
namespace Go.Proofs.YthmlnffponjikaaGreatDoor
namespace VL
open Go.RowKit

def wantedV (ops : Array Oper) (s : FS) (o : Oper) : Option Bool := match o.guard with
  | none => some true
  | some (j, want) => match (ops[j]?).bind (·.dst) with
    | some d => match s.tm d with
      | .bool b => some (b == want)
      | .tup [] => some false
      | _ => none
    | none => none
def keys0 : PV → List Nat
  | .ptr t _ _ | .elp t _ _ _ _ | .row t _ => [t]
  | _ => []
def keys1 : PV → List Nat
  | .ptr t _ _ | .elp t _ _ _ _ | .row t _ => [t]
  | .fn _ caps => caps.flatMap keys0
  | _ => []
def keys2 : PV → List Nat
  | .agg ps => ps.flatMap keys1
  | p => keys1 p
def keysI (f : Nat → Option (Gen × VObj)) (t : Nat) : List Nat := match f t with
  | some (_, .box cs) => cs.flatMap keys1
  | _ => []
def keysP (f : Nat → Option (Gen × VObj)) (p : PV) : List Nat := keys2 p ++ (keys2 p).flatMap (keysI f)
/-- Operations that look at no object. -/
def quiet : Op → Bool
  | .move _ | .assign _ | .nilCheck _ => true
  | _ => false
def keysO (s : FS) (o : Oper) : List Nat := if quiet o.op then [] else o.op.operands.toList.flatMap fun e => keysP s.ob (ev s e)
structure Agree (ops : Array Oper) (o : Oper) (s s' : FS) : Prop where
  ev : ∀ e ∈ o.op.operands, VL.ev s e = VL.ev s' e
  ng : s.ng = s'.ng
  ob : ∀ t ∈ keysO s o, s.ob t = s'.ob t
  wanted : wantedV ops s o = wantedV ops s' o
theorem Agree.refl (ops : Array Oper) (o : Oper) (s : FS) : Agree ops o s s := ⟨fun _ _ => rfl, rfl, fun _ _ => rfl, rfl⟩
/-- One operation: by what it does to the state, by a contract, or in whatever other way is shown of it. -/
inductive OpR (P : Program) [WInv P] (ops : Array Oper) (i : Nat) (o : Oper) (s : FS) : Upd → Prop
  | skip (hw : wantedV ops s o = some false) : OpR P ops i o s ⟨.tup [], []⟩
  | act {u : Upd} (hw : wantedV ops s o = some true) (h : ActR P i o s u) : OpR P ops i o s u
  | call {f : FuncId} {es : Array Operand} {ts : Array TypeId} {args : List PV} {us : List (Nat × Option (Gen × VObj))} {res : PV} (hw : wantedV ops s o = some true) (ho : o.op = .call { callee := .value (.func f), args := es, argTypes := ts })
      (ha : resA s.ob (es.toList.map (ev s)) = some (args, us)) (hc : Contract P f args none res []) : OpR P ops i o s ⟨res, us⟩
  | callO {f : FuncId} {es : Array Operand} {ts : Array TypeId} {pre post pre' post' : List PV} {t : Nat} {g : Gen} {cs qs obj' : List PV} {us us1 us2 us3 : List (Nat × Option (Gen × VObj))} {res : PV} (hw : wantedV ops s o = some true) (ho : o.op = .call { callee := .value (.func f), args := es, argTypes := ts })
      (he : es.toList.map (ev s) = pre ++ .ptr t g 0 :: post) (hob : getOb s.ob t g = some (.box cs)) (h1 : resA s.ob pre = some (pre', us1)) (h2 : resL s.ob cs = some (qs, us2)) (h3 : resA s.ob post = some (post', us3)) (hus : us = us1 ++ (us2 ++ us3))
      (hc : Contract P f (pre' ++ .ptr pre.length (0, pre.length) 0 :: post') (some (pre.length, qs)) res obj') : OpR P ops i o s ⟨res, us ++ [(t, some (g, .box obj'))]⟩
  | any {u : Upd} (hw : wantedV ops s o = some true) (h : ∀ (s' : FS) (r : Run), Agree ops o s s' → r.I = WInv.I P → OpOK P r o i s' u) : OpR P ops i o s u
def fpOK (fp : Option (List Nat × List Nat)) (K W : List Nat) : Bool := match fp with
  | none => true
  | some (k, w) => K.all (k.contains ·) && W.all (w.contains ·)
inductive RunO (P : Program) [WInv P] (ops : Array Oper) (fp : Nat → Option (List Nat × List Nat)) : List Nat → FS → FS → Prop
  | nil {s : FS} : RunO P ops fp [] s s
  | cons {i : Nat} {L : List Nat} {o : Oper} {u : Upd} {s s' : FS} (ho : ops[i]? = some o) (h : OpR P ops i o s u) (hf : fpOK (fp i) (keysO s o) (u.obs.map (·.1)) = true) (hr : RunO P ops fp L (s.app o.dst u) s') : RunO P ops fp (i :: L) s s'
def indep (ops : Array Oper) (fp : Nat → Option (List Nat × List Nat)) (k i : Nat) : Bool := match ops[k]?, ops[i]?, fp k, fp i with
  | some ok, some oi, some (Kk, Wk), some (Ki, Wi) => ok.apart ops oi && Wk.all (fun t => !Ki.contains t && !Wi.contains t) && Wi.all (fun t => !Kk.contains t)
  | _, _, _, _ => false
def reach (ops : Array Oper) : Nat → Nat → Nat → Bool
  | 0, _, _ => false
  | n + 1, k, i => match ops[i]? with
    | some o => o.after.toList.any fun e => Region.binds .any e && (e.on == k || reach ops n k e.on)
    | none => false
def drawOK (ops : Array Oper) (fp : Nat → Option (List Nat × List Nat)) : Bool :=
  (List.range ops.size).all fun i => ((ops[i]?).map fun o => o.after.toList.all fun e => !Region.binds .any e || decide (e.on < i)).getD false && (List.range i).all fun k => indep ops fp k i || reach ops ops.size k i
inductive Ex where
  | normal
  | exit (id : Nat)
  | ret
  deriving DecidableEq
def Ex.to : Ex → Exit
  | .normal => .normal
  | .exit id => .exit id
  | .ret => .ret
def Ex.block (id : Nat) : Ex → Ex
  | .exit k => if k = id then .normal else .exit k
  | e => e
/-- One may see the state so. -/
def Shift (s s1 : FS) : Prop := ∀ (r : Run) (a : Act) (x : Ctx), RstX r (fun _ => False) s a x → ∃ y : Ctx, y.W = x.W ∧ RstX r (fun _ => False) s1 a y
inductive RunC (P : Program) [WInv P] : Code → FS → Ex → FS → Prop
  | skip {s : FS} : RunC P .skip s .normal s
  | label {s : FS} {l : Nat} : RunC P (.label l) s .normal s
  | ret {s : FS} : RunC P .ret s .ret s
  | exit {s : FS} {id : Nat} : RunC P (.exit id) s (.exit id) s
  | seqN {c d : Code} {s s1 s2 : FS} {e : Ex} (h : RunC P c s .normal s1) (k : RunC P d s1 e s2) : RunC P (.seq c d) s e s2
  | seqX {c d : Code} {s s1 : FS} {e : Ex} (h : RunC P c s e s1) (he : e ≠ .normal) : RunC P (.seq c d) s e s1
  | cond {c : Operand} {x y : Code} {s s1 : FS} {e : Ex} {t : Bool} (hc : ev s c = .bool t) (h : RunC P (if t then x else y) s e s1) : RunC P (.cond c x y) s e s1
  | block {id : Nat} {c : Code} {s s1 : FS} {e : Ex} (h : RunC P c s e s1) : RunC P (.block id c) s (e.block id) s1
  | loopN {c : Code} {s s1 s2 : FS} {e : Ex} (h : RunC P c s .normal s1) (k : RunC P (.loop c) s1 e s2) : RunC P (.loop c) s e s2
  | loopX {c : Code} {s s1 : FS} {e : Ex} (h : RunC P c s e s1) (he : e ≠ .normal) : RunC P (.loop c) s e s1
  | region {id : Nat} {ops : Array Oper} {draw : Bool} {s s1 : FS} (fp : Nat → Option (List Nat × List Nat)) (h : RunO P ops fp (List.range ops.size) s s1) (hd : draw = true → drawOK ops fp = true) : RunC P (.region id ops draw) s .normal ⟨s1.tm, s1.ob, s1.ng + 1⟩
  | shift {c : Code} {s s1 s2 : FS} {e : Ex} (hs : Shift s s1) (h : RunC P c s1 e s2) : RunC P c s e s2
def codeOK (N : Nat) : Code → Bool
  | .region _ ops _ => ops.all fun o => match o.dst with | some d => decide (d < N) | none => true
  | .seq a b => codeOK N a && codeOK N b
  | .cond _ a b => codeOK N a && codeOK N b
  | .block _ c => codeOK N c
  | .loop c => codeOK N c
  | _ => true

/- One operation. -/
section
variable {P : Program} [WInv P] {r : Run} {ops : Array Oper} {i : Nat} {o : Oper} {s : FS} {u : Upd}
theorem wanted_sound {S : Nat → Prop} {a : Act} {x : Ctx} {b : Bool} (hX : RstX r S s a x) (h : wantedV ops s o = some b) : Region.wanted o (yielded ops a.tmps) = b := by
  unfold wantedV at h
  unfold Region.wanted
  cases hg : o.guard with
  | none => rw [hg] at h; simpa using h
  | some q =>
    obtain ⟨j, want⟩ := q
    rw [hg] at h
    simp only at h ⊢
    unfold yielded
    cases hd : (ops[j]?).bind (·.dst) with
    | none => rw [hd] at h; simp at h
    | some d =>
      rw [hd] at h
      simp only at h
      simp only [Option.bind_some]
      have hr := hX.tm d
      rw [Array.getD_eq_getD_getElem?] at hr
      split at h
      · rename_i t ht
        rw [ht] at hr
        injection h with h
        cases hv : a.tmps[d]? with
        | none => rw [hv] at hr; exact absurd hr (by intro hr; cases hr)
        | some v =>
          rw [hv] at hr
          cases hr
          simp only
          rw [← h]
          cases t <;> cases want <;> rfl
      · rename_i ht
        rw [ht] at hr
        injection h with h
        subst h
        cases hv : a.tmps[d]? with
        | none => simp
        | some v =>
          rw [hv] at hr
          generalize hw : (some v).getD undef = w at hr
          cases hr
          simp at hw
          subst hw
          simp
      · cases h
theorem opR_sound (hI : r.I = WInv.I P) (ho : ops[i]? = some o) (h : OpR P ops i o s u) {S : Nat → Prop} {a : Act} {x : Ctx} {Q : Exit → Act → World → Prop} {K : Act → World → Prop} (hX : RstX r S s a x) (hi : ¬ S i) (hd : ∀ k, o.dst = some k → k < r.N)
    (hK : ∀ a' y, RstX r (fun j => S j ∨ j = i) (s.app o.dst u) a' y → K a' y.W) : wpOp P ops Q i K a x.W := by
  unfold wpOp
  simp only [ho]
  have go : OpOK P r o i s u → wantedV ops s o = some true → (if Region.wanted o (yielded ops a.tmps) = true then Oper.wp P o a x.W K Q ∨ (o.asks P a x.W ∧ LetsOut Q) else K (a.put o.dst undef) x.W) := fun hok hw => by
    rw [if_pos (wanted_sound hX hw)]
    exact .inl (Oper.wp_mono (fun a' W' ⟨y, hy, hR⟩ => hy ▸ hK a' y hR) (hok S a x Q hX hi hd))
  cases h with
  | skip hw =>
    rw [if_neg (by rw [wanted_sound hX hw]; simp)]
    exact hK _ x ((hX.pureVal hd (.tup [] #[] rfl (fun i p v hp => by simp at hp))).moreS fun _ h => .inl h)
  | act hw h => exact go (ok_act h) hw
  | call hw hop ha hc => exact go (ok_call hop ha hc hI) hw
  | callO hw hop he hob h1 h2 h3 hus hc => exact go (ok_callO hop he hob h1 h2 h3 hus hc hI) hw
  | any hw h => exact go (h s r (Agree.refl ops o s) hI) hw
/-- In the text's order. -/
theorem runO_text (hI : r.I = WInv.I P) {fp : Nat → Option (List Nat × List Nat)} {L : List Nat} {s s' : FS} (h : RunO P ops fp L s s') (hN : ∀ (i : Nat) (o : Oper), ops[i]? = some o → ∀ k, o.dst = some k → k < r.N) :
    ∀ {S : Nat → Prop} {a : Act} {x : Ctx} {Q : Exit → Act → World → Prop}, RstX r S s a x → L.Nodup → (∀ i ∈ L, ¬ S i) → (∀ a' y S', RstX r S' s' a' y → Q .normal a' y.W) → wpOps P ops Q L a x.W := by
  induction h with
  | nil => exact fun hX _ _ hQ => hQ _ _ _ hX
  | cons ho h hf hr ih =>
    intro S a x Q hX hnd hS hQ
    rw [wpOps_cons]
    refine opR_sound hI ho h hX (hS _ (List.mem_cons_self ..)) (hN _ _ ho) fun a' y hY => ?_
    refine ih hY (List.nodup_cons.1 hnd).2 (fun j hj hSj => ?_) hQ
    rcases hSj with h1 | h1
    · exact hS j (List.mem_cons_of_mem _ hj) h1
    · subst h1
      exact (List.nodup_cons.1 hnd).1 hj
end
end VL
end Go.Proofs.YthmlnffponjikaaGreatDoor
namespace Go.Proofs.YthmlnffponjikaaGreatDoor
namespace VL
open Go.RowKit

section
variable {f f' : Nat → Option (Gen × VObj)}
theorem getOb_congr {t : Nat} (h : f t = f' t) (g : Gen) : getOb f t g = getOb f' t g := by unfold getOb; rw [h]
theorem res1_congr {p : PV} (h : ∀ t ∈ keys1 p, f t = f' t) : res1 f p = res1 f' p := by
  cases p <;> simp only [res1]
  rename_i t g
  rw [getOb_congr (h t (by simp [keys1])) g]
theorem resL_congr : ∀ {ps : List PV} (_ : ∀ t ∈ ps.flatMap keys1, f t = f' t), resL f ps = resL f' ps
  | [], _ => rfl
  | p :: ps, h => by
    simp only [resL]
    rw [res1_congr fun t ht => h t (by simp [ht]), resL_congr fun t ht => h t (by
      rw [List.flatMap_cons]; exact List.mem_append_right _ ht)]
theorem res_congr {p : PV} (h : ∀ t ∈ keys2 p, f t = f' t) : res f p = res f' p := by
  cases p with
  | agg ps => simp only [res]; rw [resL_congr h]
  | _ => simp only [keys2] at h; simp only [res]; exact res1_congr h
theorem resA_congr : ∀ {ps : List PV} (_ : ∀ p ∈ ps, ∀ t ∈ keys2 p, f t = f' t), resA f ps = resA f' ps
  | [], _ => rfl
  | p :: ps, h => by
    simp only [resA]
    rw [res_congr (h p (List.mem_cons_self ..)), resA_congr fun q hq => h q (List.mem_cons_of_mem _ hq)]
theorem readAt_congr {p : PV} (h : ∀ t ∈ keys1 p, f t = f' t) : readAt f p = readAt f' p := by
  cases p <;> simp only [readAt] <;> rw [getOb_congr (h _ (by simp [keys1])) _]
theorem lenV_congr {p : PV} (h : ∀ t ∈ keys1 p, f t = f' t) : lenV f p = lenV f' p := by
  cases p <;> simp only [lenV] <;> rw [getOb_congr (h _ (by simp [keys1])) _]
theorem elsV_congr {p : PV} (h : ∀ t ∈ keys1 p, f t = f' t) : elsV f p = elsV f' p := by
  cases p <;> simp only [elsV] <;> rw [getOb_congr (h _ (by simp [keys1])) _]
theorem pubV_congr {p : PV} (h : ∀ t ∈ keys1 p, f t = f' t) : pubV f p = pubV f' p := by
  cases p <;> simp only [pubV] <;> rw [getOb_congr (h _ (by simp [keys1])) _]
end
theorem keys1_2 {p : PV} {t : Nat} (h : t ∈ keys1 p) : t ∈ keys2 p := by
  cases p <;> first | exact h | (simp [keys1] at h)
theorem keys2_P {f : Nat → Option (Gen × VObj)} {p : PV} {t : Nat} (h : t ∈ keys2 p) : t ∈ keysP f p := List.mem_append_left _ h
theorem keys_cells {p : PV} : p.cells.flatMap keys1 = keys2 p := by
  cases p <;> simp [PV.cells, keys2, keys1]
/-- The cells that are filled in lead where the parts lead. -/
theorem fillP_keys {place : Nat → Option (Nat × Nat)} : ∀ (parts : List (Nat × PV)) {cs out : List PV} (_ : fillP place cs parts = some out), ∀ t ∈ out.flatMap keys1, t ∈ cs.flatMap keys1 ∨ ∃ q ∈ parts, t ∈ keys2 q.2
  | [], cs, out, h, t, ht => by
    simp only [fillP, Option.some.injEq] at h
    subst h
    exact .inl ht
  | (i, v) :: parts, cs, out, h, t, ht => by
    simp only [fillP] at h
    split at h
    · cases h
    · split at h
      · cases h
      · rcases fillP_keys parts h t ht with h1 | ⟨q, hq, h1⟩
        · unfold writeL at h1
          rw [List.flatMap_append, List.flatMap_append, List.mem_append, List.mem_append] at h1
          rcases h1 with (h1 | h1) | h1
          · obtain ⟨p, hp, h2⟩ := List.mem_flatMap.1 h1
            exact .inl (List.mem_flatMap.2 ⟨p, List.mem_of_mem_take hp, h2⟩)
          · rw [keys_cells] at h1
            exact .inr ⟨_, List.mem_cons_self .., h1⟩
          · obtain ⟨p, hp, h2⟩ := List.mem_flatMap.1 h1
            exact .inl (List.mem_flatMap.2 ⟨p, List.mem_of_mem_drop hp, h2⟩)
        · exact .inr ⟨q, List.mem_cons_of_mem _ hq, h1⟩
theorem keys_const1 (v : Value) : keys1 (ofConst1 v) = [] := by
  unfold ofConst1
  split <;> rfl
section
variable {P : Program} {ops : Array Oper} {i : Nat} {o : Oper} {s s' : FS} {u : Upd}
theorem Agree.key (h : Agree ops o s s') {e : Operand} (he : e ∈ o.op.operands) (hq : quiet o.op = false := by rfl) : ∀ t ∈ keysP s.ob (VL.ev s e), s.ob t = s'.ob t := fun t ht =>
  h.ob t (by unfold keysO; rw [hq]; exact List.mem_flatMap.2 ⟨e, by simpa using he, ht⟩)
theorem Agree.key1 (h : Agree ops o s s') {e : Operand} (he : e ∈ o.op.operands) (hq : quiet o.op = false := by rfl) : ∀ t ∈ keys1 (VL.ev s' e), s.ob t = s'.ob t := fun t ht =>
  h.key he hq t (keys2_P (keys1_2 (by rw [h.ev e he]; exact ht)))
theorem Agree.key2 (h : Agree ops o s s') {e : Operand} (he : e ∈ o.op.operands) (hq : quiet o.op = false := by rfl) : ∀ t ∈ keys2 (VL.ev s' e), s.ob t = s'.ob t := fun t ht =>
  h.key he hq t (keys2_P (by rw [h.ev e he]; exact ht))
theorem Agree.keysP_eq (h : Agree ops o s s') {e : Operand} (he : e ∈ o.op.operands) (hq : quiet o.op = false := by rfl) : keysP s.ob (VL.ev s e) = keysP s'.ob (VL.ev s' e) := by
  have hk := h.key2 he hq
  rw [h.ev e he]
  unfold keysP
  congr 1
  rw [List.flatMap_def, List.flatMap_def]
  congr 1
  refine List.map_congr_left fun t ht => ?_
  unfold keysI
  rw [hk t ht]
theorem Agree.keys_eq (h : Agree ops o s s') : keysO s o = keysO s' o := by
  unfold keysO
  cases hq : quiet o.op with
  | true => rfl
  | false =>
  simp only [Bool.false_eq_true, if_false]
  have : ∀ (l : List Operand), (∀ e ∈ l, e ∈ o.op.operands) → (l.flatMap fun e => keysP s.ob (VL.ev s e)) = l.flatMap fun e => keysP s'.ob (VL.ev s' e) := fun l => by
    induction l with
    | nil => intro _; rfl
    | cons e l ih =>
      intro hl
      rw [List.flatMap_cons, List.flatMap_cons, h.keysP_eq (hl e (List.mem_cons_self ..)) hq, ih fun e' he' => hl e' (List.mem_cons_of_mem _ he')]
  exact this _ fun e he => by simpa using he
theorem Agree.trans {s2 : FS} (h : Agree ops o s s') (k : Agree ops o s' s2) : Agree ops o s s2 :=
  ⟨fun e he => (h.ev e he).trans (k.ev e he), h.ng.trans k.ng, fun t ht => (h.ob t ht).trans (k.ob t (by rw [← h.keys_eq]; exact ht)), h.wanted.trans k.wanted⟩
theorem act_congr (h : Agree ops o s s') : act P i o s = act P i o s' := by
  obtain ⟨dst, op, ty, pos, after, guard⟩ := o
  have hng := h.ng
  unfold act
  cases op with
  | move x => simp only; rw [h.ev x (by simp [Op.operands])]
  | assign x => simp only; rw [h.ev x (by simp [Op.operands])]
  | nilCheck x => simp only; rw [h.ev x (by simp [Op.operands])]
  | pick c a b => simp only; rw [h.ev c (by simp [Op.operands]), h.ev a (by simp [Op.operands]), h.ev b (by simp [Op.operands])]
  | alloc T => simp only; rw [hng]
  | box T x => simp only; rw [h.ev x (by simp [Op.operands]), hng]
  | build T parts =>
    have e1 : (parts.toList.map fun q => (q.1, ev s q.2)) = parts.toList.map fun q => (q.1, ev s' q.2) := List.map_congr_left fun q hq => by
      rw [h.ev q.2 (by simp only [Op.operands]; simp; exact ⟨q.1, by simpa using hq⟩)]
    simp only
    rw [e1]
  | buildSlice T n parts =>
    have e1 : (parts.toList.map fun q => (q.1, ev s q.2)) = parts.toList.map fun q => (q.1, ev s' q.2) := List.map_congr_left fun q hq => by
      rw [h.ev q.2 (by simp only [Op.operands]; simp; exact ⟨q.1, by simpa using hq⟩)]
    simp only
    rw [e1, hng]
    split
    · rename_i E _ _ _ d hT hdst
      split
      · rename_i te hte
        split
        · rename_i cs hf
          have : resL s.ob cs = resL s'.ob cs := resL_congr fun t ht => by
            rcases fillP_keys _ hf t ht with h1 | ⟨q, hq, h1⟩
            · obtain ⟨p, hp, h2⟩ := List.mem_flatMap.1 h1
              obtain ⟨l, hl, hp⟩ := List.mem_flatten.1 hp
              rw [List.eq_of_mem_replicate hl] at hp
              obtain ⟨_, _, _, _, _, _, _, hz⟩ := tyI_spec hte
              rw [hz] at hp
              obtain ⟨v, _, rfl⟩ := List.mem_map.1 hp
              rw [keys_const1] at h2
              cases h2
            · obtain ⟨q', hq', rfl⟩ := List.mem_map.1 hq
              have hm : q'.2 ∈ (Op.buildSlice T n parts).operands := by simp only [Op.operands]; simp; exact ⟨q'.1, by simpa using hq'⟩
              exact h.key2 hm rfl t h1
          rw [this]
        · rfl
      · rfl
    · rfl
  | load T x =>
    have hx : x ∈ (Op.load T x).operands := by simp [Op.operands]
    simp only
    rw [h.ev x hx, readAt_congr (h.key1 hx)]
  | store T x y =>
    have hx : x ∈ (Op.store T x y).operands := by simp [Op.operands]
    have hy : y ∈ (Op.store T x y).operands := by simp [Op.operands]
    simp only
    rw [h.ev x hx, h.ev y hy]
    have hk := h.key1 hx
    have hr : resL s.ob (ev s' y).cells = resL s'.ob (ev s' y).cells := resL_congr (by rw [keys_cells]; exact h.key2 hy)
    rw [hr]
    split
    · split
      · split
        · rename_i t g off hp
          rw [hp] at hk
          rw [getOb_congr (hk t (by simp [keys1])) g]
        · rename_i t g i' k off hp
          rw [hp] at hk
          rw [getOb_congr (hk t (by simp [keys1])) g]
        · rfl
      · rfl
    · rfl
  | fieldAddr T x f => simp only; rw [h.ev x (by simp [Op.operands])]
  | field T x f => simp only; rw [h.ev x (by simp [Op.operands])]
  | indexAddr T x y =>
    have hx : x ∈ (Op.indexAddr T x y).operands := by simp [Op.operands]
    simp only
    rw [h.ev x hx, h.ev y (by simp [Op.operands])]
    have hk := h.key1 hx
    split
    · split
      · split
        · rfl
        · rename_i t g hp
          rw [hp] at hk
          rw [getOb_congr (hk t (by simp [keys1])) g]
        · rfl
      · rfl
    · rfl
    · rfl
  | slice T x lo hi m =>
    have hx : x ∈ (Op.slice T x lo hi m).operands := by simp [Op.operands]
    cases m with
    | some m => rfl
    | none =>
      simp only
      rw [h.ev x hx, elsV_congr (h.key1 hx), pubV_congr (h.key1 hx)]
      have e1 : ∀ l, lo = some l → ev s l = ev s' l := fun l hl => h.ev l (by subst hl; simp [Op.operands])
      have e2 : ∀ l, hi = some l → ev s l = ev s' l := fun l hl => h.ev l (by subst hl; simp [Op.operands])
      cases lo with
      | none =>
        cases hi with
        | none => rfl
        | some b => simp only; rw [e2 b rfl]
      | some a =>
        cases hi with
        | none => simp only; rw [e1 a rfl]
        | some b => simp only; rw [e1 a rfl, e2 b rfl]
  | makeSlice T l c => simp only; rw [h.ev l (by simp [Op.operands]), h.ev c (by simp [Op.operands]), hng]
  | extract x k => simp only; rw [h.ev x (by simp [Op.operands])]
  | call c =>
    obtain ⟨callee, args, argTypes⟩ := c
    simp only
    cases callee with
    | builtin b =>
      cases b with
      | len =>
        simp only
        split
        · rename_i x T e1 e2
          have hx : x ∈ (Op.call { callee := .builtin .len, args := args, argTypes := argTypes }).operands := by rw [list1 e1]; simp [Op.operands, Call.operands]
          simp only [actLen]
          rw [h.ev x hx, lenV_congr (h.key1 hx)]
        · rfl
      | append =>
        simp only
        split
        · rename_i x y T T' e1 e2
          have hx : x ∈ (Op.call { callee := .builtin .append, args := args, argTypes := argTypes }).operands := by rw [list2 e1]; simp [Op.operands, Call.operands]
          have hy : y ∈ (Op.call { callee := .builtin .append, args := args, argTypes := argTypes }).operands := by rw [list2 e1]; simp [Op.operands, Call.operands]
          split
          · simp only [actAppend]
            rw [h.ev x hx, h.ev y hy, elsV_congr (h.key1 hy), hng]
            have hk := h.key1 hx
            split
            · split
              · split
                · rfl
                · rename_i t g hp
                  rw [hp] at hk
                  rw [getOb_congr (hk t (by simp [keys1])) g]
                · rfl
              · rfl
            · rfl
          · rfl
        · rfl
      | _ => rfl
    | _ => rfl
  | _ => rfl
theorem opR_congr [WInv P] (h : Agree ops o s s') (k : OpR P ops i o s u) : OpR P ops i o s' u := by
  cases k with
  | skip hw => exact .skip (by rw [← h.wanted]; exact hw)
  | act hw ha =>
    refine .act (by rw [← h.wanted]; exact hw) ?_
    cases ha with
    | fn ha => exact .fn (by rw [← act_congr h]; exact ha)
    | plain hp hs hr =>
      refine .plain (fun e he => by rw [← h.ev e he]; exact hp e he) hs fun w => ?_
      rw [execOp_congr (ρ := cv s') (ρ' := cv s) o hs fun e he => by unfold cv; rw [h.ev e he]]
      exact hr w
  | call hw ho ha hc =>
    rename_i f es ts args us res
    have hm : ∀ e ∈ es.toList, e ∈ o.op.operands := fun e he => by rw [ho]; simp [Op.operands, Call.operands]; exact .inr (by simpa using he)
    have e1 : es.toList.map (ev s) = es.toList.map (ev s') := List.map_congr_left fun e he => h.ev e (hm e he)
    refine .call (by rw [← h.wanted]; exact hw) ho ?_ hc
    rw [← ha, ← e1]
    refine (resA_congr fun p hp t ht => ?_).symm
    obtain ⟨e, he, rfl⟩ := List.mem_map.1 hp
    exact h.key (hm e he) (by rw [ho]; rfl) t (keys2_P ht)
  | callO hw ho he hob h1 h2 h3 hus hc =>
    rename_i f es ts pre post pre' post' t g cs qs obj' us us1 us2 us3 res
    have hm : ∀ e ∈ es.toList, e ∈ o.op.operands := fun e he => by rw [ho]; simp [Op.operands, Call.operands]; exact .inr (by simpa using he)
    have e1 : es.toList.map (ev s) = es.toList.map (ev s') := List.map_congr_left fun e he => h.ev e (hm e he)
    have hp : ∀ p ∈ pre ++ .ptr t g 0 :: post, ∀ t' ∈ keysP s.ob p, s.ob t' = s'.ob t' := fun p hp t' ht' => by
      rw [← he] at hp
      obtain ⟨e, he', rfl⟩ := List.mem_map.1 hp
      exact h.key (hm e he') (by rw [ho]; rfl) t' ht'
    have ht := hp (.ptr t g 0) (by simp)
    refine .callO (by rw [← h.wanted]; exact hw) ho (by rw [← e1]; exact he) (by rw [← hob]; exact (getOb_congr (ht t (by simp [keysP, keys2, keys1])) g).symm) ?_ ?_ ?_ hus hc
    · rw [← h1]; exact (resA_congr fun p hpp t' ht' => hp p (List.mem_append_left _ hpp) t' (keys2_P ht')).symm
    · rw [← h2]
      refine (resL_congr fun t' ht' => ht t' ?_).symm
      refine List.mem_append_right _ (List.mem_flatMap.2 ⟨t, by simp [keys2, keys1], ?_⟩)
      unfold keysI
      rw [getOb_some hob]
      exact ht'
    · rw [← h3]; exact (resA_congr fun p hpp t' ht' => hp p (List.mem_append_right _ (List.mem_cons_of_mem _ hpp)) t' (keys2_P ht')).symm
  | any hw ha => exact .any (by rw [← h.wanted]; exact hw) fun s2 r hA hI => ha s2 r (h.trans hA) hI
end
end VL
end Go.Proofs.YthmlnffponjikaaGreatDoor
namespace Go.Proofs.YthmlnffponjikaaGreatDoor
namespace VL
open Go.RowKit

theorem flips_in : ∀ (us : List (Nat × Option (Gen × VObj))) (f f' : Nat → Option (Gen × VObj)) (t : Nat) (_ : t ∈ us.map (·.1)), flips f us t = flips f' us t
  | [], _, _, _, h => by simp at h
  | q :: us, f, f', t, h => by
    show flips (setOb f q.1 q.2) us t = flips (setOb f' q.1 q.2) us t
    by_cases h1 : t ∈ us.map (·.1)
    · exact flips_in us _ _ t h1
    · have h2 : us.all (fun q => q.1 != t) = true := List.all_eq_true.2 fun q' hq' => by
        simp only [bne_iff_ne, ne_eq]
        exact fun e => h1 (List.mem_map.2 ⟨q', hq', e⟩)
      rw [flips_ne us _ t h2, flips_ne us _ t h2]
      rw [List.map_cons, List.mem_cons] at h
      have e : t = q.1 := h.resolve_right h1
      unfold setOb
      rw [if_pos e, if_pos e]
theorem flips_out {us : List (Nat × Option (Gen × VObj))} (f : Nat → Option (Gen × VObj)) {t : Nat} (h : t ∉ us.map (·.1)) : flips f us t = f t :=
  flips_ne us f t (List.all_eq_true.2 fun q' hq' => by
    simp only [bne_iff_ne, ne_eq]
    exact fun e => h (List.mem_map.2 ⟨q', hq', e⟩))
theorem app_comm {s : FS} {d e : Option Tmp} {u v : Upd} (hd : ∀ k, d = some k → e ≠ some k) (hw : ∀ t, t ∈ u.obs.map (·.1) → t ∉ v.obs.map (·.1)) : (s.app d u).app e v = (s.app e v).app d u := by
  unfold FS.app
  simp only [FS.mk.injEq, and_true]
  constructor
  · cases d with
    | none => rfl
    | some k =>
      cases e with
      | none => rfl
      | some l =>
        have hne : k ≠ l := fun h => hd k rfl (by rw [h])
        funext t
        simp only [setTm]
        by_cases h1 : t = l
        · rw [if_pos h1, if_neg (fun h2 => hne (h2.symm.trans h1)), if_pos h1]
        · rw [if_neg h1, if_neg h1]
  · change flips (flips s.ob u.obs) v.obs = flips (flips s.ob v.obs) u.obs
    funext t
    by_cases h1 : t ∈ v.obs.map (·.1)
    · have h2 : t ∉ u.obs.map (·.1) := fun h => hw t h h1
      rw [flips_out _ h2, flips_in _ (flips s.ob u.obs) s.ob t h1]
    · rw [flips_out _ h1]
      by_cases h2 : t ∈ u.obs.map (·.1)
      · exact flips_in _ _ _ t h2
      · rw [flips_out _ h2, flips_out _ h2, flips_out _ h1]
section
variable {P : Program} {ops : Array Oper} {fp : Nat → Option (List Nat × List Nat)}
/-- What an operation sees is untouched by one that it does not meet. -/
theorem agree_app {o o' : Oper} {s : FS} {u : Upd} (hd : ∀ k, o'.dst = some k → k ∉ o.looksAt ops) (hk : ∀ t ∈ keysO s o, t ∉ u.obs.map (·.1)) : Agree ops o s (s.app o'.dst u) := by
  have htm : ∀ t, (∀ k, o'.dst = some k → t ≠ k) → (s.app o'.dst u).tm t = s.tm t := fun t h => by
    show setTm s.tm o'.dst u.val t = _
    cases hd : o'.dst with
    | none => rfl
    | some k => simp only [setTm]; rw [if_neg (h k hd)]
  refine ⟨fun e he => ?_, rfl, fun t ht => (flips_out s.ob (hk t ht)).symm, ?_⟩
  · cases e with
    | tmp t => exact (htm t fun k h e => hd k h (by
        subst e
        exact List.mem_append_left _ (List.mem_filterMap.2 ⟨.tmp t, by simpa using he, rfl⟩))).symm
    | _ => rfl
  · unfold wantedV
    cases hg : o.guard with
    | none => rfl
    | some q =>
      obtain ⟨j, want⟩ := q
      simp only
      cases hj : (ops[j]?).bind (·.dst) with
      | none => rfl
      | some d =>
        simp only
        rw [htm d fun k h e => hd k h (by
          subst e
          refine List.mem_append_right _ ?_
          simp [hg, hj])]
theorem fp_keys {i : Nat} {K W k w : List Nat} (h : fpOK (fp i) K W = true) (e : fp i = some (k, w)) : (∀ t ∈ K, t ∈ k) ∧ ∀ t ∈ W, t ∈ w := by
  unfold fpOK at h
  rw [e] at h
  simp only [Bool.and_eq_true, List.all_eq_true] at h
  exact ⟨fun t ht => by simpa using h.1 t ht, fun t ht => by simpa using h.2 t ht⟩
theorem swap [WInv P] {k i : Nat} {ok oi : Oper} {s : FS} {uk ui : Upd} (hok : ops[k]? = some ok) (hoi : ops[i]? = some oi) (hk : OpR P ops k ok s uk) (hfk : fpOK (fp k) (keysO s ok) (uk.obs.map (·.1)) = true)
    (hi : OpR P ops i oi (s.app ok.dst uk) ui) (hfi : fpOK (fp i) (keysO (s.app ok.dst uk) oi) (ui.obs.map (·.1)) = true) (hind : indep ops fp k i = true) :
    OpR P ops i oi s ui ∧ fpOK (fp i) (keysO s oi) (ui.obs.map (·.1)) = true ∧ OpR P ops k ok (s.app oi.dst ui) uk ∧ fpOK (fp k) (keysO (s.app oi.dst ui) ok) (uk.obs.map (·.1)) = true ∧ (s.app ok.dst uk).app oi.dst ui = (s.app oi.dst ui).app ok.dst uk := by
  unfold indep at hind
  rw [hok, hoi] at hind
  split at hind
  · rename_i _ _ _ _ Kk Wk Ki Wi e1 e2 e3 e4
    injection e1 with e1
    injection e2 with e2
    subst e1 e2
    simp only [Bool.and_eq_true, List.all_eq_true, Bool.not_eq_true'] at hind
    obtain ⟨⟨hap, hW⟩, hW2⟩ := hind
    obtain ⟨a1, a2, a3⟩ := Oper.apart_spec hap
    obtain ⟨k1, k2⟩ := fp_keys hfk e3
    obtain ⟨i1, i2⟩ := fp_keys hfi e4
    -- backwards: what i saw behind k it sees before it
    have hback : Agree ops oi (s.app ok.dst uk) s := by
      have hkeys : ∀ t ∈ keysO (s.app ok.dst uk) oi, t ∉ uk.obs.map (·.1) := fun t ht hu => by
        have h1 := (hW t (k2 t hu)).1
        have h2 := i1 t ht
        rw [List.contains_iff_mem.2 h2] at h1
        cases h1
      have htm : ∀ t, (∀ k, ok.dst = some k → t ≠ k) → (s.app ok.dst uk).tm t = s.tm t := fun t h => by
        show setTm s.tm ok.dst uk.val t = _
        cases hd : ok.dst with
        | none => rfl
        | some k => simp only [setTm]; rw [if_neg (h k hd)]
      refine ⟨fun e he => ?_, rfl, fun t ht => flips_out s.ob (hkeys t ht), ?_⟩
      · cases e with
        | tmp t => exact htm t fun k h e => a1 k h (by
            subst e
            exact List.mem_append_left _ (List.mem_filterMap.2 ⟨.tmp t, by simpa using he, rfl⟩))
        | _ => rfl
      · unfold wantedV
        cases hg : oi.guard with
        | none => rfl
        | some q =>
          obtain ⟨j, want⟩ := q
          simp only
          cases hj : (ops[j]?).bind (·.dst) with
          | none => rfl
          | some d =>
            simp only
            rw [htm d fun k h e => a1 k h (by
              subst e
              refine List.mem_append_right _ ?_
              simp [hg, hj])]
    have hfwd : Agree ops ok s (s.app oi.dst ui) := agree_app a3 fun t ht hu => by
      have h1 := hW2 t (i2 t hu)
      have h2 := k1 t ht
      rw [List.contains_iff_mem.2 h2] at h1
      cases h1
    refine ⟨opR_congr hback hi, by rw [← hback.keys_eq]; exact hfi, opR_congr hfwd hk, by rw [← hfwd.keys_eq]; exact hfk, app_comm (fun k h e => a2 k h e) fun t ht hu => ?_⟩
    have h1 := (hW t (k2 t ht)).2
    rw [List.contains_iff_mem.2 (i2 t hu)] at h1
    cases h1
  · cases hind
/-- An operation that meets none before it may come first. -/
theorem front [WInv P] {L : List Nat} {s send : FS} (h : RunO P ops fp L s send) : ∀ {i : Nat}, i ∈ L → L.Pairwise (· < ·) → (∀ k ∈ L, k < i → indep ops fp k i = true) →
    ∃ o u, ops[i]? = some o ∧ OpR P ops i o s u ∧ fpOK (fp i) (keysO s o) (u.obs.map (·.1)) = true ∧ RunO P ops fp (L.erase i) (s.app o.dst u) send := by
  induction h with
  | nil => intro i hi; simp at hi
  | cons ho h hf hr ih =>
    rename_i k L o u s s'
    intro i hi hp hind
    by_cases e : i = k
    · subst e
      refine ⟨o, u, ho, h, hf, ?_⟩
      rw [List.erase_cons_head]
      exact hr
    · have hiL : i ∈ L := (List.mem_cons.1 hi).resolve_left e
      obtain ⟨hlt, hp'⟩ := List.pairwise_cons.1 hp
      obtain ⟨oi, ui, hoi, h1, h2, h3⟩ := ih hiL hp' fun k' hk' => hind k' (List.mem_cons_of_mem _ hk')
      obtain ⟨q1, q2, q3, q4, q5⟩ := swap ho hoi h hf h1 h2 (hind k (List.mem_cons_self ..) (hlt i hiL))
      refine ⟨oi, ui, hoi, q1, q2, ?_⟩
      rw [List.erase_cons_tail (by simpa using fun h => e h.symm)]
      refine .cons ho q3 q4 ?_
      rw [← q5]
      exact h3
theorem reach_listed {listed : Array Bool} (hdown : ∀ i o, ops[i]? = some o → listed.getD i true = true → ∀ e ∈ o.after.toList, Region.binds .any e = true → listed.getD e.on false = true)
    (hsz : listed.size = ops.size) : ∀ (n k i : Nat), reach ops n k i = true → (∀ o, ops[i]? = some o → ∀ e ∈ o.after.toList, Region.binds .any e = true → listed.getD e.on false = true) → listed.getD k false = true
  | 0, _, _, h, _ => by simp [reach] at h
  | n + 1, k, i, h, hi => by
    simp only [reach] at h
    split at h
    · rename_i o ho
      obtain ⟨e, he, h1⟩ := List.any_eq_true.1 h
      simp only [Bool.and_eq_true, Bool.or_eq_true, beq_iff_eq] at h1
      obtain ⟨hb, h2⟩ := h1
      have hl := hi o ho e he hb
      rcases h2 with h2 | h2
      · rw [← h2]; exact hl
      · refine reach_listed hdown hsz n k e.on h2 fun o' ho' => hdown _ o' ho' ?_
        rw [Array.getD_eq_getD_getElem?] at hl ⊢
        cases hx : listed[e.on]? with
        | none => rfl
        | some b => rw [hx] at hl; simpa using hl
    · cases h
end
end VL
end Go.Proofs.YthmlnffponjikaaGreatDoor
namespace Go.Proofs.YthmlnffponjikaaGreatDoor
namespace VL
open Go.RowKit

section
variable {P : Program} [WInv P] {r : Run} {ops : Array Oper} {fp : Nat → Option (List Nat × List Nat)}
/-- What is still to be done. -/
def leftL (n : Nat) (listed : Array Bool) : List Nat := (List.range n).filter fun i => !listed.getD i true
theorem mem_left {n i : Nat} {listed : Array Bool} : i ∈ leftL n listed ↔ i < n ∧ listed.getD i true = false := by
  unfold leftL
  simp
theorem left_set {n i : Nat} {listed : Array Bool} (hs : listed.size = n) (hi : i ∈ leftL n listed) : leftL n (listed.setIfInBounds i true) = (leftL n listed).erase i := by
  have hnd : (leftL n listed).Nodup := List.nodup_range.sublist List.filter_sublist
  rw [List.Nodup.erase_eq_filter hnd]
  unfold leftL
  rw [List.filter_filter]
  refine List.filter_congr fun j hj => ?_
  have hjn : j < n := by simpa using hj
  rw [Array.getD_eq_getD_getElem?, Array.getD_eq_getD_getElem?]
  by_cases e : j = i
  · subst e
    rw [Array.getElem?_setIfInBounds_self_of_lt (by rw [hs]; exact hjn)]
    simp
  · rw [Array.getElem?_setIfInBounds_ne (fun h => e h.symm)]
    simp [e]
/-- In whatever order. -/
theorem runO_any (hI : r.I = WInv.I P) (hdraw : drawOK ops fp = true) (hN : ∀ (i : Nat) (o : Oper), ops[i]? = some o → ∀ k, o.dst = some k → k < r.N) {send : FS} {Q : Exit → Act → World → Prop} (hQ : ∀ a' y S', RstX r S' send a' y → Q .normal a' y.W) :
    ∀ (fuel : Nat) (listed : Array Bool) {s : FS} {a : Act} {x : Ctx}, listed.size = ops.size → (leftL ops.size listed).length ≤ fuel →
      (∀ i o, ops[i]? = some o → listed.getD i true = true → ∀ e ∈ o.after.toList, Region.binds .any e = true → listed.getD e.on false = true) →
      RunO P ops fp (leftL ops.size listed) s send → RstX r (fun j => listed.getD j false = true) s a x → wpAny P .any ops Q fuel listed a x.W := by
  have hd : ∀ i o, ops[i]? = some o → (∀ e ∈ o.after.toList, Region.binds .any e = true → e.on < i) ∧ ∀ k, k < i → indep ops fp k i = true ∨ reach ops ops.size k i = true := fun i o ho => by
    unfold drawOK at hdraw
    have hin : i < ops.size := (Array.getElem?_eq_some_iff.1 ho).1
    have := List.all_eq_true.1 hdraw i (List.mem_range.2 hin)
    rw [ho] at this
    simp only [Option.map_some, Option.getD_some, Bool.and_eq_true, List.all_eq_true] at this
    refine ⟨fun e he hb => ?_, fun k hk => ?_⟩
    · have := this.1 e he
      rw [hb] at this
      simpa using this
    · have := this.2 k (List.mem_range.2 hk)
      simpa using this
  -- the first that is left is ready
  have hready : ∀ (listed : Array Bool), listed.size = ops.size → ∀ i, i ∈ leftL ops.size listed → ∃ j, j ∈ Region.ready .any ops listed := fun listed hs i => by
    induction i using Nat.strongRecOn with
    | _ i ih =>
      intro hi
      obtain ⟨hin, hil⟩ := mem_left.1 hi
      by_cases hall : ∃ o, ops[i]? = some o ∧ ∀ e ∈ o.after.toList, Region.binds .any e = true → listed.getD e.on false = true
      · obtain ⟨o, ho, hall⟩ := hall
        refine ⟨i, ?_⟩
        unfold Region.ready
        simp only [List.mem_filter, List.mem_range, Bool.and_eq_true, Bool.not_eq_true']
        refine ⟨hin, hil, ?_⟩
        rw [ho]
        simp only [Option.map_some, Option.getD_some]
        rw [← Array.all_toList, List.all_eq_true]
        intro e he
        by_cases hb : Region.binds .any e = true
        · simp [hall e he hb]
        · simp [hb]
      · have ho : ops[i]? = some ops[i] := Array.getElem?_eq_getElem hin
        have : ∃ e ∈ (ops[i]).after.toList, Region.binds .any e = true ∧ ¬ listed.getD e.on false = true := by
          refine Classical.byContradiction fun hno => hall ⟨_, ho, fun e he hb => Classical.byContradiction fun h => hno ⟨e, he, hb, h⟩⟩
        obtain ⟨e, he, hb, hl⟩ := this
        have hlt := (hd i _ ho).1 e he hb
        refine ih e.on hlt (mem_left.2 ⟨by omega, ?_⟩)
        have he2 : e.on < listed.size := by omega
        rw [Array.getD_eq_getD_getElem?, Array.getElem?_eq_getElem he2] at hl ⊢
        simpa using hl
  intro fuel
  induction fuel with
  | zero =>
    intro listed s a x hs hl _ hrun hX
    have hnil : leftL ops.size listed = [] := List.eq_nil_of_length_eq_zero (Nat.le_zero.1 hl)
    rw [hnil] at hrun
    cases hrun
    refine ⟨?_, hQ _ _ _ hX⟩
    rcases hr : Region.ready .any ops listed with _ | ⟨j, l⟩
    · rfl
    · have : j ∈ Region.ready .any ops listed := by rw [hr]; exact List.mem_cons_self ..
      unfold Region.ready at this
      simp only [List.mem_filter, List.mem_range, Bool.and_eq_true, Bool.not_eq_true'] at this
      have hm := (mem_left (n := ops.size)).2 ⟨this.1, this.2.1⟩
      rw [hnil] at hm
      cases hm
  | succ fuel ih =>
    intro listed s a x hs hl hdown hrun hX
    refine ⟨fun hr => ?_, fun i hi => ?_⟩
    · have hnil : leftL ops.size listed = [] := by
        rcases he : leftL ops.size listed with _ | ⟨j, l⟩
        · rfl
        · obtain ⟨k, hk⟩ := hready listed hs j (by rw [he]; exact List.mem_cons_self ..)
          rw [hr] at hk
          cases hk
      rw [hnil] at hrun
      cases hrun
      exact hQ _ _ _ hX
    · unfold Region.ready at hi
      simp only [List.mem_filter, List.mem_range, Bool.and_eq_true, Bool.not_eq_true'] at hi
      obtain ⟨hin, hil, hie⟩ := hi
      have hm : i ∈ leftL ops.size listed := mem_left.2 ⟨hin, hil⟩
      have ho : ops[i]? = some ops[i] := Array.getElem?_eq_getElem hin
      have hedges : ∀ o, ops[i]? = some o → ∀ e ∈ o.after.toList, Region.binds .any e = true → listed.getD e.on false = true := fun o ho e he hb => by
        rw [ho] at hie
        simp only [Option.map_some, Option.getD_some] at hie
        rw [← Array.all_toList, List.all_eq_true] at hie
        have := hie e he
        rw [hb] at this
        simpa using this
      have hpw : (leftL ops.size listed).Pairwise (· < ·) := List.Pairwise.filter _ List.pairwise_lt_range
      obtain ⟨o, u, ho', h1, _, h2⟩ := front hrun hm hpw fun k hk hlt => by
        obtain ⟨hkn, hkl⟩ := mem_left.1 hk
        rcases (hd i _ ho).2 k hlt with h | h
        · exact h
        · have := reach_listed hdown hs _ k i h hedges
          have hk2 : k < listed.size := by omega
          rw [Array.getD_eq_getD_getElem?, Array.getElem?_eq_getElem hk2] at this hkl
          simp only [Option.getD_some] at this hkl
          rw [this] at hkl
          cases hkl
      have hi2 : i < listed.size := by omega
      have hS : ¬ listed.getD i false = true := by
        rw [Array.getD_eq_getD_getElem?, Array.getElem?_eq_getElem hi2] at hil ⊢
        simp only [Option.getD_some] at hil ⊢
        rw [hil]
        simp
      refine opR_sound hI ho' h1 hX hS (hN _ _ ho') fun a' y hY => ?_
      rw [← left_set hs hm] at h2
      refine ih (listed.setIfInBounds i true) (by simpa using hs) ?_ (fun j oj hoj hj e he hb => ?_) h2 (hY.moreS fun j hj => ?_)
      · rw [left_set hs hm, List.length_erase_of_mem hm]
        omega
      · have key : listed.getD e.on false = true := by
          by_cases e1 : j = i
          · subst e1
            exact hedges oj hoj e he hb
          · rw [Array.getD_eq_getD_getElem?, Array.getElem?_setIfInBounds_ne (fun h => e1 h.symm)] at hj
            exact hdown j oj hoj (by rw [Array.getD_eq_getD_getElem?]; exact hj) e he hb
        rw [Array.getD_eq_getD_getElem?] at key ⊢
        by_cases e2 : e.on = i
        · rw [e2, Array.getElem?_setIfInBounds_self_of_lt hi2]; rfl
        · rw [Array.getElem?_setIfInBounds_ne (fun h => e2 h.symm)]; exact key
      · rw [Array.getD_eq_getD_getElem?]
        rcases hj with hj | hj
        · by_cases e2 : j = i
          · rw [e2, Array.getElem?_setIfInBounds_self_of_lt hi2]; rfl
          · rw [Array.getElem?_setIfInBounds_ne (fun h => e2 h.symm), ← Array.getD_eq_getD_getElem?]; exact hj
        · rw [hj, Array.getElem?_setIfInBounds_self_of_lt hi2]; rfl
end
theorem RstX.regionEnd {r : Run} {S : Nat → Prop} {s : FS} {a : Act} {x : Ctx} (h : RstX r S s a x) : RstX r (fun _ => False) ⟨s.tm, s.ob, s.ng + 1⟩ a x :=
  ⟨h.defers, h.size, h.gr, fun g hg => .inl (by rcases h.gens g hg with e | ⟨e, _⟩ <;> show g.1 < s.ng + 1 <;> omega), h.tm, h.ob, h.apart, h.flt, h.f0, h.fnew, h.rho, h.inv⟩
theorem exTo_block (id : Nat) (e : Ex) (Q : Exit → Act → World → Prop) (a : Act) (w : World) (h : Q (e.block id).to a w) : Exit.inBlock id Q e.to a w := by
  cases e with
  | exit k =>
    simp only [Ex.block] at h
    show if k = id then Q .normal a w else Q (.exit k) a w
    split at h
    · rename_i hk; rw [if_pos hk]; exact h
    · rename_i hk; rw [if_neg hk]; exact h
  | _ => exact h
theorem exTo_then {e : Ex} (he : e ≠ .normal) {K : Act → World → Prop} {Q : Exit → Act → World → Prop} {a : Act} {w : World} (h : Q e.to a w) : Exit.then K Q e.to a w := by
  cases e with
  | normal => exact absurd rfl he
  | _ => exact h
section
variable {P : Program} [WInv P]
/-- A body that runs so does so in the world. -/
theorem runC_sound (hmix : P.follows .mixedOrders = true) {c : Code} {s s1 : FS} {e : Ex} (h : RunC P c s e s1) :
    (∀ (r : Run) (a : Act) (x : Ctx) (Q : Exit → Act → World → Prop), (r.I = WInv.I P ∧ codeOK r.N c = true) → RstX r (fun _ => False) s a x → (∀ a' y, RstX r (fun _ => False) s1 a' y → Q e.to a' y.W) → c.wp P Q a x.W) ∧
    ∀ d, c = .loop d → ∃ n, ∀ (r : Run) (a : Act) (x : Ctx) (Q : Exit → Act → World → Prop), (r.I = WInv.I P ∧ codeOK r.N d = true) → RstX r (fun _ => False) s a x → (∀ a' y, RstX r (fun _ => False) s1 a' y → Q e.to a' y.W) → Code.rounds P d Q n a x.W := by
  induction h with
  | skip => exact ⟨fun r a x Q _ hX hQ => wp_skip (hQ _ _ hX), fun d hd => by cases hd⟩
  | label => exact ⟨fun r a x Q _ hX hQ => wp_label (hQ _ _ hX), fun d hd => by cases hd⟩
  | ret => exact ⟨fun r a x Q _ hX hQ => wp_ret (hQ _ _ hX), fun d hd => by cases hd⟩
  | exit => exact ⟨fun r a x Q _ hX hQ => wp_exit (hQ _ _ hX), fun d hd => by cases hd⟩
  | seqN h k ih1 ih2 =>
    refine ⟨fun r a x Q hok hX hQ => ?_, fun d hd => by cases hd⟩
    simp only [codeOK, Bool.and_eq_true] at hok
    exact wp_seq (ih1.1 r a x _ ⟨hok.1, hok.2.1⟩ hX fun a' y hY => ih2.1 r a' y Q ⟨hok.1, hok.2.2⟩ hY hQ)
  | seqX h he ih =>
    refine ⟨fun r a x Q hok hX hQ => ?_, fun d hd => by cases hd⟩
    simp only [codeOK, Bool.and_eq_true] at hok
    exact wp_seq (ih.1 r a x _ ⟨hok.1, hok.2.1⟩ hX fun a' y hY => exTo_then he (hQ a' y hY))
  | cond hc h ih =>
    rename_i co cx cy s s1 e t
    refine ⟨fun r a x Q hok hX hQ => ?_, fun d hd => by cases hd⟩
    simp only [codeOK, Bool.and_eq_true] at hok
    have hr := ev_rep hX co
    rw [hc] at hr
    generalize hv : a.eval co = v at hr
    cases hr
    exact wp_cond hv (ih.1 r a x Q (by cases t <;> simp [hok.1, hok.2.1, hok.2.2]) hX hQ)
  | block h ih =>
    refine ⟨fun r a x Q hok hX hQ => ?_, fun d hd => by cases hd⟩
    simp only [codeOK] at hok
    exact wp_block (ih.1 r a x _ hok hX fun a' y hY => exTo_block _ _ _ _ _ (hQ a' y hY))
  | loopN h k ih1 ih2 =>
    rename_i c s s1 s2 e
    have hL : ∃ n, ∀ (r : Run) (a : Act) (x : Ctx) (Q : Exit → Act → World → Prop), (r.I = WInv.I P ∧ codeOK r.N c = true) → RstX r (fun _ => False) s a x → (∀ a' y, RstX r (fun _ => False) s2 a' y → Q e.to a' y.W) → Code.rounds P c Q n a x.W := by
      obtain ⟨n, hn⟩ := ih2.2 c rfl
      refine ⟨n + 1, fun r a x Q hok hX hQ => ?_⟩
      rw [rounds_succ]
      exact ih1.1 r a x _ hok hX fun a' y hY => hn r a' y Q hok hY hQ
    refine ⟨fun r a x Q hok hX hQ => ?_, fun d hd => by cases hd; exact hL⟩
    obtain ⟨n, hn⟩ := hL
    exact wp_loop_rounds n (hn r a x Q hok hX hQ)
  | loopX h he ih =>
    rename_i c s s1 e
    have hL : ∀ (r : Run) (a : Act) (x : Ctx) (Q : Exit → Act → World → Prop), (r.I = WInv.I P ∧ codeOK r.N c = true) → RstX r (fun _ => False) s a x → (∀ a' y, RstX r (fun _ => False) s1 a' y → Q e.to a' y.W) → Code.rounds P c Q 1 a x.W := fun r a x Q hok hX hQ => by
      rw [rounds_succ]
      exact ih.1 r a x _ hok hX fun a' y hY => exTo_then he (hQ a' y hY)
    exact ⟨fun r a x Q hok hX hQ => wp_loop_rounds 1 (hL r a x Q hok hX hQ), fun d hd => by cases hd; exact ⟨1, hL⟩⟩
  | region fp h hd =>
    rename_i id ops draw s s1
    refine ⟨fun r a x Q hok hX hQ => ?_, fun d hd => by cases hd⟩
    have hN : ∀ (i : Nat) (o : Oper), ops[i]? = some o → ∀ k, o.dst = some k → k < r.N := fun i o ho k hk => by
      simp only [codeOK] at hok
      have := Array.all_eq_true.1 hok.2 i (Array.getElem?_eq_some_iff.1 ho).1
      rw [(Array.getElem?_eq_some_iff.1 ho).2, hk] at this
      simpa using this
    cases draw with
    | false => exact wp_region (runO_text hok.1 h hN hX List.nodup_range (fun _ _ h => h) fun a' y S' hY => hQ a' y hY.regionEnd)
    | true =>
      refine wp_region_any hmix ?_
      have hX' : RstX r (fun _ => False) s a { x with W := { x.W with drawn := x.W.drawn + 1 } } := hX.world rfl rfl rfl rfl
      have hleft : leftL ops.size (Array.replicate ops.size false) = List.range ops.size := by
        unfold leftL
        refine List.filter_eq_self.2 fun i hi => ?_
        have : i < ops.size := by simpa using hi
        simp [Array.getD_eq_getD_getElem?, this]
      refine runO_any hok.1 (hd rfl) hN (fun a' y S' hY => hQ a' y hY.regionEnd) ops.size (Array.replicate ops.size false) (by simp) (by rw [hleft]; simp) (fun i o ho hi => ?_) (by rw [hleft]; exact h) (hX'.moreS fun i hi => hi.elim)
      have : i < ops.size := (Array.getElem?_eq_some_iff.1 ho).1
      simp [Array.getD_eq_getD_getElem?, this] at hi
  | shift hs h ih =>
    refine ⟨fun r a x Q hok hX hQ => ?_, fun d hd => ?_⟩
    · obtain ⟨y, hy, hY⟩ := hs r a x hX
      rw [← hy]
      exact ih.1 r a y Q hok hY hQ
    · obtain ⟨n, hn⟩ := ih.2 d hd
      refine ⟨n, fun r a x Q hok hX hQ => ?_⟩
      obtain ⟨y, hy, hY⟩ := hs r a x hX
      rw [← hy]
      exact hn r a y Q hok hY hQ

theorem res1_pure {f : Nat → Option (Gen × VObj)} {p q : PV} {us : List (Nat × Option (Gen × VObj))} (h : res1 f p = some (q, us)) : q.pure = true := by
  cases p <;> simp only [res1] at h <;> first
    | (cases h; done)
    | (injection h with h; injection h with e1 e2; subst e1; rfl)
    | (split at h
       · injection h with h; injection h with e1 e2; subst e1; rfl
       · cases h)
theorem resL_pure' {f : Nat → Option (Gen × VObj)} : ∀ (ps : List PV) {qs : List PV} {us : List (Nat × Option (Gen × VObj))} (_ : resL f ps = some (qs, us)), qs.all PV.pure = true
  | [], qs, us, h => by
    simp only [resL, Option.some.injEq, Prod.mk.injEq] at h
    rw [← h.1]; rfl
  | p :: ps, qs, us, h => by
    simp only [resL] at h
    split at h
    · rename_i q us1 qs2 us2 h1 h2
      injection h with h
      injection h with e1 e2
      subst e1
      rw [List.all_cons, res1_pure h1, resL_pure' ps h2]; rfl
    · cases h
def initO (obj : Option (Nat × List PV)) (t : Nat) : Option (Gen × VObj) := match obj with
  | some (j, os) => if t = j then some ((0, j), .box os) else none
  | none => none
def initS (args : List PV) (obj : Option (Nat × List PV)) : FS := ⟨fun t => args.getD t (.tup []), initO obj, 1⟩
def resV1 (P : Program) (s : FS) : ResultVar → Option PV
  | .tmp t => some (s.tm t)
  | .cell a T => match tyI P T, readAt s.ob (s.tm a) with
    | some ti, some cs => takeT ti cs
    | _, _ => none
def resVs (P : Program) (s : FS) : List ResultVar → Option (List PV)
  | [] => some []
  | v :: vs => match resV1 P s v, resVs P s vs with
    | some p, some ps => some (p :: ps)
    | _, _ => none
def resM (a : Act) : ResultVar → Sem Value
  | .tmp t => pure (a.tmps.getD t undef)
  | .cell b t => do loadVar t (← asAddr (a.tmps.getD b undef))
theorem res_clean {f : Nat → Option (Gen × VObj)} {p q : PV} {us : List (Nat × Option (Gen × VObj))} (h : res f p = some (q, us)) : q.clean = true := by
  cases p with
  | agg ps =>
    simp only [res] at h
    cases h1 : resL f ps with
    | none => rw [h1] at h; simp at h
    | some z =>
      obtain ⟨qs, us'⟩ := z
      rw [h1] at h
      simp only [Option.map_some, Option.some.injEq, Prod.mk.injEq] at h
      obtain ⟨rfl, rfl⟩ := h
      exact resL_pure' ps h1
  | _ =>
    simp only [res] at h
    have := res1_pure h
    cases q <;> first | exact this | (simp [PV.pure] at this)
def oneOr : List PV → PV
  | [p] => p
  | ps => .tup ps
omit [WInv P] in
theorem results_sound {r : Run} {S : Nat → Prop} {s : FS} {a : Act} {x : Ctx} (hX : RstX r S s a x) : ∀ (vs : List ResultVar) {ps : List PV} (_ : resVs P s vs = some ps),
    ∃ ws : List Value, (vs.mapM (resM a)).run P x.W = .ok ws x.W ∧ ws.length = ps.length ∧ ∀ (j : Nat) (p : PV), ps[j]? = some p → Rep x p (ws.getD j undef)
  | [], ps, h => by
    simp only [resVs, Option.some.injEq] at h
    subst h
    exact ⟨[], by rw [List.mapM_nil]; rfl, rfl, fun j p hp => by simp at hp⟩
  | v :: vs, ps, h => by
    simp only [resVs] at h
    split at h
    · rename_i p ps' h1 h2
      injection h with h
      subst h
      obtain ⟨ws, h3, h4, h5⟩ := results_sound hX vs h2
      have hv : ∃ w, (resM a v).run P x.W = .ok w x.W ∧ Rep x p w := by
        cases v with
        | tmp t =>
          simp only [resV1, Option.some.injEq] at h1
          subst h1
          exact ⟨_, rfl, hX.tm t⟩
        | cell b T =>
          simp only [resV1] at h1
          split at h1
          · rename_i ti cs ht hr
            obtain ⟨bb, off, hv, hc⟩ := readAt_sound hX hr (hX.tm b)
            obtain ⟨w, h6, h7⟩ := run_loadVar_take ht hc h1
            refine ⟨w, ?_, h7⟩
            unfold resM
            simp only [hv]
            have h6' : (loadVar T ⟨bb, off, none⟩).run P x.W = .ok w x.W := by simpa [Instr.loadAt, Instr.sureAddr] using h6
            simp [asAddr, h6']
          · cases h1
      obtain ⟨w, h6, h7⟩ := hv
      refine ⟨w :: ws, ?_, by simp [h4], fun j q hq => ?_⟩
      · rw [List.mapM_cons, Sem.run_bind, h6]
        simp only [Result.andThen_ok, Sem.run_bind, h3, Sem.run_pure]
      · cases j with
        | zero => simp at hq; subst hq; exact h7
        | succ j => exact h5 j q (by simpa using hq)
    · cases h
theorem initO_some {obj : Option (Nat × List PV)} {t : Nat} {g : Gen} {o : VObj} (h : initO obj t = some (g, o)) : ∃ os, obj = some (t, os) ∧ g = (0, t) ∧ o = .box os := by
  unfold initO at h
  split at h
  · rename_i j os
    split at h
    · rename_i e
      subst e
      injection h with h
      injection h with e1 e2
      exact ⟨os, rfl, e1.symm, e2.symm⟩
    · cases h
  · cases h
/-- What a function does, from how its body runs. -/
theorem contract_of (hmix : P.follows .mixedOrders = true) {f : FuncId} {fn : Func} {c : Code} {args : List PV} {obj : Option (Nat × List PV)} {e : Ex} {s1 : FS} {ps qs : List PV} {us us2 : List (Nat × Option (Gen × VObj))} {obj' obj2 : List PV}
    (hg : isGo P f = true) (hf : P.funcs[f]? = some fn) (hb : fn.body = some c) (hn : args.length ≤ fn.ntmps) (hok : codeOK fn.ntmps c = true) (hrun : RunC P c (initS args obj) e s1) (he : e = .normal ∨ e = .ret)
    (hres : resVs P s1 fn.results.toList = some ps) (hpub : resA s1.ob ps = some (qs, us))
    (hobj : ∀ j os, obj = some (j, os) → s1.ob j = some ((0, j), .box obj2) ∧ resL s1.ob obj2 = some (obj', us2)) (hnone : obj = none → obj' = []) :
    Contract P f args obj (oneOr qs) obj' := by
  have hclean : (oneOr qs).result = true ∧ obj'.all PV.pure = true ∧ True := by
    refine ⟨?_, ?_, trivial⟩
    · have h1 : ∀ (l : List PV) {qs : List PV} {us : List (Nat × Option (Gen × VObj))}, resA s1.ob l = some (qs, us) → qs.all PV.clean = true := fun l => by
        induction l with
        | nil => intro qs us h; simp only [resA, Option.some.injEq, Prod.mk.injEq] at h; rw [← h.1]; rfl
        | cons p l ih =>
          intro qs us h
          simp only [resA] at h
          split at h
          · rename_i q us1 qs2 us2 h1 h2
            injection h with h
            injection h with e1 e2
            subst e1
            rw [List.all_cons, ih h2, Bool.and_true]
            exact res_clean h1
          · cases h
      have := h1 ps hpub
      unfold oneOr
      split
      · rename_i p
        have hp : p.clean = true := by simpa using this
        cases p <;> first | exact hp | (simp [PV.clean, PV.pure] at hp)
      · exact this
    · cases obj with
      | none => rw [hnone rfl]; rfl
      | some q => exact resL_pure' _ (hobj q.1 q.2 rfl).2
  refine ⟨hg, hclean.1, hclean.2.1, fun x vs hpre hinv => ?_⟩
  let r : Run := ⟨x.W, Dof x obj, (vs ++ Array.replicate (fn.ntmps - vs.size) undef).size, x.F, x.G, x.ρ, WInv.I P⟩
  have hNr : r.N = fn.ntmps := by
    have := hpre.size
    simp [r]
    omega
  have hX : RstX r (fun _ => False) (initS args obj) { tmps := vs ++ Array.replicate (fn.ntmps - vs.size) undef, defers := [] } x := by
    refine ⟨rfl, rfl, Gr.refl _ _, fun g hg => ?_, fun t => ?_, fun t g o ho => ?_, fun t t' g g' o o' b hne h1 h2 => ?_, hpre.flt, fun _ _ h => h, fun _ _ h => .inl h, fun _ h => ⟨h, rfl⟩, ⟨hinv, fun g hg => by obtain ⟨j, os, _, rfl⟩ := hpre.gen g hg; rfl⟩⟩
    · obtain ⟨j, os, _, rfl⟩ := hpre.gen g hg
      exact .inl Nat.zero_lt_one
    · show Rep x (args.getD t (.tup [])) _
      rw [Array.getD_eq_getD_getElem?, Array.getElem?_append, List.getD_eq_getElem?_getD]
      by_cases ht : t < vs.size
      · rw [if_pos ht, List.getElem?_eq_getElem (by rw [hpre.size]; exact ht), Array.getElem?_eq_getElem ht]
        exact hpre.rep t _ _ (List.getElem?_eq_getElem (by rw [hpre.size]; exact ht)) (Array.getElem?_eq_getElem ht)
      · rw [if_neg ht, List.getElem?_eq_none (by rw [hpre.size]; omega)]
        have : (Array.replicate (fn.ntmps - vs.size) undef)[t - vs.size]?.getD undef = undef := by
          rw [Array.getElem?_replicate]
          split <;> rfl
        rw [this]
        exact .tup [] #[] rfl (fun i p v hp => by simp at hp)
    · obtain ⟨os, h1, rfl, rfl⟩ := initO_some ho
      have := hpre.ob t os h1
      exact ⟨this.1, this.2⟩
    · obtain ⟨os, h3, _, _⟩ := initO_some h1
      obtain ⟨os', h4, _, _⟩ := initO_some h2
      rw [h3] at h4
      injection h4 with h4
      injection h4 with h4
      exact absurd h4 hne
  refine calls_of_wp hf hb ?_
  refine (runC_sound hmix hrun).1 r _ x _ ⟨rfl, by rw [hNr]; exact hok⟩ hX fun a' y hY => ?_
  obtain ⟨ws, h1, h2, h3⟩ := results_sound hY fn.results.toList hres
  obtain ⟨F1, st1, hY1, hR1, hf1⟩ := resA_sound ps (Flip.refl s1.ob) hY (g := fun j => ws.getD j undef) hpub h3
  -- the object
  obtain ⟨F2, st2, hY2, hob⟩ : ∃ F2, Step { y with F := F1 } { y with F := F2 } ∧ (∃ s2, RstX r (fun _ => False) s2 a' { y with F := F2 }) ∧ ∀ j os, obj = some (j, os) → ObRep { y with F := F2 } x.W.heap.size (Dof x obj) (0, j) (.box obj') := by
    cases hobj2 : obj with
    | none => exact ⟨F1, Step.refl _, ⟨_, hY1⟩, fun j os h => by cases h⟩
    | some q =>
      obtain ⟨j, os⟩ := q
      obtain ⟨g1, g2⟩ := hobj j os hobj2
      have g3 := hf1.box g1
      obtain ⟨_, b, T, cv, q1, q2, q3, q4, q5, q6, q7⟩ := hY1.ob j _ _ g3
      obtain ⟨F2, st2, hY2, hR2, hl2, hf2⟩ := resL_sound obj2 hf1 hY1 (g := fun j => cv.getD j undef) g2 (fun j p hp => by
        have hlt : j < cv.size := by rw [← q3]; exact (List.getElem?_eq_some_iff.1 hp).1
        have : cv.getD j undef = cv[j] := by simp [hlt]
        rw [this]
        exact q5 j p _ hp (Array.getElem?_eq_getElem hlt))
      refine ⟨F2, st2, ⟨_, hY2⟩, fun j' os' h => ?_⟩
      injection h with h
      injection h with e1 e2
      subst e1 e2
      obtain ⟨_, b2, T2, cv2, w1, w2, w3, w4, w5, w6, w7⟩ := hY2.ob j _ _ (hf2.box g1)
      change y.ρ (0, j) = _ at q1 w1
      rw [q1] at w1
      injection w1 with w1
      injection w1 with w1
      injection w1 with w1
      subst w1
      refine ⟨b, T, cv, q1, q2, by rw [hl2, q3], fun p hp => ?_, fun k p v hp hv => ?_, ?_, w7⟩
      · obtain ⟨k, hk⟩ := List.getElem?_of_mem hp
        exact PV.cell_of_pure (hR2 k p hk).1
      · have := (hR2 k p hp).2
        rw [Array.getD_eq_getD_getElem?, hv] at this
        exact this
      · rw [← hobj2]; exact q6
  obtain ⟨s2, hY2⟩ := hY2
  have hstep : Step x { y with F := F2 } := by
    refine ⟨fun g hg => hY2.rho g hg, fun b o hb => hY2.f0 b o hb, fun b o v hb hv => ?_⟩
    have hlt := hpre.flt b o hb
    have hnD : ¬ Dof x obj b := fun ⟨j, os, ho, hbk⟩ => by
      obtain ⟨_, b2, T, cv, q1, _, _, _, _, _, q7⟩ := hpre.ob j os ho
      rw [q1] at hbk
      obtain rfl : b2 = b := by simpa [blk] using hbk
      exact q7 o hb
    exact (World.cell?_of_block (hY2.gr.block b hlt hnD)).trans hv
  have hend : (results fn a'.tmps).run P y.W = .ok (if ws.length = 1 then ws.getD 0 undef else .tuple ws.toArray) y.W := by
    have : (fn.results.mapM (resM a')).run P y.W = .ok ws.toArray y.W := by
      rw [Array.mapM_eq_mapM_toList, map_eq_pure_bind, Sem.run_bind, h1]
      rfl
    have e : results fn a'.tmps = (fn.results.mapM (resM a') >>= fun vs => pure (if h : vs.size = 1 then vs[0] else .tuple vs)) := by
      unfold results
      congr 1
    rw [e, Sem.run_bind, this]
    simp only [Result.andThen_ok, Sem.run_pure]
    congr 1
    by_cases hl : ws.length = 1
    · simp [hl]
    · simp [hl]
  have hfin : ∃ v, (results fn a'.tmps).run P y.W = .ok v y.W ∧ (fun e W' => ∃ y v, y.W = W' ∧ e = Ending.returned v ∧ Post x y obj (oneOr qs) obj' v) (Ending.returned v) y.W := by
    refine ⟨_, hend, { y with F := F2 }, _, rfl, rfl, hstep, hY2.gr, hY2.fnew, hY2.flt, ?_, hob⟩
    have hR : ∀ (j : Nat) (q : PV), qs[j]? = some q → Rep { y with F := F2 } q (ws.getD j undef) := fun j q hq => (hR1 j q hq).2.step st2
    have hlq : qs.length = ws.length := by rw [resA_len _ hpub, h2]
    unfold oneOr
    split
    · rename_i p
      rw [if_pos (by simpa using hlq.symm)]
      exact hR 0 p rfl
    · rename_i hne
      have hn1 : ¬ ws.length = 1 := fun h => by
        rw [h] at hlq
        match qs, hlq with
        | [q], _ => exact hne q rfl
      rw [if_neg hn1]
      refine .tup qs ws.toArray (by simpa using hlq) fun j q v hq hv => ?_
      have := hR j q hq
      have hv' : ws[j]? = some v := by simpa using hv
      rw [List.getD_eq_getElem?_getD, hv'] at this
      exact this
  rcases he with rfl | rfl
  · exact ⟨hY.defers, hfin⟩
  · exact ⟨hY.defers, hfin⟩
end
end VL
end Go.Proofs.YthmlnffponjikaaGreatDoor
namespace Go.Proofs.YthmlnffponjikaaGreatDoor
namespace VL
open Go.RowKit

/-- The temporaries that are known, the last one first. -/
def look : List (Nat × PV) → Nat → PV
  | [], _ => .un
  | (k, v) :: r, t => if t = k then v else look r t
def lookO : List (Nat × Option (Gen × VObj)) → Nat → Option (Gen × VObj)
  | [], _ => none
  | (k, v) :: r, t => if t = k then v else lookO r t
def mkS (tm : List (Nat × PV)) (ob : List (Nat × Option (Gen × VObj))) (ng : Nat) : FS := ⟨look tm, lookO ob, ng⟩
def evL (tm : List (Nat × PV)) : Operand → PV
  | .tmp t => look tm t
  | .const v => ofConst v
  | .func f => .fn f []
  | .global _ => .un
theorem ev_mkS (tm : List (Nat × PV)) (ob : List (Nat × Option (Gen × VObj))) (ng : Nat) : ev (mkS tm ob ng) = evL tm := by funext e; cases e <;> rfl
def putT (d : Option Tmp) (v : PV) (tm : List (Nat × PV)) : List (Nat × PV) := match d with
  | some d => (d, v) :: tm
  | none => tm
theorem lookO_flips : ∀ (us ob : List (Nat × Option (Gen × VObj))), flips (lookO ob) us = lookO (us.reverse ++ ob)
  | [], ob => rfl
  | q :: us, ob => by
    show flips (setOb (lookO ob) q.1 q.2) us = _
    have : setOb (lookO ob) q.1 q.2 = lookO (q :: ob) := rfl
    rw [this, lookO_flips us (q :: ob)]
    simp
theorem mkS_app (tm : List (Nat × PV)) (ob : List (Nat × Option (Gen × VObj))) (ng : Nat) (d : Option Tmp) (v : PV) (us : List (Nat × Option (Gen × VObj))) :
    (mkS tm ob ng).app d ⟨v, us⟩ = mkS (putT d v tm) (us.reverse ++ ob) ng := by
  unfold FS.app mkS
  simp only [FS.mk.injEq, and_true]
  constructor
  · cases d <;> rfl
  · exact lookO_flips us ob

def PW (P : Program) [WInv P] (c : Code) (Q : Ex → FS → Prop) (s : FS) : Prop := ∃ e s', RunC P c s e s' ∧ Q e s'
/-- The operations from i on. -/
def GoL (P : Program) [WInv P] (ops : Array Oper) (draw : Bool) (i : Nat) (L : List Oper) (acc : List (List Nat × List Nat)) (s : FS) (K : FS → Prop) : Prop :=
  acc.length = i → ops.toList.drop i = L → ∃ (fps : List (List Nat × List Nat)) (s' : FS), (∀ fp : Nat → Option (List Nat × List Nat), (∀ j, j < fps.length → fp (i + j) = none ∨ fp (i + j) = fps[j]?) → RunO P ops fp ((List.range L.length).map (i + ·)) s s') ∧
    fps.length = L.length ∧ (draw = true → drawOK ops (fun j => (acc ++ fps)[j]?) = true) ∧ K s'
section
variable {P : Program} [WInv P] {ops : Array Oper} {draw : Bool} {i : Nat} {L : List Oper} {acc : List (List Nat × List Nat)} {s : FS} {K : FS → Prop} {Q : Ex → FS → Prop}
theorem fpOK_self (K W : List Nat) : fpOK (some (K, W)) K W = true := by
  simp [fpOK]
theorem go_nil (hd : draw = true → drawOK ops (fun j => acc[j]?) = true) (h : K s) : GoL P ops draw i [] acc s K := fun _ _ =>
  ⟨[], s, fun _ _ => .nil, rfl, by simpa using hd, h⟩
theorem go_op {o : Oper} {u : Upd} (h : OpR P ops i o s u) (k : GoL P ops draw (i + 1) L (acc ++ [(keysO s o, u.obs.map (·.1))]) (s.app o.dst u) K) : GoL P ops draw i (o :: L) acc s K := fun hacc hL => by
  have h2 : ops.toList.drop (i + 1) = L := by rw [← List.drop_drop, hL]; rfl
  obtain ⟨fps, s', h3, h4, h5, h6⟩ := k (by simp [hacc]) h2
  have ho : ops[i]? = some o := by
    have : (ops.toList.drop i)[0]? = some o := by rw [hL]; rfl
    rw [List.getElem?_drop] at this
    simpa using this
  refine ⟨(keysO s o, u.obs.map (·.1)) :: fps, s', fun fp hfp => ?_, by simp [h4], by simpa using h5, h6⟩
  have e : (List.range (o :: L).length).map (i + ·) = i :: (List.range L.length).map (i + 1 + ·) := by
    rw [List.length_cons, List.range_succ_eq_map, List.map_cons, List.map_map, Nat.add_zero]
    congr 1
    refine List.map_congr_left fun j _ => ?_
    simp only [Function.comp]
    omega
  rw [e]
  refine .cons ho h ?_ (h3 fp fun j hj => ?_)
  · rcases hfp 0 (by simp) with h | h
    · rw [Nat.add_zero] at h; rw [h]; rfl
    · rw [Nat.add_zero] at h; rw [h]; exact fpOK_self _ _
  · have := hfp (j + 1) (by simpa using hj)
    have e2 : i + (j + 1) = i + 1 + j := by omega
    rw [e2] at this
    simpa using this
theorem pw_region {id : Nat} (h : GoL P ops draw 0 ops.toList [] s fun s' => Q .normal ⟨s'.tm, s'.ob, s'.ng + 1⟩) : PW P (.region id ops draw) Q s := by
  obtain ⟨fps, s', h1, h2, h3, h4⟩ := h rfl rfl
  cases draw with
  | false =>
    refine ⟨.normal, _, .region (fun _ => none) ?_ (fun h => by cases h), h4⟩
    have := h1 (fun _ => none) fun j _ => .inl rfl
    simpa using this
  | true =>
    refine ⟨.normal, _, .region (fun j => fps[j]?) ?_ (fun _ => by simpa using h3 rfl), h4⟩
    have := h1 (fun j => fps[j]?) fun j _ => .inr (by simp)
    simpa using this
theorem pw_mono {a : Code} {Q' : Ex → FS → Prop} (h : PW P a Q s) (hq : ∀ e s, Q e s → Q' e s) : PW P a Q' s := by
  obtain ⟨e, s', h1, h2⟩ := h
  exact ⟨e, s', h1, hq _ _ h2⟩
def thenK (N : FS → Prop) (Q : Ex → FS → Prop) : Ex → FS → Prop
  | .normal, s => N s
  | e, s => Q e s
theorem pw_then {a b : Code} (h : PW P a (thenK (PW P b Q) Q) s) : PW P (.seq a b) Q s := by
  obtain ⟨e, s', h1, h2⟩ := h
  cases e with
  | normal =>
    obtain ⟨e2, s2, h3, h4⟩ := h2
    exact ⟨e2, s2, .seqN h1 h3, h4⟩
  | exit id => exact ⟨_, s', .seqX h1 (by simp), h2⟩
  | ret => exact ⟨_, s', .seqX h1 (by simp), h2⟩
end
/-- Codes one behind the other. -/
def PWs (P : Program) [WInv P] : List Code → (Ex → FS → Prop) → FS → Prop
  | [], Q, s => Q .normal s
  | c :: cs, Q, s => PW P c (thenK (PWs P cs Q) Q) s
section
variable {P : Program} [WInv P] {ops : Array Oper} {draw : Bool} {s : FS} {Q : Ex → FS → Prop} {cs : List Code}
theorem pws_nil (h : Q .normal s) : PWs P [] Q s := h
theorem pws_seq {a b : Code} (h : PWs P (a :: b :: cs) Q s) : PWs P (.seq a b :: cs) Q s := by
  refine pw_then (pw_mono h fun e s h => ?_)
  cases e <;> exact h
theorem pws_region {id : Nat} (h : GoL P ops draw 0 ops.toList [] s fun s' => PWs P cs Q ⟨s'.tm, s'.ob, s'.ng + 1⟩) : PWs P (.region id ops draw :: cs) Q s := pw_region h
theorem pws_skip (h : PWs P cs Q s) : PWs P (.skip :: cs) Q s := ⟨_, _, .skip, h⟩
theorem pws_label {l : Nat} (h : PWs P cs Q s) : PWs P (.label l :: cs) Q s := ⟨_, _, .label, h⟩
theorem pws_ret (h : Q .ret s) : PWs P (.ret :: cs) Q s := ⟨_, _, .ret, h⟩
theorem pws_exit {id : Nat} (h : Q (.exit id) s) : PWs P (.exit id :: cs) Q s := ⟨_, _, .exit, h⟩
theorem pws_cond {c : Operand} {x y : Code} {t : Bool} (hc : ev s c = .bool t) (h : PWs P ((if t then x else y) :: cs) Q s) : PWs P (.cond c x y :: cs) Q s := by
  obtain ⟨e, s', h1, h2⟩ := h
  exact ⟨e, s', .cond hc h1, h2⟩
theorem pws_true {c : Operand} {x y : Code} (hc : ev s c = .bool true) (h : PWs P (x :: cs) Q s) : PWs P (.cond c x y :: cs) Q s := pws_cond hc h
theorem pws_false {c : Operand} {x y : Code} (hc : ev s c = .bool false) (h : PWs P (y :: cs) Q s) : PWs P (.cond c x y :: cs) Q s := pws_cond hc h
theorem pws_split {c : Operand} {x y : Code} {t : Bool} (hc : ev s c = .bool t) (h1 : t = true → PWs P (x :: cs) Q s) (h2 : t = false → PWs P (y :: cs) Q s) : PWs P (.cond c x y :: cs) Q s := by
  cases t
  · exact pws_cond hc (h2 rfl)
  · exact pws_cond hc (h1 rfl)
def blockK (id : Nat) (N : FS → Prop) (Q : Ex → FS → Prop) : Ex → FS → Prop
  | .normal, s => N s
  | .exit k, s => if k = id then N s else Q (.exit k) s
  | .ret, s => Q .ret s
theorem bk_exit {id : Nat} {N : FS → Prop} (h : N s) : blockK id N Q (.exit id) s := by show if id = id then N s else _; rw [if_pos rfl]; exact h
theorem bk_other {id k : Nat} {N : FS → Prop} (hk : (k == id) = false) (h : Q (.exit k) s) : blockK id N Q (.exit k) s := by show if k = id then N s else _; rw [if_neg (by simpa using hk)]; exact h
theorem bk_normal {id : Nat} {N : FS → Prop} (h : N s) : blockK id N Q .normal s := h
theorem bk_ret {id : Nat} {N : FS → Prop} (h : Q .ret s) : blockK id N Q .ret s := h
theorem pw_of_one {c : Code} (h : PWs P [c] Q s) : PW P c Q s := pw_mono h fun e s h => by cases e <;> exact h
theorem pws_block {id : Nat} {c : Code} (h : PWs P [c] (blockK id (PWs P cs Q) Q) s) : PWs P (.block id c :: cs) Q s := by
  obtain ⟨e, s', h1, h2⟩ := pw_of_one h
  refine ⟨e.block id, s', .block h1, ?_⟩
  cases e with
  | exit k =>
    simp only [Ex.block]
    change (if k = id then PWs P cs Q s' else Q (.exit k) s') at h2
    split
    · rename_i hk; rw [if_pos hk] at h2; exact h2
    · rename_i hk; rw [if_neg hk] at h2; exact h2
  | normal => exact h2
  | ret => exact h2
/-- What a round of a loop must bring. -/
def roundK {α : Type} (St : α → Nat → FS) (J : α → Prop) (m : α → Nat) (a : α) (Q : Ex → FS → Prop) : Ex → FS → Prop
  | .normal, s => ∃ a' ng, J a' ∧ m a' < m a ∧ Shift s (St a' ng)
  | e, s => Q e s
theorem pws_loop {α : Type} {c : Code} (St : α → Nat → FS) (J : α → Prop) (m : α → Nat) (a0 : α) (ng0 : Nat) (h0 : J a0) (hs : Shift s (St a0 ng0)) (round : ∀ a ng, J a → PWs P [c] (roundK St J m a Q) (St a ng)) :
    PWs P (.loop c :: cs) Q s := by
  have key : ∀ n a ng, m a = n → J a → ∃ e s', RunC P (.loop c) (St a ng) e s' ∧ e ≠ .normal ∧ Q e s' := fun n => by
    induction n using Nat.strongRecOn with
    | _ n ih =>
      intro a ng hn hJ
      obtain ⟨e, s', h1, h2⟩ := pw_of_one (round a ng hJ)
      cases e with
      | normal =>
        obtain ⟨a', ng', h3, h4, h5⟩ := h2
        obtain ⟨e2, s2, h6, h7, h8⟩ := ih (m a') (hn ▸ h4) a' ng' rfl h3
        exact ⟨e2, s2, .loopN h1 (.shift h5 h6), h7, h8⟩
      | exit id => exact ⟨_, s', .loopX h1 (by simp), by simp, h2⟩
      | ret => exact ⟨_, s', .loopX h1 (by simp), by simp, h2⟩
  obtain ⟨e, s', h1, h2, h3⟩ := key _ a0 ng0 rfl h0
  refine ⟨e, s', .shift hs h1, ?_⟩
  cases e with
  | normal => exact absurd rfl h2
  | _ => exact h3
theorem rk_normal {α : Type} {St : α → Nat → FS} {J : α → Prop} {m : α → Nat} {a : α} (a' : α) (ng : Nat) (h1 : J a') (h2 : m a' < m a) (h3 : Shift s (St a' ng)) : roundK St J m a Q .normal s := ⟨a', ng, h1, h2, h3⟩
theorem rk_exit {α : Type} {St : α → Nat → FS} {J : α → Prop} {m : α → Nat} {a : α} {id : Nat} (h : Q (.exit id) s) : roundK St J m a Q (.exit id) s := h
theorem rk_ret {α : Type} {St : α → Nat → FS} {J : α → Prop} {m : α → Nat} {a : α} (h : Q .ret s) : roundK St J m a Q .ret s := h
/-- Some knowledge is let go. -/
theorem shift_drop {s s1 : FS} (h1 : ∀ t, s1.tm t = .un ∨ s1.tm t = s.tm t) (h2 : ∀ t, s1.ob t = none ∨ s1.ob t = s.ob t) (h3 : s.ng ≤ s1.ng) : Shift s s1 := fun r a x h => ⟨x, rfl, by
  refine ⟨h.defers, h.size, h.gr, fun g hg => .inl ?_, fun t => ?_, fun t g o ho => ?_, fun t t' g g' o o' b hne e1 e2 => ?_, h.flt, h.f0, h.fnew, h.rho, h.inv⟩
  · rcases h.gens g hg with e | ⟨_, e⟩
    · omega
    · exact e.elim
  · rcases h1 t with e | e
    · rw [e]; exact .un _
    · rw [e]; exact h.tm t
  · rcases h2 t with e | e
    · rw [e] at ho; cases ho
    · rw [e] at ho; exact h.ob t g o ho
  · rcases h2 t with e | e
    · rw [e] at e1; cases e1
    · rcases h2 t' with e' | e'
      · rw [e'] at e2; cases e2
      · rw [e] at e1; rw [e'] at e2; exact h.apart t t' g g' o o' b hne e1 e2⟩
theorem Shift.refl (s : FS) : Shift s s := fun _ _ x h => ⟨x, rfl, h⟩
theorem Shift.trans {s s1 s2 : FS} (h : Shift s s1) (k : Shift s1 s2) : Shift s s2 := fun r a x hx => by
  obtain ⟨y, h1, h2⟩ := h r a x hx
  obtain ⟨z, h3, h4⟩ := k r a y h2
  exact ⟨z, h3.trans h1, h4⟩
/-- .. between states that are written out. -/
theorem shift_list {tm tm' : List (Nat × PV)} {ob ob' : List (Nat × Option (Gen × VObj))} {ng ng' : Nat} (h1 : ∀ q ∈ tm', look tm q.1 = look tm' q.1) (h2 : ∀ q ∈ ob', lookO ob q.1 = lookO ob' q.1) (h3 : ng ≤ ng') : Shift (mkS tm ob ng) (mkS tm' ob' ng') := by
  refine shift_drop (fun t => ?_) (fun t => ?_) h3
  · by_cases ht : ∃ q ∈ tm', q.1 = t
    · obtain ⟨q, hq, rfl⟩ := ht
      exact .inr (h1 q hq).symm
    · left
      have : ∀ (l : List (Nat × PV)), (¬ ∃ q ∈ l, q.1 = t) → look l t = .un := fun l => by
        induction l with
        | nil => intro _; rfl
        | cons q l ih =>
          intro hl
          show (if t = q.1 then q.2 else look l t) = _
          rw [if_neg fun e => hl ⟨q, List.mem_cons_self .., e.symm⟩]
          exact ih fun ⟨q', hq', e⟩ => hl ⟨q', List.mem_cons_of_mem _ hq', e⟩
      exact this tm' ht
  · by_cases ht : ∃ q ∈ ob', q.1 = t
    · obtain ⟨q, hq, rfl⟩ := ht
      exact .inr (h2 q hq).symm
    · left
      have : ∀ (l : List (Nat × Option (Gen × VObj))), (¬ ∃ q ∈ l, q.1 = t) → lookO l t = none := fun l => by
        induction l with
        | nil => intro _; rfl
        | cons q l ih =>
          intro hl
          show (if t = q.1 then q.2 else lookO l t) = _
          rw [if_neg fun e => hl ⟨q, List.mem_cons_self .., e.symm⟩]
          exact ih fun ⟨q', hq', e⟩ => hl ⟨q', List.mem_cons_of_mem _ hq', e⟩
      exact this ob' ht
/-- How a call ends. -/
def RetQ (P : Program) (rs : List ResultVar) (res : PV) : Ex → FS → Prop
  | .exit _, _ => False
  | _, s => ∃ ps qs us, resVs P s rs = some ps ∧ resA s.ob ps = some (qs, us) ∧ oneOr qs = res
omit [WInv P] in
theorem rq_ret {rs : List ResultVar} {res : PV} {ps qs : List PV} {us : List (Nat × Option (Gen × VObj))} (h1 : resVs P s rs = some ps) (h2 : resA s.ob ps = some (qs, us)) (h3 : oneOr qs = res) : RetQ P rs res .ret s := ⟨ps, qs, us, h1, h2, h3⟩
omit [WInv P] in
theorem rq_normal {rs : List ResultVar} {res : PV} {ps qs : List PV} {us : List (Nat × Option (Gen × VObj))} (h1 : resVs P s rs = some ps) (h2 : resA s.ob ps = some (qs, us)) (h3 : oneOr qs = res) : RetQ P rs res .normal s := ⟨ps, qs, us, h1, h2, h3⟩
def argTm : Nat → List PV → List (Nat × PV)
  | _, [] => []
  | i, p :: ps => (i, p) :: argTm (i + 1) ps
theorem argTm_look : ∀ (args : List PV) (i t : Nat), look (argTm i args) t = .un ∨ (i ≤ t ∧ look (argTm i args) t = args.getD (t - i) (.tup []))
  | [], i, t => .inl rfl
  | p :: ps, i, t => by
    show (if t = i then p else look (argTm (i + 1) ps) t) = _ ∨ (_ ∧ (if t = i then p else look (argTm (i + 1) ps) t) = _)
    by_cases e : t = i
    · rw [if_pos e]
      right
      refine ⟨by omega, ?_⟩
      rw [e, Nat.sub_self]
      rfl
    · rw [if_neg e]
      rcases argTm_look ps (i + 1) t with h | ⟨h1, h2⟩
      · exact .inl h
      · right
        refine ⟨by omega, ?_⟩
        rw [h2]
        have : t - i = (t - (i + 1)) + 1 := by omega
        rw [this]
        rfl
/-- A function without an object: run its body from its arguments. -/
theorem contract_run (hmix : P.follows .mixedOrders = true) {f : FuncId} {fn : Func} {c : Code} {args : List PV} {res : PV} (hf : P.funcs[f]? = some fn) (hg : isGo P f = true) (hb : fn.body = some c) (hok : (decide (args.length ≤ fn.ntmps) && codeOK fn.ntmps c) = true)
    (h : PWs P [c] (RetQ P fn.results.toList res) (mkS (argTm 0 args) [] 1)) : Contract P f args none res [] := by
  simp only [Bool.and_eq_true, decide_eq_true_eq] at hok
  obtain ⟨e, s', h1, h2⟩ := pw_of_one h
  have hsh : Shift (initS args none) (mkS (argTm 0 args) [] 1) := shift_drop (fun t => by
    rcases argTm_look args 0 t with h | ⟨_, h⟩
    · exact .inl h
    · exact .inr h) (fun t => .inl rfl) (Nat.le_refl _)
  cases e with
  | exit id => exact h2.elim
  | normal =>
    obtain ⟨ps, qs, us, h3, h4, h5⟩ := h2
    subst h5
    exact contract_of (us2 := []) (obj2 := []) hmix hg hf hb hok.1 hok.2 (.shift hsh h1) (.inl rfl) h3 h4 (fun j os h => by cases h) (fun _ => rfl)
  | ret =>
    obtain ⟨ps, qs, us, h3, h4, h5⟩ := h2
    subst h5
    exact contract_of (us2 := []) (obj2 := []) hmix hg hf hb hok.1 hok.2 (.shift hsh h1) (.inr rfl) h3 h4 (fun j os h => by cases h) (fun _ => rfl)
end
end VL
end Go.Proofs.YthmlnffponjikaaGreatDoor
namespace Go.Proofs.YthmlnffponjikaaGreatDoor
namespace VL
open Go.RowKit

/-- What is known of a program's types. -/
class Ze (P : Program) (T : TypeId) (z : outParam (List PV)) : Prop where
  eq : (tyI P T).map (·.zero) = some z
class Ld (P : Program) (T : TypeId) (agg : outParam Bool) (n : outParam Nat) : Prop where
  eq : (tyI P T).map (fun ti => (TypeDesc.isAgg ti.desc, ti.size)) = some (agg, n)
class Fld (P : Program) (T : TypeId) (f : Nat) (off : outParam Nat) (agg : outParam Bool) (n : outParam Nat) : Prop where
  eq : (fieldAt P T f).map (fun q => (q.1, TypeDesc.isAgg q.2.desc, q.2.size)) = some (off, agg, n)
  pos : (n == 0) = false
def slI (P : Program) (T : TypeId) : Option (TypeId × TI) := match tyI P T with
  | some ⟨.slice E, _, _, _⟩ => (tyI P E).map fun te => (E, te)
  | _ => none
class Sl (P : Program) (T : TypeId) (E k by_ : outParam Nat) (z : outParam (List PV)) : Prop where
  eq : (slI P T).map (fun q => (q.1, q.2.size, q.2.bytes, q.2.zero)) = some (E, k, by_, z)
  pos : (k == 0) = false
  len : z.length = k
def arI (P : Program) (T : TypeId) : Option (Nat × TI) := match tyI P T with
  | some ⟨.array len E, _, _, _⟩ => (tyI P E).map fun te => (len, te)
  | _ => none
class Ar (P : Program) (T : TypeId) (len k : outParam Nat) : Prop where
  eq : (arI P T).map (fun q => (q.1, q.2.size)) = some (len, k)
def stI (P : Program) (T : TypeId) : Option (List (Option (Nat × Nat)) × List PV) := match tyI P T with
  | some ⟨.struct fs, _, _, z⟩ => if fs.toList.all fun f => (tyI P f.type).isSome then some ((List.range fs.size).map (placeS P fs), z) else none
  | _ => none
class St (P : Program) (T : TypeId) (pl : outParam (List (Option (Nat × Nat)))) (z : outParam (List PV)) : Prop where
  eq : stI P T = some (pl, z)
class Az (P : Program) (T : TypeId) (k : outParam Nat) (z : outParam (List PV)) : Prop where
  eq : (arI P T).map (fun q => q.2.size) = some k
  zero : (tyI P T).map (·.zero) = some z
def takeN (agg : Bool) (n : Nat) (cs : List PV) : Option PV := if agg then (if n ≤ cs.length then some (.agg (cs.take n)) else none) else cs[0]?
def evs (tm : List (Nat × PV)) : List (Nat × Operand) → List (Nat × PV)
  | [] => []
  | (i, e) :: r => (i, evL tm e) :: evs tm r
theorem evs_eq (tm : List (Nat × PV)) : ∀ (l : List (Nat × Operand)), (l.map fun q => (q.1, evL tm q.2)) = evs tm l
  | [] => rfl
  | (i, e) :: r => by simp [evs, evs_eq tm r]
theorem ld_spec {P : Program} {T : TypeId} {agg : Bool} {n : Nat} [h : Ld P T agg n] : ∃ ti, tyI P T = some ti ∧ TypeDesc.isAgg ti.desc = agg ∧ ti.size = n := by
  have := h.eq
  cases ht : tyI P T with
  | none => rw [ht] at this; cases this
  | some ti =>
    rw [ht] at this
    simp only [Option.map_some, Option.some.injEq, Prod.mk.injEq] at this
    exact ⟨ti, rfl, this.1, this.2⟩
theorem sl_spec {P : Program} {T : TypeId} {E k by_ : Nat} {z : List PV} [h : Sl P T E k by_ z] : ∃ s b zz te, tyI P T = some ⟨.slice E, s, b, zz⟩ ∧ tyI P E = some te ∧ te.size = k ∧ te.bytes = by_ ∧ te.zero = z ∧ 0 < k ∧ z.length = k := by
  have := h.eq
  unfold slI at this
  split at this
  · rename_i E' s b zz ht
    cases hte : tyI P E' with
    | none => rw [hte] at this; cases this
    | some te =>
      rw [hte] at this
      simp only [Option.map_some, Option.some.injEq, Prod.mk.injEq] at this
      obtain ⟨rfl, h2, h3, h4⟩ := this
      have hp := h.pos
      simp only [beq_eq_false_iff_ne, ne_eq] at hp
      exact ⟨s, b, zz, te, ht, hte, h2, h3, h4, by omega, h.len⟩
  · cases this
theorem takeT_N {ti : TI} {agg : Bool} {n : Nat} (h1 : TypeDesc.isAgg ti.desc = agg) (h2 : ti.size = n) (cs : List PV) : takeT ti cs = takeN agg n cs := by
  unfold takeT takeN
  rw [h1, h2]
section
variable {P : Program} [WInv P] {ops : Array Oper} {draw : Bool} {i : Nat} {L : List Oper} {acc : List (List Nat × List Nat)} {K : FS → Prop} {tm : List (Nat × PV)} {ob : List (Nat × Option (Gen × VObj))} {ng : Nat}
  {d : Option Tmp} {ty : TypeId} {pos : String} {after : Array Edge} {gd : Option (Nat × Bool)} {T : TypeId} {x y : Operand}
theorem go_act {o : Oper} {v : PV} {us : List (Nat × Option (Gen × VObj))} (hw : wantedV ops (mkS tm ob ng) o = some true) (ha : ActR P i o (mkS tm ob ng) ⟨v, us⟩)
    (k : GoL P ops draw (i + 1) L (acc ++ [(keysO (mkS tm ob ng) o, us.map (·.1))]) (mkS (putT o.dst v tm) (us.reverse ++ ob) ng) K) : GoL P ops draw i (o :: L) acc (mkS tm ob ng) K := by
  refine go_op (.act hw ha) ?_
  rw [mkS_app]
  exact k
theorem g_skip {o : Oper} (hw : wantedV ops (mkS tm ob ng) o = some false) (k : GoL P ops draw (i + 1) L (acc ++ [(keysO (mkS tm ob ng) o, [])]) (mkS (putT o.dst (.tup []) tm) ob ng) K) : GoL P ops draw i (o :: L) acc (mkS tm ob ng) K := by
  refine go_op (.skip hw) ?_
  rw [mkS_app]
  exact k
theorem g_move (hw : wantedV ops (mkS tm ob ng) ⟨d, .move x, ty, pos, after, gd⟩ = some true) {v : PV} (hv : evL tm x = v)
    (k : GoL P ops draw (i + 1) L (acc ++ [(keysO (mkS tm ob ng) ⟨d, .move x, ty, pos, after, gd⟩, [])]) (mkS (putT d v tm) ob ng) K) : GoL P ops draw i (⟨d, .move x, ty, pos, after, gd⟩ :: L) acc (mkS tm ob ng) K :=
  go_act (us := []) (v := v) hw (.fn (by simp only [act, ev_mkS, hv])) k
theorem g_assign (hw : wantedV ops (mkS tm ob ng) ⟨d, .assign x, ty, pos, after, gd⟩ = some true) {v : PV} (hv : evL tm x = v)
    (k : GoL P ops draw (i + 1) L (acc ++ [(keysO (mkS tm ob ng) ⟨d, .assign x, ty, pos, after, gd⟩, [])]) (mkS (putT d v tm) ob ng) K) : GoL P ops draw i (⟨d, .assign x, ty, pos, after, gd⟩ :: L) acc (mkS tm ob ng) K :=
  go_act (us := []) (v := v) hw (.fn (by simp only [act, ev_mkS, hv])) k
theorem g_pick {c : Operand} (hw : wantedV ops (mkS tm ob ng) ⟨d, .pick c x y, ty, pos, after, gd⟩ = some true) {t : Bool} {v : PV} (hc : evL tm c = .bool t) (hv : (if t then evL tm x else evL tm y) = v)
    (k : GoL P ops draw (i + 1) L (acc ++ [(keysO (mkS tm ob ng) ⟨d, .pick c x y, ty, pos, after, gd⟩, [])]) (mkS (putT d v tm) ob ng) K) : GoL P ops draw i (⟨d, .pick c x y, ty, pos, after, gd⟩ :: L) acc (mkS tm ob ng) K :=
  go_act (us := []) (v := v) hw (.fn (by simp only [act, ev_mkS, hc, hv])) k
theorem g_alloc {dd : Nat} {z : List PV} [Ze P T z] (hw : wantedV ops (mkS tm ob ng) ⟨some dd, .alloc T, ty, pos, after, gd⟩ = some true) (hz : z.all PV.cell = true)
    (k : GoL P ops draw (i + 1) L (acc ++ [(keysO (mkS tm ob ng) ⟨some dd, .alloc T, ty, pos, after, gd⟩, [dd])]) (mkS ((dd, .ptr dd (ng, i) 0) :: tm) ((dd, some ((ng, i), .box z)) :: ob) ng) K) :
    GoL P ops draw i (⟨some dd, .alloc T, ty, pos, after, gd⟩ :: L) acc (mkS tm ob ng) K := by
  refine go_act (us := [(dd, some ((ng, i), .box z))]) hw (.fn ?_) k
  have := Ze.eq (P := P) (T := T) (z := z)
  cases ht : tyI P T with
  | none => rw [ht] at this; cases this
  | some ti =>
    rw [ht] at this
    simp only [Option.map_some, Option.some.injEq] at this
    subst this
    simp only [act, ht, hz, if_true]
    rfl
theorem g_box {dd : Nat} (hw : wantedV ops (mkS tm ob ng) ⟨some dd, .box T x, ty, pos, after, gd⟩ = some true) {p : PV} {cs : List PV} (hv : evL tm x = p) (hc : p.cells = cs) (hz : cs.all PV.cell = true)
    (k : GoL P ops draw (i + 1) L (acc ++ [(keysO (mkS tm ob ng) ⟨some dd, .box T x, ty, pos, after, gd⟩, [dd])]) (mkS ((dd, .ptr dd (ng, i) 0) :: tm) ((dd, some ((ng, i), .box cs)) :: ob) ng) K) :
    GoL P ops draw i (⟨some dd, .box T x, ty, pos, after, gd⟩ :: L) acc (mkS tm ob ng) K := by
  refine go_act (us := [(dd, some ((ng, i), .box cs))]) hw (.fn ?_) k
  subst hc
  subst hv
  simp only [act, ev_mkS, hz, if_true]
  rfl
theorem g_load {agg : Bool} {n : Nat} [h : Ld P T agg n] (hw : wantedV ops (mkS tm ob ng) ⟨d, .load T x, ty, pos, after, gd⟩ = some true) {cs : List PV} {v : PV} (hr : readAt (lookO ob) (evL tm x) = some cs) (hv : takeN agg n cs = some v)
    (k : GoL P ops draw (i + 1) L (acc ++ [(keysO (mkS tm ob ng) ⟨d, .load T x, ty, pos, after, gd⟩, [])]) (mkS (putT d v tm) ob ng) K) : GoL P ops draw i (⟨d, .load T x, ty, pos, after, gd⟩ :: L) acc (mkS tm ob ng) K := by
  refine go_act (us := []) hw (.fn ?_) k
  obtain ⟨ti, ht, h1, h2⟩ := ld_spec (P := P) (T := T) (agg := agg) (n := n)
  have hr' : readAt (mkS tm ob ng).ob (ev (mkS tm ob ng) x) = some cs := by rw [ev_mkS]; exact hr
  simp only [act, ht, hr', takeT_N h1 h2, hv, Option.map_some]
/-- A store in a variable of the call's own. -/
theorem g_store {agg : Bool} {n : Nat} [Ld P T agg n] (hw : wantedV ops (mkS tm ob ng) ⟨d, .store T x y, ty, pos, after, gd⟩ = some true) {t : Nat} {g : Gen} {off : Nat} {cs : List PV} {p : PV} {ps : List PV} (hx : evL tm x = .ptr t g off) (hb : getOb (lookO ob) t g = some (.box cs))
    (hy : evL tm y = p) (hps : p.cells = ps) (hl : ps.length = n) (hz : ps.all PV.cell = true) (hf : off + n ≤ cs.length) {cs' : List PV} (hcs : writeL cs off ps = cs')
    (k : GoL P ops draw (i + 1) L (acc ++ [(keysO (mkS tm ob ng) ⟨d, .store T x y, ty, pos, after, gd⟩, [t])]) (mkS (putT d .un tm) ((t, some (g, .box cs')) :: ob) ng) K) : GoL P ops draw i (⟨d, .store T x y, ty, pos, after, gd⟩ :: L) acc (mkS tm ob ng) K := by
  refine go_act (us := [(t, some (g, .box cs'))]) hw (.fn ?_) k
  obtain ⟨ti, ht, h1, h2⟩ := ld_spec (P := P) (T := T) (agg := agg) (n := n)
  have hb' : getOb (mkS tm ob ng).ob t g = some (.box cs) := hb
  have hc : (p.cells.all PV.cell = true ∧ off + ti.size ≤ cs.length) := by rw [hps, h2]; exact ⟨hz, hf⟩
  have hl' : p.cells.length = ti.size := by rw [hps, h2]; exact hl
  simp only [act, ht, ev_mkS, hx, hy, hb', if_pos hc, if_pos hl']
  rw [hps, hcs]
/-- A store in a row of the call's own. -/
theorem g_store_row {agg : Bool} {n : Nat} [Ld P T agg n] (hw : wantedV ops (mkS tm ob ng) ⟨d, .store T x y, ty, pos, after, gd⟩ = some true) {t : Nat} {g : Gen} {E q kk off : Nat} {els : List (List PV)} {e : List PV} {p : PV} {ps qs : List PV} {us : List (Nat × Option (Gen × VObj))}
    (hx : evL tm x = .elp t g q kk off) (hb : getOb (lookO ob) t g = some (.row E kk false els)) (he : els[q]? = some e) (hy : evL tm y = p) (hps : p.cells = ps) (hl : ps.length = n) (hr : resL (lookO ob) ps = some (qs, us)) (hf : off + n ≤ kk) (hus : us.all (fun q => q.1 != t) = true)
    (k : GoL P ops draw (i + 1) L (acc ++ [(keysO (mkS tm ob ng) ⟨d, .store T x y, ty, pos, after, gd⟩, (us ++ [(t, some (g, VObj.row E kk false (els.set q (writeL e off qs))))]).map (·.1))]) (mkS (putT d .un tm) ((us ++ [(t, some (g, VObj.row E kk false (els.set q (writeL e off qs))))]).reverse ++ ob) ng) K) :
    GoL P ops draw i (⟨d, .store T x y, ty, pos, after, gd⟩ :: L) acc (mkS tm ob ng) K := by
  refine go_act hw (.fn ?_) k
  obtain ⟨ti, ht, h1, h2⟩ := ld_spec (P := P) (T := T) (agg := agg) (n := n)
  have hb' : getOb (mkS tm ob ng).ob t g = some (.row E kk false els) := hb
  have hr' : resL (mkS tm ob ng).ob p.cells = some (qs, us) := by rw [hps]; exact hr
  have hl' : p.cells.length = ti.size := by rw [hps, h2]; exact hl
  have hc : True ∧ off + ti.size ≤ kk ∧ us.all (fun q => q.1 != t) = true := ⟨trivial, by rw [h2]; exact hf, hus⟩
  simp only [act, ht, ev_mkS, hx, hy, hb', hr', he, if_pos hl', if_pos hc]
omit [WInv P] in
theorem fld_spec {f off : Nat} {agg : Bool} {n : Nat} [h : Fld P T f off agg n] : ∃ ti, fieldAt P T f = some (off, ti) ∧ TypeDesc.isAgg ti.desc = agg ∧ ti.size = n ∧ ¬ ti.size = 0 := by
  have := h.eq
  cases hf : fieldAt P T f with
  | none => rw [hf] at this; cases this
  | some q =>
    obtain ⟨o, ti⟩ := q
    rw [hf] at this
    simp only [Option.map_some, Option.some.injEq, Prod.mk.injEq] at this
    obtain ⟨rfl, h1, h2⟩ := this
    refine ⟨ti, rfl, h1, h2, fun e => ?_⟩
    have hp := h.pos
    rw [← h2, e] at hp
    cases hp
/-- A pointer moved on. -/
def addP (off : Nat) : PV → Option PV
  | .ptr t g o => some (.ptr t g (o + off))
  | .elp t g i k o => some (.elp t g i k (o + off))
  | .cel cs => some (.cel (cs.drop off))
  | _ => none
theorem g_fieldAddr {f off : Nat} {agg : Bool} {n : Nat} [Fld P T f off agg n] (hw : wantedV ops (mkS tm ob ng) ⟨d, .fieldAddr T x f, ty, pos, after, gd⟩ = some true) {v : PV} (hv : addP off (evL tm x) = some v)
    (k : GoL P ops draw (i + 1) L (acc ++ [(keysO (mkS tm ob ng) ⟨d, .fieldAddr T x f, ty, pos, after, gd⟩, [])]) (mkS (putT d v tm) ob ng) K) : GoL P ops draw i (⟨d, .fieldAddr T x f, ty, pos, after, gd⟩ :: L) acc (mkS tm ob ng) K := by
  refine go_act (us := []) hw (.fn ?_) k
  obtain ⟨ti, h1, h2, h3, h4⟩ := fld_spec (P := P) (T := T) (f := f) (off := off) (agg := agg) (n := n)
  simp only [act, h1, ev_mkS, if_neg h4]
  unfold addP at hv
  split at hv <;> first | (cases hv; done) | (rename_i he; injection hv with hv; subst hv; simp only [he])
theorem g_field {f off : Nat} {agg : Bool} {n : Nat} [Fld P T f off agg n] (hw : wantedV ops (mkS tm ob ng) ⟨d, .field T x f, ty, pos, after, gd⟩ = some true) {cs : List PV} {v : PV} (hx : evL tm x = .agg cs) (hv : takeN agg n (cs.drop off) = some v)
    (k : GoL P ops draw (i + 1) L (acc ++ [(keysO (mkS tm ob ng) ⟨d, .field T x f, ty, pos, after, gd⟩, [])]) (mkS (putT d v tm) ob ng) K) : GoL P ops draw i (⟨d, .field T x f, ty, pos, after, gd⟩ :: L) acc (mkS tm ob ng) K := by
  refine go_act (us := []) hw (.fn ?_) k
  obtain ⟨ti, h1, h2, h3, h4⟩ := fld_spec (P := P) (T := T) (f := f) (off := off) (agg := agg) (n := n)
  simp only [act, h1, ev_mkS, hx, takeT_N h2 h3, hv, Option.map_some]
theorem toNat_cast {k : IntKind} {n : Nat} : toNat? (.int k (n : Int)) = some n := by simp [toNat?]
theorem g_index_sl {E kk by_ : Nat} {z : List PV} [Sl P T E kk by_ z] (hw : wantedV ops (mkS tm ob ng) ⟨d, .indexAddr T x y, ty, pos, after, gd⟩ = some true) {els : List (List PV)} {e : List PV} {kd : IntKind} {n : Nat} (hx : evL tm x = .sl els) (hy : evL tm y = .int kd (n : Int)) (he : els[n]? = some e) (hl : e.length = kk)
    (k : GoL P ops draw (i + 1) L (acc ++ [(keysO (mkS tm ob ng) ⟨d, .indexAddr T x y, ty, pos, after, gd⟩, [])]) (mkS (putT d (.cel e) tm) ob ng) K) : GoL P ops draw i (⟨d, .indexAddr T x y, ty, pos, after, gd⟩ :: L) acc (mkS tm ob ng) K := by
  refine go_act (us := []) hw (.fn ?_) k
  obtain ⟨s, b, zz, te, h1, h2, h3, _, _, _, _⟩ := sl_spec (P := P) (T := T) (E := E) (k := kk) (by_ := by_) (z := z)
  have hl' : e.length = te.size := by rw [h3]; exact hl
  simp only [act, h1, ev_mkS, hx, hy, toNat_cast, h2, he, if_pos hl']
theorem g_index_row {E kk by_ : Nat} {z : List PV} [Sl P T E kk by_ z] (hw : wantedV ops (mkS tm ob ng) ⟨d, .indexAddr T x y, ty, pos, after, gd⟩ = some true) {t : Nat} {g : Gen} {E' : Nat} {sh : Bool} {els : List (List PV)} {kd : IntKind} {n : Nat} (hx : evL tm x = .row t g) (hb : getOb (lookO ob) t g = some (.row E' kk sh els)) (hy : evL tm y = .int kd (n : Int)) (hn : n < els.length)
    (k : GoL P ops draw (i + 1) L (acc ++ [(keysO (mkS tm ob ng) ⟨d, .indexAddr T x y, ty, pos, after, gd⟩, [])]) (mkS (putT d (.elp t g n kk 0) tm) ob ng) K) : GoL P ops draw i (⟨d, .indexAddr T x y, ty, pos, after, gd⟩ :: L) acc (mkS tm ob ng) K := by
  refine go_act (us := []) hw (.fn ?_) k
  obtain ⟨s, b, zz, te, h1, h2, h3, _, _, _, _⟩ := sl_spec (P := P) (T := T) (E := E) (k := kk) (by_ := by_) (z := z)
  have hb' : getOb (mkS tm ob ng).ob t g = some (.row E' kk sh els) := hb
  simp only [act, h1, ev_mkS, hx, hy, toNat_cast, h2, hb', if_pos (And.intro hn h3.symm)]
theorem g_index_ar {len kk : Nat} [h : Ar P T len kk] (hw : wantedV ops (mkS tm ob ng) ⟨d, .indexAddr T x y, ty, pos, after, gd⟩ = some true) {t : Nat} {g : Gen} {o : Nat} {kd : IntKind} {n : Nat} (hx : evL tm x = .ptr t g o) (hy : evL tm y = .int kd (n : Int)) (hn : n < len)
    (k : GoL P ops draw (i + 1) L (acc ++ [(keysO (mkS tm ob ng) ⟨d, .indexAddr T x y, ty, pos, after, gd⟩, [])]) (mkS (putT d (.ptr t g (o + n * kk)) tm) ob ng) K) : GoL P ops draw i (⟨d, .indexAddr T x y, ty, pos, after, gd⟩ :: L) acc (mkS tm ob ng) K := by
  refine go_act (us := []) hw (.fn ?_) k
  have := h.eq
  unfold arI at this
  split at this
  · rename_i len' E' s b zz ht
    cases hte : tyI P E' with
    | none => rw [hte] at this; cases this
    | some te =>
      rw [hte] at this
      simp only [Option.map_some, Option.some.injEq, Prod.mk.injEq] at this
      obtain ⟨rfl, h2⟩ := this
      simp only [act, ht, ev_mkS, hx, hy, toNat_cast, hte, if_pos hn, h2]
  · cases this
def loV (tm : List (Nat × PV)) : Option Operand → Option Nat
  | none => some 0
  | some l => toNat? (evL tm l)
def hiV (tm : List (Nat × PV)) (n : Nat) : Option Operand → Option Nat
  | none => some n
  | some l => toNat? (evL tm l)
theorem g_slice {E kk by_ : Nat} {z : List PV} [Sl P T E kk by_ z] {lo hi : Option Operand} (hw : wantedV ops (mkS tm ob ng) ⟨d, .slice T x lo hi none, ty, pos, after, gd⟩ = some true) {els els' : List (List PV)} {l h : Nat} {us : List (Nat × Option (Gen × VObj))} (hx : elsV (lookO ob) (evL tm x) = some els)
    (hlo : loV tm lo = some l) (hhi : hiV tm els.length hi = some h) (h1 : l ≤ h) (h2 : h ≤ els.length) (h3 : (els.all fun e => e.length == kk) = true) (hus : pubV (lookO ob) (evL tm x) = us) (hr : (els.drop l).take (h - l) = els')
    (k : GoL P ops draw (i + 1) L (acc ++ [(keysO (mkS tm ob ng) ⟨d, .slice T x lo hi none, ty, pos, after, gd⟩, us.map (·.1))]) (mkS (putT d (.sl els') tm) (us.reverse ++ ob) ng) K) : GoL P ops draw i (⟨d, .slice T x lo hi none, ty, pos, after, gd⟩ :: L) acc (mkS tm ob ng) K := by
  refine go_act hw (.fn ?_) k
  obtain ⟨s, b, zz, te, q1, q2, q3, _, _, _, _⟩ := sl_spec (P := P) (T := T) (E := E) (k := kk) (by_ := by_) (z := z)
  have hx' : elsV (mkS tm ob ng).ob (evL tm x) = some els := hx
  have hus' : pubV (mkS tm ob ng).ob (evL tm x) = us := hus
  have hc : l ≤ h ∧ h ≤ els.length ∧ (tyI P E).any (fun te => els.all fun e => e.length == te.size) = true := ⟨h1, h2, by rw [q2]; simp only [Option.any_some, q3]; exact h3⟩
  cases lo <;> cases hi <;> simp only [loV, hiV] at hlo hhi <;> simp only [act, q1, ev_mkS, hx'] <;> (try rw [hlo]) <;> (try rw [hhi]) <;> (try (injection hlo with hlo; rw [hlo])) <;> (try (injection hhi with hhi; rw [hhi])) <;> first | (simp only [if_pos hc, hus', hr]; done) | (simp only [hus', hr]; rw [if_pos ⟨hc.1, Nat.le_refl _, hc.2.2⟩])
theorem g_len {E kk by_ : Nat} {z : List PV} [Sl P T E kk by_ z] (hw : wantedV ops (mkS tm ob ng) ⟨d, .call ⟨.builtin .len, #[x], #[T]⟩, ty, pos, after, gd⟩ = some true) {n : Nat} (hx : lenV (lookO ob) (evL tm x) = some n)
    (k : GoL P ops draw (i + 1) L (acc ++ [(keysO (mkS tm ob ng) ⟨d, .call ⟨.builtin .len, #[x], #[T]⟩, ty, pos, after, gd⟩, [])]) (mkS (putT d (.int .i64 (n : Int)) tm) ob ng) K) : GoL P ops draw i (⟨d, .call ⟨.builtin .len, #[x], #[T]⟩, ty, pos, after, gd⟩ :: L) acc (mkS tm ob ng) K := by
  refine go_act (us := []) hw (.fn ?_) k
  obtain ⟨s, b, zz, te, q1, q2, q3, _, _, _, _⟩ := sl_spec (P := P) (T := T) (E := E) (k := kk) (by_ := by_) (z := z)
  have hx' : lenV (mkS tm ob ng).ob (evL tm x) = some n := hx
  simp only [act, actLen, q1, ev_mkS, hx']
theorem g_append_nil {dd : Nat} {E kk by_ : Nat} {z : List PV} [Sl P T E kk by_ z] (hw : wantedV ops (mkS tm ob ng) ⟨some dd, .call ⟨.builtin .append, #[x, y], #[T, T]⟩, ty, pos, after, gd⟩ = some true) {new : List (List PV)} (hx : evL tm x = .nil) (hy : elsV (lookO ob) (evL tm y) = some new) (hb : new.length * by_ ≤ 140737488355328) (hl : new.length ≤ 9223372036854775807) (ha : (new.all fun e => e.length == kk) = true)
    (k : GoL P ops draw (i + 1) L (acc ++ [(keysO (mkS tm ob ng) ⟨some dd, .call ⟨.builtin .append, #[x, y], #[T, T]⟩, ty, pos, after, gd⟩, [dd])]) (mkS ((dd, .row dd (ng, i)) :: tm) ((dd, some ((ng, i), .row E kk false new)) :: ob) ng) K) :
    GoL P ops draw i (⟨some dd, .call ⟨.builtin .append, #[x, y], #[T, T]⟩, ty, pos, after, gd⟩ :: L) acc (mkS tm ob ng) K := by
  refine go_act (us := [(dd, some ((ng, i), .row E kk false new))]) hw (.fn ?_) k
  obtain ⟨s, b, zz, te, q1, q2, q3, q4, q5, q6, q7⟩ := sl_spec (P := P) (T := T) (E := E) (k := kk) (by_ := by_) (z := z)
  have hy' : elsV (mkS tm ob ng).ob (evL tm y) = some new := hy
  have hc : new.length * te.bytes ≤ 140737488355328 ∧ new.length ≤ 9223372036854775807 ∧ 0 < te.size ∧ te.zero.length = te.size ∧ (new.all fun e => e.length == te.size) = true := by
    rw [q3, q4, q5]
    exact ⟨hb, hl, q6, q7, ha⟩
  simp only [act, actAppend, q1, ev_mkS, hx, hy', q2, if_pos hc, if_true]
  rw [q3]
  rfl
theorem g_append_row {dd : Nat} {E kk by_ : Nat} {z : List PV} [Sl P T E kk by_ z] (hw : wantedV ops (mkS tm ob ng) ⟨some dd, .call ⟨.builtin .append, #[x, y], #[T, T]⟩, ty, pos, after, gd⟩ = some true) {t : Nat} {g : Gen} {sh : Bool} {els new : List (List PV)} (hx : evL tm x = .row t g) (ho : getOb (lookO ob) t g = some (.row E kk sh els)) (hy : elsV (lookO ob) (evL tm y) = some new)
    (hb : (els.length + new.length) * by_ ≤ 140737488355328) (hl : els.length + new.length ≤ 9223372036854775807) (ha : (new.all fun e => e.length == kk) = true)
    (k : GoL P ops draw (i + 1) L (acc ++ [(keysO (mkS tm ob ng) ⟨some dd, .call ⟨.builtin .append, #[x, y], #[T, T]⟩, ty, pos, after, gd⟩, [t])]) (mkS ((dd, .row t (ng, i)) :: tm) ((t, some ((ng, i), .row E kk sh (els ++ new))) :: ob) ng) K) :
    GoL P ops draw i (⟨some dd, .call ⟨.builtin .append, #[x, y], #[T, T]⟩, ty, pos, after, gd⟩ :: L) acc (mkS tm ob ng) K := by
  refine go_act (us := [(t, some ((ng, i), .row E kk sh (els ++ new)))]) hw (.fn ?_) k
  obtain ⟨s, b, zz, te, q1, q2, q3, q4, q5, q6, q7⟩ := sl_spec (P := P) (T := T) (E := E) (k := kk) (by_ := by_) (z := z)
  have hy' : elsV (mkS tm ob ng).ob (evL tm y) = some new := hy
  have ho' : getOb (mkS tm ob ng).ob t g = some (.row E kk sh els) := ho
  have hc : True ∧ kk = te.size ∧ (els.length + new.length) * te.bytes ≤ 140737488355328 ∧ els.length + new.length ≤ 9223372036854775807 ∧ 0 < te.size ∧ te.zero.length = te.size ∧ (new.all fun e => e.length == te.size) = true := by
    rw [q3, q4, q5]
    exact ⟨trivial, rfl, hb, hl, q6, q7, ha⟩
  simp only [act, actAppend, q1, ev_mkS, hx, hy', ho', q2, if_true]
  rw [if_pos ⟨trivial, hc.2⟩]
  rfl
theorem g_buildSlice {dd : Nat} {E kk by_ : Nat} {z : List PV} [Sl P T E kk by_ z] {n : Nat} {parts : Array (Nat × Operand)} (hw : wantedV ops (mkS tm ob ng) ⟨some dd, .buildSlice T n parts, ty, pos, after, gd⟩ = some true) {cs qs : List PV} {els : List (List PV)} {us : List (Nat × Option (Gen × VObj))}
    (hf : fillP (fun i => some (i * kk, kk)) (List.replicate n z).flatten (evs tm parts.toList) = some cs) (hr : resL (lookO ob) cs = some (qs, us)) (hl : qs.length = n * kk) (hm : n * kk ≤ 16777216) (hc : chunks kk n qs = els)
    (k : GoL P ops draw (i + 1) L (acc ++ [(keysO (mkS tm ob ng) ⟨some dd, .buildSlice T n parts, ty, pos, after, gd⟩, (us ++ [(dd, some ((ng, i), VObj.row E kk false els))]).map (·.1))]) (mkS ((dd, .row dd (ng, i)) :: tm) ((us ++ [(dd, some ((ng, i), VObj.row E kk false els))]).reverse ++ ob) ng) K) :
    GoL P ops draw i (⟨some dd, .buildSlice T n parts, ty, pos, after, gd⟩ :: L) acc (mkS tm ob ng) K := by
  refine go_act hw (.fn ?_) k
  obtain ⟨s, b, zz, te, q1, q2, q3, q4, q5, q6, q7⟩ := sl_spec (P := P) (T := T) (E := E) (k := kk) (by_ := by_) (z := z)
  have hr' : resL (mkS tm ob ng).ob cs = some (qs, us) := hr
  have hcc : qs.length = n * kk ∧ n * kk ≤ 16777216 ∧ 0 < kk := ⟨hl, hm, q6⟩
  simp only [act, q1, ev_mkS, q2, evs_eq, q3, q5, hf, hr', if_pos hcc, hc]
  rfl
theorem g_build {pl : List (Option (Nat × Nat))} {z : List PV} [h : St P T pl z] {parts : Array (Nat × Operand)} (hw : wantedV ops (mkS tm ob ng) ⟨d, .build T parts, ty, pos, after, gd⟩ = some true) {cs : List PV} (hf : fillP (fun i => (pl[i]?).join) z (evs tm parts.toList) = some cs)
    (k : GoL P ops draw (i + 1) L (acc ++ [(keysO (mkS tm ob ng) ⟨d, .build T parts, ty, pos, after, gd⟩, [])]) (mkS (putT d (.agg cs) tm) ob ng) K) : GoL P ops draw i (⟨d, .build T parts, ty, pos, after, gd⟩ :: L) acc (mkS tm ob ng) K := by
  refine go_act (us := []) hw (.fn ?_) k
  have := h.eq
  unfold stI at this
  split at this
  · rename_i fs s b zz ht
    split at this
    · rename_i hall
      injection this with this
      injection this with e1 e2
      subst e1 e2
      have hpl : (fun i => (((List.range fs.size).map (placeS P fs))[i]?).join) = placeS P fs := by
        funext i
        rw [List.getElem?_map]
        by_cases hi : i < fs.size
        · rw [List.getElem?_range hi]; rfl
        · rw [List.getElem?_eq_none (by simpa using hi)]
          unfold placeS
          rw [Array.getElem?_eq_none (by omega)]
          rfl
      rw [hpl] at hf
      simp only [act, ht, ev_mkS, evs_eq, if_pos hall, hf, Option.map_some]
    · cases this
  · cases this
theorem g_build_ar {kk : Nat} {z : List PV} [h : Az P T kk z] {parts : Array (Nat × Operand)} (hw : wantedV ops (mkS tm ob ng) ⟨d, .build T parts, ty, pos, after, gd⟩ = some true) {cs : List PV} (hf : fillP (fun i => some (i * kk, kk)) z (evs tm parts.toList) = some cs)
    (k : GoL P ops draw (i + 1) L (acc ++ [(keysO (mkS tm ob ng) ⟨d, .build T parts, ty, pos, after, gd⟩, [])]) (mkS (putT d (.agg cs) tm) ob ng) K) : GoL P ops draw i (⟨d, .build T parts, ty, pos, after, gd⟩ :: L) acc (mkS tm ob ng) K := by
  refine go_act (us := []) hw (.fn ?_) k
  have h1 := h.eq
  have h2 := h.zero
  unfold arI at h1
  split at h1
  · rename_i len' E' s b zz ht
    rw [ht] at h2
    simp only [Option.map_some, Option.some.injEq] at h2
    subst h2
    cases hte : tyI P E' with
    | none => rw [hte] at h1; cases h1
    | some te =>
      rw [hte] at h1
      simp only [Option.map_some, Option.some.injEq] at h1
      simp only [act, ht, ev_mkS, evs_eq, hte, h1, hf, Option.map_some]
  · cases h1
theorem g_extract {kx : Nat} (hw : wantedV ops (mkS tm ob ng) ⟨d, .extract x kx, ty, pos, after, gd⟩ = some true) {vs : List PV} {v : PV} (hx : evL tm x = .tup vs) (hv : vs[kx]? = some v)
    (k : GoL P ops draw (i + 1) L (acc ++ [(keysO (mkS tm ob ng) ⟨d, .extract x kx, ty, pos, after, gd⟩, [])]) (mkS (putT d v tm) ob ng) K) : GoL P ops draw i (⟨d, .extract x kx, ty, pos, after, gd⟩ :: L) acc (mkS tm ob ng) K :=
  go_act (us := []) hw (.fn (by simp only [act, ev_mkS, hx, hv, Option.map_some])) k
/-- A call. -/
theorem g_call {f : FuncId} {es : Array Operand} {ts : Array TypeId} {args : List PV} {us : List (Nat × Option (Gen × VObj))} {res : PV} (hc : Contract P f args none res []) (hw : wantedV ops (mkS tm ob ng) ⟨d, .call ⟨.value (.func f), es, ts⟩, ty, pos, after, gd⟩ = some true)
    (ha : resA (lookO ob) (es.toList.map (evL tm)) = some (args, us))
    (k : GoL P ops draw (i + 1) L (acc ++ [(keysO (mkS tm ob ng) ⟨d, .call ⟨.value (.func f), es, ts⟩, ty, pos, after, gd⟩, us.map (·.1))]) (mkS (putT d res tm) (us.reverse ++ ob) ng) K) : GoL P ops draw i (⟨d, .call ⟨.value (.func f), es, ts⟩, ty, pos, after, gd⟩ :: L) acc (mkS tm ob ng) K := by
  refine go_op (.call hw rfl (by rw [ev_mkS]; exact ha) hc) ?_
  rw [mkS_app]
  exact k
/-- A plain operation. -/
theorem g_plain {o : Oper} (hw : wantedV ops (mkS tm ob ng) o = some true) {v : Value} {p : PV} (hp : ∀ e ∈ o.op.operands, (plain (evL tm e)).isSome = true) (hs : ∀ cs b, o.op ≠ .select cs b) (h : ∀ w, (execOp (fun e => (plain (evL tm e)).getD undef) o).run P w = .ok (.value v) w) (hv : ofConst v = p)
    (k : GoL P ops draw (i + 1) L (acc ++ [(keysO (mkS tm ob ng) o, [])]) (mkS (putT o.dst p tm) ob ng) K) : GoL P ops draw i (o :: L) acc (mkS tm ob ng) K := by
  subst hv
  refine go_act (us := []) hw (.plain (fun e he => by rw [ev_mkS]; exact hp e he) hs fun w => ?_) k
  have : cv (mkS tm ob ng) = fun e => (plain (evL tm e)).getD undef := by
    funext e
    unfold cv
    rw [ev_mkS]
  rw [this]
  exact h w
end
end VL
end Go.Proofs.YthmlnffponjikaaGreatDoor
namespace Go.Proofs.YthmlnffponjikaaGreatDoor
namespace VL
open Go.RowKit

theorem pws_regionL {P : Program} [WInv P] {draw : Bool} {s : FS} {Q : Ex → FS → Prop} {cs : List Code} {id : Nat} {l : List Oper} (h : GoL P l.toArray draw 0 l [] s fun s' => PWs P cs Q ⟨s'.tm, s'.ob, s'.ng + 1⟩) : PWs P (.region id l.toArray draw :: cs) Q s :=
  pws_region h
theorem pws_condT {P : Program} [WInv P] {Q : Ex → FS → Prop} {cs : List Code} {tm : List (Nat × PV)} {ob : List (Nat × Option (Gen × VObj))} {ng : Nat} {c : Operand} {x y : Code} {t : Bool} (hc : evL tm c = .bool t) (ht : t = true) (h : PWs P (x :: cs) Q (mkS tm ob ng)) : PWs P (.cond c x y :: cs) Q (mkS tm ob ng) :=
  pws_true (by rw [ev_mkS, hc, ht]) h
theorem pws_condF {P : Program} [WInv P] {Q : Ex → FS → Prop} {cs : List Code} {tm : List (Nat × PV)} {ob : List (Nat × Option (Gen × VObj))} {ng : Nat} {c : Operand} {x y : Code} {t : Bool} (hc : evL tm c = .bool t) (ht : t = false) (h : PWs P (y :: cs) Q (mkS tm ob ng)) : PWs P (.cond c x y :: cs) Q (mkS tm ob ng) :=
  pws_false (by rw [ev_mkS, hc, ht]) h
theorem pws_condS {P : Program} [WInv P] {Q : Ex → FS → Prop} {cs : List Code} {tm : List (Nat × PV)} {ob : List (Nat × Option (Gen × VObj))} {ng : Nat} {c : Operand} {x y : Code} {t : Bool} (hc : evL tm c = .bool t) (h1 : t = true → PWs P (x :: cs) Q (mkS tm ob ng)) (h2 : t = false → PWs P (y :: cs) Q (mkS tm ob ng)) : PWs P (.cond c x y :: cs) Q (mkS tm ob ng) :=
  pws_split (by rw [ev_mkS, hc]) h1 h2
section
variable {P : Program} [WInv P] {ops : Array Oper} {draw : Bool} {i : Nat} {L : List Oper} {acc : List (List Nat × List Nat)} {K : FS → Prop} {tm : List (Nat × PV)} {ob : List (Nat × Option (Gen × VObj))} {ng : Nat}
  {d : Option Tmp} {ty T T' : TypeId} {pos : String} {after : Array Edge} {gd : Option (Nat × Bool)} {x y : Operand}
theorem go_end {cs : List Code} {Q : Ex → FS → Prop} (hd : draw = true → drawOK ops (fun j => acc[j]?) = true) (h : PWs P cs Q (mkS tm ob (ng + 1))) : GoL P ops draw i [] acc (mkS tm ob ng) (fun s' => PWs P cs Q ⟨s'.tm, s'.ob, s'.ng + 1⟩) := go_nil hd h
/-- A plain operation with two operands. -/
theorem g_plain2 {op : Op} (hop : op.operands = #[x, y]) (hs : ∀ cs b, op ≠ .select cs b) (hw : wantedV ops (mkS tm ob ng) ⟨d, op, ty, pos, after, gd⟩ = some true) {p q : PV} {v w : Value} {r : Value} {pv : PV} (hx : evL tm x = p) (hy : evL tm y = q) (hp : plain p = some v) (hq : plain q = some w)
    (h : ∀ (ρ : Operand → Value) (W : World), ρ x = v → ρ y = w → (execOp ρ ⟨d, op, ty, pos, after, gd⟩).run P W = .ok (.value r) W) (hv : ofConst r = pv)
    (k : GoL P ops draw (i + 1) L (acc ++ [(keysO (mkS tm ob ng) ⟨d, op, ty, pos, after, gd⟩, [])]) (mkS (putT d pv tm) ob ng) K) : GoL P ops draw i (⟨d, op, ty, pos, after, gd⟩ :: L) acc (mkS tm ob ng) K := by
  refine g_plain hw (fun e he => ?_) hs (fun W => h _ W (by rw [hx, hp]; rfl) (by rw [hy, hq]; rfl)) hv k
  rw [hop] at he
  simp at he
  rcases he with rfl | rfl
  · rw [hx, hp]; rfl
  · rw [hy, hq]; rfl
theorem g_plain1 {op : Op} (hop : op.operands = #[x]) (hs : ∀ cs b, op ≠ .select cs b) (hw : wantedV ops (mkS tm ob ng) ⟨d, op, ty, pos, after, gd⟩ = some true) {p : PV} {v : Value} {r : Value} {pv : PV} (hx : evL tm x = p) (hp : plain p = some v)
    (h : ∀ (ρ : Operand → Value) (W : World), ρ x = v → (execOp ρ ⟨d, op, ty, pos, after, gd⟩).run P W = .ok (.value r) W) (hv : ofConst r = pv)
    (k : GoL P ops draw (i + 1) L (acc ++ [(keysO (mkS tm ob ng) ⟨d, op, ty, pos, after, gd⟩, [])]) (mkS (putT d pv tm) ob ng) K) : GoL P ops draw i (⟨d, op, ty, pos, after, gd⟩ :: L) acc (mkS tm ob ng) K := by
  refine g_plain hw (fun e he => ?_) hs (fun W => h _ W (by rw [hx, hp]; rfl)) hv k
  rw [hop] at he
  simp at he
  subst he
  rw [hx, hp]; rfl
def intBin (op : BinOp) (k : IntKind) (a b : Int) : Option Value := match op with
  | .add => some (.int k (k.wrap (a + b)))
  | .sub => some (.int k (k.wrap (a - b)))
  | .mul => some (.int k (k.wrap (a * b)))
  | .eql => some (.bool (decide (a = b)))
  | .neq => some (.bool (!decide (a = b)))
  | .lss => some (.bool (decide (a < b)))
  | .leq => some (.bool (decide (a ≤ b)))
  | .gtr => some (.bool (decide (b < a)))
  | .geq => some (.bool (decide (b ≤ a)))
  | _ => none
omit [WInv P] in
theorem run_intBin {op : BinOp} {k : IntKind} {a b : Int} {r : Value} (h : intBin op k a b = some r) (T : TypeId) (ρ : Operand → Value) (W : World) (hx : ρ x = .int k a) (hy : ρ y = .int k b) : (execOp ρ ⟨d, .binOp op T x y T', ty, pos, after, gd⟩).run P W = .ok (.value r) W := by
  unfold intBin at h
  cases op <;> first
    | (cases h; done)
    | (injection h with h
       subst h
       simp only [execOp, hx, hy, eqGuard, binOp, Op.intArith, Op.intCmp]
       simp
       try rfl)
theorem g_int {op : BinOp} (hw : wantedV ops (mkS tm ob ng) ⟨d, .binOp op T x y T', ty, pos, after, gd⟩ = some true) {k : IntKind} {a b : Int} {r : Value} {pv : PV} (hx : evL tm x = .int k a) (hy : evL tm y = .int k b) (hv : intBin op k a b = some r) (hp : ofConst r = pv)
    (kk : GoL P ops draw (i + 1) L (acc ++ [(keysO (mkS tm ob ng) ⟨d, .binOp op T x y T', ty, pos, after, gd⟩, [])]) (mkS (putT d pv tm) ob ng) K) : GoL P ops draw i (⟨d, .binOp op T x y T', ty, pos, after, gd⟩ :: L) acc (mkS tm ob ng) K :=
  g_plain2 rfl (fun _ _ h => by cases h) hw hx hy (v := .int k a) (w := .int k b) rfl rfl (fun ρ W h1 h2 => run_intBin hv T ρ W h1 h2) hp kk
/-- A sum that stays within int. -/
theorem g_add (hw : wantedV ops (mkS tm ob ng) ⟨d, .binOp .add T x y T', ty, pos, after, gd⟩ = some true) {a b : Int} (hx : evL tm x = .int .i64 a) (hy : evL tm y = .int .i64 b) (h1 : -9223372036854775808 ≤ a + b) (h2 : a + b ≤ 9223372036854775807)
    (kk : GoL P ops draw (i + 1) L (acc ++ [(keysO (mkS tm ob ng) ⟨d, .binOp .add T x y T', ty, pos, after, gd⟩, [])]) (mkS (putT d (.int .i64 (a + b)) tm) ob ng) K) : GoL P ops draw i (⟨d, .binOp .add T x y T', ty, pos, after, gd⟩ :: L) acc (mkS tm ob ng) K := by
  refine g_int hw hx hy rfl ?_ kk
  show PV.int .i64 (IntKind.i64.wrap (a + b)) = _
  rw [IntKind.wrap_i64]
  congr 1
  omega
theorem g_sub (hw : wantedV ops (mkS tm ob ng) ⟨d, .binOp .sub T x y T', ty, pos, after, gd⟩ = some true) {a b : Int} (hx : evL tm x = .int .i64 a) (hy : evL tm y = .int .i64 b) (h1 : -9223372036854775808 ≤ a - b) (h2 : a - b ≤ 9223372036854775807)
    (kk : GoL P ops draw (i + 1) L (acc ++ [(keysO (mkS tm ob ng) ⟨d, .binOp .sub T x y T', ty, pos, after, gd⟩, [])]) (mkS (putT d (.int .i64 (a - b)) tm) ob ng) K) : GoL P ops draw i (⟨d, .binOp .sub T x y T', ty, pos, after, gd⟩ :: L) acc (mkS tm ob ng) K := by
  refine g_int hw hx hy rfl ?_ kk
  show PV.int .i64 (IntKind.i64.wrap (a - b)) = _
  rw [IntKind.wrap_i64]
  congr 1
  omega
/-- .. of two numbers that count. -/
theorem g_addN (hw : wantedV ops (mkS tm ob ng) ⟨d, .binOp .add T x y T', ty, pos, after, gd⟩ = some true) {a b c : Nat} (hx : evL tm x = .int .i64 (a : Int)) (hy : evL tm y = .int .i64 (b : Int)) (hc : a + b = c) (h2 : c ≤ 9223372036854775807)
    (kk : GoL P ops draw (i + 1) L (acc ++ [(keysO (mkS tm ob ng) ⟨d, .binOp .add T x y T', ty, pos, after, gd⟩, [])]) (mkS (putT d (.int .i64 (c : Int)) tm) ob ng) K) : GoL P ops draw i (⟨d, .binOp .add T x y T', ty, pos, after, gd⟩ :: L) acc (mkS tm ob ng) K := by
  refine g_add hw hx hy (by omega) (by omega) ?_
  have : (a : Int) + (b : Int) = ((c : Nat) : Int) := by omega
  rw [this]
  exact kk
def strBin (op : BinOp) (a b : ByteArray) : Option Value := match op with
  | .eql => some (.bool (decide (a = b)))
  | .neq => some (.bool (!decide (a = b)))
  | .lss => some (.bool (Op.bytesLess a.toList b.toList))
  | .leq => some (.bool (Op.bytesLess a.toList b.toList || decide (a = b)))
  | .gtr => some (.bool (!(Op.bytesLess a.toList b.toList || decide (a = b))))
  | .geq => some (.bool (!Op.bytesLess a.toList b.toList))
  | _ => none
omit [WInv P] in
theorem run_strBin {op : BinOp} {a b : ByteArray} {r : Value} (h : strBin op a b = some r) (T : TypeId) (ρ : Operand → Value) (W : World) (hx : ρ x = .string a) (hy : ρ y = .string b) : (execOp ρ ⟨d, .binOp op T x y T', ty, pos, after, gd⟩).run P W = .ok (.value r) W := by
  have e := beq_bytes a b
  unfold strBin at h
  cases op <;> first
    | (cases h; done)
    | (injection h with h
       subst h
       simp only [execOp, hx, hy, eqGuard, binOp, Op.stringOp, e]
       simp)
theorem g_str {op : BinOp} (hw : wantedV ops (mkS tm ob ng) ⟨d, .binOp op T x y T', ty, pos, after, gd⟩ = some true) {a b : ByteArray} {r : Value} {pv : PV} (hx : evL tm x = .str a) (hy : evL tm y = .str b) (hv : strBin op a b = some r) (hp : ofConst r = pv)
    (kk : GoL P ops draw (i + 1) L (acc ++ [(keysO (mkS tm ob ng) ⟨d, .binOp op T x y T', ty, pos, after, gd⟩, [])]) (mkS (putT d pv tm) ob ng) K) : GoL P ops draw i (⟨d, .binOp op T x y T', ty, pos, after, gd⟩ :: L) acc (mkS tm ob ng) K :=
  g_plain2 rfl (fun _ _ h => by cases h) hw hx hy (v := .string a) (w := .string b) rfl rfl (fun ρ W h1 h2 => run_strBin hv T ρ W h1 h2) hp kk
theorem g_cat (hw : wantedV ops (mkS tm ob ng) ⟨d, .binOp .add T x y T', ty, pos, after, gd⟩ = some true) {a b : ByteArray} (hx : evL tm x = .str a) (hy : evL tm y = .str b) (hl : a.size + b.size ≤ 9223372036854775807)
    (kk : GoL P ops draw (i + 1) L (acc ++ [(keysO (mkS tm ob ng) ⟨d, .binOp .add T x y T', ty, pos, after, gd⟩, [])]) (mkS (putT d (.str (a ++ b)) tm) ob ng) K) : GoL P ops draw i (⟨d, .binOp .add T x y T', ty, pos, after, gd⟩ :: L) acc (mkS tm ob ng) K := by
  refine g_plain2 rfl (fun _ _ h => by cases h) hw hx hy (v := .string a) (w := .string b) (r := .string (a ++ b)) rfl rfl (fun ρ W h1 h2 => ?_) rfl kk
  have : ¬ (((a.size + b.size : Nat) : Int) > IntKind.i64.max) := by
    have : IntKind.i64.max = 9223372036854775807 := rfl
    omega
  simp only [execOp, h1, h2, eqGuard, binOp, Op.stringOp, if_neg this]
  simp
theorem g_not (hw : wantedV ops (mkS tm ob ng) ⟨d, .unOp .not T x, ty, pos, after, gd⟩ = some true) {b : Bool} (hx : evL tm x = .bool b)
    (kk : GoL P ops draw (i + 1) L (acc ++ [(keysO (mkS tm ob ng) ⟨d, .unOp .not T x, ty, pos, after, gd⟩, [])]) (mkS (putT d (.bool (!b)) tm) ob ng) K) : GoL P ops draw i (⟨d, .unOp .not T x, ty, pos, after, gd⟩ :: L) acc (mkS tm ob ng) K := by
  refine g_plain1 rfl (fun _ _ h => by cases h) hw hx (v := .bool b) (r := .bool (!b)) rfl (fun ρ W h1 => ?_) rfl kk
  simp [execOp, h1, Op.unary]
theorem g_neg (hw : wantedV ops (mkS tm ob ng) ⟨d, .unOp .neg T x, ty, pos, after, gd⟩ = some true) {n : Int} (hx : evL tm x = .int .i64 n) (h1 : -9223372036854775807 ≤ n) (h2 : n ≤ 9223372036854775807)
    (kk : GoL P ops draw (i + 1) L (acc ++ [(keysO (mkS tm ob ng) ⟨d, .unOp .neg T x, ty, pos, after, gd⟩, [])]) (mkS (putT d (.int .i64 (-n)) tm) ob ng) K) : GoL P ops draw i (⟨d, .unOp .neg T x, ty, pos, after, gd⟩ :: L) acc (mkS tm ob ng) K := by
  refine g_plain1 rfl (fun _ _ h => by cases h) hw hx (v := .int .i64 n) (r := .int .i64 (-n)) rfl (fun ρ W h3 => ?_) rfl kk
  have : IntKind.i64.wrap (0 - n) = -n := by rw [IntKind.wrap_i64]; omega
  simp only [execOp, h3, Op.unary, Op.intArith, this]
  simp
/-- == and != of structs without slices. -/
class EqT (P : Program) (T : TypeId) : Prop where
  guard : P.eqGuardType P.depth T = false
theorem g_eqT [h : EqT P T] {op : BinOp} (hop : op = .eql ∨ op = .neq) (hw : wantedV ops (mkS tm ob ng) ⟨d, .binOp op T x y T', ty, pos, after, gd⟩ = some true) {cx cy : List PV} {vx vy : List Value} {b : Bool} (hx : evL tm x = .agg cx) (hy : evL tm y = .agg cy) (hpx : plainL cx = some vx) (hpy : plainL cy = some vy)
    (hr : ∀ W, (binOp op T (.agg vx.toArray) (.agg vy.toArray)).run P W = .ok (.bool b) W)
    (kk : GoL P ops draw (i + 1) L (acc ++ [(keysO (mkS tm ob ng) ⟨d, .binOp op T x y T', ty, pos, after, gd⟩, [])]) (mkS (putT d (.bool b) tm) ob ng) K) : GoL P ops draw i (⟨d, .binOp op T x y T', ty, pos, after, gd⟩ :: L) acc (mkS tm ob ng) K := by
  refine g_plain2 rfl (fun _ _ h => by cases h) hw hx hy (v := .agg vx.toArray) (w := .agg vy.toArray) (r := .bool b) (by simp [plain, hpx]) (by simp [plain, hpy]) (fun ρ W h1 h2 => ?_) rfl kk
  have hg : (eqGuard op T x y (.agg vx.toArray) (.agg vy.toArray)).run P W = .ok () W := by
    unfold eqGuard
    rcases hop with rfl | rfl <;> simp [h.guard]
  simp only [execOp, h1, h2, Sem.run_bind, hg, Result.andThen_ok, hr]
  simp
theorem g_lenS (hT : P.underlying T = some .string) (hw : wantedV ops (mkS tm ob ng) ⟨d, .call ⟨.builtin .len, #[x], #[T]⟩, ty, pos, after, gd⟩ = some true) {a : ByteArray} (hx : evL tm x = .str a)
    (k : GoL P ops draw (i + 1) L (acc ++ [(keysO (mkS tm ob ng) ⟨d, .call ⟨.builtin .len, #[x], #[T]⟩, ty, pos, after, gd⟩, [])]) (mkS (putT d (.int .i64 (a.size : Int)) tm) ob ng) K) : GoL P ops draw i (⟨d, .call ⟨.builtin .len, #[x], #[T]⟩, ty, pos, after, gd⟩ :: L) acc (mkS tm ob ng) K := by
  refine g_plain1 (x := x) rfl (fun _ _ h => by cases h) hw hx (v := .string a) (r := .int .i64 (a.size : Int)) rfl (fun ρ W h1 => ?_) rfl k
  simp [execOp, resolve, invoke, builtin, Builtin.len_, run_underlying hT, goInt]
  rw [h1]
  simp
theorem g_indexS (hT : P.underlying T = some .string) (hw : wantedV ops (mkS tm ob ng) ⟨d, .index T x y, ty, pos, after, gd⟩ = some true) {a : ByteArray} {kd : IntKind} {n : Nat} {c : UInt8} (hx : evL tm x = .str a) (hy : evL tm y = .int kd (n : Int)) (hn : a[n]? = some c)
    (k : GoL P ops draw (i + 1) L (acc ++ [(keysO (mkS tm ob ng) ⟨d, .index T x y, ty, pos, after, gd⟩, [])]) (mkS (putT d (.int .u8 (c.toNat : Int)) tm) ob ng) K) : GoL P ops draw i (⟨d, .index T x y, ty, pos, after, gd⟩ :: L) acc (mkS tm ob ng) K := by
  refine g_plain2 rfl (fun _ _ h => by cases h) hw hx hy (v := .string a) (w := .int kd n) (r := .int .u8 (c.toNat : Int)) rfl rfl (fun ρ W h1 h2 => ?_) rfl k
  simp [execOp, Instr.index, asIntOf, h1, h2, run_underlying hT, hn]
theorem g_index_agg {len kk : Nat} [h : Ar P T len kk] (hk : kk = 1) (hE : ∀ E, P.underlying T = some (.array len E) → ∃ de, P.underlying E = some de ∧ TypeDesc.isAgg de = false) (hw : wantedV ops (mkS tm ob ng) ⟨d, .index T x y, ty, pos, after, gd⟩ = some true) {cs : List PV} {vs : List Value} {kd : IntKind} {n : Nat} {r : Value} {pv : PV}
    (hx : evL tm x = .agg cs) (hps : plainL cs = some vs) (hy : evL tm y = .int kd (n : Int)) (hn : n < len) (hr : vs[n]? = some r) (hv : ofConst r = pv)
    (k : GoL P ops draw (i + 1) L (acc ++ [(keysO (mkS tm ob ng) ⟨d, .index T x y, ty, pos, after, gd⟩, [])]) (mkS (putT d pv tm) ob ng) K) : GoL P ops draw i (⟨d, .index T x y, ty, pos, after, gd⟩ :: L) acc (mkS tm ob ng) K := by
  subst hk
  have := h.eq
  unfold arI at this
  split at this
  · rename_i len' E s b zz ht
    cases hte : tyI P E with
    | none => rw [hte] at this; cases this
    | some te =>
      rw [hte] at this
      simp only [Option.map_some, Option.some.injEq, Prod.mk.injEq] at this
      obtain ⟨rfl, h2⟩ := this
      obtain ⟨_, _, hu, _⟩ := tyI_spec ht
      obtain ⟨inf, _, q1, q2, _, q4, _⟩ := tyI_spec hte
      obtain ⟨de, hd1, hd2⟩ := hE E hu
      refine g_plain2 rfl (fun _ _ h => by cases h) hw hx hy (v := .agg vs.toArray) (w := .int kd n) (r := r) (by simp [plain, hps]) rfl (fun ρ W h3 h4 => ?_) hv k
      have hag : (isAgg E).run P W = .ok false W := by
        unfold isAgg
        cases de <;> first | (cases hd2; done) | simp [run_underlying hd1]
      simp [execOp, Instr.index, asIntOf, h3, h4, run_underlying hu, hn, part, hag, sizeOf, typeInfo, q2, q4, h2, hr]
  · cases this
theorem g_sliceS (hT : P.underlying T = some .string) {lo hi : Option Operand} (hw : wantedV ops (mkS tm ob ng) ⟨d, .slice T x lo hi none, ty, pos, after, gd⟩ = some true) {a b : ByteArray} {l h : Nat} (hx : evL tm x = .str a) (hlo : loV tm lo = some l) (hhi : hiV tm a.size hi = some h) (h1 : l ≤ h) (h2 : h ≤ a.size) (hb : a.extract l h = b)
    (k : GoL P ops draw (i + 1) L (acc ++ [(keysO (mkS tm ob ng) ⟨d, .slice T x lo hi none, ty, pos, after, gd⟩, [])]) (mkS (putT d (.str b) tm) ob ng) K) : GoL P ops draw i (⟨d, .slice T x lo hi none, ty, pos, after, gd⟩ :: L) acc (mkS tm ob ng) K := by
  subst hb
  have hn : ∀ {e : Operand} {m : Nat}, toNat? (evL tm e) = some m → ∃ kd, evL tm e = .int kd (m : Int) := fun {e m} h => by
    unfold toNat? at h
    split at h
    · rename_i kd q hq
      split at h
      · injection h with h
        exact ⟨kd, by rw [hq]; congr 1; omega⟩
      · cases h
    · cases h
  refine g_plain (v := .string (a.extract l h)) hw (fun e he => ?_) (fun _ _ h => by cases h) (fun W => ?_) rfl k
  · simp only [Op.operands] at he
    simp at he
    rcases he with rfl | he | he
    · rw [hx]; rfl
    · subst he
      obtain ⟨kd, h3⟩ := hn hlo
      rw [h3]; rfl
    · subst he
      obtain ⟨kd, h3⟩ := hn hhi
      rw [h3]; rfl
  · cases lo with
    | none =>
      simp only [loV, Option.some.injEq] at hlo
      subst hlo
      cases hi with
      | none =>
        simp only [hiV, Option.some.injEq] at hhi
        subst hhi
        simp [execOp, Instr.sliceAt, Instr.slice, hx, plain, plain1, run_underlying hT, Instr.sliceBounds]
      | some e =>
        obtain ⟨kd, h3⟩ := hn hhi
        simp [execOp, Instr.sliceAt, Instr.slice, hx, h3, plain, plain1, run_underlying hT, Instr.sliceBounds, Instr.sliceBound, asIntOf, h2]
    | some e' =>
      obtain ⟨kd', h3'⟩ := hn hlo
      cases hi with
      | none =>
        simp only [hiV, Option.some.injEq] at hhi
        subst hhi
        simp [execOp, Instr.sliceAt, Instr.slice, hx, h3', plain, plain1, run_underlying hT, Instr.sliceBounds, Instr.sliceBound, asIntOf, h1]
      | some e =>
        obtain ⟨kd, h3⟩ := hn hhi
        simp [execOp, Instr.sliceAt, Instr.slice, hx, h3, h3', plain, plain1, run_underlying hT, Instr.sliceBounds, Instr.sliceBound, asIntOf, h1, h2]
end
end VL
end Go.Proofs.YthmlnffponjikaaGreatDoor
namespace Go.Proofs.YthmlnffponjikaaGreatDoor
namespace VL
open Go.RowKit

def subT (tm : List (Nat × PV)) : List (Nat × PV) → Prop
  | [] => True
  | (k, v) :: r => look tm k = v ∧ subT tm r
def subO (ob : List (Nat × Option (Gen × VObj))) : List (Nat × Option (Gen × VObj)) → Prop
  | [] => True
  | (k, v) :: r => lookO ob k = v ∧ subO ob r
theorem shift_sub {tm tm' : List (Nat × PV)} {ob ob' : List (Nat × Option (Gen × VObj))} {ng ng' : Nat} (h1 : subT tm tm') (h2 : subO ob ob') (h3 : ng ≤ ng') : Shift (mkS tm ob ng) (mkS tm' ob' ng') := by
  have g1 : ∀ l, subT tm l → ∀ t, look l t = .un ∨ look l t = look tm t := fun l => by
    induction l with
    | nil => intro _ t; exact .inl rfl
    | cons q l ih =>
      intro h t
      obtain ⟨e, h⟩ := h
      show (if t = q.1 then q.2 else look l t) = _ ∨ (if t = q.1 then q.2 else look l t) = _
      by_cases ht : t = q.1
      · rw [if_pos ht]; right; rw [ht]; exact e.symm
      · rw [if_neg ht]; exact ih h t
  have g2 : ∀ l, subO ob l → ∀ t, lookO l t = none ∨ lookO l t = lookO ob t := fun l => by
    induction l with
    | nil => intro _ t; exact .inl rfl
    | cons q l ih =>
      intro h t
      obtain ⟨e, h⟩ := h
      show (if t = q.1 then q.2 else lookO l t) = _ ∨ (if t = q.1 then q.2 else lookO l t) = _
      by_cases ht : t = q.1
      · rw [if_pos ht]; right; rw [ht]; exact e.symm
      · rw [if_neg ht]; exact ih h t
  exact shift_drop (g1 tm' h1) (g2 ob' h2) h3
/-- Knowledge is let go ahead of a code. -/
theorem pws_shift {P : Program} [WInv P] {Q : Ex → FS → Prop} {cs : List Code} {s s1 : FS} (h : Shift s s1) (k : PWs P cs Q s1) (hne : cs ≠ []) : PWs P cs Q s := by
  cases cs with
  | nil => exact absurd rfl hne
  | cons c cs =>
    obtain ⟨e, s', h1, h2⟩ := k
    exact ⟨e, s', .shift h h1, h2⟩
/-- nil as a row of the call's own. -/
theorem shift_row {s : FS} {t u : Nat} {E k : Nat} (h : s.tm t = .nil) : Shift s ⟨fun x => if x = t then .row u (s.ng, 0) else s.tm x, setOb s.ob u (some ((s.ng, 0), .row E k false [])), s.ng + 1⟩ := fun r a x hX => by
  have hnew : ¬ x.G (s.ng, 0) := fun hg => by
    rcases hX.gens _ hg with e | ⟨_, e⟩
    · exact absurd e (Nat.lt_irrefl _)
    · exact e.elim
  let y : Ctx := ⟨fun g => x.G g ∨ g = (s.ng, 0), x.F, x.W, fun g => if g = (s.ng, 0) then .slice none 0 0 else x.ρ g⟩
  have st : Step x y := ⟨fun g hg => ⟨.inl hg, if_neg (fun (e : g = (s.ng, 0)) => hnew (by rw [← e]; exact hg))⟩, fun _ _ h => h, fun _ _ _ _ h => h⟩
  have hρ : y.ρ (s.ng, 0) = .slice none 0 0 := if_pos rfl
  refine ⟨y, rfl, hX.defers, hX.size, hX.gr, fun g hg => .inl ?_, fun t' => ?_, fun t' g o ho => ?_, fun t1 t2 g1 g2 o1 o2 b hne h1 h2 hb => ?_, hX.flt, hX.f0, hX.fnew, fun g hg => ⟨(st.G g (hX.rho g hg).1).1, (st.G g (hX.rho g hg).1).2.trans (hX.rho g hg).2⟩, hX.inv⟩
  · rcases hg with hg | rfl
    · rcases hX.gens g hg with e | ⟨_, e⟩
      · show g.1 < s.ng + 1; omega
      · exact e.elim
    · exact Nat.lt_succ_self _
  · show Rep y (if t' = t then .row u (s.ng, 0) else s.tm t') _
    split
    · rename_i e
      subst e
      have hr := hX.tm t'
      rw [h] at hr
      generalize a.tmps.getD t' undef = v at hr
      cases hr
      exact .row u (s.ng, 0) none 0 0 (.inr rfl) hρ
    · exact (hX.tm t').step st
  · change (if t' = u then some ((s.ng, 0), VObj.row E k false []) else s.ob t') = some (g, o) at ho
    split at ho
    · injection ho with ho
      injection ho with e1 e2
      subst e1 e2
      exact ⟨.inr rfl, by simp, by simp, [], by rw [hρ]; exact World.ownsRow_nil _ _ _ _, fun m p v hp => by simp at hp, fun b hb => by rw [hρ] at hb; simp [blk] at hb⟩
    · obtain ⟨h3, h4⟩ := hX.ob t' g o ho
      exact ⟨.inl h3, h4.step h3 st fun b _ => ⟨rfl, fun _ h => h⟩⟩
  · change (if t1 = u then some ((s.ng, 0), VObj.row E k false []) else s.ob t1) = some (g1, o1) at h1
    change (if t2 = u then some ((s.ng, 0), VObj.row E k false []) else s.ob t2) = some (g2, o2) at h2
    split at h1
    · injection h1 with h1
      injection h1 with e1 e2
      subst e1
      rw [hρ] at hb
      simp [blk] at hb
    · split at h2
      · injection h2 with h2
        injection h2 with e1 e2
        subst e1
        rw [hρ]
        simp [blk]
      · rw [(st.G g1 (hX.ob t1 g1 o1 h1).1).2] at hb
        rw [(st.G g2 (hX.ob t2 g2 o2 h2).1).2]
        exact hX.apart t1 t2 g1 g2 o1 o2 b hne h1 h2 hb
/-- .. where the state is written out: nil in slot t becomes the row t. -/
theorem shift_nil {tm tm' : List (Nat × PV)} {ob ob' : List (Nat × Option (Gen × VObj))} {ng ng' : Nat} (t E k : Nat) (h0 : look tm t = .nil) (h1 : subT ((t, .row t (ng, 0)) :: tm) tm') (h2 : subO ((t, some ((ng, 0), .row E k false [])) :: ob) ob') (h3 : ng + 1 ≤ ng') : Shift (mkS tm ob ng) (mkS tm' ob' ng') := by
  refine Shift.trans (shift_row (t := t) (u := t) (E := E) (k := k) h0) ?_
  exact shift_sub (tm := (t, .row t (ng, 0)) :: tm) (ob := (t, some ((ng, 0), .row E k false [])) :: ob) h1 h2 h3
section
variable {P : Program} [WInv P] {ops : Array Oper} {draw : Bool} {i : Nat} {L : List Oper} {acc : List (List Nat × List Nat)} {K : FS → Prop} {tm : List (Nat × PV)} {ob : List (Nat × Option (Gen × VObj))} {ng : Nat}
  {d : Option Tmp} {ty T T' : TypeId} {pos : String} {after : Array Edge} {gd : Option (Nat × Bool)} {x y : Operand}
theorem go_endF {cs : List Code} {Q : Ex → FS → Prop} (h : PWs P cs Q (mkS tm ob (ng + 1))) : GoL P ops false i [] acc (mkS tm ob ng) (fun s' => PWs P cs Q ⟨s'.tm, s'.ob, s'.ng + 1⟩) := go_nil (fun h => by cases h) h
theorem go_endT {cs : List Code} {Q : Ex → FS → Prop} (hd : drawOK ops (fun j => acc[j]?) = true) (h : PWs P cs Q (mkS tm ob (ng + 1))) : GoL P ops true i [] acc (mkS tm ob ng) (fun s' => PWs P cs Q ⟨s'.tm, s'.ob, s'.ng + 1⟩) := go_nil (fun _ => hd) h
theorem g_inc (hw : wantedV ops (mkS tm ob ng) ⟨d, .binOp .add T x (.const (.int .i64 1)) T', ty, pos, after, gd⟩ = some true) {a : Nat} (hx : evL tm x = .int .i64 (a : Int)) (h2 : a + 1 ≤ 9223372036854775807)
    (kk : GoL P ops draw (i + 1) L (acc ++ [(keysO (mkS tm ob ng) ⟨d, .binOp .add T x (.const (.int .i64 1)) T', ty, pos, after, gd⟩, [])]) (mkS (putT d (.int .i64 ((a + 1 : Nat) : Int)) tm) ob ng) K) : GoL P ops draw i (⟨d, .binOp .add T x (.const (.int .i64 1)) T', ty, pos, after, gd⟩ :: L) acc (mkS tm ob ng) K :=
  g_addN (b := 1) hw hx rfl rfl h2 kk
end
end VL
end Go.Proofs.YthmlnffponjikaaGreatDoor
namespace Go.Proofs.YthmlnffponjikaaGreatDoor
namespace VL
open Go.RowKit
section
variable {P : Program} [WInv P] {ops : Array Oper} {draw : Bool} {i : Nat} {L : List Oper} {acc : List (List Nat × List Nat)} {K : FS → Prop} {tm : List (Nat × PV)} {ob : List (Nat × Option (Gen × VObj))} {ng : Nat}
  {d : Option Tmp} {ty : TypeId} {pos : String} {after : Array Edge} {gd : Option (Nat × Bool)} {s : FS}
/-- A call whose argument behind 'pre' is a pointer to an object. -/
theorem g_callO {f : FuncId} {es : Array Operand} {ts : Array TypeId} {pre post pre' post' : List PV} {t : Nat} {g : Gen} {cs qs obj' : List PV} {us1 us2 us3 : List (Nat × Option (Gen × VObj))} {res : PV}
    (hc : Contract P f (pre' ++ .ptr pre.length (0, pre.length) 0 :: post') (some (pre.length, qs)) res obj') (hw : wantedV ops (mkS tm ob ng) ⟨d, .call ⟨.value (.func f), es, ts⟩, ty, pos, after, gd⟩ = some true)
    (he : es.toList.map (evL tm) = pre ++ .ptr t g 0 :: post) (hob : getOb (lookO ob) t g = some (.box cs)) (h1 : resA (lookO ob) pre = some (pre', us1)) (h2 : resL (lookO ob) cs = some (qs, us2)) (h3 : resA (lookO ob) post = some (post', us3))
    (k : GoL P ops draw (i + 1) L (acc ++ [(keysO (mkS tm ob ng) ⟨d, .call ⟨.value (.func f), es, ts⟩, ty, pos, after, gd⟩, (us1 ++ (us2 ++ us3) ++ [(t, some (g, VObj.box obj'))]).map (·.1))])
      (mkS (putT d res tm) ((us1 ++ (us2 ++ us3) ++ [(t, some (g, VObj.box obj'))]).reverse ++ ob) ng) K) : GoL P ops draw i (⟨d, .call ⟨.value (.func f), es, ts⟩, ty, pos, after, gd⟩ :: L) acc (mkS tm ob ng) K := by
  refine go_op (.callO hw rfl (by rw [ev_mkS]; exact he) hob h1 h2 h3 rfl hc) ?_
  rw [mkS_app]
  exact k
/-- .. its first argument. -/
theorem g_call1 {f : FuncId} {es : Array Operand} {ts : Array TypeId} {post post' : List PV} {t : Nat} {g : Gen} {cs qs obj' : List PV} {us2 us3 : List (Nat × Option (Gen × VObj))} {res : PV}
    (hc : Contract P f (.ptr 0 (0, 0) 0 :: post') (some (0, qs)) res obj') (hw : wantedV ops (mkS tm ob ng) ⟨d, .call ⟨.value (.func f), es, ts⟩, ty, pos, after, gd⟩ = some true)
    (he : es.toList.map (evL tm) = .ptr t g 0 :: post) (hob : getOb (lookO ob) t g = some (.box cs)) (h2 : resL (lookO ob) cs = some (qs, us2)) (h3 : resA (lookO ob) post = some (post', us3))
    (k : GoL P ops draw (i + 1) L (acc ++ [(keysO (mkS tm ob ng) ⟨d, .call ⟨.value (.func f), es, ts⟩, ty, pos, after, gd⟩, (us2 ++ us3 ++ [(t, some (g, VObj.box obj'))]).map (·.1))])
      (mkS (putT d res tm) ((us2 ++ us3 ++ [(t, some (g, VObj.box obj'))]).reverse ++ ob) ng) K) : GoL P ops draw i (⟨d, .call ⟨.value (.func f), es, ts⟩, ty, pos, after, gd⟩ :: L) acc (mkS tm ob ng) K :=
  g_callO (pre := []) (pre' := []) (us1 := []) hc hw he hob rfl h2 h3 k
/-- How a call ends that has been handed an object. -/
def RetO (P : Program) (rs : List ResultVar) (res : PV) (j : Nat) (obj' : List PV) (e : Ex) (s : FS) : Prop :=
  RetQ P rs res e s ∧ ∃ obj2 us2, s.ob j = some ((0, j), .box obj2) ∧ resL s.ob obj2 = some (obj', us2)
omit [WInv P] in
theorem ro_ret {rs : List ResultVar} {res : PV} {j : Nat} {obj' obj2 ps qs : List PV} {us us2 : List (Nat × Option (Gen × VObj))} (h1 : resVs P s rs = some ps) (h2 : resA s.ob ps = some (qs, us)) (h3 : oneOr qs = res)
    (h4 : s.ob j = some ((0, j), .box obj2)) (h5 : resL s.ob obj2 = some (obj', us2)) : RetO P rs res j obj' .ret s := ⟨rq_ret h1 h2 h3, _, _, h4, h5⟩
omit [WInv P] in
theorem ro_normal {rs : List ResultVar} {res : PV} {j : Nat} {obj' obj2 ps qs : List PV} {us us2 : List (Nat × Option (Gen × VObj))} (h1 : resVs P s rs = some ps) (h2 : resA s.ob ps = some (qs, us)) (h3 : oneOr qs = res)
    (h4 : s.ob j = some ((0, j), .box obj2)) (h5 : resL s.ob obj2 = some (obj', us2)) : RetO P rs res j obj' .normal s := ⟨rq_normal h1 h2 h3, _, _, h4, h5⟩
/-- A function with an object: run its body from its arguments. -/
theorem contract_runO (hmix : P.follows .mixedOrders = true) {f : FuncId} {fn : Func} {c : Code} {args : List PV} {j : Nat} {os obj' : List PV} {res : PV} (hf : P.funcs[f]? = some fn) (hg : isGo P f = true) (hb : fn.body = some c) (hok : (decide (args.length ≤ fn.ntmps) && codeOK fn.ntmps c) = true)
    (h : PWs P [c] (RetO P fn.results.toList res j obj') (mkS (argTm 0 args) [(j, some ((0, j), .box os))] 1)) : Contract P f args (some (j, os)) res obj' := by
  simp only [Bool.and_eq_true, decide_eq_true_eq] at hok
  obtain ⟨e, s', h1, h2⟩ := pw_of_one h
  have hsh : Shift (initS args (some (j, os))) (mkS (argTm 0 args) [(j, some ((0, j), .box os))] 1) := shift_drop (fun t => by
    rcases argTm_look args 0 t with h | ⟨_, h⟩
    · exact .inl h
    · exact .inr h) (fun t => by
      by_cases e : t = j
      · right
        show (if t = j then _ else _) = (if t = j then _ else _)
        rw [if_pos e, if_pos e]
      · left
        show (if t = j then _ else _) = _
        rw [if_neg e]; rfl) (Nat.le_refl _)
  obtain ⟨h2, obj2, us2, ho1, ho2⟩ := h2
  have hobj : ∀ j' os', some (j, os) = some (j', os') → s'.ob j' = some ((0, j'), .box obj2) ∧ resL s'.ob obj2 = some (obj', us2) := fun j' os' h => by
    injection h with h
    injection h with e1 e2
    subst e1
    exact ⟨ho1, ho2⟩
  cases e with
  | exit id => exact h2.elim
  | normal =>
    obtain ⟨ps, qs, us, h3, h4, h5⟩ := h2
    subst h5
    exact contract_of hmix hg hf hb hok.1 hok.2 (.shift hsh h1) (.inl rfl) h3 h4 hobj (fun h => by cases h)
  | ret =>
    obtain ⟨ps, qs, us, h3, h4, h5⟩ := h2
    subst h5
    exact contract_of hmix hg hf hb hok.1 hok.2 (.shift hsh h1) (.inr rfl) h3 h4 hobj (fun h => by cases h)
end
end VL
end Go.Proofs.YthmlnffponjikaaGreatDoor
namespace Go.Proofs.YthmlnffponjikaaGreatDoor
namespace VL
open Go.RowKit
section
variable {P : Program} [WInv P] {ops : Array Oper} {draw : Bool} {i : Nat} {L : List Oper} {acc : List (List Nat × List Nat)} {K : FS → Prop} {tm : List (Nat × PV)} {ob : List (Nat × Option (Gen × VObj))} {ng : Nat}
  {d : Option Tmp} {ty T T' : TypeId} {pos : String} {after : Array Edge} {gd : Option (Nat × Bool)} {x y : Operand}
theorem g_nil (hw : wantedV ops (mkS tm ob ng) ⟨d, .nilCheck x, ty, pos, after, gd⟩ = some true) {t : Nat} {g : Gen} {o : Nat} (hv : evL tm x = .ptr t g o)
    (k : GoL P ops draw (i + 1) L (acc ++ [(keysO (mkS tm ob ng) ⟨d, .nilCheck x, ty, pos, after, gd⟩, [])]) (mkS (putT d (.ptr t g o) tm) ob ng) K) : GoL P ops draw i (⟨d, .nilCheck x, ty, pos, after, gd⟩ :: L) acc (mkS tm ob ng) K :=
  go_act (us := []) hw (.fn (by simp only [act, ev_mkS, hv])) k
theorem g_rem (hw : wantedV ops (mkS tm ob ng) ⟨d, .binOp .rem T x y T', ty, pos, after, gd⟩ = some true) {k : IntKind} {a b : Int} (hx : evL tm x = .int k a) (hy : evL tm y = .int k b) (h0 : b ≠ 0)
    (kk : GoL P ops draw (i + 1) L (acc ++ [(keysO (mkS tm ob ng) ⟨d, .binOp .rem T x y T', ty, pos, after, gd⟩, [])]) (mkS (putT d (.int k (a.tmod b)) tm) ob ng) K) : GoL P ops draw i (⟨d, .binOp .rem T x y T', ty, pos, after, gd⟩ :: L) acc (mkS tm ob ng) K := by
  refine g_plain2 rfl (fun _ _ h => by cases h) hw hx hy (v := .int k a) (w := .int k b) (r := .int k (a.tmod b)) rfl rfl (fun ρ W h1 h2 => ?_) rfl kk
  simp [execOp, h1, h2, eqGuard, binOp, Op.intDiv, h0]
theorem g_quo (hw : wantedV ops (mkS tm ob ng) ⟨d, .binOp .quo T x y T', ty, pos, after, gd⟩ = some true) {k : IntKind} {a b : Int} (hx : evL tm x = .int k a) (hy : evL tm y = .int k b) (h0 : b ≠ 0)
    (kk : GoL P ops draw (i + 1) L (acc ++ [(keysO (mkS tm ob ng) ⟨d, .binOp .quo T x y T', ty, pos, after, gd⟩, [])]) (mkS (putT d (.int k (k.wrap (a.tdiv b))) tm) ob ng) K) : GoL P ops draw i (⟨d, .binOp .quo T x y T', ty, pos, after, gd⟩ :: L) acc (mkS tm ob ng) K := by
  refine g_plain2 rfl (fun _ _ h => by cases h) hw hx hy (v := .int k a) (w := .int k b) (r := .int k (k.wrap (a.tdiv b))) rfl rfl (fun ρ W h1 h2 => ?_) rfl kk
  simp [execOp, h1, h2, eqGuard, binOp, Op.intDiv, h0]
/-- What & | ^ &^ make. -/
def bitsV (op : BinOp) (k : IntKind) (a b : Int) : Option Int := match op with
  | .and => some (k.wrap (BitVec.ofInt k.bits a &&& BitVec.ofInt k.bits b).toNat)
  | .or => some (k.wrap (BitVec.ofInt k.bits a ||| BitVec.ofInt k.bits b).toNat)
  | .xor => some (k.wrap (BitVec.ofInt k.bits a ^^^ BitVec.ofInt k.bits b).toNat)
  | .andNot => some (k.wrap (BitVec.ofInt k.bits a &&& ~~~BitVec.ofInt k.bits b).toNat)
  | _ => none
theorem g_bits {op : BinOp} (hw : wantedV ops (mkS tm ob ng) ⟨d, .binOp op T x y T', ty, pos, after, gd⟩ = some true) {k : IntKind} {a b c : Int} (hx : evL tm x = .int k a) (hy : evL tm y = .int k b) (h0 : bitsV op k a b = some c)
    (kk : GoL P ops draw (i + 1) L (acc ++ [(keysO (mkS tm ob ng) ⟨d, .binOp op T x y T', ty, pos, after, gd⟩, [])]) (mkS (putT d (.int k c) tm) ob ng) K) : GoL P ops draw i (⟨d, .binOp op T x y T', ty, pos, after, gd⟩ :: L) acc (mkS tm ob ng) K := by
  refine g_plain2 rfl (fun _ _ h => by cases h) hw hx hy (v := .int k a) (w := .int k b) (r := .int k c) rfl rfl (fun ρ W h1 h2 => ?_) rfl kk
  cases op <;> first
    | (cases h0; done)
    | (injection h0 with h0
       subst h0
       simp [execOp, h1, h2, eqGuard, binOp, Op.intBits])
theorem g_shr (hw : wantedV ops (mkS tm ob ng) ⟨d, .binOp .shr T x y T', ty, pos, after, gd⟩ = some true) {k k' : IntKind} {a b : Int} (hx : evL tm x = .int k a) (hy : evL tm y = .int k' b) (h0 : ¬ b < 0)
    (kk : GoL P ops draw (i + 1) L (acc ++ [(keysO (mkS tm ob ng) ⟨d, .binOp .shr T x y T', ty, pos, after, gd⟩, [])]) (mkS (putT d (.int k (a.fdiv (2 ^ (min b.toNat k.bits)))) tm) ob ng) K) : GoL P ops draw i (⟨d, .binOp .shr T x y T', ty, pos, after, gd⟩ :: L) acc (mkS tm ob ng) K := by
  refine g_plain2 rfl (fun _ _ h => by cases h) hw hx hy (v := .int k a) (w := .int k' b) (r := .int k (a.fdiv (2 ^ (min b.toNat k.bits)))) rfl rfl (fun ρ W h1 h2 => ?_) rfl kk
  simp [execOp, h1, h2, eqGuard, binOp, Op.shift, h0]
theorem g_shl (hw : wantedV ops (mkS tm ob ng) ⟨d, .binOp .shl T x y T', ty, pos, after, gd⟩ = some true) {k k' : IntKind} {a b : Int} (hx : evL tm x = .int k a) (hy : evL tm y = .int k' b) (h0 : ¬ b < 0)
    (kk : GoL P ops draw (i + 1) L (acc ++ [(keysO (mkS tm ob ng) ⟨d, .binOp .shl T x y T', ty, pos, after, gd⟩, [])]) (mkS (putT d (.int k (k.wrap (a * 2 ^ (min b.toNat k.bits)))) tm) ob ng) K) : GoL P ops draw i (⟨d, .binOp .shl T x y T', ty, pos, after, gd⟩ :: L) acc (mkS tm ob ng) K := by
  refine g_plain2 rfl (fun _ _ h => by cases h) hw hx hy (v := .int k a) (w := .int k' b) (r := .int k (k.wrap (a * 2 ^ (min b.toNat k.bits)))) rfl rfl (fun ρ W h1 h2 => ?_) rfl kk
  simp [execOp, h1, h2, eqGuard, binOp, Op.shift, h0]
/-- Types that are kinds of numbers. -/
class Kd (P : Program) (T : TypeId) (k : outParam IntKind) : Prop where
  eq : P.underlying T = some (.int k)
theorem g_conv {k k' : IntKind} [h' : Kd P T' k'] [h : Kd P T k] (hw : wantedV ops (mkS tm ob ng) ⟨d, .convert T T' x, ty, pos, after, gd⟩ = some true) {a : Int} (hx : evL tm x = .int k a)
    (kk : GoL P ops draw (i + 1) L (acc ++ [(keysO (mkS tm ob ng) ⟨d, .convert T T' x, ty, pos, after, gd⟩, [])]) (mkS (putT d (.int k' (k'.wrap a)) tm) ob ng) K) : GoL P ops draw i (⟨d, .convert T T' x, ty, pos, after, gd⟩ :: L) acc (mkS tm ob ng) K := by
  refine g_plain1 rfl (fun _ _ h => by cases h) hw hx (v := .int k a) (r := .int k' (k'.wrap a)) rfl (fun ρ W h1 => ?_) rfl kk
  simp [execOp, h1, convert, run_underlying h.eq, run_underlying h'.eq, Conv.intToInt]
theorem g_min (hw : wantedV ops (mkS tm ob ng) ⟨d, .call ⟨.builtin .min, #[x, y], #[T, T']⟩, ty, pos, after, gd⟩ = some true) {k : IntKind} {a b : Int} (hx : evL tm x = .int k a) (hy : evL tm y = .int k b)
    (kk : GoL P ops draw (i + 1) L (acc ++ [(keysO (mkS tm ob ng) ⟨d, .call ⟨.builtin .min, #[x, y], #[T, T']⟩, ty, pos, after, gd⟩, [])]) (mkS (putT d (.int k (if b < a then b else a)) tm) ob ng) K) : GoL P ops draw i (⟨d, .call ⟨.builtin .min, #[x, y], #[T, T']⟩, ty, pos, after, gd⟩ :: L) acc (mkS tm ob ng) K := by
  refine g_plain2 (x := x) (y := y) rfl (fun _ _ h => by cases h) hw hx hy (v := .int k a) (w := .int k b) (r := .int k (if b < a then b else a)) rfl rfl (fun ρ W h1 h2 => ?_) rfl kk
  simp [execOp, resolve, invoke, builtin, Builtin.min_, Builtin.min2]
  rw [h1, h2]
  rfl
theorem g_max (hw : wantedV ops (mkS tm ob ng) ⟨d, .call ⟨.builtin .max, #[x, y], #[T, T']⟩, ty, pos, after, gd⟩ = some true) {k : IntKind} {a b : Int} (hx : evL tm x = .int k a) (hy : evL tm y = .int k b)
    (kk : GoL P ops draw (i + 1) L (acc ++ [(keysO (mkS tm ob ng) ⟨d, .call ⟨.builtin .max, #[x, y], #[T, T']⟩, ty, pos, after, gd⟩, [])]) (mkS (putT d (.int k (if b > a then b else a)) tm) ob ng) K) : GoL P ops draw i (⟨d, .call ⟨.builtin .max, #[x, y], #[T, T']⟩, ty, pos, after, gd⟩ :: L) acc (mkS tm ob ng) K := by
  refine g_plain2 (x := x) (y := y) rfl (fun _ _ h => by cases h) hw hx hy (v := .int k a) (w := .int k b) (r := .int k (if b > a then b else a)) rfl rfl (fun ρ W h1 h2 => ?_) rfl kk
  simp [execOp, resolve, invoke, builtin, Builtin.max_, Builtin.max2]
  rw [h1, h2]
  rfl
/-- One less. -/
theorem g_dec (hw : wantedV ops (mkS tm ob ng) ⟨d, .binOp .sub T x y T', ty, pos, after, gd⟩ = some true) {a : Nat} (hx : evL tm x = .int .i64 ((a + 1 : Nat) : Int)) (hy : evL tm y = .int .i64 1) (h2 : a ≤ 9223372036854775806)
    (kk : GoL P ops draw (i + 1) L (acc ++ [(keysO (mkS tm ob ng) ⟨d, .binOp .sub T x y T', ty, pos, after, gd⟩, [])]) (mkS (putT d (.int .i64 (a : Int)) tm) ob ng) K) : GoL P ops draw i (⟨d, .binOp .sub T x y T', ty, pos, after, gd⟩ :: L) acc (mkS tm ob ng) K := by
  refine g_sub hw hx hy (by omega) (by omega) ?_
  have : ((a + 1 : Nat) : Int) - 1 = (a : Int) := by omega
  rw [this]
  exact kk
end
end VL
end Go.Proofs.YthmlnffponjikaaGreatDoor
namespace Go.Proofs.YthmlnffponjikaaGreatDoor
namespace VL
open Go.RowKit
def ixI (P : Program) (T : TypeId) : Option Nat := match P.underlying T with
  | some (.array len E) => match P.underlying E, tyI P E with
    | some de, some te => if TypeDesc.isAgg de = false ∧ te.size = 1 then some len else none
    | _, _ => none
  | _ => none
class Ix (P : Program) (T : TypeId) (len : outParam Nat) : Prop where
  eq : ixI P T = some len
theorem plainL_at : ∀ {cs : List PV} {vs : List Value} {n : Nat} {p : PV}, plainL cs = some vs → cs[n]? = some p → ∃ r, vs[n]? = some r ∧ ofConst r = p
  | [], _, n, p, h, hn => by simp at hn
  | c :: cs, vs, n, p, h, hn => by
    simp only [plainL] at h
    split at h
    · rename_i v vs' h1 h2
      injection h with h
      subst h
      cases n with
      | zero =>
        simp only [List.getElem?_cons_zero, Option.some.injEq] at hn
        subst hn
        refine ⟨v, rfl, ?_⟩
        cases c <;> first | (cases h1; done) | (injection h1 with h1; subst h1; rfl)
      | succ n =>
        obtain ⟨r, h3, h4⟩ := plainL_at h2 (n := n) (by simpa using hn)
        exact ⟨r, by simpa using h3, h4⟩
    · cases h
section
variable {P : Program} [WInv P] {ops : Array Oper} {draw : Bool} {i : Nat} {L : List Oper} {acc : List (List Nat × List Nat)} {K : FS → Prop} {tm : List (Nat × PV)} {ob : List (Nat × Option (Gen × VObj))} {ng : Nat}
  {d : Option Tmp} {ty T T' : TypeId} {pos : String} {after : Array Edge} {gd : Option (Nat × Bool)} {x y : Operand}
theorem g_ix {len : Nat} [h : Ix P T len] (hw : wantedV ops (mkS tm ob ng) ⟨d, .index T x y, ty, pos, after, gd⟩ = some true) {cs : List PV} {vs : List Value} {kd : IntKind} {n : Nat} {pv : PV}
    (hx : evL tm x = .agg cs) (hps : plainL cs = some vs) (hy : evL tm y = .int kd (n : Int)) (hl : cs.length = len) (hr : cs[n]? = some pv)
    (k : GoL P ops draw (i + 1) L (acc ++ [(keysO (mkS tm ob ng) ⟨d, .index T x y, ty, pos, after, gd⟩, [])]) (mkS (putT d pv tm) ob ng) K) : GoL P ops draw i (⟨d, .index T x y, ty, pos, after, gd⟩ :: L) acc (mkS tm ob ng) K := by
  have := h.eq
  unfold ixI at this
  split at this
  · rename_i len' E hu
    split at this
    · rename_i de te hd1 hte
      split at this
      · rename_i hc
        injection this with this
        subst this
        obtain ⟨inf, _, q1, q2, _, q4, _⟩ := tyI_spec hte
        obtain ⟨r, hr1, hr2⟩ := plainL_at hps hr
        have hn : n < len' := by rw [← hl]; exact (List.getElem?_eq_some_iff.1 hr).1
        refine g_plain2 (x := x) (y := y) rfl (fun _ _ h => by cases h) hw hx hy (v := .agg vs.toArray) (w := .int kd n) (r := r) (by simp [plain, hps]) rfl (fun ρ W h3 h4 => ?_) hr2 k
        have hag : (isAgg E).run P W = .ok false W := by
          unfold isAgg
          have hd2 := hc.1
          cases de <;> first | (cases hd2; done) | simp [run_underlying hd1]
        simp [execOp, Instr.index, asIntOf, h3, h4, run_underlying hu, hn, part, hag, sizeOf, typeInfo, q2, q4, hc.2, hr1]
      · cases this
    · cases this
  · cases this
/-- Some element of a list of words. -/
theorem some_str {L : List ByteArray} {r : Int} (h0 : 0 ≤ r) (h1 : r < (L.length : Int)) : ∃ (n : Nat) (b : ByteArray), r = (n : Int) ∧ L[n]? = some b ∧ b ∈ L := by
  refine ⟨r.toNat, L[r.toNat]'(by omega), by omega, List.getElem?_eq_getElem _, List.getElem_mem _⟩
theorem some_int {L : List Int} {r : Int} (h0 : 0 ≤ r) (h1 : r < (L.length : Int)) : ∃ (n : Nat) (b : Int), r = (n : Int) ∧ L[n]? = some b ∧ b ∈ L := by
  refine ⟨r.toNat, L[r.toNat]'(by omega), by omega, List.getElem?_eq_getElem _, List.getElem_mem _⟩
end
end VL
end Go.Proofs.YthmlnffponjikaaGreatDoor
