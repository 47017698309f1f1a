/- Functions that turn a row in place and have plain arguments behind it. No program is named. | Stores of whole elements behind another store; functions that turn a row, held against Lean functions. No program is named. | make([]T, n): a new row of n zeros, where a nil list counts as an empty one. No program is named. | What stands behind a place of a row of the call's own: it is looked at and cleared while the row is turned. No program is named. | Functions that turn the row that is their first argument and hand back a front of it. No program is named. | A run that stops at structs that are written out. No program is named. | A call that turns an object with rows, where one of the object's own rows is handed in too (and is open to others from then on). No program is named. | Steps that take a value out of a function's Lean form, in short. No program is named. | Rows looked at from a place on, cleared, cut short, at lists of any type. No program is named. | Functions of the program as Lean functions. Written by fxgen.py. | Three strings. No program is named. -/
import Derived.Test.YtmgfammllddkhaaGreatDoorCS05
import Derived.Test.YtmgfammllddkhaaGreatDoorCS04
namespace Go.Proofs.YtmgfammllddkhaaGreatDoor
namespace VL
open Go.RowKit
def PV.dryF:PV→Bool
 | .fn _ ps=>ps.isEmpty
 | p=>p.dry1
theorem Rep.dryF {x y:Ctx} {p:PV} {v:Value} (h:Rep x p v) (hp:p.dryF=true):Rep y p v:=by
 cases h with
 | fn f ps cs hl hh=>
   have:ps = []:=List.isEmpty_iff.1 hp
   subst this
   exact .fn f [] cs hl fun i p v hq=>by simp at hq
 | bool b=>exact .bool b
 | int k n=>exact .int k n
 | str s=>exact .str s
 | _=>simp [PV.dryF,PV.dry1] at hp
def Dr (x:Ctx) (b:Nat):Prop:=blk (x.ρ (0,0))=some b
structure PreR (x:Ctx) (args:List PV) (E k:Nat) (els:List (List PV)) (vs:Array Value):Prop where
 size:args.length+1=vs.size
 rep:∀ (i:Nat) (p:PV) (v:Value),(PV.row 0 (0,0)::args)[i]? = some p→vs[i]? = some v→Rep x p v
 ob:x.G (0,0)∧ObRep x x.W.heap.size (Dr x) (0,0) (.row E k false els)
 gen:∀ g,x.G g→g.1=0
 flt:∀ b o,x.F b o→b<x.W.heap.size
structure PostR (x y:Ctx) (E k:Nat) (r:PV) (els':List (List PV)) (v:Value):Prop where
 step:Step x y
 gr:Gr (Dr x) x.W y.W
 fnew:∀ b o,y.F b o→x.F b o∨x.W.heap.size≤b∨Dr x b
 flt:∀ b o,y.F b o→b<y.W.heap.size
 rep:Rep y r v
 ob:ObRep y x.W.heap.size (Dr x) (0,0) (.row E k false els')
structure ContractR (P:Program) [WInv P] (f:FuncId) (args:List PV) (E k:Nat) (els:List (List PV)) (r:PV) (els':List (List PV)):Prop where
 isGo:VL.isGo P f=true
 calls:∀ (x:Ctx) (vs:Array Value),PreR x args E k els vs→(∀ W',Gr (Dr x) x.W W'→WInv.I P W')→Calls P f vs x.W fun e W'=>∃ y v,y.W=W'∧e = .returned v∧PostR x y E k r els' v
section
variable {P:Program} [WInv P] {r:Run} {ops:Array Oper} {o:Oper} {i:Nat} {s s':FS}
theorem ZrQ {f:FuncId} {es:Array Operand} {ts:Array TypeId} {post:List PV} {t:Nat} {g:Gen} {E k:Nat} {els els':List (List PV)} {res res':PV} (ho:o.op = .call { callee:=.value (.func f),args:=es,argTypes:=ts })
  (he:es.toList.map (ev s) = .row t g::post) (hob:s.ob t=some (g,.row E k false els)) (hp:post.all PV.dryF=true) (hc:ContractR P f post E k els res els') (hres:res.dry=true∧res'=res∨res = .row 0 (0,0)∧res' = .row t g) (hI:r.I=WInv.I P):OpOK P r o i s ⟨res',[(t,some (g,.row E k false els'))]⟩:=by
 intro S a x Q hX hi hd
 have hrep:∀ (j:Nat) (p:PV),(PV.row t g::post)[j]? = some p→Rep x p ((es.map a.eval).getD j undef):=fun j p hp=>by
  rw [← he,List.getElem?_map] at hp
  cases he:es.toList[j]? with
  | none=>rw [he] at hp;simp at hp
  | some e=>
    rw [he] at hp
    simp only [Option.map_some,Option.some.injEq] at hp
    subst hp
    have hea:es[j]? = some e:=by simpa using he
    have:(es.map a.eval).getD j undef=a.eval e:=by simp [hea]
    rw [this]
    exact ZR hX e
 obtain ⟨hG,hO⟩:=hX.ob t g _ hob
 have hlt:=fun b hb=>hO.lt b hb
 obtain ⟨q1,q2,vs2,q3,q4,q5⟩:=hO
 let z:Ctx:=⟨fun g'=>g'=(0,0),x.F,x.W,fun _=>x.ρ g⟩
 have hpre:PreR z post E k els (es.map a.eval):=by
  refine ⟨?_,fun j p v hj hv=>?_,⟨rfl,q1,q2,vs2,q3,fun m p v hm hv=>?_,fun b hb=>⟨.inr hb,(q5 b hb).2⟩⟩,fun g' e=>?_,hX.flt⟩
  ·have:=congrArg List.length he
   simp at this
   simp [this]
  ·cases j with
   | zero=>
     simp only [List.getElem?_cons_zero,Option.some.injEq] at hj
     subst hj
     have:=hrep 0 (.row t g) rfl
     rw [Array.getD_eq_getD_getElem?,hv] at this
     simp only [Option.getD_some] at this
     cases this with
     | row _ _ A n c _ hvv=>exact .row _ _ A n c rfl hvv
   | succ j=>
     have hj':post[j]? = some p:=by simpa using hj
     have:=hrep (j+1) p hj
     rw [Array.getD_eq_getD_getElem?,hv] at this
     exact Rep.dryF this (List.all_eq_true.1 hp p (List.mem_of_getElem? hj'))
  ·obtain ⟨e,he,hpe⟩:=List.mem_flatten.1 (List.mem_of_getElem? hm)
   exact (q4 m p v hm hv).pure_mono (q2 e he p hpe) (fun _ _ h=>h) (fun _ _ _ _ h=>h)
  ·rw [show g'=(0,0) from e]
 have hbig:r.W0.heap.size≤x.W.heap.size:=hX.gr.size
 have hcalls:=hc.calls z _ hpre fun W' hW=>by
  rw [← hI]
  exact hX.inv.1 W' (hX.gr.trans' hW.os hW.tape hW.output hW.size fun b hb hD=>hW.block b (Nat.lt_of_lt_of_le hb hbig) fun e=>by
   rcases (hlt b e).2 with h | h
   ·omega
   ·exact hD h)
 unfold Oper.wp
 rw [Zed ho hc.isGo,Oper.upon_enter]
 refine hcalls.mono ?_
 rintro e' W' ⟨y,v,rfl,rfl,hpost⟩
 obtain ⟨w1,w2,vs3,w3,w4,w5⟩:=hpost.ob
 have hρ:y.ρ (0,0)=x.ρ g:=(hpost.step.G (0,0) rfl).2
 rw [hρ] at w3 w5
 let y':Ctx:=⟨x.G,y.F,y.W,x.ρ⟩
 have k2:Step x y':=⟨fun _ h=>⟨h,rfl⟩,fun b o h=>hpost.step.F b o h,fun b o w hF hw=>hpost.step.W b o w hF hw⟩
 refine ⟨y',rfl,hX.change k2 hd hpost.gr.os hpost.gr.tape hpost.gr.output hpost.gr.size (fun b hb hne=>hpost.gr.block b hb fun e=>hne g _ hob e) (fun b o h=>?_) hpost.flt
  (fun g' hg'=>(hX.gens g' hg').imp id fun ⟨e1,e2⟩=>⟨e1,.inl e2⟩) hG ⟨w1,w2,vs3,w3,fun m p v hm hv=>?_,fun b hb=>⟨(hlt b hb).2,(w5 b hb).2⟩⟩ (fun b hb=>.inr ⟨g,_,hob,hb⟩) ?_⟩
 ·rcases hpost.fnew b o h with h1 | h1 | h1
  ·exact .inl h1
  ·exact .inr h1
  ·have:=((w5 b h1).2 o h).1
   cases this
 ·obtain ⟨e,he,hpe⟩:=List.mem_flatten.1 (List.mem_of_getElem? hm)
  exact (w4 m p v hm hv).pure_mono (w2 e he p hpe) (fun _ _ h=>h) (fun _ _ _ _ h=>h)
 ·have hr:=hpost.rep
  rcases hres with ⟨h1,rfl⟩ | ⟨rfl,rfl⟩
  ·exact hr.dry h1
  ·cases hr with
   | row _ _ A n c _ hvv=>exact .row _ _ A n c hG (hρ.symm.trans hvv)
theorem ZpT {f:FuncId} {es:Array Operand} {ts:Array TypeId} {post:List PV} {t:Nat} {g:Gen} {E k:Nat} {els els':List (List PV)} {res res':PV} (hw:Zf ops s o=some true) (ho:o.op = .call { callee:=.value (.func f),args:=es,argTypes:=ts })
  (he:es.toList.map (ev s) = .row t g::post) (hob:s.ob t=some (g,.row E k false els)) (hp:post.all PV.dryF=true) (hc:ContractR P f post E k els res els') (hres:res.dry=true∧res'=res∨res = .row 0 (0,0)∧res' = .row t g):OpR P ops i o s ⟨res',[(t,some (g,.row E k false els'))]⟩:=.any hw fun s' r hA hI=>by
 obtain ⟨e1,e2,_⟩:=ZdG ho hA
 refine ZrQ ho (by rw [e1,he]) ?_ hp hc hres hI
 rw [← e2 (.row t g) (by rw [he];simp) t (by simp [ZiA,ZdT,ZcN,ZaB])]
 exact hob
end
section
variable {P:Program} [WInv P] {ops:Array Oper} {draw:Bool} {i:Nat} {L:List Oper} {acc:List (List Nat×List Nat)} {K:FS→Prop} {tm:List (Nat×PV)} {ob:List (Nat×Option (Gen×VObj))} {ng:Nat}
 {d:Option Tmp} {ty:TypeId} {pos:String} {after:Array Edge} {gd:Option (Nat×Bool)}
theorem ZcW {f:FuncId} {es:Array Operand} {ts:Array TypeId} {post:List PV} {t:Nat} {g:Gen} {E k:Nat} {els els':List (List PV)} {res:PV} (hc:ContractR P f post E k els res els') (hw:Zf ops (mkS tm ob ng) ⟨d,.call ⟨.value (.func f),es,ts⟩,ty,pos,after,gd⟩=some true)
  (he:es.toList.map (evL tm) = .row t g::post) (hob:Zm ob t=some (g,.row E k false els)) (hp:post.all PV.dryF=true) (hd:res.dry=true)
  (kk:GoL P ops draw (i+1) L (acc ++ [(Zy (mkS tm ob ng) ⟨d,.call ⟨.value (.func f),es,ts⟩,ty,pos,after,gd⟩,[t])]) (mkS (Za3 d res tm) ((t,some (g,.row E k false els'))::ob) ng) K) :
  GoL P ops draw i (⟨d,.call ⟨.value (.func f),es,ts⟩,ty,pos,after,gd⟩::L) acc (mkS tm ob ng) K:=by
 refine ZdF (ZpT hw rfl (by rw [ZS];exact he) hob hp hc (.inl ⟨hd,rfl⟩)) ?_
 rw [Za9]
 exact kk
end
def ZmR (args:List PV) (E k:Nat) (els:List (List PV)):FS:=⟨fun t=>(PV.row 0 (0,0)::args).getD t (.tup []),Zm [(0,some ((0,0),.row E k false els))],1⟩
theorem ZfY {args:List PV} {E k:Nat} {els:List (List PV)} {t:Nat} {g:Gen} {o:VObj} (h:(ZmR args E k els).ob t=some (g,o)):t=0∧g=(0,0)∧o = .row E k false els:=by
 change (if t=0 then some ((0,0),VObj.row E k false els) else none)=some (g,o) at h
 split at h
 ·rename_i e
  injection h with h
  injection h with e1 e2
  exact ⟨e,e1.symm,e2.symm⟩
 ·cases h
def Zu0 (P:Program) (rs:List ResultVar) (res:PV) (E k:Nat) (els':List (List PV)):Ex→FS→Prop
 | .exit _,_=>False
 | _,s=>∃ ps,Zcd P s rs=some ps∧Zce ps=res∧s.ob 0=some ((0,0),.row E k false els')
theorem ZsH {P:Program} {s:FS} {rs:List ResultVar} {res:PV} {E k:Nat} {els':List (List PV)} {ps:List PV} (h1:Zcd P s rs=some ps) (h2:Zce ps=res) (h3:s.ob 0=some ((0,0),.row E k false els')):Zu0 P rs res E k els' .ret s:=⟨ps,h1,h2,h3⟩
theorem Zd5 {P:Program} {s:FS} {rs:List ResultVar} {res:PV} {E k:Nat} {els':List (List PV)} {ps:List PV} (h1:Zcd P s rs=some ps) (h2:Zce ps=res) (h3:s.ob 0=some ((0,0),.row E k false els')):Zu0 P rs res E k els' .normal s:=⟨ps,h1,h2,h3⟩
section
variable {P:Program} [WInv P]
theorem ZhT (hmix:P.follows .mixedOrders=true) {f:FuncId} {fn:Func} {c:Code} {args:List PV} {E k:Nat} {els els':List (List PV)} {e:Ex} {s1:FS} {ps:List PV} {res:PV}
  (hg:isGo P f=true) (hf:P.funcs[f]? = some fn) (hb:fn.body=some c) (hn:args.length+1≤fn.ntmps) (hok:ZaN fn.ntmps c=true) (hrun:RunC P c (ZmR args E k els) e s1) (he:e = .normal∨e = .ret)
  (hres:Zcd P s1 fn.results.toList=some ps) (hps:Zce ps=res) (hob:s1.ob 0=some ((0,0),.row E k false els')):ContractR P f args E k els res els':=by
 subst hps
 refine ⟨hg,fun x vs hpre hinv=>?_⟩
 let r:Run:=⟨x.W,Dr x,(vs++Array.replicate (fn.ntmps - vs.size) undef).size,x.F,x.G,x.ρ,WInv.I P⟩
 have hNr:r.N=fn.ntmps:=by
  have:=hpre.size
  simp [r]
  omega
 have hX:RstX r (fun _=>False) (ZmR args E k els) { tmps:=vs++Array.replicate (fn.ntmps - vs.size) undef,defers:=[] } x:=by
  refine ⟨rfl,rfl,Gr.refl _ _,fun g hg=>?_,fun t=>?_,fun t g o ho=>?_,fun t t' g g' o o' b hne h1 h2 hb1 hb2=>?_,hpre.flt,fun _ _ h=>h,fun _ _ h=>.inl h,fun _ h=>⟨h,rfl⟩,⟨hinv,hpre.gen⟩,fun _ _ _ _ h=>h⟩
  ·rw [hpre.gen g hg]
   exact .inl Nat.zero_lt_one
  ·show Rep x ((PV.row 0 (0,0)::args).getD t (.tup [])) _
   rw [Array.getD_eq_getD_getElem?,Array.getElem?_append,List.getD_eq_getElem?_getD]
   by_cases ht:t<vs.size
   ·have hl:t<(PV.row 0 (0,0)::args).length:=by
     rw [List.length_cons,hpre.size]
     exact ht
    rw [if_pos ht,List.getElem?_eq_getElem hl,Array.getElem?_eq_getElem ht]
    exact hpre.rep t _ _ (List.getElem?_eq_getElem hl) (Array.getElem?_eq_getElem ht)
   ·rw [if_neg ht,List.getElem?_eq_none (by rw [List.length_cons,hpre.size];omega)]
    have:(Array.replicate (fn.ntmps - vs.size) undef)[t - vs.size]?.getD undef=undef:=by
     rw [Array.getElem?_replicate]
     split<;>rfl
    rw [this]
    exact .tup [] #[] rfl (fun i p v hp=>by simp at hp)
  ·obtain ⟨rfl,rfl,rfl⟩:=ZfY ho
   exact hpre.ob
  ·exact absurd ((ZfY h1).1.trans (ZfY h2).1.symm) hne
 refine calls_of_wp hf hb ?_
 refine (ZdK hmix hrun).1 r _ x _ ⟨rfl,by rw [hNr];exact hok⟩ hX fun a' y hY=>?_
 obtain ⟨ws,h1,h2,h3⟩:=ZbG hY fn.results.toList hres
 have hstep:Step x y:=⟨fun g hg=>hY.rho g hg,fun b o hb=>hY.f0 b o hb,fun b o v hb hv=>hY.keep b o v hb hv⟩
 have hend:(results fn a'.tmps).run P y.W = .ok (if ws.length=1 then ws.getD 0 undef else .tuple ws.toArray) y.W:=by
  have:(fn.results.mapM (ZmW a')).run P y.W = .ok ws.toArray y.W:=by
   rw [Array.mapM_eq_mapM_toList,map_eq_pure_bind,Sem.run_bind,h1]
   rfl
  have e:results fn a'.tmps=(fn.results.mapM (ZmW a') >>= fun vs=>pure (if h:vs.size=1 then vs[0] else .tuple vs)):=by
   unfold results
   congr 1
  rw [e,Sem.run_bind,this]
  simp only [Result.andThen_ok,Sem.run_pure]
  congr 1
  by_cases hl:ws.length=1
  ·simp [hl]
  ·simp [hl]
 have hfin:∃ v,(results fn a'.tmps).run P y.W = .ok v y.W∧(fun e W'=>∃ y v,y.W=W'∧e=Ending.returned v∧PostR x y E k (Zce ps) els' v) (Ending.returned v) y.W:=by
  refine ⟨_,hend,y,_,rfl,rfl,hstep,hY.gr,hY.fnew,hY.flt,?_,(hY.ob 0 _ _ hob).2⟩
  have hlq:ps.length=ws.length:=h2.symm
  unfold Zce
  split
  ·rename_i p
   rw [if_pos (by simpa using hlq.symm)]
   exact h3 0 p rfl
  ·rename_i hne
   have hn1:¬ ws.length=1:=fun h=>by
    rw [h] at hlq
    match ps,hlq with
    | [q],_=>exact hne q rfl
   rw [if_neg hn1]
   refine .tup ps ws.toArray (by simpa using hlq) fun j q v hq hv=>?_
   have:=h3 j q hq
   have hv':ws[j]? = some v:=by simpa using hv
   rw [List.getD_eq_getElem?_getD,hv'] at this
   exact this
 rcases he with rfl | rfl
 ·exact ⟨hY.defers,hfin⟩
 ·exact ⟨hY.defers,hfin⟩
theorem ZkS (hmix:P.follows .mixedOrders=true) {f:FuncId} {fn:Func} {c:Code} {args:List PV} {E k:Nat} {els els':List (List PV)} {res:PV} (hf:P.funcs[f]? = some fn) (hg:isGo P f=true) (hb:fn.body=some c) (hok:(decide (args.length+1≤fn.ntmps)&&ZaN fn.ntmps c)=true)
  (h:PWs P [c] (Zu0 P fn.results.toList res E k els') (mkS (Zc3 0 (.row 0 (0,0)::args)) [(0,some ((0,0),.row E k false els))] 1)):ContractR P f args E k els res els':=by
 simp only [Bool.and_eq_true,decide_eq_true_eq] at hok
 obtain ⟨e,s',h1,h2⟩:=Zb2 h
 have hsh:Shift (ZmR args E k els) (mkS (Zc3 0 (.row 0 (0,0)::args)) [(0,some ((0,0),.row E k false els))] 1):=Zc2 (fun t=>by
  rcases Zcp (PV.row 0 (0,0)::args) 0 t with h | ⟨_,h⟩
  ·exact .inl h
  ·exact .inr h) (fun t=>.inr rfl) (Nat.le_refl _)
 cases e with
 | exit id=>exact h2.elim
 | normal=>
   obtain ⟨ps,q1,q2,q3⟩:=h2
   exact ZhT hmix hg hf hb hok.1 hok.2 (.shift hsh h1) (.inl rfl) q1 q2 q3
 | ret=>
   obtain ⟨ps,q1,q2,q3⟩:=h2
   exact ZhT hmix hg hf hb hok.1 hok.2 (.shift hsh h1) (.inr rfl) q1 q2 q3
end
end VL
end Go.Proofs.YtmgfammllddkhaaGreatDoor
namespace Go.Proofs.YtmgfammllddkhaaGreatDoor
namespace VL
open Go.RowKit
theorem ZcM {P:Program} [WInv P] {β:Type} {F:Option β} {R:β→PV} {O:β→List (List PV)} {f:FuncId} {fn:Func} {c:Code} {args:List PV} {E k:Nat} {els:List (List PV)} {r:β} (hF:F=some r) (hmix:P.follows .mixedOrders=true) (hf:P.funcs[f]? = some fn) (hg:isGo P f=true) (hb:fn.body=some c) (hok:(decide (args.length+1≤fn.ntmps)&&ZaN fn.ntmps c)=true)
  (h:∀ r,F=some r→PWs P [c] (Zu0 P fn.results.toList (R r) E k (O r)) (mkS (Zc3 0 (.row 0 (0,0)::args)) [(0,some ((0,0),.row E k false els))] 1)):ContractR P f args E k els (R r) (O r):=ZkS hmix hf hg hb hok (h r hF)
def dn:PV→PV
 | .nil=>.sl []
 | p=>p
theorem ZsA {x:Ctx} {p:PV} {v:Value} (h:Rep x p v):Rep x (dn p) v:=by
 cases h with
 | nil=>exact .sl [] none 0 0 0 0 0 (fun _ _=>.int .i64 0) rfl (Nat.le_refl _) (by omega) (by simp) (by omega) (by simp) (by simp)
 | bool b=>exact .bool b
 | int k n=>exact .int k n
 | str s=>exact .str s
 | un v=>exact .un v
 | agg ps cs hl h=>exact .agg ps cs hl h
 | tup ps cs hl h=>exact .tup ps cs hl h
 | sl els A n c k b off f h1 h2 h3 h4 h5 h6 h7=>exact .sl els A n c k b off f h1 h2 h3 h4 h5 h6 h7
 | ptr t g off b h1 h2=>exact .ptr t g off b h1 h2
 | elp t g i k off b h1 h2=>exact .elp t g i k off b h1 h2
 | row t g A n c h1 h2=>exact .row t g A n c h1 h2
 | suf t g i k A A' n c c' h1 h2 h3 h4 h5=>exact .suf t g i k A A' n c c' h1 h2 h3 h4 h5
 | cel cs b off f h1 h2=>exact .cel cs b off f h1 h2
 | fn f ps cs hl h=>exact .fn f ps cs hl h
end VL
end Go.Proofs.YtmgfammllddkhaaGreatDoor
namespace Go.Proofs.YtmgfammllddkhaaGreatDoor
namespace VL
open Go.RowKit
section
variable {P:Program} {r:Run} {o:Oper} {i:Nat} {s:FS}
theorem ZrY {x:Ctx} {B:Nat} {D:Nat→Prop} {g:Gen} {E k m c:Nat} {sh:Bool} {els:List (List PV)} {A:Option Addr} (h:ObRep x B D g (.row E k sh els)) (hv:x.ρ g = .slice A m c) :
  m=els.length∧els.length≤c∧c≤9223372036854775807∧(0<els.length→∃ b,A=some ⟨b,0,none⟩):=by
 obtain ⟨_,_,vs,h3,_,_⟩:=h
 rcases h3.2 with ⟨hn,hl⟩ | ⟨b,cap,cur,hv2,_,_,hc,hm,_⟩
 ·rw [hv] at hn
  injection hn with e1 e2 e3
  exact ⟨by omega,by omega,by omega,fun h=>by omega⟩
 ·rw [hv] at hv2
  injection hv2 with e1 e2 e3
  subst e3
  exact ⟨e2,hc,by unfold maxLen at hm;omega,fun _=>⟨b,e1⟩⟩
theorem Zuz {T:TypeId} {e w:Operand} {E E' a1 a2 t k n:Nat} {a3:List PV} {te:TI} {g:Gen} {sh:Bool} {els:List (List PV)} (ho:o.op = .slice T e (some w) none none) (ht:tyI P T=some ⟨.slice E,a1,a2,a3⟩) (hte:tyI P E=some te)
  (he:ev s e = .row t g) (hob:ZV s.ob t g=some (.row E' k sh els)) (hn:toNat? (ev s w)=some n) (hnl:n≤els.length) (hk:k=te.size):OpOK P r o i s ⟨.suf t g n k,[]⟩:=by
 intro S a x Q hX hi hd
 subst hk
 obtain ⟨inf,z,h1,_⟩:=ZG ht
 obtain ⟨inf',z',h1',h2',_,h4',_,_⟩:=ZG hte
 have hr:=ZR hX e
 obtain ⟨kd,hw⟩:=Zbz hn (ZR hX w)
 obtain ⟨hg,hO⟩:=hX.ob t g _ (ZO hob)
 rw [he] at hr
 generalize hv:a.eval e=v at hr
 cases hr with
 | row _ _ A m c hG hvv=>
   obtain ⟨rfl,hlc,hcm,hA⟩:=ZrY hO hvv
   have hb:(Instr.sliceBounds true els.length c (some (a.eval w)) none none).run P x.W = .ok (n,els.length,c) x.W:=by
    simp [Instr.sliceBounds,Instr.sliceBound,asIntOf,hw,hnl]
   refine ZK (v:=.slice (if c=n then A else A.map (·.add (n * te.size))) (els.length - n) (c - n)) (W':=x.W) ?_ (hX.val hd ?_)
   ·unfold execOp
    rw [ho]
    simp [hv,Instr.sliceAt,Instr.slice,run_underlying h1,hb,sizeOf,typeInfo,h2',h4']
   ·refine .suf t g n te.size A _ els.length c _ hG hvv hnl ⟨hlc,hcm⟩ fun hlt=>?_
    obtain ⟨b,rfl⟩:=hA (by omega)
    exact ⟨b,rfl,by rw [if_neg (by omega)];simp only [Option.map_some,Zbw,Nat.zero_add]⟩
theorem Zty {T:TypeId} {e:Operand} {E E' a1 a2 t k k' n:Nat} {a3:List PV} {g:Gen} {sh:Bool} {els:List (List PV)} (ho:o.op = .call { callee:=.builtin .len,args:=#[e],argTypes:=#[T] }) (ht:tyI P T=some ⟨.slice E,a1,a2,a3⟩)
  (he:ev s e = .suf t g n k) (hob:ZV s.ob t g=some (.row E' k' sh els)):OpOK P r o i s ⟨.int .i64 ((els.length - n:Nat):Int),[]⟩:=by
 intro S a x Q hX hi hd
 obtain ⟨inf,z,h1,_⟩:=ZG ht
 have hr:=ZR hX e
 obtain ⟨hg,hO⟩:=hX.ob t g _ (ZO hob)
 rw [he] at hr
 generalize hv:a.eval e=v at hr
 cases hr with
 | suf _ _ _ _ A A' m c c' hG hvv h3 h4 h5=>
   obtain ⟨rfl,_⟩:=ZrY hO hvv
   refine ZK (v:=.int .i64 ((els.length - n:Nat):Int)) (W':=x.W) ?_ (hX.val hd (.int _ _))
   unfold execOp
   rw [ho]
   simp [resolve,invoke,builtin,Builtin.len_,hv,run_underlying h1,goInt]
theorem Zp7 {T:TypeId} {e e':Operand} {E E' a1 a2 t k q n:Nat} {a3:List PV} {te:TI} {g:Gen} {sh:Bool} {els:List (List PV)} (ho:o.op = .indexAddr T e e') (ht:tyI P T=some ⟨.slice E,a1,a2,a3⟩) (hte:tyI P E=some te) (he:ev s e = .suf t g q k)
  (hn:toNat? (ev s e')=some n) (hob:ZV s.ob t g=some (.row E' k sh els)) (hnl:q+n<els.length) (hk:k=te.size):OpOK P r o i s ⟨.elp t g (q+n) k 0,[]⟩:=by
 intro S a x Q hX hi hd
 subst hk
 obtain ⟨inf,z,h1,_⟩:=ZG ht
 obtain ⟨inf',z',h1',h2',_,h4',_,_⟩:=ZG hte
 have hr:=ZR hX e
 obtain ⟨kd,hidx⟩:=Zbz hn (ZR hX e')
 have key:∀ (ad:Addr) (len cap:Nat),a.eval e = .slice (some ad) len cap→n<len→(execOp a.eval o).run P x.W = .ok (.value (.pointer (some (ad.add (n * te.size))))) x.W:=fun ad len cap hv hlt=>by
  unfold execOp
  rw [ho]
  have:(0:Int)≤n∧(n:Int)<len:=by omega
  simp [hv,hidx,Instr.indexAt,asIntOf,run_underlying h1,sizeOf,typeInfo,h2',h4',hlt]
 rw [he] at hr
 obtain ⟨hg,hO⟩:=hX.ob t g _ (ZO hob)
 generalize hv:a.eval e=v at hr key
 cases hr with
 | suf _ _ _ _ A A' m c c' hG hvv h3 h4 h5=>
   obtain ⟨rfl,_⟩:=ZrY hO hvv
   obtain ⟨b,rfl,rfl⟩:=h5 (by omega)
   refine ZK (key _ _ _ rfl (by omega)) (hX.val hd ?_)
   rw [Zbw,← Nat.add_mul]
   have:=Rep.elp (x:=x) t g (q+n) te.size 0 b hG (by rw [hvv];rfl)
   rw [Nat.add_zero] at this
   exact this
theorem Zp8 {T:TypeId} {e w:Operand} {E E0 a1 a2 t k n:Nat} {a3:List PV} {te:TI} {g:Gen} {els:List (List PV)} (ho:o.op = .slice T e none (some w) none) (ht:tyI P T=some ⟨.slice E,a1,a2,a3⟩) (hte:tyI P E=some te)
  (he:ev s e = .row t g) (hob:ZV s.ob t g=some (.row E0 k false els)) (hn:toNat? (ev s w)=some n) (hnl:n≤els.length):OpOK P r o i s ⟨.row t (s.ng,i),[(t,some ((s.ng,i),.row E0 k false (els.take n)))]⟩:=by
 intro S a x Q hX hi hd
 obtain ⟨inf,z,h1,_⟩:=ZG ht
 obtain ⟨inf',z',h1',h2',_,h4',_,_⟩:=ZG hte
 have hr:=ZR hX e
 obtain ⟨kd,hw⟩:=Zbz hn (ZR hX w)
 have hob':=ZO hob
 obtain ⟨hg,hO⟩:=hX.ob t g _ hob'
 obtain ⟨q1,q2,vs,h3,q4,q5⟩:=hO
 rw [he] at hr
 generalize hv:a.eval e=v at hr
 cases hr with
 | row _ _ A m c hG hvv=>
   rw [hvv] at h3
   have hmc:m=els.length∧els.length≤c∧(A=none∧c=0∧els.length=0∨∃ b,A=some ⟨b,0,none⟩):=by
    rcases h3.2 with ⟨hn0,hl⟩ | ⟨b,cap,cur,hv2,_,_,hc,_⟩
    ·injection hn0 with e1 e2 e3
     exact ⟨by omega,by omega,.inl ⟨e1,by omega,hl⟩⟩
    ·injection hv2 with e1 e2 e3
     subst e3
     exact ⟨e2,hc,.inr ⟨b,e1⟩⟩
   obtain ⟨rfl,hlc,hA⟩:=hmc
   have hb:(Instr.sliceBounds true els.length c none (some (a.eval w)) none).run P x.W = .ok (0,n,c) x.W:=by
    have hhc:(0:Int)≤n∧(n:Int)≤c:=by omega
    have hhc2:n≤c:=by omega
    simp [Instr.sliceBounds,Instr.sliceBound,asIntOf,hw,hhc2]
   have hsame:(if c=0 then A else A.map (·.add (0 * te.size)))=A:=by
    rcases hA with ⟨rfl,rfl,_⟩ | ⟨b,rfl⟩
    ·rfl
    ·split
     ·rfl
     ·simp only [Option.map_some,Zbw,Nat.zero_mul,Nat.add_zero]
   refine ZK (v:=.slice A n c) (W':=x.W) ?_ ?_
   ·unfold execOp
    rw [ho]
    have hb':=hb
    simp [hv,Instr.sliceAt,Instr.slice,run_underlying h1,hb',sizeOf,typeInfo,h2',h4']
    have:=hsame
    simp at this
    exact this
   ·refine hX.newObj hi hd rfl rfl rfl (Nat.le_refl _) (fun b hb _=>rfl) (fun b o v hF hv=>hv) (v0:=.slice A n c) (fun b hb=>.inr ⟨g,_,hob',?_⟩) (fun y st hF hW hρ=>⟨fun el hel=>q1 el (List.mem_of_mem_take hel),fun el hel=>q2 el (List.mem_of_mem_take hel),vs.take (n * k),?_,fun m' q u hq hu=>?_,fun b hb=>⟨?_,fun o ho=>?_⟩⟩) (fun y st hW hG hρ=>.row _ _ _ _ _ hG hρ)
    ·rw [hvv]
     rcases hA with ⟨rfl,rfl,_⟩ | ⟨b',rfl⟩
     ·simp [blk] at hb
     ·exact hb
    ·rw [hρ,hW]
     have hlt:(els.take n).length=n:=by rw [List.length_take];omega
     rw [hlt]
     have hvl:vs.length=els.length * k:=h3.1
     have hnk:n * k≤els.length * k:=Nat.mul_le_mul_right _ hnl
     refine ⟨by rw [List.length_take];omega,?_⟩
     rcases h3.2 with ⟨hn0,hl⟩ | ⟨b,cap,cur,hv2,hB,hh,hc,hm,hs,htk⟩
     ·injection hn0 with e1 e2 e3
      exact .inl ⟨by rw [e1,e3,show n=0 by omega],by omega⟩
     ·injection hv2 with e1 e2 e3
      subst e1 e3
      refine .inr ⟨b,c,cur,rfl,hB,hh,by omega,hm,hs,?_⟩
      rw [← htk,List.take_take,Nat.min_eq_left hnk]
    ·have hlf:(els.take n).flatten=els.flatten.take (n * k):=by
      have h6:els.flatten=(els.take n).flatten++(els.drop n).flatten:=by rw [← List.flatten_append,List.take_append_drop]
      have h7:(els.take n).flatten.length=n * k:=by
       rw [Zah (k:=k) _ (fun el hel=>q1 el (List.mem_of_mem_take hel)),List.length_take]
       have:min n els.length=n:=by omega
       rw [this]
      rw [h6,← h7,List.take_left']
      rfl
     rw [hlf,List.getElem?_take] at hq
     rw [List.getElem?_take] at hu
     split at hq
     ·rename_i hm'
      rw [if_pos hm'] at hu
      exact (q4 m' q u hq hu).step st
     ·cases hq
    ·rw [hρ] at hb
     refine (q5 b ?_).1
     rw [hvv]
     rcases hA with ⟨rfl,rfl,_⟩ | ⟨b',rfl⟩
     ·simp [blk] at hb
     ·exact hb
    ·rw [hρ] at hb
     rw [hF] at ho
     refine absurd ((q5 b ?_).2 o ho).1 (by decide)
     rw [hvv]
     rcases hA with ⟨rfl,rfl,_⟩ | ⟨b',rfl⟩
     ·simp [blk] at hb
     ·exact hb
theorem Zp9 {T:TypeId} {e:Operand} {E E' a1 a2 t k q:Nat} {a3 zc:List PV} {te:TI} {g:Gen} {els:List (List PV)} (ho:o.op = .call { callee:=.builtin .clear,args:=#[e],argTypes:=#[T] }) (ht:tyI P T=some ⟨.slice E,a1,a2,a3⟩) (hte:tyI P E=some te)
  (he:ev s e = .suf t g q k) (hob:ZV s.ob t g=some (.row E' k false els)) (hk:k=te.size) (hz:te.zero.map dn=zc) (hp:∀ p ∈ zc,p.pure=true) (hlen:te.zero.length=te.size) (hpos:0<te.size) :
  OpOK P r o i s ⟨.tup [],[(t,some (g,.row E' k false (els.take q++List.replicate (els.length - q) zc)))]⟩:=by
 intro S a x Q hX hi hd
 subst hk
 obtain ⟨inf,z,h1,_⟩:=ZG ht
 obtain ⟨inf',z',h1',h2',h3',h4',h5',h6'⟩:=ZG hte
 have hr:=ZR hX e
 have hob':=ZO hob
 obtain ⟨hg,hO⟩:=hX.ob t g _ hob'
 have hO':=hO
 obtain ⟨h1e,h2e,vs,h3e,h4e,h5e⟩:=hO
 rw [he] at hr
 generalize hv:a.eval e=v at hr
 have htup:Rep x (.tup []) (.tuple #[]):=.tup [] #[] rfl (fun i p v hp=>by simp at hp)
 cases hr with
 | suf _ _ _ _ A A' m c c' hG hvv h3 h4 h5=>
   obtain ⟨rfl,_,_,_⟩:=ZrY hO' hvv
   by_cases hlt:q<els.length
   ·obtain ⟨b,rfl,rfl⟩:=h5 hlt
    rcases h3e.2 with ⟨hn,_⟩ | ⟨b2,cap,cur,hv2,hB2,hh,hnc,hcm2,hcs,htake⟩
    ·rw [hvv] at hn
     cases hn
    rw [hvv] at hv2
    injection hv2 with q1 q2 q3
    injection q1 with q1
    injection q1 with q1
    subst q1 q3
    obtain ⟨m,hm⟩:∃ m,els.length - q=m+1:=⟨els.length - q - 1,by omega⟩
    have hzs:z'.cells.size=te.size:=by rw [← hlen,h6'];simp
    have hzl:zc.length=te.size:=by rw [← hz,List.length_map,hlen]
    have hvl:vs.length=els.length * te.size:=h3e.1
    have hcap:els.length * te.size≤c * te.size:=Nat.mul_le_mul_right _ hnc
    have hsum:q * te.size+(els.length - q) * te.size=els.length * te.size:=by rw [← Nat.add_mul];congr 1;omega
    generalize hcl:(Builtin.zeroCells z'.cells (els.length - q)).toList=zs
    have hzsl:zs.length=(els.length - q) * te.size:=by rw [← hcl];simp [Builtin.zeroCells,hzs]
    have hzone:∀ v ∈ zs,v.oneCell'=true:=fun v hv=>by
     rw [← hcl] at hv
     obtain ⟨j,hj⟩:=List.getElem?_of_mem hv
     have hj2:=hj
     simp only [Builtin.zeroCells,Array.getElem?_toList,Array.getElem?_map] at hj
     have hjl:j<(els.length - q) * z'.cells.size:=by
      have:=(List.getElem?_eq_some_iff.1 hj2).1
      simpa [Builtin.zeroCells] using this
     rw [Array.getElem?_range,if_pos hjl] at hj
     simp only [Option.map_some,Option.some.injEq] at hj
     have hj3:j % z'.cells.size<z'.cells.size:=Nat.mod_lt _ (by omega)
     rw [getElem!_pos z'.cells _ hj3] at hj
     have hq:zc[j % z'.cells.size]? = some (dn (Zbp z'.cells[j % z'.cells.size])):=by rw [← hz,h6'];simp [hj3]
     have:=(ZsA (Zb7 x z'.cells[j % z'.cells.size])).one (PV.cell_of_pure (hp _ (List.mem_of_getElem? hq)))
     rw [hj] at this
     exact this
    have hreps:∀ (j:Nat) (p:PV) (v:Value),(List.replicate (els.length - q) zc).flatten[j]? = some p→zs[j]? = some v→Rep x p v:=fun j p v hp hv=>by
     have hk:∀ e ∈ List.replicate (els.length - q) zc,e.length=te.size:=fun e he=>by rw [List.eq_of_mem_replicate he,hzl]
     have hjl:j<(els.length - q) * te.size:=by
      have:=(List.getElem?_eq_some_iff.1 hp).1
      rw [Zah _ hk] at this
      simpa using this
     have hi':j / te.size<els.length - q:=Nat.div_lt_of_lt_mul (by rw [Nat.mul_comm];exact hjl)
     have hj':j % te.size<te.size:=Nat.mod_lt _ hpos
     have hem:j / te.size * te.size+j % te.size=j:=by rw [Nat.mul_comm];exact Nat.div_add_mod j _
     have he:(List.replicate (els.length - q) zc)[j / te.size]? = some zc:=by rw [List.getElem?_replicate,if_pos hi']
     have hj2:j % te.size<z'.cells.size:=by rw [hzs];exact hj'
     have hq:zc[j % te.size]? = some (dn (Zbp z'.cells[j % te.size])):=by rw [← hz,h6'];simp [hj2]
     have:=Zeb (k:=te.size) (List.replicate (els.length - q) zc) hk _ _ _ _ he hq
     rw [hem,hp] at this
     injection this with this
     subst this
     rw [← hcl] at hv
     simp only [Builtin.zeroCells,Array.getElem?_toList,Array.getElem?_map] at hv
     rw [Array.getElem?_range,if_pos (by rw [hzs];exact hjl),hzs] at hv
     simp only [Option.map_some,Option.some.injEq] at hv
     rw [getElem!_pos z'.cells (j % te.size) hj2] at hv
     subst hv
     exact ZsA (Zb7 x _)
    have hst:=run_storeCells_at P b (q * te.size) E' zs 0 cur x.W hh (by omega) hzone
    simp only [Nat.add_zero] at hst
    have hF:∀ b' o',x.F b' o'→b'≠b:=fun b' o' hFF e=>by
     subst e
     have:=((h5e b' (by rw [hvv];rfl)).2 o' hFF).1
     cases this
    let W':=x.W.setRow b (cur.toList.take (q * te.size)++zs++cur.toList.drop (q * te.size+zs.length)).toArray
    have k2:Step x ⟨x.G,x.F,W',x.ρ⟩:=⟨fun _ h=>⟨h,rfl⟩,fun _ _ h=>h,fun b' o' v' hFF hv'=>(Zb8 x.W b _ (hF b' o' hFF)).trans hv'⟩
    have hsz:W'.heap.size=x.W.heap.size:=by simp [W',World.setRow]
    have hlen2:(els.take q++List.replicate (els.length - q) zc).length=els.length:=by simp;omega
    refine ZK (v:=.tuple #[]) (W':=W') ?_ ⟨⟨x.G,x.F,W',x.ρ⟩,rfl,?_⟩
    ·unfold execOp
     rw [ho]
     have hzv:∀ w,(zeroValue E).run P w = .ok z' w:=fun w=>by simp [zeroValue,typeInfo,h2',h3']
     simp [resolve,invoke,builtin,Builtin.clear_,hv,run_underlying h1,hzv,hm]
     rw [← hm,hcl,hst]
     simp [W']
    ·refine hX.change k2 hd rfl rfl rfl (by rw [hsz];exact Nat.le_refl _) (fun b' hb' hne=>setRow_other x.W b b' _ (fun e=>hne g _ hob' (by rw [hvv,e];rfl))) (fun _ _ h=>.inl h) (fun b' o' hb'=>by show b'<W'.heap.size;rw [hsz];exact hX.flt b' o' hb')
      (fun g' hg'=>(hX.gens g' hg').imp id fun ⟨e1,e2⟩=>⟨e1,.inl e2⟩) hg ?_ (fun b' hb'=>.inr ⟨g,_,hob',hb'⟩) (htup.step k2)
     refine ⟨fun e2 he2=>?_,fun e2 he2 p hpp=>?_,vs.take (q * te.size)++zs++vs.drop (q * te.size+zs.length),?_,fun m' p v' hpp hvv'=>?_,fun b' hb'=>⟨(h5e b' hb').1,fun o' hFF=>?_⟩⟩
     ·rcases List.mem_append.1 he2 with h | h
      ·exact h1e e2 (List.mem_of_mem_take h)
      ·rw [List.eq_of_mem_replicate h,hzl]
     ·rcases List.mem_append.1 he2 with h | h
      ·exact h2e e2 (List.mem_of_mem_take h) p hpp
      ·rw [List.eq_of_mem_replicate h] at hpp
       exact hp p hpp
     ·refine ⟨?_,.inr ⟨b,c,_,by change x.ρ g=_;rw [hvv,hlen2],hB2,setRow_heap x.W b cur _ E' (0,0) hh,by rw [hlen2];exact hnc,hcm2,?_,?_⟩⟩
      ·rw [hlen2];simp;omega
      ·simp;omega
      ·rw [hlen2,← htake]
       exact Zgr cur.toList zs (q * te.size) (els.length * te.size) (by omega) (by have e:cur.toList.length=cur.size:=(by simp);omega)
     ·have hflat:(els.take q++List.replicate (els.length - q) zc).flatten=els.flatten.take (q * te.size)++(List.replicate (els.length - q) zc).flatten++els.flatten.drop (q * te.size+((List.replicate (els.length - q) zc).flatten).length):=by
       have hkz:∀ e ∈ List.replicate (els.length - q) zc,e.length=te.size:=fun e he=>by rw [List.eq_of_mem_replicate he,hzl]
       have e1:(els.take q).flatten=els.flatten.take (q * te.size):=by
        conv=>rhs;rw [← List.take_append_drop q els,List.flatten_append]
        have:(els.take q).flatten.length=q * te.size:=by
         rw [Zah _ (fun e he=>h1e e (List.mem_of_mem_take he)),List.length_take]
         congr 1
         omega
        rw [← this,List.take_left]
       rw [List.flatten_append,e1,Zah _ hkz,List.length_replicate,hsum,← Zah els h1e,List.drop_length,List.append_nil]
      have hpp':=hpp
      rw [hflat] at hpp'
      have hkz:∀ e ∈ List.replicate (els.length - q) zc,e.length=te.size:=fun e he=>by rw [List.eq_of_mem_replicate he,hzl]
      have hrl:(List.replicate (els.length - q) zc).flatten.length=zs.length:=by rw [Zah _ hkz,List.length_replicate,hzsl]
      rcases written (by rw [Zah els h1e,hvl]) hrl (by rw [Zah els h1e,hrl,hzsl];omega) hpp' hvv' with ⟨e1,e2⟩ | ⟨j,e1,e2⟩
      ·exact (h4e m' p v' e1 e2).step k2
      ·exact (hreps j p v' e1 e2).step k2
     ·rw [hlen2]
      exact (h5e b' hb').2 o' hFF
   ·have e0:els.take q++List.replicate (els.length - q) zc=els:=by
     rw [show els.length - q=0 by omega,List.replicate_zero,List.append_nil,List.take_of_length_le (by omega)]
    rw [e0]
    refine ZK (v:=.tuple #[]) (W':=x.W) ?_ ⟨x,rfl,?_⟩
    ·unfold execOp
     rw [ho]
     rw [show els.length - q=0 by omega] at hv
     cases A'<;>simp [resolve,invoke,builtin,Builtin.clear_,hv,run_underlying h1]
    ·exact hX.change (Step.refl x) hd rfl rfl rfl (Nat.le_refl _) (fun _ _ _=>rfl) (fun _ _ h=>.inl h) hX.flt (fun g' hg'=>(hX.gens g' hg').imp id fun ⟨e1,e2⟩=>⟨e1,.inl e2⟩) hg hO' (fun b' hb'=>.inr ⟨g,_,hob',hb'⟩) htup
end
section
variable {P:Program} [WInv P] {ops:Array Oper} {o:Oper} {i:Nat} {s:FS} {T:TypeId} {e e' w:Operand} {E E' a1 a2 t k q n:Nat} {a3:List PV} {te:TI} {g:Gen} {sh:Bool} {els:List (List PV)}
theorem Ztz (hw:Zf ops s o=some true) (ho:o.op = .slice T e (some w) none none) (ht:tyI P T=some ⟨.slice E,a1,a2,a3⟩) (hte:tyI P E=some te) (he:ev s e = .row t g) (hob:ZV s.ob t g=some (.row E' k sh els)) (hn:toNat? (ev s w)=some n) (hnl:n≤els.length) (hk:k=te.size) :
  OpR P ops i o s ⟨.suf t g n k,[]⟩:=.any hw fun s' r hA hI=>by
 have hm:e ∈ o.op.operands:=by rw [ho];simp [Op.operands]
 have hm':w ∈ o.op.operands:=by rw [ho];simp [Op.operands]
 exact Zuz ho ht hte (by rw [← hA.ev e hm];exact he) (by rw [ZbH hA hm (by rw [ho];rfl) (by rw [ho];rfl) (by rw [he];simp [ZaB])];exact hob) (by rw [← hA.ev w hm'];exact hn) hnl hk
theorem ZrZ (hw:Zf ops s o=some true) (ho:o.op = .call { callee:=.builtin .len,args:=#[e],argTypes:=#[T] }) (ht:tyI P T=some ⟨.slice E,a1,a2,a3⟩) (he:ev s e = .suf t g n k) (hob:ZV s.ob t g=some (.row E' k sh els)):OpR P ops i o s ⟨.int .i64 ((els.length - n:Nat):Int),[]⟩:=.any hw fun s' r hA hI=>by
 have hm:e ∈ o.op.operands:=by rw [ho];simp [Op.operands,Call.operands]
 exact Zty ho ht (by rw [← hA.ev e hm];exact he) (by rw [ZbH hA hm (by rw [ho];rfl) (by rw [ho];rfl) (by rw [he];simp [ZaB])];exact hob)
theorem Zoo (hw:Zf ops s o=some true) (ho:o.op = .indexAddr T e e') (ht:tyI P T=some ⟨.slice E,a1,a2,a3⟩) (hte:tyI P E=some te) (he:ev s e = .suf t g q k) (hn:toNat? (ev s e')=some n) (hob:ZV s.ob t g=some (.row E' k sh els)) (hnl:q+n<els.length) (hk:k=te.size) :
  OpR P ops i o s ⟨.elp t g (q+n) k 0,[]⟩:=.any hw fun s' r hA hI=>by
 have hm:e ∈ o.op.operands:=by rw [ho];simp [Op.operands]
 have hm':e' ∈ o.op.operands:=by rw [ho];simp [Op.operands]
 exact Zp7 ho ht hte (by rw [← hA.ev e hm];exact he) (by rw [← hA.ev e' hm'];exact hn) (by rw [ZbH hA hm (by rw [ho];rfl) (by rw [ho];rfl) (by rw [he];simp [ZaB])];exact hob) hnl hk
theorem Zop {w:Operand} (hw:Zf ops s o=some true) (ho:o.op = .slice T e none (some w) none) (ht:tyI P T=some ⟨.slice E,a1,a2,a3⟩) (hte:tyI P E=some te) (he:ev s e = .row t g) (hob:ZV s.ob t g=some (.row E' k false els)) (hn:toNat? (ev s w)=some n) (hnl:n≤els.length) :
  OpR P ops i o s ⟨.row t (s.ng,i),[(t,some ((s.ng,i),.row E' k false (els.take n)))]⟩:=.any hw fun s' r hA hI=>by
 have hm:e ∈ o.op.operands:=by rw [ho];simp [Op.operands]
 have hm':w ∈ o.op.operands:=by rw [ho];simp [Op.operands]
 rw [hA.ng]
 exact Zp8 ho ht hte (by rw [← hA.ev e hm];exact he) (by rw [ZbH hA hm (by rw [ho];rfl) (by rw [ho];rfl) (by rw [he];simp [ZaB])];exact hob) (by rw [← hA.ev w hm'];exact hn) hnl
theorem Zoq {zc:List PV} (hw:Zf ops s o=some true) (ho:o.op = .call { callee:=.builtin .clear,args:=#[e],argTypes:=#[T] }) (ht:tyI P T=some ⟨.slice E,a1,a2,a3⟩) (hte:tyI P E=some te) (he:ev s e = .suf t g q k) (hob:ZV s.ob t g=some (.row E' k false els)) (hk:k=te.size)
  (hz:te.zero.map dn=zc) (hp:∀ p ∈ zc,p.pure=true) (hlen:te.zero.length=te.size) (hpos:0<te.size):OpR P ops i o s ⟨.tup [],[(t,some (g,.row E' k false (els.take q++List.replicate (els.length - q) zc)))]⟩:=.any hw fun s' r hA hI=>by
 have hm:e ∈ o.op.operands:=by rw [ho];simp [Op.operands,Call.operands]
 exact Zp9 ho ht hte (by rw [← hA.ev e hm];exact he) (by rw [ZbH hA hm (by rw [ho];rfl) (by rw [ho];rfl) (by rw [he];simp [ZaB])];exact hob) hk hz hp hlen hpos
end
section
variable {P:Program} [WInv P] {ops:Array Oper} {draw:Bool} {i:Nat} {L:List Oper} {acc:List (List Nat×List Nat)} {K:FS→Prop} {tm:List (Nat×PV)} {ob:List (Nat×Option (Gen×VObj))} {ng:Nat}
 {d:Option Tmp} {ty:TypeId} {pos:String} {after:Array Edge} {gd:Option (Nat×Bool)} {T:TypeId} {x y:Operand} {E kk by_:Nat} {z:List PV} {t:Nat} {g:Gen} {els:List (List PV)}
theorem ZuA {w:Operand} {kd:IntKind} {n:Nat} {E':Nat} {sh:Bool} [Sl P T E kk by_ z] (hw:Zf ops (mkS tm ob ng) ⟨d,.slice T x (some w) none none,ty,pos,after,gd⟩=some true) (hx:evL tm x = .row t g) (hb:ZV (Zm ob) t g=some (.row E' kk sh els)) (hy:evL tm w = .int kd (n:Int)) (hn:n≤els.length)
  (k:GoL P ops draw (i+1) L (acc ++ [(Zy (mkS tm ob ng) ⟨d,.slice T x (some w) none none,ty,pos,after,gd⟩,[])]) (mkS (Za3 d (.suf t g n kk) tm) ob ng) K):GoL P ops draw i (⟨d,.slice T x (some w) none none,ty,pos,after,gd⟩::L) acc (mkS tm ob ng) K:=by
 obtain ⟨s,b,zz,te,q1,q2,q3,_,_,_,_⟩:=ZbO (P:=P) (T:=T) (E:=E) (k:=kk) (by_:=by_) (z:=z)
 refine ZdF (Ztz hw rfl q1 q2 (by rw [ZS];exact hx) hb (by rw [ZS,hy];exact Zb5) hn q3.symm) ?_
 rw [Za9]
 exact k
theorem ZuB {n k':Nat} {E':Nat} {sh:Bool} [Sl P T E kk by_ z] (hw:Zf ops (mkS tm ob ng) ⟨d,.call ⟨.builtin .len,#[x],#[T]⟩,ty,pos,after,gd⟩=some true) (hx:evL tm x = .suf t g n k') (hb:ZV (Zm ob) t g=some (.row E' k' sh els)) {v:Int} (hv:((els.length - n:Nat):Int)=v)
  (k:GoL P ops draw (i+1) L (acc ++ [(Zy (mkS tm ob ng) ⟨d,.call ⟨.builtin .len,#[x],#[T]⟩,ty,pos,after,gd⟩,[])]) (mkS (Za3 d (.int .i64 v) tm) ob ng) K):GoL P ops draw i (⟨d,.call ⟨.builtin .len,#[x],#[T]⟩,ty,pos,after,gd⟩::L) acc (mkS tm ob ng) K:=by
 obtain ⟨s,b,zz,te,q1,q2,q3,_,_,_,_⟩:=ZbO (P:=P) (T:=T) (E:=E) (k:=kk) (by_:=by_) (z:=z)
 subst hv
 refine ZdF (ZrZ hw rfl q1 (by rw [ZS];exact hx) hb) ?_
 rw [Za9]
 exact k
theorem Zr0 {E':Nat} {sh:Bool} {kd:IntKind} {q n m:Nat} [Sl P T E kk by_ z] (hw:Zf ops (mkS tm ob ng) ⟨d,.indexAddr T x y,ty,pos,after,gd⟩=some true) (hx:evL tm x = .suf t g q kk) (hb:ZV (Zm ob) t g=some (.row E' kk sh els)) (hy:evL tm y = .int kd (n:Int)) (hm:q+n=m) (hn:m<els.length)
  (k:GoL P ops draw (i+1) L (acc ++ [(Zy (mkS tm ob ng) ⟨d,.indexAddr T x y,ty,pos,after,gd⟩,[])]) (mkS (Za3 d (.elp t g m kk 0) tm) ob ng) K):GoL P ops draw i (⟨d,.indexAddr T x y,ty,pos,after,gd⟩::L) acc (mkS tm ob ng) K:=by
 obtain ⟨s,b,zz,te,q1,q2,q3,_,_,_,_⟩:=ZbO (P:=P) (T:=T) (E:=E) (k:=kk) (by_:=by_) (z:=z)
 subst hm
 refine ZdF (Zoo hw rfl q1 q2 (by rw [ZS];exact hx) (by rw [ZS,hy];exact Zb5) hb hn q3.symm) ?_
 rw [Za9]
 exact k
theorem Zr1 {w:Operand} {E':Nat} {kd:IntKind} {n:Nat} {els':List (List PV)} [Sl P T E kk by_ z] (hw:Zf ops (mkS tm ob ng) ⟨d,.slice T x none (some w) none,ty,pos,after,gd⟩=some true) (hx:evL tm x = .row t g) (hb:ZV (Zm ob) t g=some (.row E' kk false els)) (hy:evL tm w = .int kd (n:Int)) (hn:n≤els.length) (hs:els.take n=els')
  (k:GoL P ops draw (i+1) L (acc ++ [(Zy (mkS tm ob ng) ⟨d,.slice T x none (some w) none,ty,pos,after,gd⟩,[t])]) (mkS (Za3 d (.row t (ng,i)) tm) ((t,some ((ng,i),.row E' kk false els'))::ob) ng) K):GoL P ops draw i (⟨d,.slice T x none (some w) none,ty,pos,after,gd⟩::L) acc (mkS tm ob ng) K:=by
 obtain ⟨s,b,zz,te,q1,q2,q3,_,_,_,_⟩:=ZbO (P:=P) (T:=T) (E:=E) (k:=kk) (by_:=by_) (z:=z)
 subst hs
 refine ZdF (Zop hw rfl q1 q2 (by rw [ZS];exact hx) hb (by rw [ZS,hy];exact Zb5) hn) ?_
 rw [Za9]
 exact k
theorem Zr2 {q:Nat} {E':Nat} {zc:List PV} [Sl P T E kk by_ z] (hw:Zf ops (mkS tm ob ng) ⟨d,.call ⟨.builtin .clear,#[x],#[T]⟩,ty,pos,after,gd⟩=some true) (hx:evL tm x = .suf t g q kk) (hb:ZV (Zm ob) t g=some (.row E' kk false els)) (hz:z.map dn=zc) (hp:zc.all PV.pure=true) {els':List (List PV)} (hs:els.take q++List.replicate (els.length - q) zc=els')
  (k:GoL P ops draw (i+1) L (acc ++ [(Zy (mkS tm ob ng) ⟨d,.call ⟨.builtin .clear,#[x],#[T]⟩,ty,pos,after,gd⟩,[t])]) (mkS (Za3 d (.tup []) tm) ((t,some (g,.row E' kk false els'))::ob) ng) K):GoL P ops draw i (⟨d,.call ⟨.builtin .clear,#[x],#[T]⟩,ty,pos,after,gd⟩::L) acc (mkS tm ob ng) K:=by
 obtain ⟨s,b,zz,te,q1,q2,q3,q4,q5,q6,q7⟩:=ZbO (P:=P) (T:=T) (E:=E) (k:=kk) (by_:=by_) (z:=z)
 subst hs
 refine ZdF (Zoq hw rfl q1 q2 (by rw [ZS];exact hx) hb q3.symm (by rw [q5];exact hz) (fun p hpp=>List.all_eq_true.1 hp p hpp) (by rw [q5,q7,q3]) (by rw [q3];exact q6)) ?_
 rw [Za9]
 exact k
end
end VL
end Go.Proofs.YtmgfammllddkhaaGreatDoor
namespace Go.Proofs.YtmgfammllddkhaaGreatDoor
namespace VL
open Go.RowKit
structure PostS (x y:Ctx) (E k:Nat) (els':List (List PV)) (v:Value):Prop where
 step:Step x y
 gr:Gr (Dr x) x.W y.W
 fnew:∀ b o,y.F b o→x.F b o∨x.W.heap.size≤b∨Dr x b
 flt:∀ b o,y.F b o→b<y.W.heap.size
 ob:∃ g,y.ρ g=v∧ObRep y x.W.heap.size (Dr x) g (.row E k false els')
structure ContractS (P:Program) [WInv P] (f:FuncId) (args:List PV) (E k:Nat) (els els':List (List PV)):Prop where
 isGo:VL.isGo P f=true
 calls:∀ (x:Ctx) (vs:Array Value),PreR x args E k els vs→(∀ W',Gr (Dr x) x.W W'→WInv.I P W')→Calls P f vs x.W fun e W'=>∃ y v,y.W=W'∧e = .returned v∧PostS x y E k els' v
section
variable {P:Program} {r:Run} {S:Nat→Prop} {s:FS} {a:Act} {x:Ctx}
theorem RstX.changeF (h:RstX r S s a x) {S':Nat→Prop} {y:Ctx} (k:Step x y) {d:Option Tmp} {v:Value} {val:PV} (hd:∀ k,d=some k→k<r.N) {t:Nat} {g':Gen} {o:VObj}
  (os:y.W.os=x.W.os) (tape:y.W.tape=x.W.tape) (out:y.W.output=x.W.output) (size:x.W.heap.size≤y.W.heap.size)
  (hblock:∀ b,b<x.W.heap.size→(∀ g o,s.ob t=some (g,o)→blk (x.ρ g)≠some b)→y.W.heap[b]? = x.W.heap[b]?)
  (hF:∀ b o,y.F b o→x.F b o∨x.W.heap.size≤b∨∃ g o',s.ob t=some (g,o')∧blk (x.ρ g)=some b) (hflt:∀ b o,y.F b o→b<y.W.heap.size) (gens:∀ g,y.G g→g.1<s.ng∨(g.1=s.ng∧S' g.2)) (hG:y.G g') (hob:ObRep y r.W0.heap.size r.D g' o)
  (hfresh:∀ b,blk (y.ρ g')=some b→x.W.heap.size≤b∨∃ g o,s.ob t=some (g,o)∧blk (x.ρ g)=some b) (hval:Rep y val v) :
  RstX r S' (s.app d ⟨val,[(t,some (g',o))]⟩) (a.put d v) y:=by
 have far:∀ t' g2 o2 b,t'≠t→s.ob t'=some (g2,o2)→blk (x.ρ g2)=some b→b<x.W.heap.size∧∀ g o,s.ob t=some (g,o)→blk (x.ρ g)≠some b:=fun t' g2 o2 b ht h2 hb=>
  ⟨((h.ob t' g2 o2 h2).2.lt b hb).1,fun g o ho=>h.apart t' t g2 g o2 o b ht h2 ho hb⟩
 have hobs:∀ t',(s.app d ⟨val,[(t,some (g',o))]⟩).ob t'=if t'=t then some (g',o) else s.ob t':=fun t'=>rfl
 have hnew:∀ t' g2 o2 b,t'≠t→s.ob t'=some (g2,o2)→blk (x.ρ g2)=some b→blk (y.ρ g')≠some b:=fun t' g2 o2 b ht h2 hb e=>by
  obtain ⟨h3,h4⟩:=far t' g2 o2 b ht h2 hb
  rcases hfresh b e with h5 | ⟨g,o,h5,h6⟩
  ·omega
  ·exact h4 g o h5 h6
 refine ⟨by rw [Zea];exact h.defers,by rw [Zg3];exact h.size,?_,gens,fun t'=>?_,fun t' g2 o2 h2=>?_,fun t1 t2 g1 g2 o1 o2 b hne h1 h2 hb=>?_,
  hflt,fun b o hb=>k.F b o (h.f0 b o hb),fun b o hb=>?_,fun g hg=>⟨(k.G g (h.rho g hg).1).1,(k.G g (h.rho g hg).1).2.trans (h.rho g hg).2⟩,h.inv,fun b o v hF hv=>k.W b o v (h.f0 b o hF) (h.keep b o v hF hv)⟩
 ·refine h.gr.trans' os tape out size fun b hb hD=>hblock b (Nat.lt_of_lt_of_le hb h.gr.size) fun g o ho e=>?_
  rcases ((h.ob t g o ho).2.lt b e).2 with h3 | h3
  ·omega
  ·exact hD h3
 ·rw [Zim h.size hd]
  cases d with
  | none=>exact (h.tm t').step k
  | some q=>
    show Rep y (if t'=q then val else s.tm t') (if t'=q then v else a.tmps.getD t' undef)
    split
    ·exact hval
    ·exact (h.tm t').step k
 ·rw [hobs] at h2
  split at h2
  ·injection h2 with h2
   injection h2 with e1 e2
   subst e1 e2
   exact ⟨hG,hob⟩
  ·rename_i hne
   obtain ⟨h3,h4⟩:=h.ob t' g2 o2 h2
   exact ⟨(k.G g2 h3).1,h4.step h3 k fun b hb=>⟨hblock b (far t' g2 o2 b hne h2 hb).1 (far t' g2 o2 b hne h2 hb).2,fun o ho=>by
    rcases hF b o ho with h5 | h5 | ⟨g5,o5,h5,h6⟩
    ·exact h5
    ·have:=(far t' g2 o2 b hne h2 hb).1;omega
    ·exact absurd h6 ((far t' g2 o2 b hne h2 hb).2 g5 o5 h5)⟩⟩
 ·rw [hobs] at h1 h2
  split at h1<;>split at h2
  ·rename_i e1 e2;exact absurd (e1.trans e2.symm) hne
  ·rename_i e1 e2
   injection h1 with h1
   injection h1 with e3 e4
   subst e3 e4
   rw [(k.G g2 (h.ob t2 g2 o2 h2).1).2]
   exact fun e=>hnew t2 g2 o2 b e2 h2 e hb
  ·rename_i e1 e2
   injection h2 with h2
   injection h2 with e3 e4
   subst e3 e4
   rw [(k.G g1 (h.ob t1 g1 o1 h1).1).2] at hb
   exact hnew t1 g1 o1 b e1 h1 hb
  ·rw [(k.G g1 (h.ob t1 g1 o1 h1).1).2] at hb
   rw [(k.G g2 (h.ob t2 g2 o2 h2).1).2]
   exact h.apart t1 t2 g1 g2 o1 o2 b hne h1 h2 hb
 ·rcases hF b o hb with h3 | h3 | ⟨g5,o5,h5,h6⟩
  ·exact h.fnew b o h3
  ·exact .inr (.inl (Nat.le_trans h.gr.size h3))
  ·exact .inr ((h.ob t g5 o5 h5).2.lt b h6).2
end
theorem Zqy {x:Ctx} {B:Nat} {D:Nat→Prop} {g:Gen} {E k:Nat} {sh:Bool} {els:List (List PV)} (h:ObRep x B D g (.row E k sh els)):∃ A n c,x.ρ g = .slice A n c:=by
 obtain ⟨_,_,vs,h3,_⟩:=h
 rcases h3.2 with ⟨hn,_⟩ | ⟨b,cap,cur,hv,_⟩
 ·exact ⟨_,_,_,hn⟩
 ·exact ⟨_,_,_,hv⟩
section
variable {P:Program} [WInv P] {r:Run} {ops:Array Oper} {o:Oper} {i:Nat} {s s':FS}
theorem Zsi {f:FuncId} {es:Array Operand} {ts:Array TypeId} {post:List PV} {t:Nat} {g:Gen} {E k:Nat} {els els':List (List PV)} (ho:o.op = .call { callee:=.value (.func f),args:=es,argTypes:=ts })
  (he:es.toList.map (ev s) = .row t g::post) (hob:s.ob t=some (g,.row E k false els)) (hp:post.all PV.dryF=true) (hc:ContractS P f post E k els els') (hI:r.I=WInv.I P):OpOK P r o i s ⟨.row t (s.ng,i),[(t,some ((s.ng,i),.row E k false els'))]⟩:=by
 intro S a x Q hX hi hd
 have hrep:∀ (j:Nat) (p:PV),(PV.row t g::post)[j]? = some p→Rep x p ((es.map a.eval).getD j undef):=fun j p hp=>by
  rw [← he,List.getElem?_map] at hp
  cases he:es.toList[j]? with
  | none=>rw [he] at hp;simp at hp
  | some e=>
    rw [he] at hp
    simp only [Option.map_some,Option.some.injEq] at hp
    subst hp
    have hea:es[j]? = some e:=by simpa using he
    have:(es.map a.eval).getD j undef=a.eval e:=by simp [hea]
    rw [this]
    exact ZR hX e
 obtain ⟨hG,hO⟩:=hX.ob t g _ hob
 have hlt:=fun b hb=>hO.lt b hb
 obtain ⟨q1,q2,vs2,q3,q4,q5⟩:=hO
 let z:Ctx:=⟨fun g'=>g'=(0,0),x.F,x.W,fun _=>x.ρ g⟩
 have hpre:PreR z post E k els (es.map a.eval):=by
  refine ⟨?_,fun j p v hj hv=>?_,⟨rfl,q1,q2,vs2,q3,fun m p v hm hv=>?_,fun b hb=>⟨.inr hb,(q5 b hb).2⟩⟩,fun g' e=>?_,hX.flt⟩
  ·have:=congrArg List.length he
   simp at this
   simp [this]
  ·cases j with
   | zero=>
     simp only [List.getElem?_cons_zero,Option.some.injEq] at hj
     subst hj
     have:=hrep 0 (.row t g) rfl
     rw [Array.getD_eq_getD_getElem?,hv] at this
     simp only [Option.getD_some] at this
     cases this with
     | row _ _ A n c _ hvv=>exact .row _ _ A n c rfl hvv
   | succ j=>
     have hj':post[j]? = some p:=by simpa using hj
     have:=hrep (j+1) p hj
     rw [Array.getD_eq_getD_getElem?,hv] at this
     exact Rep.dryF this (List.all_eq_true.1 hp p (List.mem_of_getElem? hj'))
  ·obtain ⟨e,he,hpe⟩:=List.mem_flatten.1 (List.mem_of_getElem? hm)
   exact (q4 m p v hm hv).pure_mono (q2 e he p hpe) (fun _ _ h=>h) (fun _ _ _ _ h=>h)
  ·rw [show g'=(0,0) from e]
 have hbig:r.W0.heap.size≤x.W.heap.size:=hX.gr.size
 have hcalls:=hc.calls z _ hpre fun W' hW=>by
  rw [← hI]
  exact hX.inv.1 W' (hX.gr.trans' hW.os hW.tape hW.output hW.size fun b hb hD=>hW.block b (Nat.lt_of_lt_of_le hb hbig) fun e=>by
   rcases (hlt b e).2 with h | h
   ·omega
   ·exact hD h)
 unfold Oper.wp
 rw [Zed ho hc.isGo,Oper.upon_enter]
 refine hcalls.mono ?_
 rintro e' W' ⟨y,v,rfl,rfl,hpost⟩
 obtain ⟨g0,hv0,hob0⟩:=hpost.ob
 obtain ⟨A,n,c,hsl⟩:=Zqy hob0
 obtain ⟨w1,w2,vs3,w3,w4,w5⟩:=hob0
 rw [hv0] at w3 w5 hsl
 have hnew:¬ x.G (s.ng,i):=fun hg=>by
  rcases hX.gens _ hg with e | ⟨_,e⟩
  ·exact absurd e (Nat.lt_irrefl _)
  ·exact hi e
 let y':Ctx:=⟨fun g=>x.G g∨g=(s.ng,i),y.F,y.W,fun g=>if g=(s.ng,i) then v else x.ρ g⟩
 have hρ:y'.ρ (s.ng,i)=v:=if_pos rfl
 have k2:Step x y':=⟨fun g hg=>⟨.inl hg,if_neg (fun (e:g=(s.ng,i))=>hnew (by rw [← e];exact hg))⟩,fun b o h=>hpost.step.F b o h,fun b o w hF hw=>hpost.step.W b o w hF hw⟩
 refine ⟨y',rfl,hX.changeF k2 hd hpost.gr.os hpost.gr.tape hpost.gr.output hpost.gr.size (fun b hb hne=>hpost.gr.block b hb fun e=>hne g _ hob e) (fun b o h=>?_) hpost.flt
  (fun g' hg'=>?_) (.inr rfl) ⟨w1,w2,vs3,?_,fun m p v hm hv=>?_,fun b hb=>?_⟩ (fun b hb=>?_) ?_⟩
 ·rcases hpost.fnew b o h with h1 | h1 | h1
  ·exact .inl h1
  ·exact .inr (.inl h1)
  ·exact .inr (.inr ⟨g,_,hob,h1⟩)
 ·rcases hg' with hg' | rfl
  ·exact (hX.gens g' hg').imp id fun ⟨e1,e2⟩=>⟨e1,.inl e2⟩
  ·exact .inr ⟨rfl,.inr rfl⟩
 ·rw [hρ]
  exact w3
 ·obtain ⟨e,he,hpe⟩:=List.mem_flatten.1 (List.mem_of_getElem? hm)
  exact (w4 m p v hm hv).pure_mono (w2 e he p hpe) (fun _ _ h=>h) (fun _ _ _ _ h=>h)
 ·rw [hρ] at hb
  refine ⟨?_,(w5 b hb).2⟩
  rcases (w5 b hb).1 with h | h
  ·exact .inl (Nat.le_trans hbig h)
  ·exact (hlt b h).2
 ·rw [hρ] at hb
  rcases (w5 b hb).1 with h | h
  ·exact .inl h
  ·exact .inr ⟨g,_,hob,h⟩
 ·rw [hsl]
  exact .row _ _ A n c (show x.G (s.ng,i)∨(s.ng,i)=(s.ng,i) from .inr rfl) (hρ.trans hsl)
theorem Zqz {f:FuncId} {es:Array Operand} {ts:Array TypeId} {post:List PV} {t:Nat} {g:Gen} {E k:Nat} {els els':List (List PV)} (hw:Zf ops s o=some true) (ho:o.op = .call { callee:=.value (.func f),args:=es,argTypes:=ts })
  (he:es.toList.map (ev s) = .row t g::post) (hob:s.ob t=some (g,.row E k false els)) (hp:post.all PV.dryF=true) (hc:ContractS P f post E k els els'):OpR P ops i o s ⟨.row t (s.ng,i),[(t,some ((s.ng,i),.row E k false els'))]⟩:=.any hw fun s' r hA hI=>by
 rw [hA.ng]
 obtain ⟨e1,e2,_⟩:=ZdG ho hA
 refine Zsi ho (by rw [e1,he]) ?_ hp hc hI
 rw [← e2 (.row t g) (by rw [he];simp) t (by simp [ZiA,ZdT,ZcN,ZaB])]
 exact hob
end
section
variable {P:Program} [WInv P] {ops:Array Oper} {draw:Bool} {i:Nat} {L:List Oper} {acc:List (List Nat×List Nat)} {K:FS→Prop} {tm:List (Nat×PV)} {ob:List (Nat×Option (Gen×VObj))} {ng:Nat}
 {d:Option Tmp} {ty:TypeId} {pos:String} {after:Array Edge} {gd:Option (Nat×Bool)}
theorem ZqA {f:FuncId} {es:Array Operand} {ts:Array TypeId} {post:List PV} {t:Nat} {g:Gen} {E k:Nat} {els els':List (List PV)} (hc:ContractS P f post E k els els') (hw:Zf ops (mkS tm ob ng) ⟨d,.call ⟨.value (.func f),es,ts⟩,ty,pos,after,gd⟩=some true)
  (he:es.toList.map (evL tm) = .row t g::post) (hob:Zm ob t=some (g,.row E k false els)) (hp:post.all PV.dryF=true)
  (kk:GoL P ops draw (i+1) L (acc ++ [(Zy (mkS tm ob ng) ⟨d,.call ⟨.value (.func f),es,ts⟩,ty,pos,after,gd⟩,[t])]) (mkS (Za3 d (.row t (ng,i)) tm) ((t,some ((ng,i),.row E k false els'))::ob) ng) K) :
  GoL P ops draw i (⟨d,.call ⟨.value (.func f),es,ts⟩,ty,pos,after,gd⟩::L) acc (mkS tm ob ng) K:=by
 refine ZdF (Zqz hw rfl (by rw [ZS];exact he) hob hp hc) ?_
 rw [Za9]
 exact kk
end
def ZtM (P:Program) (rs:List ResultVar) (E k:Nat) (els':List (List PV)):Ex→FS→Prop
 | .exit _,_=>False
 | _,s=>∃ g,Zcd P s rs=some [.row 0 g]∧s.ob 0=some (g,.row E k false els')
theorem Zkg {P:Program} {s:FS} {rs:List ResultVar} {E k:Nat} {els':List (List PV)} {g:Gen} (h1:Zcd P s rs=some [.row 0 g]) (h3:s.ob 0=some (g,.row E k false els')):ZtM P rs E k els' .ret s:=⟨g,h1,h3⟩
section
variable {P:Program} [WInv P]
theorem ZhY (hmix:P.follows .mixedOrders=true) {f:FuncId} {fn:Func} {c:Code} {args:List PV} {E k:Nat} {els els':List (List PV)} {e:Ex} {s1:FS} {g0:Gen}
  (hg:isGo P f=true) (hf:P.funcs[f]? = some fn) (hb:fn.body=some c) (hn:args.length+1≤fn.ntmps) (hok:ZaN fn.ntmps c=true) (hrun:RunC P c (ZmR args E k els) e s1) (he:e = .normal∨e = .ret)
  (hres:Zcd P s1 fn.results.toList=some [.row 0 g0]) (hob:s1.ob 0=some (g0,.row E k false els')):ContractS P f args E k els els':=by
 refine ⟨hg,fun x vs hpre hinv=>?_⟩
 let r:Run:=⟨x.W,Dr x,(vs++Array.replicate (fn.ntmps - vs.size) undef).size,x.F,x.G,x.ρ,WInv.I P⟩
 have hNr:r.N=fn.ntmps:=by
  have:=hpre.size
  simp [r]
  omega
 have hX:RstX r (fun _=>False) (ZmR args E k els) { tmps:=vs++Array.replicate (fn.ntmps - vs.size) undef,defers:=[] } x:=by
  refine ⟨rfl,rfl,Gr.refl _ _,fun g hg=>?_,fun t=>?_,fun t g o ho=>?_,fun t t' g g' o o' b hne h1 h2 hb1 hb2=>?_,hpre.flt,fun _ _ h=>h,fun _ _ h=>.inl h,fun _ h=>⟨h,rfl⟩,⟨hinv,hpre.gen⟩,fun _ _ _ _ h=>h⟩
  ·rw [hpre.gen g hg]
   exact .inl Nat.zero_lt_one
  ·show Rep x ((PV.row 0 (0,0)::args).getD t (.tup [])) _
   rw [Array.getD_eq_getD_getElem?,Array.getElem?_append,List.getD_eq_getElem?_getD]
   by_cases ht:t<vs.size
   ·have hl:t<(PV.row 0 (0,0)::args).length:=by
     rw [List.length_cons,hpre.size]
     exact ht
    rw [if_pos ht,List.getElem?_eq_getElem hl,Array.getElem?_eq_getElem ht]
    exact hpre.rep t _ _ (List.getElem?_eq_getElem hl) (Array.getElem?_eq_getElem ht)
   ·rw [if_neg ht,List.getElem?_eq_none (by rw [List.length_cons,hpre.size];omega)]
    have:(Array.replicate (fn.ntmps - vs.size) undef)[t - vs.size]?.getD undef=undef:=by
     rw [Array.getElem?_replicate]
     split<;>rfl
    rw [this]
    exact .tup [] #[] rfl (fun i p v hp=>by simp at hp)
  ·obtain ⟨rfl,rfl,rfl⟩:=ZfY ho
   exact hpre.ob
  ·exact absurd ((ZfY h1).1.trans (ZfY h2).1.symm) hne
 refine calls_of_wp hf hb ?_
 refine (ZdK hmix hrun).1 r _ x _ ⟨rfl,by rw [hNr];exact hok⟩ hX fun a' y hY=>?_
 obtain ⟨ws,h1,h2,h3⟩:=ZbG hY fn.results.toList hres
 have hstep:Step x y:=⟨fun g hg=>hY.rho g hg,fun b o hb=>hY.f0 b o hb,fun b o v hb hv=>hY.keep b o v hb hv⟩
 have hend:(results fn a'.tmps).run P y.W = .ok (if ws.length=1 then ws.getD 0 undef else .tuple ws.toArray) y.W:=by
  have:(fn.results.mapM (ZmW a')).run P y.W = .ok ws.toArray y.W:=by
   rw [Array.mapM_eq_mapM_toList,map_eq_pure_bind,Sem.run_bind,h1]
   rfl
  have e:results fn a'.tmps=(fn.results.mapM (ZmW a') >>= fun vs=>pure (if h:vs.size=1 then vs[0] else .tuple vs)):=by
   unfold results
   congr 1
  rw [e,Sem.run_bind,this]
  simp only [Result.andThen_ok,Sem.run_pure]
  congr 1
  by_cases hl:ws.length=1
  ·simp [hl]
  ·simp [hl]
 have hfin:∃ v,(results fn a'.tmps).run P y.W = .ok v y.W∧(fun e W'=>∃ y v,y.W=W'∧e=Ending.returned v∧PostS x y E k els' v) (Ending.returned v) y.W:=by
  refine ⟨_,hend,y,_,rfl,rfl,hstep,hY.gr,hY.fnew,hY.flt,g0,?_,(hY.ob 0 _ _ hob).2⟩
  rw [if_pos (by simpa using h2)]
  have h5:=h3 0 (.row 0 g0) rfl
  generalize ws.getD 0 undef=u at h5 ⊢
  cases h5 with
  | row _ _ A n c _ hvv=>exact hvv
 rcases he with rfl | rfl
 ·exact ⟨hY.defers,hfin⟩
 ·exact ⟨hY.defers,hfin⟩
theorem ZjM (hmix:P.follows .mixedOrders=true) {f:FuncId} {fn:Func} {c:Code} {args:List PV} {E k:Nat} {els els':List (List PV)} (hf:P.funcs[f]? = some fn) (hg:isGo P f=true) (hb:fn.body=some c) (hok:(decide (args.length+1≤fn.ntmps)&&ZaN fn.ntmps c)=true)
  (h:PWs P [c] (ZtM P fn.results.toList E k els') (mkS (Zc3 0 (.row 0 (0,0)::args)) [(0,some ((0,0),.row E k false els))] 1)):ContractS P f args E k els els':=by
 simp only [Bool.and_eq_true,decide_eq_true_eq] at hok
 obtain ⟨e,s',h1,h2⟩:=Zb2 h
 have hsh:Shift (ZmR args E k els) (mkS (Zc3 0 (.row 0 (0,0)::args)) [(0,some ((0,0),.row E k false els))] 1):=Zc2 (fun t=>by
  rcases Zcp (PV.row 0 (0,0)::args) 0 t with h | ⟨_,h⟩
  ·exact .inl h
  ·exact .inr h) (fun t=>.inr rfl) (Nat.le_refl _)
 cases e with
 | exit id=>exact h2.elim
 | normal=>
   obtain ⟨g0,q1,q3⟩:=h2
   exact ZhY hmix hg hf hb hok.1 hok.2 (.shift hsh h1) (.inl rfl) q1 q3
 | ret=>
   obtain ⟨g0,q1,q3⟩:=h2
   exact ZhY hmix hg hf hb hok.1 hok.2 (.shift hsh h1) (.inr rfl) q1 q3
end
end VL
end Go.Proofs.YtmgfammllddkhaaGreatDoor

namespace Go.Proofs.YtmgfammllddkhaaGreatDoor
namespace VL
section
variable {P:Program} [WInv P] {α β γ:Type} {ops:Array Oper} {draw:Bool} {i:Nat} {L:List Oper} {acc:List (List Nat×List Nat)} {K:FS→Prop} {tm:List (Nat×PV)} {ob:List (Nat×Option (Gen×VObj))} {ng:Nat}
 {d:Option Tmp} {ty T:TypeId} {pos:String} {after:Array Edge} {gd:Option (Nat×Bool)} {x y:Operand} {r:γ} {q:β→Prop}
theorem aC {F:Option β} {G:β→Option γ} {R:β→PV} {f:FuncId} {es:Array Operand} {ts:Array TypeId} {args:List PV} {us:List (Nat×Option (Gen×VObj))} (hF:F.bind G=some r) (hc:∀ v,F=some v→Zo P f args (R v)) (k:∀ v,G v=some r→q v)
  (hw:Zf ops (mkS tm ob ng) ⟨d,.call ⟨.value (.func f),es,ts⟩,ty,pos,after,gd⟩=some true:=by exact rfl) (ha:Zfj (Zm ob) (es.toList.map (evL tm))=some (args,us):=by exact rfl)
  (h:∀ v,q v→GoL P ops draw (i+1) L (acc ++ [(Zy (mkS tm ob ng) ⟨d,.call ⟨.value (.func f),es,ts⟩,ty,pos,after,gd⟩,us.map (·.1))]) (mkS (Za3 d (R v) tm) (us.reverse++ob) ng) K:=by
 (intro v k)
 (refine Zq ?_)
 (exact k)):GoL P ops draw i (⟨d,.call ⟨.value (.func f),es,ts⟩,ty,pos,after,gd⟩::L) acc (mkS tm ob ng) K:=by
 obtain ⟨v,hv,hG⟩:=bnd hF
 exact Zff (hc v hv) hw ha (h v (k v hG))
theorem aL {F:Option β} {G:β→Option γ} {R:β→PV} {f:FuncId} {es:Array Operand} {ts:Array TypeId} {args:List PV} (hF:F.bind G=some r) (hc:∀ v,F=some v→Zo P f args (R v)) (k:∀ v,G v=some r→q v)
  (hw:Zf ops (mkS tm ob ng) ⟨d,.call ⟨.value (.func f),es,ts⟩,ty,pos,after,gd⟩=some true:=by exact rfl) (ha:Zgh (frz (Zm ob)) (es.toList.map (evL tm))=some args:=by exact rfl) (hp:∀ v,(R v).dry=true:=by exact fun _=>rfl)
  (h:∀ v,q v→GoL P ops draw (i+1) L (acc ++ [(Zy (mkS tm ob ng) ⟨d,.call ⟨.value (.func f),es,ts⟩,ty,pos,after,gd⟩,[])]) (mkS (Za3 d (R v) tm) ob ng) K:=by
 (intro v k)
 (refine Zq ?_)
 (exact k)):GoL P ops draw i (⟨d,.call ⟨.value (.func f),es,ts⟩,ty,pos,after,gd⟩::L) acc (mkS tm ob ng) K:=by
 obtain ⟨v,hv,hG⟩:=bnd hF
 exact Zjc (hc v hv) hw ha (hp v) (h v (k v hG))
theorem aN {dd:Nat} {F:Option β} {G:β→Option γ} {O:β→VObj} {f:FuncId} {es:Array Operand} {ts:Array TypeId} {args:List PV} {us:List (Nat×Option (Gen×VObj))} (hF:F.bind G=some r) (hc:∀ v,F=some v→ContractN P f args (O v)) (k:∀ v,G v=some r→q v)
  (hw:Zf ops (mkS tm ob ng) ⟨some dd,.call ⟨.value (.func f),es,ts⟩,ty,pos,after,gd⟩=some true:=by exact rfl) (ha:Zfj (Zm ob) (es.toList.map (evL tm))=some (args,us):=by exact rfl)
  (h:∀ v,q v→GoL P ops draw (i+1) L (acc ++ [(Zy (mkS tm ob ng) ⟨some dd,.call ⟨.value (.func f),es,ts⟩,ty,pos,after,gd⟩,(us ++ [(dd,some ((ng,i),O v))]).map (·.1))])
   (mkS ((dd,ZgH (O v) dd (ng,i))::tm) ((us ++ [(dd,some ((ng,i),O v))]).reverse++ob) ng) K:=by
 (intro v k)
 (refine Zq ?_)
 (exact k)):GoL P ops draw i (⟨some dd,.call ⟨.value (.func f),es,ts⟩,ty,pos,after,gd⟩::L) acc (mkS tm ob ng) K:=by
 obtain ⟨v,hv,hG⟩:=bnd hF
 exact ZsW (hc v hv) hw ha (h v (k v hG))
theorem aO {F:Option β} {G:β→Option γ} {R:β→PV} {O:β→List PV} {f:FuncId} {es:Array Operand} {ts:Array TypeId} {post post':List PV} {t:Nat} {g:Gen} {cs qs:List PV} {us2 us3:List (Nat×Option (Gen×VObj))} (hF:F.bind G=some r)
  (hc:∀ v,F=some v→Contract P f (.ptr 0 (0,0) 0::post') (some (0,qs)) (R v) (O v)) (k:∀ v,G v=some r→q v) (hw:Zf ops (mkS tm ob ng) ⟨d,.call ⟨.value (.func f),es,ts⟩,ty,pos,after,gd⟩=some true:=by exact rfl)
  (he:es.toList.map (evL tm) = .ptr t g 0::post:=by exact rfl) (hob:ZV (Zm ob) t g=some (.box cs):=by exact rfl) (h2:Zdq (Zm ob) cs=some (qs,us2):=by exact rfl) (h3:Zfj (Zm ob) post=some (post',us3):=by exact rfl)
  (h:∀ v,q v→GoL P ops draw (i+1) L (acc ++ [(Zy (mkS tm ob ng) ⟨d,.call ⟨.value (.func f),es,ts⟩,ty,pos,after,gd⟩,(us2++us3 ++ [(t,some (g,VObj.box (O v)))]).map (·.1))])
   (mkS (Za3 d (R v) tm) ((us2++us3 ++ [(t,some (g,VObj.box (O v)))]).reverse++ob) ng) K:=by
 (intro v k)
 (refine Zq ?_)
 (exact k)):GoL P ops draw i (⟨d,.call ⟨.value (.func f),es,ts⟩,ty,pos,after,gd⟩::L) acc (mkS tm ob ng) K:=by
 obtain ⟨v,hv,hG⟩:=bnd hF
 exact ZbV (hc v hv) hw he hob h2 h3 (h v (k v hG))
theorem aI (f:β→List PV) {M:List β} {n:Int} {G:β→Option γ} {E kk by_:Nat} {z:List PV} [Sl P T E kk by_ z] {kd:IntKind} (hF:(atI M n).bind G=some r) (k:∀ v,G v=some r→q v)
  (hw:Zf ops (mkS tm ob ng) ⟨d,.indexAddr T x y,ty,pos,after,gd⟩=some true:=by exact rfl) (hx:evL tm x = .sl (M.map f):=by exact rfl) (hy:evL tm y = .int kd n:=by exact rfl) (hl:∀ e,(f e).length=kk:=by exact fun _=>rfl)
  (h:∀ e,q e→GoL P ops draw (i+1) L (acc ++ [(Zy (mkS tm ob ng) ⟨d,.indexAddr T x y,ty,pos,after,gd⟩,[])]) (mkS (Za3 d (.cel (f e)) tm) ob ng) K:=by
 (intro v k)
 (refine Zq ?_)
 (exact k)):GoL P ops draw i (⟨d,.indexAddr T x y,ty,pos,after,gd⟩::L) acc (mkS tm ob ng) K:=by
 obtain ⟨v,hv,hG⟩:=bnd hF
 exact Zq9 hw hv hx hy (hl v) (h v (k v hG))
theorem aS {a:ByteArray} {n:Int} {G:Int→Option γ} {q:Int→Prop} {kd:IntKind} (hF:(atS a n).bind G=some r) (k:∀ v,G v=some r→q v) [hT:StrT P T]
  (hw:Zf ops (mkS tm ob ng) ⟨d,.index T x y,ty,pos,after,gd⟩=some true:=by exact rfl) (hx:evL tm x = .str a:=by exact rfl) (hy:evL tm y = .int kd n:=by exact rfl)
  (h:∀ c,q c→GoL P ops draw (i+1) L (acc ++ [(Zy (mkS tm ob ng) ⟨d,.index T x y,ty,pos,after,gd⟩,[])]) (mkS (Za3 d (.int .u8 c) tm) ob ng) K:=by
 (intro v k)
 (refine Zq ?_)
 (exact k)):GoL P ops draw i (⟨d,.index T x y,ty,pos,after,gd⟩::L) acc (mkS tm ob ng) K:=by
 obtain ⟨v,hv,hG⟩:=bnd hF
 exact ZoT StrT.eq hw hv hx hy (h v (k v hG))
theorem sS {a:ByteArray} {l m:Int} {G:ByteArray→Option γ} {q:ByteArray→Prop} {lo hi:Option Operand} (hF:(ZfP a l m).bind G=some r) (k:∀ v,G v=some r→q v) [hT:StrT P T]
  (hw:Zf ops (mkS tm ob ng) ⟨d,.slice T x lo hi none,ty,pos,after,gd⟩=some true:=by exact rfl) (hx:evL tm x = .str a:=by exact rfl) (hlo:loI tm lo=some l:=by exact rfl) (hhi:hiI tm a.size hi=some m:=by exact rfl)
  (h:∀ b,q b→GoL P ops draw (i+1) L (acc ++ [(Zy (mkS tm ob ng) ⟨d,.slice T x lo hi none,ty,pos,after,gd⟩,[])]) (mkS (Za3 d (.str b) tm) ob ng) K:=by
 (intro v k)
 (refine Zq ?_)
 (exact k)):GoL P ops draw i (⟨d,.slice T x lo hi none,ty,pos,after,gd⟩::L) acc (mkS tm ob ng) K:=by
 obtain ⟨v,hv,hG⟩:=bnd hF
 exact Zlh StrT.eq hw hv hx hlo hhi (h v (k v hG))
theorem sT {a b:ByteArray} {G:ByteArray→Option γ} {q:ByteArray→Prop} {T':TypeId} (hF:(Zbk a b).bind G=some r) (k:∀ v,G v=some r→q v)
  (hw:Zf ops (mkS tm ob ng) ⟨d,.binOp .add T x y T',ty,pos,after,gd⟩=some true:=by exact rfl) (hx:evL tm x = .str a:=by exact rfl) (hy:evL tm y = .str b:=by exact rfl)
  (h:∀ c,q c→GoL P ops draw (i+1) L (acc ++ [(Zy (mkS tm ob ng) ⟨d,.binOp .add T x y T',ty,pos,after,gd⟩,[])]) (mkS (Za3 d (.str c) tm) ob ng) K:=by
 (intro v k)
 (refine Zq ?_)
 (exact k)):GoL P ops draw i (⟨d,.binOp .add T x y T',ty,pos,after,gd⟩::L) acc (mkS tm ob ng) K:=by
 obtain ⟨v,hv,hG⟩:=bnd hF
 exact Zng hw hv hx hy (h v (k v hG))
theorem pR (f:β→List PV) {dd:Nat} {E kk by_:Nat} {z:List PV} [Sl P T E kk by_ z] {M0 M:List β} {G:List β→Option γ} {q:List β→Prop} {t:Nat} {g:Gen} {sh:Bool} {new:List (List PV)} (hF:(Zjw by_ M0 M).bind G=some r) (k:∀ v,G v=some r→q v)
  (hw:Zf ops (mkS tm ob ng) ⟨some dd,.call ⟨.builtin .append,#[x,y],#[T,T]⟩,ty,pos,after,gd⟩=some true:=by exact rfl) (hf:∀ x,(f x).length=kk:=by exact fun _=>rfl) (hx:evL tm x = .row t g:=by exact rfl) (ho:ZV (Zm ob) t g=some (.row E kk sh (M0.map f)):=by exact rfl) (hy:ZjQ (Zm ob) (evL tm y)=some new:=by exact rfl) (hm:new=M.map f:=by exact rfl)
  (h:∀ R,q R→GoL P ops draw (i+1) L (acc ++ [(Zy (mkS tm ob ng) ⟨some dd,.call ⟨.builtin .append,#[x,y],#[T,T]⟩,ty,pos,after,gd⟩,[t])]) (mkS ((dd,.row t (ng,i))::tm) ((t,some ((ng,i),.row E kk sh (R.map f)))::ob) ng) K:=by
 (intro v k)
 (refine Zq ?_)
 (exact k)):GoL P ops draw i (⟨some dd,.call ⟨.builtin .append,#[x,y],#[T,T]⟩,ty,pos,after,gd⟩::L) acc (mkS tm ob ng) K:=by
 obtain ⟨v,hv,hG⟩:=bnd hF
 exact Zt7 hw hv hf hx ho hy hm (h v (k v hG))
theorem lM (f:β→List PV) (M:List β) {E kk by_:Nat} {z:List PV} [Sl P T E kk by_ z] {q:Prop} (k:q)
  (hw:Zf ops (mkS tm ob ng) ⟨d,.call ⟨.builtin .len,#[x],#[T]⟩,ty,pos,after,gd⟩=some true:=by exact rfl) (hx:ZjQ (Zm ob) (evL tm x)=some (M.map f):=by exact rfl)
  (h:q→GoL P ops draw (i+1) L (acc ++ [(Zy (mkS tm ob ng) ⟨d,.call ⟨.builtin .len,#[x],#[T]⟩,ty,pos,after,gd⟩,[])]) (mkS (Za3 d (.int .i64 (M.length:Int)) tm) ob ng) K:=by
 (intro k)
 (refine Zq ?_)
 (exact k)):GoL P ops draw i (⟨d,.call ⟨.builtin .len,#[x],#[T]⟩,ty,pos,after,gd⟩::L) acc (mkS tm ob ng) K:=Zt6 hw hx (h k)
theorem bM (f:β→List PV) (M:List β) {dd:Nat} {E kk by_:Nat} {z:List PV} [Sl P T E kk by_ z] {n:Nat} {parts:Array (Nat×Operand)} {q:Prop} {cs qs:List PV} {us:List (Nat×Option (Gen×VObj))} (k:q)
  (hw:Zf ops (mkS tm ob ng) ⟨some dd,.buildSlice T n parts,ty,pos,after,gd⟩=some true:=by exact rfl) (hf:Zdj (fun i=>some (i * kk,kk)) (List.replicate n z).flatten (evs tm parts.toList)=some cs:=by exact rfl) (hr:Zdq (Zm ob) cs=some (qs,us):=by exact rfl) (hl:qs.length=n * kk:=by exact rfl) (hm:n * kk≤16777216:=by exact (Nat.le_of_ble_eq_true rfl)) (hc:chunks kk n qs=M.map f:=by exact rfl)
  (h:q→GoL P ops draw (i+1) L (acc ++ [(Zy (mkS tm ob ng) ⟨some dd,.buildSlice T n parts,ty,pos,after,gd⟩,us.map (·.1) ++ [dd])]) (mkS ((dd,.row dd (ng,i))::tm) ((dd,some ((ng,i),.row E kk false (M.map f)))::(us.reverse++ob)) ng) K:=by
 (intro k)
 (refine Zq ?_)
 (exact k)):GoL P ops draw i (⟨some dd,.buildSlice T n parts,ty,pos,after,gd⟩::L) acc (mkS tm ob ng) K:=Zc5 M hw hf hr hl hm hc (h k)
end
end VL
end Go.Proofs.YtmgfammllddkhaaGreatDoor
namespace Go.Proofs.YtmgfammllddkhaaGreatDoor
namespace VL
open Go.RowKit
def ZoO {α:Type} (l:List α) (q:Int):Option Unit:=if 0≤q∧q≤(l.length:Int) then some () else none
def atQ {α:Type} (l:List α) (q i:Int):Option α:=if 0≤q∧0≤i then atI l (q+i) else none
def ZtX {α:Type} (l:List α) (q:Int):Int:=((l.length - q.toNat:Nat):Int)
def Zs6 {α:Type} (l:List α) (q:Int) (z:α):List α:=l.take q.toNat++List.replicate (l.length - q.toNat) z
theorem Zgo {α:Type} {l:List α} {q i:Int} {e:α} (h:atQ l q i=some e):atI l (q+i)=some e:=by
 unfold atQ at h
 split at h
 ·exact h
 ·cases h
section
variable {P:Program} [WInv P] {ops:Array Oper} {draw:Bool} {i:Nat} {L:List Oper} {acc:List (List Nat×List Nat)} {K:FS→Prop} {tm:List (Nat×PV)} {ob:List (Nat×Option (Gen×VObj))} {ng:Nat}
 {d:Option Tmp} {ty:TypeId} {pos:String} {after:Array Edge} {gd:Option (Nat×Bool)} {T:TypeId} {x y:Operand} {E kk by_:Nat} {z:List PV} {t:Nat} {g:Gen} {α:Type} {f:α→List PV}
theorem Znk {w:Operand} {kd:IntKind} {q:Int} {E':Nat} {sh:Bool} {u:Unit} {M:List α} [Sl P T E kk by_ z] (hw:Zf ops (mkS tm ob ng) ⟨d,.slice T x (some w) none none,ty,pos,after,gd⟩=some true) (hs:ZoO M q=some u) (hx:evL tm x = .row t g) (hb:ZV (Zm ob) t g=some (.row E' kk sh (M.map f))) (hy:evL tm w = .int kd q)
  (k:GoL P ops draw (i+1) L (acc ++ [(Zy (mkS tm ob ng) ⟨d,.slice T x (some w) none none,ty,pos,after,gd⟩,[])]) (mkS (Za3 d (.suf t g q.toNat kk) tm) ob ng) K):GoL P ops draw i (⟨d,.slice T x (some w) none none,ty,pos,after,gd⟩::L) acc (mkS tm ob ng) K:=by
 unfold ZoO at hs
 split at hs
 ·rename_i hc
  exact ZuA (n:=q.toNat) hw hx hb (by rw [hy,Int.toNat_of_nonneg hc.1]) (by rw [List.length_map];omega) k
 ·cases hs
theorem ZsC {q:Int} {k' E':Nat} {sh:Bool} {M:List α} [Sl P T E kk by_ z] (hw:Zf ops (mkS tm ob ng) ⟨d,.call ⟨.builtin .len,#[x],#[T]⟩,ty,pos,after,gd⟩=some true) (hx:evL tm x = .suf t g q.toNat k') (hb:ZV (Zm ob) t g=some (.row E' k' sh (M.map f)))
  (k:GoL P ops draw (i+1) L (acc ++ [(Zy (mkS tm ob ng) ⟨d,.call ⟨.builtin .len,#[x],#[T]⟩,ty,pos,after,gd⟩,[])]) (mkS (Za3 d (.int .i64 (ZtX M q)) tm) ob ng) K):GoL P ops draw i (⟨d,.call ⟨.builtin .len,#[x],#[T]⟩,ty,pos,after,gd⟩::L) acc (mkS tm ob ng) K:=
 ZuB hw hx hb (by rw [List.length_map];rfl) k
theorem ZeD {E':Nat} {sh:Bool} {kd:IntKind} {q n:Int} {M:List α} {e:α} [Sl P T E kk by_ z] (hw:Zf ops (mkS tm ob ng) ⟨d,.indexAddr T x y,ty,pos,after,gd⟩=some true) (he:atQ M q n=some e) (hx:evL tm x = .suf t g q.toNat kk) (hb:ZV (Zm ob) t g=some (.row E' kk sh (M.map f))) (hy:evL tm y = .int kd n)
  (k:GoL P ops draw (i+1) L (acc ++ [(Zy (mkS tm ob ng) ⟨d,.indexAddr T x y,ty,pos,after,gd⟩,[])]) (mkS (Za3 d (.elp t g (q+n).toNat kk 0) tm) ob ng) K):GoL P ops draw i (⟨d,.indexAddr T x y,ty,pos,after,gd⟩::L) acc (mkS tm ob ng) K:=by
 have h2:=(Zhe (Zgo he)).2
 unfold atQ at he
 split at he
 ·rename_i hc
  exact Zr0 (n:=n.toNat) hw hx hb (by rw [hy,Int.toNat_of_nonneg hc.2]) (by omega) (by rw [List.length_map];exact (List.getElem?_eq_some_iff.1 h2).1) k
 ·cases he
theorem Znl {q:Int} {E':Nat} {zr:α} {M:List α} [Sl P T E kk by_ z] (hw:Zf ops (mkS tm ob ng) ⟨d,.call ⟨.builtin .clear,#[x],#[T]⟩,ty,pos,after,gd⟩=some true) (hx:evL tm x = .suf t g q.toNat kk) (hb:ZV (Zm ob) t g=some (.row E' kk false (M.map f))) (hz:z.map dn=f zr) (hp:(f zr).all PV.pure=true)
  (k:GoL P ops draw (i+1) L (acc ++ [(Zy (mkS tm ob ng) ⟨d,.call ⟨.builtin .clear,#[x],#[T]⟩,ty,pos,after,gd⟩,[t])]) (mkS (Za3 d (.tup []) tm) ((t,some (g,.row E' kk false ((Zs6 M q zr).map f)))::ob) ng) K):GoL P ops draw i (⟨d,.call ⟨.builtin .clear,#[x],#[T]⟩,ty,pos,after,gd⟩::L) acc (mkS tm ob ng) K:=
 Zr2 hw hx hb hz hp (by unfold Zs6;rw [List.map_append,List.map_take,List.map_replicate,List.length_map]) k
theorem Znm {w:Operand} {E':Nat} {kd:IntKind} {h:Int} {M R:List α} [Sl P T E kk by_ z] (hw:Zf ops (mkS tm ob ng) ⟨d,.slice T x none (some w) none,ty,pos,after,gd⟩=some true) (hs:ZsR M 0 h=some R) (hx:evL tm x = .row t g) (hb:ZV (Zm ob) t g=some (.row E' kk false (M.map f))) (hy:evL tm w = .int kd h)
  (k:GoL P ops draw (i+1) L (acc ++ [(Zy (mkS tm ob ng) ⟨d,.slice T x none (some w) none,ty,pos,after,gd⟩,[t])]) (mkS (Za3 d (.row t (ng,i)) tm) ((t,some ((ng,i),.row E' kk false (R.map f)))::ob) ng) K):GoL P ops draw i (⟨d,.slice T x none (some w) none,ty,pos,after,gd⟩::L) acc (mkS tm ob ng) K:=by
 obtain ⟨h0,h1,h2,rfl⟩:=Zq7 hs
 refine Zr1 (n:=h.toNat) hw hx hb (by rw [hy,Int.toNat_of_nonneg h1]) (by rw [List.length_map];omega) (?_:_=_) k
 rw [← List.map_take]
 rfl
end
theorem ZiM {P:Program} [WInv P] {β:Type} {F:Option β} {O:β→List (List PV)} {f:FuncId} {fn:Func} {c:Code} {args:List PV} {E k:Nat} {els:List (List PV)} {r:β} (hF:F=some r) (hmix:P.follows .mixedOrders=true) (hf:P.funcs[f]? = some fn) (hg:isGo P f=true) (hb:fn.body=some c) (hok:(decide (args.length+1≤fn.ntmps)&&ZaN fn.ntmps c)=true)
  (h:∀ r,F=some r→PWs P [c] (ZtM P fn.results.toList E k (O r)) (mkS (Zc3 0 (.row 0 (0,0)::args)) [(0,some ((0,0),.row E k false els))] 1)):ContractS P f args E k els (O r):=ZjM hmix hf hg hb hok (h r hF)
end VL
end Go.Proofs.YtmgfammllddkhaaGreatDoor
set_option linter.unusedVariables false
set_option maxHeartbeats 4000000
set_option maxRecDepth 100000
namespace Go.Proofs.YtmgfammllddkhaaGreatDoor
open VL
def Zax (p0:ByteArray) (p1:ByteArray):Option Bool:=
 letk (fun (x2:Bool)=>
  (some x2:Option Bool)) fun k1=>
 if (decide ((p1.size:Int)≤(p0.size:Int))) then
  (ZfP p0 (w64 ((p0.size:Int) - (p1.size:Int))) (p0.size:Int)).bind fun l3=>
  k1 (decide (l3=p1))
 else
 k1 false
theorem ZcJ (p0:ByteArray) (p1:ByteArray) (r:Bool) (h:Zax p0 p1=some r):Zo Tryz.prog 219 [.str p0,.str p1] (.bool r):=by
 refine cF (fun r=>.bool r) h mix Tryz.func219 fun r h=>?_
 unfold Zax at h
 refine Zq ?_
 refine rg ?_
 refine jL h (fun x2=>mkS [(4,.bool x2)] [] 2) (fun k1 h=>?_) fun x2 h=>?_
 ·refine rg ?_
  refine kS 10 h rfl (fun h=>?_) fun h=>?_
  ·refine sS h fun l3 h=>?_
   exact jn (decide (l3=p1)) h (sR [])
  iterate 9 refine ZN rfl (Zq ?_)
  exact jn false h (sR [])
 cases h
 exact rQ
def Zaq (p0:ByteArray) (p1:ByteArray):Option ByteArray:=
 (Zax p0 p1).bind fun r1=>
 if r1 then
  (ZfP p0 0 (w64 ((p0.size:Int) - (p1.size:Int)))).bind fun l3=>
  (some l3:Option ByteArray)
 else
 (some p0:Option ByteArray)
theorem ZcE (p0:ByteArray) (p1:ByteArray) (r:ByteArray) (h:Zaq p0 p1=some r):Zo Tryz.prog 214 [.str p0,.str p1] (.str r):=by
 refine cF (fun r=>.str r) h mix Tryz.func214 fun r h=>?_
 unfold Zaq at h
 refine Zq ?_
 refine rg ?_
 refine rg ?_
 refine aC h (ZcJ _ _) fun r1 h=>?_
 refine cS h rfl (fun h=>?_) fun h=>?_
 ·refine rg ?_
  refine sS h fun l3 h=>?_
  cases h
  exact rQ
 refine rg ?_
 cases h
 exact rQ
def strings_TrimSuffix (p0:ByteArray) (p1:ByteArray):Option ByteArray:=
 (Zaq p0 p1).bind fun r1=>
 (some r1:Option ByteArray)
theorem Zgb (p0:ByteArray) (p1:ByteArray) (r:ByteArray) (h:strings_TrimSuffix p0 p1=some r):Zo Tryz.prog 192 [.str p0,.str p1] (.str r):=by
 refine cF (fun r=>.str r) h mix Tryz.func192 fun r h=>?_
 unfold strings_TrimSuffix at h
 refine Zq ?_
 refine rg ?_
 refine rg ?_
 refine aC h (ZcE _ _) fun r1 h=>?_
 cases h
 exact rQ
def Zdi (p0:ByteArray):Option ByteArray:=
 (ZrN 1 (p0.size:Int)).bind fun _=>
 Zbq Zel (fun f17 ((x63,x64):Int×(List Int))=>
  if (decide (x63<(p0.size:Int))) then
   letk (fun (x87:List Int)=>
    f17 ((w64 (x63+1)),x87)) fun k19=>
   letk (fun (x90:Bool)=>
    if x90 then
     (atS p0 x63).bind fun c91=>
     (Zjw 1 x64 [c91]).bind fun l92=>
     k19 l92
    else
    k19 x64) fun k20=>
   (atS p0 x63).bind fun c93=>
   if (!decide (c93=32)) then
    k20 true
   else
   if (decide (0<(x64.length:Int))) then
    (atI x64 (w64 ((x64.length:Int) - 1))).bind fun e94=>
    k20 (!decide (e94=32))
   else
   k20 false
  else
  (strings_TrimSuffix (strOfNums x64) (⟨#[32]⟩:ByteArray)).bind fun r95=>
  (some r95:Option ByteArray)) (0,([]:List Int))
theorem ZjN (p0:ByteArray) (r:ByteArray) (h:Zdi p0=some r):Zo Tryz.prog 152 [.str p0] (.str r):=by
 refine cF (fun r=>.str r) h mix Tryz.func152 fun r h=>?_
 unfold Zdi at h
 refine Zq ?_
 refine rg ?_
 refine rg ?_
 obtain ⟨_,h1,h⟩:=bnd h
 refine Ztn csB rfl rfl rfl h1 (Zq ?_)
 refine rg ?_
 refine bl ?_
 refine ZW h fun f17 mf17 hf17 h=>?_
 refine ZH (α:=Nat×(Int×(List Int))) (fun a _=>mkS [(0,.str p0),(3,.row 7 (1,7)),(4,.int .i64 a.2.1)] [(7,some ((1,7),.row 5 1 false (List.map csB a.2.2)))] 2) (fun a=>Zbq a.1 f17 a.2=some r) (fun a=>a.1) (mf17,0,([]:List Int)) 2 h (sR [(7,2,2)]) (fun a _ h=>?_)
 obtain ⟨mf17,x63,x64⟩:=a
 obtain ⟨mf17,rfl,h⟩:=ZX hf17 h
 dsimp only at h ⊢
 refine Zq ?_
 refine rg ?_
 refine cS h rfl (fun h=>?_) fun h=>?_
 ·refine jL h (fun x87=>mkS [(0,.str p0),(3,.row 7 (1,7)),(4,.int .i64 x63)] [(7,some ((1,7),.row 5 1 false (List.map csB x87)))] 2) (fun k19 h=>?_) fun x87 h=>?_
  ·refine bl ?_
   refine jL h (fun x90=>mkS [(0,.str p0),(3,.row 7 (1,7)),(4,.int .i64 x63),(31,.bool x90)] [(7,some ((1,7),.row 5 1 false (List.map csB x64)))] 2) (fun k20 h=>?_) fun x90 h=>?_
   ·refine rg ?_
    refine aS h fun c93 h=>?_
    refine kS 18 h rfl (fun h=>?_) fun h=>?_
    ·iterate 12 refine ZN rfl (Zq ?_)
     exact jn true h (sR [(7,1,7)])
    refine lM csB x64 ?_
    refine kS 22 h rfl (fun h=>?_) fun h=>?_
    ·refine lM csB x64 ?_
     obtain ⟨e94,h73,h⟩:=bnd h
     refine ZY rfl h73 rfl rfl rfl (Zq ?_)
     refine ZaG rfl h73 rfl rfl rfl (Zq ?_)
     exact jn (!decide (e94=32)) h (sR [(7,1,7)])
    iterate 7 refine ZN rfl (Zq ?_)
    exact jn false h (sR [(7,1,7)])
   refine cS h rfl (fun h=>?_) fun h=>?_
   ·refine rg ?_
    refine aS h fun c91 h=>?_
    refine bM csB ([c91]:List Int) ?_
    refine pR csB h fun l92 h=>?_
    exact jn l92 h (sR [(7,2,5)])
   exact jn x64 h (sR [(7,1,7)])
  refine rg ?_
  exact rn (mf17,(w64 (x63+1)),x87) h (sR [(7,1,7)])
 refine rg ?_
 refine Zny (l:=x64) rfl rfl (Zq ?_)
 refine aC h (Zgb _ _) fun r95 h=>?_
 cases h
 exact rQ
def Zs (p0:ByteArray) (p1:ByteArray):Option Bool:=
 letk (fun (x2:Bool)=>
  (some x2:Option Bool)) fun k1=>
 if (decide ((p1.size:Int)≤(p0.size:Int))) then
  (ZfP p0 0 (p1.size:Int)).bind fun l3=>
  k1 (decide (l3=p1))
 else
 k1 false
theorem ZaL (p0:ByteArray) (p1:ByteArray) (r:Bool) (h:Zs p0 p1=some r):Zo Tryz.prog 148 [.str p0,.str p1] (.bool r):=by
 refine cF (fun r=>.bool r) h mix Tryz.func148 fun r h=>?_
 unfold Zs at h
 refine Zq ?_
 refine rg ?_
 refine jL h (fun x2=>mkS [(4,.bool x2)] [] 2) (fun k1 h=>?_) fun x2 h=>?_
 ·refine rg ?_
  refine kS 10 h rfl (fun h=>?_) fun h=>?_
  ·refine sS h fun l3 h=>?_
   exact jn (decide (l3=p1)) h (sR [])
  iterate 6 refine ZN rfl (Zq ?_)
  exact jn false h (sR [])
 cases h
 exact rQ
def ZF (p0:ByteArray) (p1:ByteArray):Option Bool:=
 (Zs p0 p1).bind fun r1=>
 (some r1:Option Bool)
theorem Zao (p0:ByteArray) (p1:ByteArray) (r:Bool) (h:ZF p0 p1=some r):Zo Tryz.prog 115 [.str p0,.str p1] (.bool r):=by
 refine cF (fun r=>.bool r) h mix Tryz.func115 fun r h=>?_
 unfold ZF at h
 refine Zq ?_
 refine rg ?_
 refine rg ?_
 refine aC h (ZaL _ _) fun r1 h=>?_
 cases h
 exact rQ
def Zar (p0:ByteArray) (p1:ByteArray):Option ByteArray:=
 (Zs p0 p1).bind fun r1=>
 if r1 then
  (ZfP p0 (p1.size:Int) (p0.size:Int)).bind fun l3=>
  (some l3:Option ByteArray)
 else
 (some p0:Option ByteArray)
theorem ZcF (p0:ByteArray) (p1:ByteArray) (r:ByteArray) (h:Zar p0 p1=some r):Zo Tryz.prog 194 [.str p0,.str p1] (.str r):=by
 refine cF (fun r=>.str r) h mix Tryz.func194 fun r h=>?_
 unfold Zar at h
 refine Zq ?_
 refine rg ?_
 refine rg ?_
 refine aC h (ZaL _ _) fun r1 h=>?_
 refine cS h rfl (fun h=>?_) fun h=>?_
 ·refine rg ?_
  refine sS h fun l3 h=>?_
  cases h
  exact rQ
 refine rg ?_
 cases h
 exact rQ
def Za0 (p0:ByteArray) (p1:ByteArray):Option ByteArray:=
 (Zar p0 p1).bind fun r1=>
 (some r1:Option ByteArray)
theorem Zds (p0:ByteArray) (p1:ByteArray) (r:ByteArray) (h:Za0 p0 p1=some r):Zo Tryz.prog 154 [.str p0,.str p1] (.str r):=by
 refine cF (fun r=>.str r) h mix Tryz.func154 fun r h=>?_
 unfold Za0 at h
 refine Zq ?_
 refine rg ?_
 refine rg ?_
 refine aC h (ZcF _ _) fun r1 h=>?_
 cases h
 exact rQ
def Za5 (p0:ByteArray) (p1:Int):Option ByteArray:=
 Zbq Zel (fun f7 (x18:ByteArray)=>
  letk (fun (x24:Bool)=>
   if x24 then
    (ZfP x18 1 (x18.size:Int)).bind fun l25=>
    f7 l25
   else
   (some x18:Option ByteArray)) fun k8=>
  if (decide (0<(x18.size:Int))) then
   (atS x18 0).bind fun c26=>
   k8 (decide (c26=p1))
  else
  k8 false) p0
theorem Zfp (p0:ByteArray) (p1:Int) (r:ByteArray) (h:Za5 p0 p1=some r):Zo Tryz.prog 84 [.str p0,.int .u8 p1] (.str r):=by
 refine cF (fun r=>.str r) h mix Tryz.func84 fun r h=>?_
 unfold Za5 at h
 refine Zq ?_
 refine rg ?_
 refine bl ?_
 refine ZW h fun f7 mf7 hf7 h=>?_
 refine ZH (α:=Nat×ByteArray) (fun a _=>mkS [(0,.str a.2),(1,.int .u8 p1)] [] 2) (fun a=>Zbq a.1 f7 a.2=some r) (fun a=>a.1) (mf7,p0) 2 h (sR []) (fun a _ h=>?_)
 obtain ⟨mf7,x18⟩:=a
 obtain ⟨mf7,rfl,h⟩:=ZX hf7 h
 dsimp only at h ⊢
 refine Zq ?_
 refine jL h (fun x24=>mkS [(0,.str x18),(1,.int .u8 p1),(13,.bool x24)] [] 2) (fun k8 h=>?_) fun x24 h=>?_
 ·refine rg ?_
  refine kS 8 h rfl (fun h=>?_) fun h=>?_
  ·refine aS h fun c26 h=>?_
   exact jn (decide (c26=p1)) h (sR [])
  iterate 4 refine ZN rfl (Zq ?_)
  exact jn false h (sR [])
 refine cS h rfl (fun h=>?_) fun h=>?_
 ·refine bl ?_
  refine rg ?_
  refine sS h fun l25 h=>?_
  exact rn (mf7,l25) h (sR [])
 refine rg ?_
 cases h
 exact rQ
def ZbN (p0:ByteArray) (p1:ByteArray):Option ByteArray:=
 letk (fun (x1:Bool)=>
  if x1 then
   (some p0:Option ByteArray)
  else
  letk (fun (x3:Bool)=>
   if x3 then
    (atS p1 0).bind fun c6=>
    (Za5 p0 c6).bind fun r7=>
    (some r7:Option ByteArray)
   else
   (none:Option ByteArray)) fun k2=>
  if (decide ((p1.size:Int)=1)) then
   (atS p1 0).bind fun c8=>
   k2 (decide (c8<128))
  else
  k2 false) fun k1=>
 if (decide (p0=(⟨#[]⟩:ByteArray))) then
  k1 true
 else
 k1 (decide (p1=(⟨#[]⟩:ByteArray)))
theorem Zg9 (p0:ByteArray) (p1:ByteArray) (r:ByteArray) (h:ZbN p0 p1=some r):Zo Tryz.prog 48 [.str p0,.str p1] (.str r):=by
 refine cF (fun r=>.str r) h mix Tryz.func48 fun r h=>?_
 unfold ZbN at h
 refine Zq ?_
 refine rg ?_
 refine jL h (fun x1=>mkS [(0,.str p0),(1,.str p1),(12,.bool x1)] [] 2) (fun k1 h=>?_) fun x1 h=>?_
 ·refine rg ?_
  refine kS 9 h rfl (fun h=>?_) fun h=>?_
  ·iterate 2 refine ZN rfl (Zq ?_)
   exact jn true h (sR [])
  exact jn (decide (p1=(⟨#[]⟩:ByteArray))) h (sR [])
 refine cS h rfl (fun h=>?_) fun h=>?_
 ·refine rg ?_
  cases h
  exact rQ
 refine jL h (fun x3=>mkS [(0,.str p0),(1,.str p1),(21,.bool x3)] [] 2) (fun k2 h=>?_) fun x3 h=>?_
 ·refine rg ?_
  refine kS 17 h rfl (fun h=>?_) fun h=>?_
  ·refine aS h fun c8 h=>?_
   exact jn (decide (c8<128)) h (sR [])
  iterate 3 refine ZN rfl (Zq ?_)
  exact jn false h (sR [])
 refine cS h rfl (fun h=>?_) fun h=>?_
 ·refine rg ?_
  refine aS h fun c6 h=>?_
  refine aC h (Zfp _ _) fun r7 h=>?_
  cases h
  exact rQ
 cases h
def ZaW (p0:ByteArray) (p1:Int):Option ByteArray:=
 Zbq Zel (fun f7 (x18:ByteArray)=>
  letk (fun (x24:Bool)=>
   if x24 then
    (ZfP x18 0 (w64 ((x18.size:Int) - 1))).bind fun l25=>
    f7 l25
   else
   (some x18:Option ByteArray)) fun k8=>
  if (decide (0<(x18.size:Int))) then
   (atS x18 (w64 ((x18.size:Int) - 1))).bind fun c26=>
   k8 (decide (c26=p1))
  else
  k8 false) p0
theorem Zfc (p0:ByteArray) (p1:Int) (r:ByteArray) (h:ZaW p0 p1=some r):Zo Tryz.prog 209 [.str p0,.int .u8 p1] (.str r):=by
 refine cF (fun r=>.str r) h mix Tryz.func209 fun r h=>?_
 unfold ZaW at h
 refine Zq ?_
 refine rg ?_
 refine bl ?_
 refine ZW h fun f7 mf7 hf7 h=>?_
 refine ZH (α:=Nat×ByteArray) (fun a _=>mkS [(0,.str a.2),(1,.int .u8 p1)] [] 2) (fun a=>Zbq a.1 f7 a.2=some r) (fun a=>a.1) (mf7,p0) 2 h (sR []) (fun a _ h=>?_)
 obtain ⟨mf7,x18⟩:=a
 obtain ⟨mf7,rfl,h⟩:=ZX hf7 h
 dsimp only at h ⊢
 refine Zq ?_
 refine jL h (fun x24=>mkS [(0,.str x18),(1,.int .u8 p1),(16,.bool x24)] [] 2) (fun k8 h=>?_) fun x24 h=>?_
 ·refine rg ?_
  refine kS 8 h rfl (fun h=>?_) fun h=>?_
  ·refine aS h fun c26 h=>?_
   exact jn (decide (c26=p1)) h (sR [])
  iterate 7 refine ZN rfl (Zq ?_)
  exact jn false h (sR [])
 refine cS h rfl (fun h=>?_) fun h=>?_
 ·refine bl ?_
  refine rg ?_
  refine sS h fun l25 h=>?_
  exact rn (mf7,l25) h (sR [])
 refine rg ?_
 cases h
 exact rQ
def ZbA (p0:ByteArray) (p1:ByteArray):Option ByteArray:=
 letk (fun (x1:Bool)=>
  if x1 then
   (some p0:Option ByteArray)
  else
  letk (fun (x3:Bool)=>
   if x3 then
    (atS p1 0).bind fun c6=>
    (ZaW p0 c6).bind fun r7=>
    (some r7:Option ByteArray)
   else
   (none:Option ByteArray)) fun k2=>
  if (decide ((p1.size:Int)=1)) then
   (atS p1 0).bind fun c8=>
   k2 (decide (c8<128))
  else
  k2 false) fun k1=>
 if (decide (p0=(⟨#[]⟩:ByteArray))) then
  k1 true
 else
 k1 (decide (p1=(⟨#[]⟩:ByteArray)))
theorem ZgC (p0:ByteArray) (p1:ByteArray) (r:ByteArray) (h:ZbA p0 p1=some r):Zo Tryz.prog 198 [.str p0,.str p1] (.str r):=by
 refine cF (fun r=>.str r) h mix Tryz.func198 fun r h=>?_
 unfold ZbA at h
 refine Zq ?_
 refine rg ?_
 refine jL h (fun x1=>mkS [(0,.str p0),(1,.str p1),(12,.bool x1)] [] 2) (fun k1 h=>?_) fun x1 h=>?_
 ·refine rg ?_
  refine kS 9 h rfl (fun h=>?_) fun h=>?_
  ·iterate 2 refine ZN rfl (Zq ?_)
   exact jn true h (sR [])
  exact jn (decide (p1=(⟨#[]⟩:ByteArray))) h (sR [])
 refine cS h rfl (fun h=>?_) fun h=>?_
 ·refine rg ?_
  cases h
  exact rQ
 refine jL h (fun x3=>mkS [(0,.str p0),(1,.str p1),(21,.bool x3)] [] 2) (fun k2 h=>?_) fun x3 h=>?_
 ·refine rg ?_
  refine kS 17 h rfl (fun h=>?_) fun h=>?_
  ·refine aS h fun c8 h=>?_
   exact jn (decide (c8<128)) h (sR [])
  iterate 3 refine ZN rfl (Zq ?_)
  exact jn false h (sR [])
 refine cS h rfl (fun h=>?_) fun h=>?_
 ·refine rg ?_
  refine aS h fun c6 h=>?_
  refine aC h (Zfc _ _) fun r7 h=>?_
  cases h
  exact rQ
 cases h
def ZcG (p0:ByteArray):Option ByteArray:=
 (strings_Split p0 (⟨#[47]⟩:ByteArray)).bind fun r1=>
 Zbq Zel (fun f13 ((x60,x61):Int×(List ByteArray))=>
  if (decide (x60<(r1.length:Int))) then
   letk (fun (x93:List ByteArray)=>
    f13 ((w64 (x60+1)),x93)) fun k15=>
   letk (fun (x97:List ByteArray)=>
    if (decide (x60<(w64 ((x97.length:Int) - 1)))) then
     (atI x97 x60).bind fun e98=>
     (ZbA e98 (⟨#[32]⟩:ByteArray)).bind fun r99=>
     (atI x97 x60).bind fun e100=>
     k15 (ZeX x97 x60 r99)
    else
    k15 x97) fun k16=>
   if (decide (0<x60)) then
    (atI x61 x60).bind fun e101=>
    (ZbN e101 (⟨#[32]⟩:ByteArray)).bind fun r102=>
    (atI x61 x60).bind fun e103=>
    k16 (ZeX x61 x60 r102)
   else
   k16 x61
  else
  (strings_Join x61 (⟨#[47]⟩:ByteArray)).bind fun r104=>
  (some r104:Option ByteArray)) (0,r1)
theorem Zjn (p0:ByteArray) (r:ByteArray) (h:ZcG p0=some r):Zo Tryz.prog 156 [.str p0] (.str r):=by
 refine cF (fun r=>.str r) h mix Tryz.func156 fun r h=>?_
 unfold ZcG at h
 refine Zq ?_
 refine rg ?_
 refine rg ?_
 refine aN h (Zi7 _ _) fun r1 h=>?_
 refine rg ?_
 refine lM csS r1 ?_
 refine bl ?_
 refine ZW h fun f13 mf13 hf13 h=>?_
 refine ZH (α:=Nat×(Int×(List ByteArray))) (fun a _=>mkS [(3,.row 6 (1,6)),(8,.int .i64 (r1.length:Int)),(9,.int .i64 a.2.1)] [(6,some ((1,6),.row 9 1 false (List.map csS a.2.2)))] 2) (fun a=>Zbq a.1 f13 a.2=some r) (fun a=>a.1) (mf13,0,r1) 2 h (sR [(6,2,1)]) (fun a _ h=>?_)
 obtain ⟨mf13,x60,x61⟩:=a
 obtain ⟨mf13,rfl,h⟩:=ZX hf13 h
 dsimp only at h ⊢
 refine Zq ?_
 refine rg ?_
 refine cS h rfl (fun h=>?_) fun h=>?_
 ·refine jL h (fun x93=>mkS [(3,.row 6 (1,6)),(8,.int .i64 (r1.length:Int)),(9,.int .i64 x60)] [(6,some ((1,6),.row 9 1 false (List.map csS x93)))] 2) (fun k15 h=>?_) fun x93 h=>?_
  ·refine bl ?_
   refine rg ?_
   refine rg ?_
   refine jL h (fun x97=>mkS [(3,.row 6 (1,6)),(4,.int .i64 x60),(8,.int .i64 (r1.length:Int)),(9,.int .i64 x60)] [(6,some ((1,6),.row 9 1 false (List.map csS x97)))] 2) (fun k16 h=>?_) fun x97 h=>?_
   ·refine cS h rfl (fun h=>?_) fun h=>?_
    ·refine rg ?_
     obtain ⟨e101,h83,h⟩:=bnd h
     refine ZY rfl h83 rfl rfl rfl (Zq ?_)
     refine ZaG rfl h83 rfl rfl rfl (Zq ?_)
     refine aC h (Zg9 _ _) fun r102 h=>?_
     obtain ⟨e103,h85,h⟩:=bnd h
     refine ZY rfl h85 rfl rfl rfl (Zq ?_)
     refine Zcg (e':=r102) rfl h85 rfl rfl rfl rfl rfl rfl (Nat.le_of_ble_eq_true rfl) rfl rfl (Zq ?_)
     exact jn (ZeX x61 x60 r102) h (sR [(6,1,6)])
    exact jn x61 h (sR [(6,1,6)])
   refine rg ?_
   refine lM csS x97 ?_
   refine cS h rfl (fun h=>?_) fun h=>?_
   ·refine rg ?_
    obtain ⟨e98,h80,h⟩:=bnd h
    refine ZY rfl h80 rfl rfl rfl (Zq ?_)
    refine ZaG rfl h80 rfl rfl rfl (Zq ?_)
    refine aC h (ZgC _ _) fun r99 h=>?_
    obtain ⟨e100,h82,h⟩:=bnd h
    refine ZY rfl h82 rfl rfl rfl (Zq ?_)
    refine Zcg (e':=r99) rfl h82 rfl rfl rfl rfl rfl rfl (Nat.le_of_ble_eq_true rfl) rfl rfl (Zq ?_)
    exact jn (ZeX x97 x60 r99) h (sR [(6,1,6)])
   exact jn x97 h (sR [(6,1,6)])
  refine rg ?_
  exact rn (mf13,(w64 (x60+1)),x93) h (sR [(6,1,6)])
 refine rg ?_
 refine aL h (ZjI _ _) fun r104 h=>?_
 cases h
 exact rQ
def Zef (p0:ByteArray):Option (Title×Int):=
 (Zbe p0 (⟨#[95]⟩:ByteArray) (⟨#[32]⟩:ByteArray)).bind fun r1=>
 (Zdi r1).bind fun r2=>
 (ZF r2 (⟨#[58]⟩:ByteArray)).bind fun r3=>
 letk (fun (x6:ByteArray)=>
  (Zeo x6).bind fun r7=>
  letk (fun (x9:ByteArray) (x10:Int)=>
   (ZcG x9).bind fun r11=>
   letk (fun (x14:Bool)=>
    letk (fun (x18:ByteArray)=>
     if (decide (100<(x18.size:Int))) then
      (some ((⟨0,(⟨#[]⟩:ByteArray)⟩:Title),3):Option (Title×Int))
     else
     (Zi6 (⟨x10,x18⟩:Title)).bind fun r19=>
     if (!r19) then
      (some ((⟨0,(⟨#[]⟩:ByteArray)⟩:Title),1):Option (Title×Int))
     else
     (some ((⟨x10,x18⟩:Title),0):Option (Title×Int))) fun k4=>
    if x14 then
     (atS r11 0).bind fun c20=>
     (ZfP r11 1 (r11.size:Int)).bind fun l21=>
     (Zbk (strOfNums [(IntKind.wrap .u8 (c20 - 32))]) l21).bind fun s22=>
     k4 s22
    else
    k4 r11) fun k3=>
   if (!decide (r11=(⟨#[]⟩:ByteArray))) then
    (atS r11 0).bind fun c23=>
    if (decide (97≤c23)) then
     (atS r11 0).bind fun c24=>
     k3 (decide (c24≤122))
    else
    k3 false
   else
   k3 false) fun k2=>
  if r7.2.2 then
   (Za0 r7.2.1 (⟨#[32]⟩:ByteArray)).bind fun r25=>
   k2 r25 r7.1
  else
  k2 x6 0) fun k1=>
 if r3 then
  (ZfP r2 1 (r2.size:Int)).bind fun l26=>
  (Za0 l26 (⟨#[32]⟩:ByteArray)).bind fun r27=>
  k1 r27
 else
 k1 r2
theorem Zld (p0:ByteArray) (r:Title×Int) (h:Zef p0=some r):Zo Tryz.prog 89 [.str p0] (.tup [r.1.pv,.int .i64 r.2]):=by
 refine cF (fun r=>.tup [r.1.pv,.int .i64 r.2]) h mix Tryz.func89 fun r h=>?_
 unfold Zef at h
 refine Zq ?_
 refine rg ?_
 refine rg ?_
 refine aC h (Zfr _ _ _) fun r1 h=>?_
 refine aC h (ZjN _) fun r2 h=>?_
 refine rg ?_
 refine aC h (Zao _ _) fun r3 h=>?_
 refine jL h (fun x6=>mkS [(0,.str x6),(2,.ptr 2 (1,2) 0)] [(2,some ((1,2),.box [.int .i64 0,.str (⟨#[]⟩:ByteArray)]))] 2) (fun k1 h=>?_) fun x6 h=>?_
 ·refine cS h rfl (fun h=>?_) fun h=>?_
  ·refine rg ?_
   refine sS h fun l26 h=>?_
   refine aC h (Zds _ _) fun r27 h=>?_
   exact jn r27 h (sR [(2,1,0)])
  exact jn r2 h (sR [(2,1,0)])
 refine rg ?_
 refine rg ?_
 refine aC h (ZjJ _) fun r7 h=>?_
 refine rg ?_
 refine Zcr h fun k2 hk2 h=>?_
 refine Zb3 (α:=ByteArray×Int) (fun a _=>mkS [(0,.str a.1),(2,.ptr 2 (1,2) 0),(4,.ptr 4 (1,4) 0)] [(2,some ((1,2),.box [.int .i64 0,.str (⟨#[]⟩:ByteArray)])),(4,some ((1,4),.box [.int .i64 a.2,.str (⟨#[]⟩:ByteArray)]))] 2) (fun a=>k2 a.1 a.2=some r) (Zq ?_) (fun a _ h=>?_)
 ·refine cS h rfl (fun h=>?_) fun h=>?_
  ·refine rg ?_
   refine aC h (Zds _ _) fun r25 h=>?_
   exact jn (r25,r7.1) h (sR [(2,1,2),(4,2,1)])
  exact jn (x6,0) h (sR [(2,1,2),(4,2,1)])
 obtain ⟨x9,x10⟩:=a
 subst hk2
 dsimp only at h ⊢
 refine Zq ?_
 refine rg ?_
 refine aC h (Zjn _) fun r11 h=>?_
 refine jL h (fun x14=>mkS [(0,.str r11),(2,.ptr 2 (1,2) 0),(4,.ptr 4 (1,4) 0),(41,.bool x14)] [(2,some ((1,2),.box [.int .i64 0,.str (⟨#[]⟩:ByteArray)])),(4,some ((1,4),.box [.int .i64 x10,.str (⟨#[]⟩:ByteArray)]))] 2) (fun k3 h=>?_) fun x14 h=>?_
 ·refine rg ?_
  refine kS 32 h rfl (fun h=>?_) fun h=>?_
  ·refine aS h fun c23 h=>?_
   refine kS 37 h rfl (fun h=>?_) fun h=>?_
   ·refine aS h fun c24 h=>?_
    exact jn (decide (c24≤122)) h (sR [(2,1,2),(4,1,4)])
   iterate 3 refine ZN rfl (Zq ?_)
   exact jn false h (sR [(2,1,2),(4,1,4)])
  iterate 6 refine ZN rfl (Zq ?_)
  exact jn false h (sR [(2,1,2),(4,1,4)])
 refine jL h (fun x18=>mkS [(0,.str x18),(2,.ptr 2 (1,2) 0),(4,.ptr 4 (1,4) 0)] [(2,some ((1,2),.box [.int .i64 0,.str (⟨#[]⟩:ByteArray)])),(4,some ((1,4),.box [.int .i64 x10,.str (⟨#[]⟩:ByteArray)]))] 2) (fun k4 h=>?_) fun x18 h=>?_
 ·refine cS h rfl (fun h=>?_) fun h=>?_
  ·refine rg ?_
   refine aS h fun c20 h=>?_
   refine bM csB ([(IntKind.wrap .u8 (c20 - 32))]:List Int) ?_
   refine Zny (l:=[(IntKind.wrap .u8 (c20 - 32))]) rfl rfl (Zq ?_)
   refine sS h fun l21 h=>?_
   refine sT h fun s22 h=>?_
   exact jn s22 h (sR [(2,1,2),(4,1,4)])
  exact jn r11 h (sR [(2,1,2),(4,1,4)])
 refine rg ?_
 refine rg ?_
 refine cS h rfl (fun h=>?_) fun h=>?_
 ·refine rg ?_
  cases h
  exact rQ
 refine rg ?_
 refine aC h (ZkT _) fun r19 h=>?_
 refine cS h rfl (fun h=>?_) fun h=>?_
 ·refine rg ?_
  cases h
  exact rQ
 refine rg ?_
 cases h
 exact rQ
structure Str3 where
 a:ByteArray
 b:ByteArray
 c:ByteArray
def Str3.cs (x:Str3):List PV:=[.str x.a,.str x.b,.str x.c]
def Str3.pv (x:Str3):PV:=.agg x.cs
end Go.Proofs.YtmgfammllddkhaaGreatDoor
