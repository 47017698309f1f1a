/- New names where function values lie in slots. No program is named. | Functions that turn an object with rows of its own. No program is named. | Functions that turn many objects which lead to each other. No program is named. | A function that turns many objects which lead to each other: run its body. No program is named. | Objects with rows of their own: the rule for a caller, and how a function of that kind is shown. No program is named. | The rules for rows whose cells lead to other objects, and for calls that turn many objects. No program is named. | A function that turns an object with rows of its own: run its body. No program is named. | Arrays and pointers that only look. No program is named. | A guard whose test is not known: both ways. No program is named. | Functions as Lean functions: the words in which they are written, and the rules that hold a body against them. No program is named. | More rules for functions as Lean functions: rows under another key, rows made public, tests on bools, bits. No program is named. | The plain side of functions as Lean functions: lemmas to reckon them. No program is named. | A variable of the package is read; and what it is that a function as a Lean function returns something. No program is named. | Function values as Lean functions; functions that hand back a new object; functions that turn an object with rows: held against Lean functions. No program is named. | New names where function values that came in lie in slots. No program is named. | A slice that is not empty is not nil. No program is named. | On as far as it goes by itself, but for arrays that are built. No program is named. | make([]T, 0, c): a new row of no elements. No program is named. | A call with function values that hands back a new object. No program is named. | Short forms of what fx prints. No program is named. | Functions that turn a row in place and have plain arguments behind it. No program is named. | Stores of whole elements behind another store; functions that turn a row, held against Lean functions. No program is named. | make([]T, n): a new row of n zeros, where a nil list counts as an empty one. No program is named. | What stands behind a place of a row of the call's own: it is looked at and cleared while the row is turned. No program is named. | Functions that turn the row that is their first argument and hand back a front of it. No program is named. | A run that stops at structs that are written out. No program is named. | A call that turns an object with rows, where one of the object's own rows is handed in too (and is open to others from then on). No program is named. | Steps that take a value out of a function's Lean form, in short. No program is named. | Rows looked at from a place on, cleared, cut short, at lists of any type. No program is named. -/
import Derived.Test.YtjblgpmagampbaaGreatDoorCP02
import Derived.Lib.SliceRun
import Derived.Laws.BytesArg
namespace Go.Proofs.YtjblgpmagampbaaGreatDoor
namespace VL
open Go.RowKit
def ZsD (σ:List (Gen×Gen)):PV→Option PV
 | .fn f ps=>(ZlF σ ps).map (.fn f)
 | p=>ren σ p
section
variable {σ:List (Gen×Gen)} {x:Ctx}
theorem ZqP {p q:PV} {v:Value} (h:ZsD σ p=some q) (hr:Rep x q v):Rep (ZhZ σ x) p v:=by
 cases p with
 | fn f ps=>
   simp only [ZsD,Option.map_eq_some_iff] at h
   obtain ⟨qs,h1,rfl⟩:=h
   obtain ⟨h2,h3⟩:=ZdR h1
   cases hr with
   | fn _ _ cs hl hh=>
     refine .fn f ps cs (h2.trans hl) fun i p v hp hv=>?_
     obtain ⟨q,hq,hpq⟩:=h3 i p hp
     exact ZgQ hpq (hh i q v hq hv)
 | _=>exact Zpj h hr
end
def Zsf (σ:List (Gen×Gen)) (tm:List (Nat×PV)):List (Nat×PV)→Prop
 | []=>True
 | (k,v)::r=>ZsD σ v=some (look tm k)∧Zsf σ tm r
theorem Zl (σ:List (Gen×Gen)) {tm tm':List (Nat×PV)} {ob ob':List (Nat×Option (Gen×VObj))} {ng ng':Nat} (h1:Zsf σ tm tm') (h2:Zmw σ ob ob') (h3:(decide (0<ng')&&σ.all fun q=>decide (q.1.1<ng'))=true):Shift (mkS tm ob ng) (mkS tm' ob' ng'):=fun r a x h=>by
 simp only [Bool.and_eq_true,decide_eq_true_eq,List.all_eq_true] at h3
 have k1:∀ (l:List (Nat×PV)),Zsf σ tm l→∀ t,look l t = .un∨ZsD σ (look l t)=some (look tm t):=fun l=>by
  induction l with
  | nil=>intro _ t;exact .inl rfl
  | cons q l ih=>
    obtain ⟨k,v⟩:=q
    intro hl t
    show (if t=k then v else look l t)=_∨ZsD σ (if t=k then v else look l t)=_
    split
    ·rename_i e;subst e;exact .inr hl.1
    ·exact ih hl.2 t
 have k2:∀ (l:List (Nat×Option (Gen×VObj))),Zmw σ ob l→∀ t,Zg l t=none∨(ZkV σ (Zg l t)=Zg ob t∧(ZkV σ (Zg l t)).isSome=true):=fun l=>by
  induction l with
  | nil=>intro _ t;exact .inl rfl
  | cons q l ih=>
    obtain ⟨k,v⟩:=q
    intro hl t
    show (if t=k then v else Zg l t)=_∨(ZkV σ (if t=k then v else Zg l t)=_∧(ZkV σ (if t=k then v else Zg l t)).isSome=true)
    split
    ·rename_i e;subst e;exact .inr hl.1
    ·exact ih hl.2 t
 have k3:∀ t g' o',Zg ob' t=some (g',o')→∃ g o,Zg ob t=some (g,o)∧ZkV σ (some (g',o'))=some (g,o):=fun t g' o' ho=>by
  rcases k2 ob' h2 t with e | ⟨e1,e2⟩
  ·rw [e] at ho;cases ho
  ·rw [ho] at e1 e2
   obtain ⟨⟨g,o⟩,hw⟩:=Option.isSome_iff_exists.1 e2
   exact ⟨g,o,by rw [← e1,hw],hw⟩
 refine ⟨ZhZ σ x,rfl,h.defers,h.size,h.gr,fun g' hg'=>.inl ?_,fun t=>?_,fun t g' o' ho=>?_,fun t t' g g' o o' b hne e1 e2 hb=>?_,h.flt,h.f0,h.fnew,fun g hg=>?_,h.inv,h.keep⟩
 ·obtain ⟨g,hg,_⟩:=hg'
  unfold toG at hg
  show g'.1<ng'
  split at hg
  ·rename_i e;omega
  ·simp only [Option.map_eq_some_iff] at hg
   obtain ⟨q,hq,_⟩:=hg
   have hm:=List.mem_of_find?_eq_some hq
   have he:=List.find?_some hq
   simp only [beq_iff_eq] at he
   rw [← he]
   exact h3.2 q hm
 ·rcases k1 tm' h1 t with e | e
  ·show Rep _ (look tm' t) _
   rw [e];exact .un _
  ·exact ZqP e (h.tm t)
 ·obtain ⟨g,o,e1,e2⟩:=k3 t g' o' ho
  exact (ZfL e2 (h.ob t g o e1)).2
 ·obtain ⟨g1,o1,q1,q2⟩:=k3 t g o e1
  obtain ⟨g2,o2,q3,q4⟩:=k3 t' g' o' e2
  have r1:=(ZfL q2 (h.ob t g1 o1 q1)).1
  have r2:=(ZfL q4 (h.ob t' g2 o2 q3)).1
  simp only [ZhZ,r1,Option.getD_some] at hb
  simp only [ZhZ,r2,Option.getD_some]
  exact h.apart t t' g1 g2 o1 o2 b hne q1 q3 hb
 ·have h0:=h.inv.2 g hg
  have:toG σ g=some g:=by unfold toG;rw [if_pos h0]
  exact ⟨⟨g,this,(h.rho g hg).1⟩,by simp only [ZhZ,this,Option.getD_some];exact (h.rho g hg).2⟩
end VL
end Go.Proofs.YtjblgpmagampbaaGreatDoor
namespace Go.Proofs.YtjblgpmagampbaaGreatDoor
namespace VL
open Go.RowKit
inductive OC where
 | pv (p:PV)
 | row (E k:Nat) (sh:Bool) (els:List (List PV))
def PV.flat:PV→Bool
 | .bool _ | .int _ _ | .str _ | .sl _ | .nil=>true
 | _=>false
def OC.val (t:Nat) (g:Gen):OC→PV
 | .pv p=>p
 | .row _ _ _ _=>.row t g
def ZaX (κ:Nat→Nat) (ν:Nat→Gen):Nat→List OC→List PV
 | _,[]=>[]
 | c,q::r=>q.val (κ c) (ν c)::ZaX κ ν (c+1) r
def ZdO (κ:Nat→Nat) (ν:Nat→Gen):Nat→List OC→List (Nat×Option (Gen×VObj))
 | _,[]=>[]
 | c,.pv _::r=>ZdO κ ν (c+1) r
 | c,.row E k sh els::r=>(κ c,some (ν c,.row E k sh els))::ZdO κ ν (c+1) r
def ZhI (κ:Nat→Nat):Nat→List OC→List (Nat×Option (Gen×VObj))
 | _,[]=>[]
 | c,.pv _::r=>ZhI κ (c+1) r
 | c,.row _ _ _ _::r=>(κ c,none)::ZhI κ (c+1) r
theorem Zbt (κ:Nat→Nat) (ν:Nat→Gen):∀ (l:List OC) (c0 c:Nat),(ZaX κ ν c0 l)[c]? = (l[c]?).map fun q=>q.val (κ (c0+c)) (ν (c0+c))
 | [],c0,c=>by simp [ZaX]
 | q::r,c0,0=>by simp [ZaX]
 | q::r,c0,c+1=>by
   simp only [ZaX,List.getElem?_cons_succ]
   rw [Zbt κ ν r (c0+1) c]
   have:c0+1+c=c0+(c+1):=by omega
   rw [this]
theorem Zgf (κ:Nat→Nat) (ν:Nat→Gen):∀ (l:List OC) (c0:Nat),(ZaX κ ν c0 l).length=l.length
 | [],_=>rfl
 | q::r,c0=>by simp [ZaX,Zgf κ ν r]
theorem Zhh {κ:Nat→Nat} {ν:Nat→Gen} {t:Nat} {v:Option (Gen×VObj)}:∀ (l:List OC) (c0:Nat),(t,v) ∈ ZdO κ ν c0 l→∃ c E k sh els,l[c]? = some (.row E k sh els)∧t=κ (c0+c)∧v=some (ν (c0+c),.row E k sh els)
 | [],_,h=>by cases h
 | .pv p::r,c0,h=>by
   obtain ⟨c,E,k,sh,els,h1,h2,h3⟩:=Zhh r (c0+1) h
   have:c0+1+c=c0+(c+1):=by omega
   rw [this] at h2 h3
   exact ⟨c+1,E,k,sh,els,by simpa using h1,h2,h3⟩
 | .row E k sh els::r,c0,h=>by
   rcases List.mem_cons.1 h with h | h
   ·injection h with h1 h2
    exact ⟨0,E,k,sh,els,rfl,h1,h2⟩
   ·obtain ⟨c,E,k,sh,els,h1,h2,h3⟩:=Zhh r (c0+1) h
    have:c0+1+c=c0+(c+1):=by omega
    rw [this] at h2 h3
    exact ⟨c+1,E,k,sh,els,by simpa using h1,h2,h3⟩
theorem Zhi {κ:Nat→Nat} {t:Nat} {v:Option (Gen×VObj)}:∀ (l:List OC) (c0:Nat),(t,v) ∈ ZhI κ c0 l→v=none
 | [],_,h=>by cases h
 | .pv p::r,c0,h=>Zhi r (c0+1) h
 | .row E k sh els::r,c0,h=>by
   rcases List.mem_cons.1 h with h | h
   ·injection h with h1 h2
   ·exact Zhi r (c0+1) h
theorem ZjZ {κ:Nat→Nat}:∀ (l:List OC) (c0 c:Nat) {E k:Nat} {sh:Bool} {els:List (List PV)},l[c]? = some (.row E k sh els)→(κ (c0+c),none) ∈ ZhI κ c0 l
 | [],_,c,_,_,_,_,h=>by simp at h
 | q::r,c0,0,E,k,sh,els,h=>by
   simp at h
   subst h
   exact List.mem_cons_self ..
 | q::r,c0,c+1,E,k,sh,els,h=>by
   have h':r[c]? = some (.row E k sh els):=by simpa using h
   have:=ZjZ (κ:=κ) r (c0+1) c h'
   have e:c0+1+c=c0+(c+1):=by omega
   rw [e] at this
   cases q with
   | pv p=>exact this
   | row _ _ _ _=>exact List.mem_cons_of_mem _ this
theorem ZkB:∀ (us:List (Nat×Option (Gen×VObj))) (f:Nat→Option (Gen×VObj)) (t:Nat),((flips f us) t=f t∧∀ v,(t,v) ∉ us)∨∃ v,(t,v) ∈ us∧(flips f us) t=v
 | [],f,t=>.inl ⟨rfl,fun v h=>by cases h⟩
 | (k,w)::us,f,t=>by
  rcases ZkB us (Zba f k w) t with ⟨h1,h2⟩ | ⟨v,h1,h2⟩
  ·by_cases e:t=k
   ·refine .inr ⟨w,by rw [e];exact List.mem_cons_self ..,?_⟩
    show (flips (Zba f k w) us) t=w
    rw [h1]
    unfold Zba
    rw [if_pos e]
   ·refine .inl ⟨?_,fun v hv=>?_⟩
    ·show (flips (Zba f k w) us) t=f t
     rw [h1]
     unfold Zba
     rw [if_neg e]
    ·rcases List.mem_cons.1 hv with h | h
     ·injection h with h _
      exact e h
     ·exact h2 v h
  ·exact .inr ⟨v,List.mem_cons_of_mem _ h1,h2⟩
theorem Rep.flat_mono {x y:Ctx} {p:PV} {v:Value} (h:Rep x p v) (hp:p.flat=true) (hF:∀ b o,x.F b o→y.F b o) (hW:∀ b o v,x.F b o→x.W.cell? ⟨b,o,none⟩=some v→y.W.cell? ⟨b,o,none⟩=some v):Rep y p v:=by
 cases p with
 | nil=>cases h;exact .nil
 | bool b=>exact h.pure_mono rfl hF hW
 | int k n=>exact h.pure_mono rfl hF hW
 | str s=>exact h.pure_mono rfl hF hW
 | sl els=>exact h.pure_mono rfl hF hW
 | _=>simp [PV.flat] at hp
theorem PV.cell_of_flat {p:PV} (h:p.flat=true):p.cell=true:=by cases p<;>simp_all [PV.flat,PV.cell]
structure ORep (x:Ctx) (B:Nat) (D:Nat→Prop) (g:Gen) (κ:Nat→Nat) (ν:Nat→Gen) (oc:List OC):Prop where
 box:x.G g∧ObRep x B D g (.box (ZaX κ ν 0 oc))
 row:∀ c E k sh els,oc[c]? = some (OC.row E k sh els)→x.G (ν c)∧ObRep x B D (ν c) (.row E k sh els)
 apB:∀ c E k sh els b,oc[c]? = some (OC.row E k sh els)→blk (x.ρ g)=some b→blk (x.ρ (ν c))≠some b
 apR:∀ c c' E k sh els E' k' sh' els' b,c≠c'→oc[c]? = some (OC.row E k sh els)→oc[c']? = some (OC.row E' k' sh' els')→blk (x.ρ (ν c))=some b→blk (x.ρ (ν c'))≠some b
 flat:∀ (c:Nat) (p:PV),oc[c]? = some (OC.pv p)→p.flat=true
def Dp (x:Ctx) (g:Gen) (ν:Nat→Gen) (oc:List OC) (b:Nat):Prop:=blk (x.ρ g)=some b∨∃ c E k sh els,oc[c]? = some (OC.row E k sh els)∧blk (x.ρ (ν c))=some b
def κ0 (c:Nat):Nat:=1000+c
def ν0 (c:Nat):Gen:=(0,1000+c)
structure PreP (x:Ctx) (args:List PV) (j:Nat) (oc:List OC) (vs:Array Value):Prop where
 size:args.length=vs.size
 rep:∀ (i:Nat) (p:PV) (v:Value),args[i]? = some p→vs[i]? = some v→Rep x p v
 ob:ORep x x.W.heap.size (Dp x (0,j) ν0 oc) (0,j) κ0 ν0 oc
 gen:∀ g,x.G g→g.1=0
 flt:∀ b o,x.F b o→b<x.W.heap.size
structure PostP (x y:Ctx) (j:Nat) (oc:List OC) (r:PV) (oc':List OC) (v:Value):Prop where
 step:Step x y
 gr:Gr (Dp x (0,j) ν0 oc) x.W y.W
 fnew:∀ b o,y.F b o→x.F b o∨x.W.heap.size≤b∨Dp x (0,j) ν0 oc b
 flt:∀ b o,y.F b o→b<y.W.heap.size
 rep:Rep y r v
 ob:∃ κ ν,ORep y x.W.heap.size (Dp x (0,j) ν0 oc) (0,j) κ ν oc'
structure ContractP (P:Program) [WInv P] (f:FuncId) (args:List PV) (j:Nat) (oc:List OC) (r:PV) (oc':List OC):Prop where
 isGo:VL.isGo P f=true
 dry:r.dry=true
 calls:∀ (x:Ctx) (vs:Array Value),PreP x args j oc vs→(∀ W',Gr (Dp x (0,j) ν0 oc) x.W W'→WInv.I P W')→Calls P f vs x.W fun e W'=>∃ y v,y.W=W'∧e = .returned v∧PostP x y j oc r oc' v
theorem Zrr {y:Ctx} {s:FS} {a:Act} {N:Nat} (hs:a.tmps.size=N) {d:Option Tmp} (hd:∀ k,d=some k→k<N) {p:PV} {v:Value} {us:List (Nat×Option (Gen×VObj))} (hp:Rep y p v) (ho:∀ t,Rep y (s.tm t) (a.tmps.getD t undef)) (t':Nat):Rep y ((s.app d ⟨p,us⟩).tm t') ((a.put d v).tmps.getD t' undef):=by
 rw [Zih hs hd]
 cases d with
 | none=>exact ho t'
 | some q=>
   show Rep y (if t'=q then p else s.tm t') (if t'=q then v else a.tmps.getD t' undef)
   split
   ·exact hp
   ·exact ho t'
section
variable {P:Program} [WInv P] {r:Run} {ops:Array Oper} {o:Oper} {i:Nat} {s s':FS}
theorem ZqC {f:FuncId} {es:Array Operand} {ts:Array TypeId} {pre post pre' post':List PV} {t:Nat} {g:Gen} {κ:Nat→Nat} {ν:Nat→Gen} {oc oc':List OC} {res:PV} (ho:o.op = .call { callee:=.value (.func f),args:=es,argTypes:=ts })
  (he:es.toList.map (ev s)=pre ++ .ptr t g 0::post) (hob:s.ob t=some (g,.box (ZaX κ ν 0 oc))) (hrow:∀ c E k sh els,oc[c]? = some (OC.row E k sh els)→s.ob (κ c)=some (ν c,.row E k sh els)) (hfl:∀ (c:Nat) (p:PV),oc[c]? = some (OC.pv p)→p.flat=true)
  (hk1:∀ c E k sh els,oc[c]? = some (OC.row E k sh els)→κ c≠t) (hk2:∀ c c' E k sh els E' k' sh' els',c≠c'→oc[c]? = some (OC.row E k sh els)→oc[c']? = some (OC.row E' k' sh' els')→κ c≠κ c')
  (h1:ZeW s.ob pre=some (pre',[])) (h3:ZeW s.ob post=some (post',[])) (hn:pre.length<1000) (hc:ContractP P f (pre' ++ .ptr pre.length (0,pre.length) 0::post') pre.length oc res oc') (hI:r.I=WInv.I P) :
  Zot P r o i s ⟨res,ZhI κ 0 oc++(t,some (g,.box (ZaX (fun c=>1000+100 * t+c) (fun c=>(s.ng,i+1000000 * (c+1))) 0 oc')))::ZdO (fun c=>1000+100 * t+c) (fun c=>(s.ng,i+1000000 * (c+1))) 0 oc'⟩:=by
 intro S a x Q hX hiM hi hi2 hd
 have hrep:∀ (j:Nat) (p:PV),(pre ++ .ptr t g 0::post)[j]? = some p→Rep x p ((es.map a.eval).getD j undef):=fun j p hp=>by
  rw [← he,List.getElem?_map] at hp
  cases he:es.toList[j]? with
  | none=>rw [he] at hp;simp at hp
  | some e=>
    rw [he] at hp
    simp only [Option.map_some,Option.some.injEq] at hp
    subst hp
    have hea:es[j]? = some e:=by simpa using he
    have:(es.map a.eval).getD j undef=a.eval e:=by simp [hea]
    rw [this]
    exact ZE hX e
 obtain ⟨F1,st1,hX1,hR1,_⟩:=Zcb _ (Flip.refl s.ob) hX (g:=fun j=>(es.map a.eval).getD j undef) h1 (fun j p hp=>hrep j p (by
  rw [List.getElem?_append_left (List.getElem?_eq_some_iff.1 hp).1];exact hp))
 change RstX r S s a { x with F:=F1 } at hX1
 obtain ⟨F3,st3,hX3,hR3,_⟩:=Zcb post (Flip.refl s.ob) hX1 (g:=fun j=>(es.map a.eval).getD (pre.length+1+j) undef) h3 (fun j p hp=>((hrep (pre.length+1+j) p (by
  rw [List.getElem?_append_right (by omega)]
  have:pre.length+1+j - pre.length=j+1:=by omega
  rw [this,List.getElem?_cons_succ]
  exact hp)).step st1))
 change RstX r S s a { x with F:=F3 } at hX3
 obtain ⟨hGg,b,T,vs,hρ,hh,hcl,hcc,hcr,hBb,hnF⟩:=hX3.ob t g _ hob
 have hblt:b<x.W.heap.size:=(Array.getElem?_eq_some_iff.1 hh).1
 change x.ρ g=_ at hρ
 have hF13:∀ b o,F1 b o→F3 b o:=fun b o h=>st3.F b o h
 have hpl:pre'.length=pre.length:=Zd5 _ h1
 let z:Ctx:=⟨fun g'=>g'=(0,pre.length)∨∃ c E k sh els,oc[c]? = some (OC.row E k sh els)∧g'=(0,1000+c),F3,x.W,fun g'=>if g'=(0,pre.length) then x.ρ g else x.ρ (ν (g'.2 - 1000))⟩
 have zn:z.ρ (0,pre.length)=x.ρ g:=if_pos rfl
 have zr:∀ c,z.ρ (ν0 c)=x.ρ (ν c):=fun c=>by
  show (if ((0,1000+c):Gen)=(0,pre.length) then x.ρ g else x.ρ (ν (1000+c - 1000)))=_
  rw [if_neg (fun e=>by injection e with _ e;omega)]
  have:1000+c - 1000=c:=by omega
  rw [this]
 have hD:∀ b2,Dp z (0,pre.length) ν0 oc b2↔(blk (x.ρ g)=some b2∨∃ c E k sh els,oc[c]? = some (OC.row E k sh els)∧blk (x.ρ (ν c))=some b2):=fun b2=>by
  unfold Dp
  rw [zn]
  constructor
  ·rintro (h | ⟨c,E,k,sh,els,h,h'⟩)
   ·exact .inl h
   ·rw [zr] at h'
    exact .inr ⟨c,E,k,sh,els,h,h'⟩
  ·rintro (h | ⟨c,E,k,sh,els,h,h'⟩)
   ·exact .inl h
   ·exact .inr ⟨c,E,k,sh,els,h,by rw [zr];exact h'⟩
 have rowR:∀ c E k sh els,oc[c]? = some (OC.row E k sh els)→x.G (ν c)∧ObRep { x with F:=F3 } r.W0.heap.size r.D (ν c) (.row E k sh els):=fun c E k sh els h=>hX3.ob (κ c) (ν c) _ (hrow c E k sh els h)
 have hDlt:∀ b2,Dp z (0,pre.length) ν0 oc b2→b2<x.W.heap.size∧(r.W0.heap.size≤b2∨r.D b2):=fun b2 h=>by
  rcases (hD b2).1 h with h | ⟨c,E,k,sh,els,h,h'⟩
  ·exact (hX3.ob t g _ hob).2.lt b2 h
  ·exact (rowR c E k sh els h).2.lt b2 h'
 have hpre:PreP z (pre' ++ .ptr pre.length (0,pre.length) 0::post') pre.length oc (es.map a.eval):=by
  refine ⟨?_,fun j p v hp hv=>?_,⟨⟨.inl rfl,b,T,vs,zn.trans hρ,hh,?_,fun p hp=>?_,fun j p v hp hv=>?_,.inr ((hD b).2 (.inl (by rw [hρ];rfl))),hnF⟩,fun c E k sh els h=>?_,fun c E k sh els b2 h hb hb2=>?_,fun c c' E k sh els E' k' sh' els' b2 hne h h' hb hb2=>?_,hfl⟩,fun g' hg'=>?_,hX3.flt⟩
  ·have hl:=congrArg List.length he
   simp at hl
   simp [hpl,Zd5 _ h3,hl]
  ·rw [List.getElem?_append,hpl] at hp
   split at hp
   ·obtain ⟨q1,q2⟩:=hR1 j p hp
    rw [Array.getD_eq_getD_getElem?,hv] at q2
    exact q2.clean_mono q1 hF13 (fun _ _ _ _ h=>h)
   ·rename_i hj
    cases hk:j - pre.length with
    | zero=>
      rw [hk] at hp
      simp only [List.getElem?_cons_zero,Option.some.injEq] at hp
      subst hp
      obtain rfl:j=pre.length:=by omega
      have:=hrep pre.length (.ptr t g 0) (by rw [List.getElem?_append_right (Nat.le_refl _),Nat.sub_self];rfl)
      rw [Array.getD_eq_getD_getElem?,hv] at this
      simp only [Option.getD_some] at this
      cases this with
      | ptr _ _ _ b2 _ hb2=>exact .ptr _ _ _ b2 (.inl rfl) (by rw [zn];exact hb2)
    | succ k=>
      rw [hk,List.getElem?_cons_succ] at hp
      obtain ⟨q1,q2⟩:=hR3 k p hp
      have:pre.length+1+k=j:=by omega
      rw [this,Array.getD_eq_getD_getElem?,hv] at q2
      exact q2.clean_mono q1 (fun _ _ h=>h) (fun _ _ _ _ h=>h)
  ·rw [Zgf] at hcl ⊢
   exact hcl
  ·obtain ⟨j,hj⟩:=List.getElem?_of_mem hp
   rw [Zbt,Option.map_eq_some_iff] at hj
   obtain ⟨q,hq,rfl⟩:=hj
   cases q with
   | pv p=>exact PV.cell_of_flat (hfl j p hq)
   | row _ _ _ _=>rfl
  ·rw [Zbt,Option.map_eq_some_iff] at hp
   obtain ⟨q,hq,rfl⟩:=hp
   have:=hcr j (q.val (κ (0+j)) (ν (0+j))) v (by rw [Zbt,hq];rfl) hv
   rw [Nat.zero_add] at this ⊢
   cases q with
   | pv p=>exact Rep.flat_mono this (hfl j p hq) (fun _ _ h=>h) (fun _ _ _ _ h=>h)
   | row E k sh els=>
     cases this with
     | row _ _ A n c hG hvv=>exact .row _ _ A n c (.inr ⟨j,E,k,sh,els,hq,rfl⟩) ((zr j).trans hvv)
  ·obtain ⟨_,q1,q2,vs2,q3,q4,q5⟩:=rowR c E k sh els h
   refine ⟨.inr ⟨c,E,k,sh,els,h,rfl⟩,q1,q2,vs2,by rw [zr];exact q3,fun m p v hp hv=>?_,fun b2 hb2=>?_⟩
   ·obtain ⟨e,he,hpe⟩:=List.mem_flatten.1 (List.mem_of_getElem? hp)
    exact (q4 m p v hp hv).pure_mono (q2 e he p hpe) (fun _ _ h=>h) (fun _ _ _ _ h=>h)
   ·rw [zr] at hb2
    exact ⟨.inr ((hD b2).2 (.inr ⟨c,E,k,sh,els,h,hb2⟩)),(q5 b2 hb2).2⟩
  ·rw [zn] at hb
   rw [zr] at hb2
   exact hX3.apart t (κ c) g (ν c) _ _ b2 (fun e=>hk1 c E k sh els h e.symm) hob (hrow c E k sh els h) hb hb2
  ·rw [zr] at hb hb2
   exact hX3.apart (κ c) (κ c') (ν c) (ν c') _ _ b2 (hk2 c c' E k sh els E' k' sh' els' hne h h') (hrow c E k sh els h) (hrow c' E' k' sh' els' h') hb hb2
  ·rcases hg' with rfl | ⟨c,E,k,sh,els,_,rfl⟩<;>rfl
 have hcalls:=hc.calls z _ hpre fun W' hW=>by
  rw [← hI]
  exact hX.inv.1 W' (hX.gr.trans' hW.os hW.tape hW.output hW.size fun b' hb' hD'=>hW.block b' (Nat.lt_of_lt_of_le hb' hX.gr.size) fun hDb=>by
   rcases (hDlt b' hDb).2 with h | h
   ·omega
   ·exact hD' h)
 unfold Oper.wp
 rw [Zc0 ho hc.isGo,Oper.upon_enter]
 refine hcalls.mono ?_
 rintro e W' ⟨y,v,rfl,rfl,hpost⟩
 obtain ⟨κ2,ν2,hO⟩:=hpost.ob
 let nm:Nat→Gen:=fun c=>(s.ng,i+1000000 * (c+1))
 let y':Ctx:=⟨fun g'=>x.G g'∨∃ c E k sh els,oc'[c]? = some (OC.row E k sh els)∧g'=nm c,y.F,y.W,fun g'=>if g'.1=s.ng∧g'.2 % 1000000=i∧1000000≤g'.2 then y.ρ (ν2 (g'.2 / 1000000 - 1)) else x.ρ g'⟩
 have yn:∀ c,y'.ρ (nm c)=y.ρ (ν2 c):=fun c=>by
  show (if s.ng=s.ng∧(i+1000000 * (c+1)) % 1000000=i∧1000000≤i+1000000 * (c+1) then y.ρ (ν2 ((i+1000000 * (c+1)) / 1000000 - 1)) else _)=_
  rw [if_pos ⟨rfl,by omega,by omega⟩]
  have:(i+1000000 * (c+1)) / 1000000 - 1=c:=by omega
  rw [this]
 have old:∀ g',x.G g'→y'.ρ g'=x.ρ g':=fun g' hg'=>if_neg fun ⟨e1,e2,e3⟩=>by
  rcases hX.gens g' hg' with e | ⟨_,e⟩
  ·omega
  ·refine hi (hi2 (g'.2 / 1000000 - 1) ?_)
   have:i+1000000 * (g'.2 / 1000000 - 1+1)=g'.2:=by omega
   rw [this]
   exact e
 have k:Step { x with F:=F3 } y':=⟨fun g' hg'=>⟨.inl hg',old g' hg'⟩,fun b o hb=>hpost.step.F b o hb,fun b o v hb hv=>hpost.step.W b o v hb hv⟩
 have notD:∀ t2 g2 o2 b2,t2≠t→(∀ c E k sh els,oc[c]? = some (OC.row E k sh els)→κ c≠t2)→s.ob t2=some (g2,o2)→blk (x.ρ g2)=some b2→¬ Dp z (0,pre.length) ν0 oc b2:=fun t2 g2 o2 b2 n1 n2 h hb hDb=>by
  rcases (hD b2).1 hDb with h' | ⟨c,E,k,sh,els,h',h''⟩
  ·exact hX3.apart t2 t g2 g o2 _ b2 n1 h hob hb h'
  ·exact hX3.apart t2 (κ c) g2 (ν c) o2 _ b2 (fun e=>n2 c E k sh els h' e.symm) h (hrow c E k sh els h') hb h''
 have conv:∀ b2,(x.W.heap.size≤b2∨Dp z (0,pre.length) ν0 oc b2)→(r.W0.heap.size≤b2∨r.D b2):=fun b2 h=>h.elim (fun h=>.inl (Nat.le_trans hX.gr.size h)) fun h=>(hDlt b2 h).2
 have oldOb:∀ t2 g2 o2,t2≠t→(∀ c E k sh els,oc[c]? = some (OC.row E k sh els)→κ c≠t2)→s.ob t2=some (g2,o2)→ObRep y' r.W0.heap.size r.D g2 o2:=fun t2 g2 o2 n1 n2 h=>by
  obtain ⟨q1,q2⟩:=hX3.ob t2 g2 o2 h
  refine q2.step q1 k fun b2 hb2=>?_
  have hlt:=(q2.lt b2 hb2).1
  have hnd:=notD t2 g2 o2 b2 n1 n2 h hb2
  refine ⟨hpost.gr.block b2 hlt hnd,fun o3 ho3=>?_⟩
  rcases hpost.fnew b2 o3 ho3 with h | h | h
  ·exact h
  ·exact absurd hlt (Nat.not_lt.2 h)
  ·exact absurd h hnd
 have newRow:∀ c E k sh els,oc'[c]? = some (OC.row E k sh els)→ObRep y' r.W0.heap.size r.D (nm c) (.row E k sh els):=fun c E k sh els h=>by
  obtain ⟨_,q1,q2,vs2,q3,q4,q5⟩:=hO.row c E k sh els h
  refine ⟨q1,q2,vs2,by rw [yn];exact q3,fun m p v hp hv=>?_,fun b2 hb2=>?_⟩
  ·obtain ⟨e,he,hpe⟩:=List.mem_flatten.1 (List.mem_of_getElem? hp)
   exact (q4 m p v hp hv).pure_mono (q2 e he p hpe) (fun _ _ h=>h) (fun _ _ _ _ h=>h)
  ·rw [yn] at hb2
   exact ⟨conv b2 (q5 b2 hb2).1,(q5 b2 hb2).2⟩
 have hρy:y.ρ (0,pre.length)=x.ρ g:=((hpost.step.G (0,pre.length) (.inl rfl)).2).trans zn
 have newBox:ObRep y' r.W0.heap.size r.D g (.box (ZaX (fun c=>1000+100 * t+c) nm 0 oc')):=by
  obtain ⟨_,b2,T2,vs2,q1,q2,q3,q4,q5,q6,q7⟩:=hO.box
  have hb2:b=b2:=by
   rw [hρy,hρ] at q1
   injection q1 with q1
   injection q1 with q1
   injection q1
  subst hb2
  refine ⟨b,T2,vs2,(old g hGg).trans hρ,q2,?_,fun p hp=>?_,fun j p v hp hv=>?_,hBb,q7⟩
  ·rw [Zgf] at q3 ⊢
   exact q3
  ·obtain ⟨j,hj⟩:=List.getElem?_of_mem hp
   rw [Zbt,Option.map_eq_some_iff] at hj
   obtain ⟨q,hq,rfl⟩:=hj
   cases q with
   | pv p=>exact PV.cell_of_flat (hO.flat j p hq)
   | row _ _ _ _=>rfl
  ·rw [Zbt,Option.map_eq_some_iff] at hp
   obtain ⟨q,hq,rfl⟩:=hp
   have:=q5 j (q.val (κ2 (0+j)) (ν2 (0+j))) v (by rw [Zbt,hq];rfl) hv
   rw [Nat.zero_add] at this ⊢
   cases q with
   | pv p=>exact Rep.flat_mono this (hO.flat j p hq) (fun _ _ h=>h) (fun _ _ _ _ h=>h)
   | row E k sh els=>
     cases this with
     | row _ _ A n c hG hvv=>exact .row _ _ A n c (.inr ⟨j,E,k,sh,els,hq,rfl⟩) ((yn j).trans hvv)
 have cases3:∀ t2 g2 o2,(flips s.ob (ZhI κ 0 oc++(t,some (g,.box (ZaX (fun c=>1000+100 * t+c) nm 0 oc')))::ZdO (fun c=>1000+100 * t+c) nm 0 oc')) t2=some (g2,o2)→
   (t2≠t∧(∀ c E k sh els,oc[c]? = some (OC.row E k sh els)→κ c≠t2)∧s.ob t2=some (g2,o2))∨(t2=t∧g2=g∧o2 = .box (ZaX (fun c=>1000+100 * t+c) nm 0 oc'))∨∃ c E k sh els,oc'[c]? = some (OC.row E k sh els)∧t2=1000+100 * t+c∧g2=nm c∧o2 = .row E k sh els:=fun t2 g2 o2 h=>by
  rcases ZkB (ZhI κ 0 oc++(t,some (g,.box (ZaX (fun c=>1000+100 * t+c) nm 0 oc')))::ZdO (fun c=>1000+100 * t+c) nm 0 oc') s.ob t2 with ⟨q1,q2⟩ | ⟨w,q1,q2⟩
  ·rw [q1] at h
   refine .inl ⟨fun e=>q2 (some (g,.box (ZaX (fun c=>1000+100 * t+c) nm 0 oc'))) (by rw [e];exact List.mem_append_right _ (List.mem_cons_self ..)),fun c E k sh els hc e=>q2 none ?_,h⟩
   rw [← e]
   have:=ZjZ (κ:=κ) oc 0 c hc
   rw [Nat.zero_add] at this
   exact List.mem_append_left _ this
  ·rw [q2] at h
   subst h
   rcases List.mem_append.1 q1 with h | h
   ·exact absurd (Zhi oc 0 h) (by simp)
   ·rcases List.mem_cons.1 h with h | h
    ·injection h with e1 e2
     injection e2 with e2
     injection e2 with e2 e3
     exact .inr (.inl ⟨e1,e2,e3⟩)
    ·obtain ⟨c,E,k,sh,els,e1,e2,e3⟩:=Zhh oc' 0 h
     rw [Nat.zero_add] at e2 e3
     injection e3 with e3
     injection e3 with e3 e4
     exact .inr (.inr ⟨c,E,k,sh,els,e1,e2,e3,e4⟩)
 have oldD:∀ t2 g2 o2 b2,t2≠t→(∀ c E k sh els,oc[c]? = some (OC.row E k sh els)→κ c≠t2)→s.ob t2=some (g2,o2)→blk (y'.ρ g2)=some b2→b2<x.W.heap.size∧¬ Dp z (0,pre.length) ν0 oc b2:=fun t2 g2 o2 b2 n1 n2 h hb=>by
  obtain ⟨q1,q2⟩:=hX3.ob t2 g2 o2 h
  rw [old g2 q1] at hb
  exact ⟨(q2.lt b2 hb).1,notD t2 g2 o2 b2 n1 n2 h hb⟩
 have boxD:∀ b2,blk (y'.ρ g)=some b2→Dp z (0,pre.length) ν0 oc b2:=fun b2 hb=>by
  rw [old g hGg] at hb
  exact (hD b2).2 (.inl hb)
 have rowD:∀ c E k sh els b2,oc'[c]? = some (OC.row E k sh els)→blk (y'.ρ (nm c))=some b2→x.W.heap.size≤b2∨Dp z (0,pre.length) ν0 oc b2:=fun c E k sh els b2 h hb=>by
  rw [yn] at hb
  exact ((hO.row c E k sh els h).2.lt b2 hb).2
 refine ⟨y',rfl,?_⟩
 refine ⟨by rw [ZdS];exact hX.defers,by rw [ZgU];exact hX.size,?_,fun g' hg'=>?_,fun t'=>?_,fun t2 g2 o2 h2=>?_,fun t1 t2 g1 g2 o1 o2 b2 hne q1 q2 hb hb2=>?_,hpost.flt,fun b o hb=>k.F b o (hX3.f0 b o hb),fun b2 o2 hb=>?_,fun g' hg'=>⟨(k.G g' (hX3.rho g' hg').1).1,(k.G g' (hX3.rho g' hg').1).2.trans (hX3.rho g' hg').2⟩,hX.inv,fun b o v hF hv=>k.W b o v (hX3.f0 b o hF) (hX.keep b o v hF hv)⟩
 ·refine hX.gr.trans' hpost.gr.os hpost.gr.tape hpost.gr.output hpost.gr.size fun b' hb' hD'=>hpost.gr.block b' (Nat.lt_of_lt_of_le hb' hX.gr.size) fun hDb=>?_
  rcases (hDlt b' hDb).2 with h | h
  ·omega
  ·exact hD' h
 ·rcases hg' with hg' | ⟨c,E,k,sh,els,_,rfl⟩
  ·exact (hX.gens g' hg').imp id fun ⟨e1,e2⟩=>⟨e1,.inl e2⟩
  ·exact .inr ⟨rfl,.inr (.inr ⟨by show 1000000≤i+1000000 * (c+1);omega,by show (i+1000000 * (c+1)) % 1000000=i;omega⟩)⟩
 ·exact Zrr hX.size hd (hpost.rep.dry hc.dry) (fun t=>(hX3.tm t).step k) t'
 ·rcases cases3 t2 g2 o2 h2 with ⟨n1,n2,h⟩ | ⟨rfl,rfl,rfl⟩ | ⟨c,E,k',sh,els,h,rfl,rfl,rfl⟩
  ·exact ⟨.inl (hX3.ob t2 g2 o2 h).1,oldOb t2 g2 o2 n1 n2 h⟩
  ·exact ⟨.inl hGg,newBox⟩
  ·exact ⟨.inr ⟨c,E,k',sh,els,h,rfl⟩,newRow c E k' sh els h⟩
 ·rcases cases3 t1 g1 o1 q1 with ⟨n1,n2,h⟩ | ⟨e1,e2,e3⟩ | ⟨c,E,k',sh,els,h,e1,e2,e3⟩
  ·rcases cases3 t2 g2 o2 q2 with ⟨m1,m2,h'⟩ | ⟨f1,f2,f3⟩ | ⟨c',E',k2,sh',els',h',f1,f2,f3⟩
   ·rw [old g1 (hX3.ob t1 g1 o1 h).1] at hb
    rw [old g2 (hX3.ob t2 g2 o2 h').1] at hb2
    exact hX3.apart t1 t2 g1 g2 o1 o2 b2 hne h h' hb hb2
   ·subst f2
    exact (oldD t1 g1 o1 b2 n1 n2 h hb).2 (boxD b2 hb2)
   ·subst f2
    obtain ⟨w1,w2⟩:=oldD t1 g1 o1 b2 n1 n2 h hb
    rcases rowD c' E' k2 sh' els' b2 h' hb2 with w | w
    ·omega
    ·exact w2 w
  ·subst e2
   rcases cases3 t2 g2 o2 q2 with ⟨m1,m2,h'⟩ | ⟨f1,f2,f3⟩ | ⟨c',E',k2,sh',els',h',f1,f2,f3⟩
   ·exact (oldD t2 g2 o2 b2 m1 m2 h' hb2).2 (boxD b2 hb)
   ·exact hne (e1.trans f1.symm)
   ·subst f2
    rw [yn] at hb2
    rw [old g1 hGg,← hρy] at hb
    exact hO.apB c' E' k2 sh' els' b2 h' hb hb2
  ·subst e2
   rcases cases3 t2 g2 o2 q2 with ⟨m1,m2,h'⟩ | ⟨f1,f2,f3⟩ | ⟨c',E',k2,sh',els',h',f1,f2,f3⟩
   ·obtain ⟨w1,w2⟩:=oldD t2 g2 o2 b2 m1 m2 h' hb2
    rcases rowD c E k' sh els b2 h hb with w | w
    ·omega
    ·exact w2 w
   ·subst f2
    rw [yn] at hb
    rw [old g2 hGg,← hρy] at hb2
    exact hO.apB c E k' sh els b2 h hb2 hb
   ·subst f2
    rw [yn] at hb hb2
    exact hO.apR c c' E k' sh els E' k2 sh' els' b2 (fun e=>hne (by rw [e1,f1,e])) h h' hb hb2
 ·rcases hpost.fnew b2 o2 hb with h | h | h
  ·exact hX3.fnew b2 o2 h
  ·exact .inr (.inl (Nat.le_trans hX.gr.size h))
  ·exact .inr (hDlt b2 h).2
end
end VL
end Go.Proofs.YtjblgpmagampbaaGreatDoor
namespace Go.Proofs.YtjblgpmagampbaaGreatDoor
namespace VL
open Go.RowKit
structure GRep (x:Ctx) (B:Nat) (D:Nat→Prop) (l:List (Nat×Gen×VObj)):Prop where
 ob:∀ t g o,(t,g,o) ∈ l→x.G g∧ObRep x B D g o
 apart:∀ t t' g g' o o' b,t≠t'→(t,g,o) ∈ l→(t',g',o') ∈ l→blk (x.ρ g)=some b→blk (x.ρ g')≠some b
def ZtE (obs:List (Nat×VObj)):List (Nat×Gen×VObj):=obs.map fun q=>(q.1,(0,q.1),q.2)
def Dg (x:Ctx) (obs:List (Nat×VObj)) (b:Nat):Prop:=∃ t o,(t,o) ∈ obs∧blk (x.ρ (0,t))=some b
theorem ZfM {obs:List (Nat×VObj)} {t:Nat} {g:Gen} {o:VObj}:(t,g,o) ∈ ZtE obs↔(t,o) ∈ obs∧g=(0,t):=by
 unfold ZtE
 rw [List.mem_map]
 constructor
 ·rintro ⟨⟨t',o'⟩,h,e⟩
  injection e with e1 e2
  injection e2 with e2 e3
  subst e1 e2 e3
  exact ⟨h,rfl⟩
 ·rintro ⟨h,rfl⟩
  exact ⟨(t,o),h,rfl⟩
structure PreG (x:Ctx) (args:List PV) (obs:List (Nat×VObj)) (vs:Array Value):Prop where
 size:args.length=vs.size
 rep:∀ (i:Nat) (p:PV) (v:Value),args[i]? = some p→vs[i]? = some v→Rep x p v
 ob:GRep x x.W.heap.size (Dg x obs) (ZtE obs)
 gen:∀ g,x.G g→g.1=0
 flt:∀ b o,x.F b o→b<x.W.heap.size
structure PostG (x y:Ctx) (obs:List (Nat×VObj)) (r:PV) (obs':List (Nat×Gen×VObj)) (v:Value):Prop where
 step:Step x y
 gr:Gr (Dg x obs) x.W y.W
 fnew:∀ b o,y.F b o→x.F b o∨x.W.heap.size≤b∨Dg x obs b
 flt:∀ b o,y.F b o→b<y.W.heap.size
 rep:Rep y r v
 ob:GRep y x.W.heap.size (Dg x obs) obs'
structure ContractG (P:Program) [WInv P] (f:FuncId) (args:List PV) (obs:List (Nat×VObj)) (r:PV) (obs':List (Nat×Gen×VObj)):Prop where
 isGo:VL.isGo P f=true
 calls:∀ (x:Ctx) (vs:Array Value),PreG x args obs vs→(∀ W',Gr (Dg x obs) x.W W'→WInv.I P W')→Calls P f vs x.W fun e W'=>∃ y v,y.W=W'∧e = .returned v∧PostG x y obs r obs' v
def σ0 (κ:Nat→Nat) (γ:Nat→Gen) (g:Gen):Option (Nat×Gen):=if g.1=0 then some (κ g.2,γ g.2) else none
def σ1 (dom:Nat→Bool) (κ:Nat→Nat) (γ:Nat→Gen) (κ':Nat→Nat) (ng i:Nat) (g:Gen):Option (Nat×Gen):=
 if g.1=0 then (if dom g.2=true then some (κ g.2,γ g.2) else none) else if g.1=1 then some (κ' g.2,(ng,i+1000000 * (g.2+1))) else none
def rnA (σ:Gen→Option (Nat×Gen)):List PV→Option (List PV)
 | []=>some []
 | p::ps=>match rnP σ p,rnA σ ps with
   | some q,some qs=>some (q::qs)
   | _,_=>none
theorem Zm9 {σ:Gen→Option (Nat×Gen)}:∀ {ps qs:List PV},rnA σ ps=some qs→ps.length=qs.length∧∀ (i:Nat) (p:PV),ps[i]? = some p→∃ q,qs[i]? = some q∧rnP σ p=some q
 | [],qs,h=>by
   injection h with h
   subst h
   exact ⟨rfl,fun i p hp=>by simp at hp⟩
 | p::ps,qs,h=>by
   simp only [rnA] at h
   split at h
   ·rename_i q qs' h1 h2
    injection h with h
    subst h
    obtain ⟨h3,h4⟩:=Zm9 h2
    refine ⟨by simp [h3],fun i p' hp=>?_⟩
    cases i with
    | zero=>
      simp only [List.getElem?_cons_zero,Option.some.injEq] at hp
      subst hp
      exact ⟨q,rfl,h1⟩
    | succ i=>
      simp only [List.getElem?_cons_succ] at hp ⊢
      exact h4 i p' hp
   ·cases h
def usG (κ:Nat→Nat) (obs:List (Nat×VObj)) (obs2:List (Nat×Gen×VObj)):List (Nat×Option (Gen×VObj)):=obs.map (fun q=>(κ q.1,none))++obs2.map fun q=>(q.1,some q.2)
section
variable {P:Program} [WInv P] {r:Run} {ops:Array Oper} {o:Oper} {i:Nat} {s s':FS}
theorem ZqL {f:FuncId} {es:Array Operand} {ts:Array TypeId} {args:List PV} {obs:List (Nat×VObj)} {res res2:PV} {obs' obs2:List (Nat×Gen×VObj)} {dom:Nat→Bool} {κ κ':Nat→Nat} {γ:Nat→Gen} (ho:o.op = .call { callee:=.value (.func f),args:=es,argTypes:=ts })
  (he:rnA (σ0 κ γ) args=some (es.toList.map (ev s))) (hob:∀ t o,(t,o) ∈ obs→∃ o2,rnO (σ0 κ γ) o=some o2∧s.ob (κ t)=some (γ t,o2)) (hinj:∀ t o t' o',(t,o) ∈ obs→(t',o') ∈ obs→t≠t'→κ t≠κ t')
  (hdom:∀ k,dom k=true→∃ o,(k,o) ∈ obs) (hres:rnP (σ1 dom κ γ κ' s.ng i) res=some res2)
  (h2:∀ t2 g2 o2,(t2,g2,o2) ∈ obs2→∃ t g o,(t,g,o) ∈ obs'∧σ1 dom κ γ κ' s.ng i g=some (t2,g2)∧rnO (σ1 dom κ γ κ' s.ng i) o=some o2)
  (h3:∀ t2 g2 o2 t2' g2' o2' t g o t' g' o',(t2,g2,o2) ∈ obs2→(t2',g2',o2') ∈ obs2→(t,g,o) ∈ obs'→(t',g',o') ∈ obs'→σ1 dom κ γ κ' s.ng i g=some (t2,g2)→σ1 dom κ γ κ' s.ng i g'=some (t2',g2')→t2≠t2'→t≠t')
  (hc:ContractG P f args obs res obs') (hI:r.I=WInv.I P):Zot P r o i s ⟨res2,usG κ obs obs2⟩:=by
 intro S a x Q hX hiM hi hi2 hd
 have hrep:∀ (j:Nat) (p:PV),(es.toList.map (ev s))[j]? = some p→Rep x p ((es.map a.eval).getD j undef):=fun j p hp=>by
  rw [List.getElem?_map] at hp
  cases he:es.toList[j]? with
  | none=>rw [he] at hp;simp at hp
  | some e=>
    rw [he] at hp
    simp only [Option.map_some,Option.some.injEq] at hp
    subst hp
    have hea:es[j]? = some e:=by simpa using he
    have:(es.map a.eval).getD j undef=a.eval e:=by simp [hea]
    rw [this]
    exact ZE hX e
 let z:Ctx:=⟨fun g=>g.1=0∧x.G (γ g.2),x.F,x.W,fun g=>x.ρ (γ g.2)⟩
 have bk:Bk (σ0 κ γ) x z:=by
  refine ⟨fun g k g' h hG=>?_,fun _ _ h=>h,fun _ _ _ _ h=>h⟩
  unfold σ0 at h
  split at h
  ·rename_i e
   injection h with h
   injection h with _ h
   subst h
   exact ⟨⟨e,hG⟩,rfl⟩
  ·cases h
 have hD:∀ b,Dg z obs b→b<x.W.heap.size∧(r.W0.heap.size≤b∨r.D b):=fun b ⟨t,o,h,hb⟩=>by
  obtain ⟨o2,_,h5⟩:=hob t o h
  exact (hX.ob (κ t) (γ t) o2 h5).2.lt b hb
 have hpre:PreG z args obs (es.map a.eval):=by
  obtain ⟨l1,l2⟩:=Zm9 he
  refine ⟨by rw [l1];simp,fun j p v hp hv=>?_,⟨fun t g o h=>?_,fun t t' g g' o o' b hne h h' hb hb'=>?_⟩,fun g hg=>hg.1,hX.flt⟩
  ·obtain ⟨q,hq,hpq⟩:=l2 j p hp
   have:=hrep j q hq
   rw [Array.getD_eq_getD_getElem?,hv] at this
   exact Zrn bk hpq this
  ·obtain ⟨hm,rfl⟩:=ZfM.1 h
   obtain ⟨o2,h4,h5⟩:=hob t o hm
   obtain ⟨q1,q2⟩:=hX.ob (κ t) (γ t) o2 h5
   exact ⟨⟨rfl,q1⟩,Zro bk h4 rfl (fun _ _ h=>h) rfl (fun b hb=>.inr ⟨t,o,hm,hb⟩) q2⟩
  ·obtain ⟨hm,rfl⟩:=ZfM.1 h
   obtain ⟨hm',rfl⟩:=ZfM.1 h'
   obtain ⟨o2,_,h5⟩:=hob t o hm
   obtain ⟨o2',_,h5'⟩:=hob t' o' hm'
   exact hX.apart (κ t) (κ t') (γ t) (γ t') o2 o2' b (hinj t o t' o' hm hm' hne) h5 h5' hb hb'
 have hcalls:=hc.calls z _ hpre fun W' hW=>by
  rw [← hI]
  exact hX.inv.1 W' (hX.gr.trans' hW.os hW.tape hW.output hW.size fun b' hb' hD'=>hW.block b' (Nat.lt_of_lt_of_le hb' hX.gr.size) fun hDb=>by
   rcases (hD b' hDb).2 with h | h
   ·omega
   ·exact hD' h)
 unfold Oper.wp
 rw [Zc0 ho hc.isGo,Oper.upon_enter]
 refine hcalls.mono ?_
 rintro e W' ⟨y,v,rfl,rfl,hpost⟩
 let nm:Nat→Gen:=fun c=>(s.ng,i+1000000 * (c+1))
 let y':Ctx:=⟨fun g'=>x.G g'∨∃ c,g'=nm c∧y.G (1,c),y.F,y.W,fun g'=>if g'.1=s.ng∧g'.2 % 1000000=i∧1000000≤g'.2 then y.ρ (1,g'.2 / 1000000 - 1) else x.ρ g'⟩
 have yn:∀ c,y'.ρ (nm c)=y.ρ (1,c):=fun c=>by
  show (if s.ng=s.ng∧(i+1000000 * (c+1)) % 1000000=i∧1000000≤i+1000000 * (c+1) then y.ρ (1,(i+1000000 * (c+1)) / 1000000 - 1) else _)=_
  rw [if_pos ⟨rfl,by omega,by omega⟩]
  have:(i+1000000 * (c+1)) / 1000000 - 1=c:=by omega
  rw [this]
 have old:∀ g',x.G g'→y'.ρ g'=x.ρ g':=fun g' hg'=>if_neg fun ⟨e1,e2,e3⟩=>by
  rcases hX.gens g' hg' with e | ⟨_,e⟩
  ·omega
  ·refine hi (hi2 (g'.2 / 1000000 - 1) ?_)
   have:i+1000000 * (g'.2 / 1000000 - 1+1)=g'.2:=by omega
   rw [this]
   exact e
 have k:Step x y':=⟨fun g' hg'=>⟨.inl hg',old g' hg'⟩,fun b o hb=>hpost.step.F b o hb,fun b o v hb hv=>hpost.step.W b o v hb hv⟩
 have fw:Fw (σ1 dom κ γ κ' s.ng i) y y':=by
  refine ⟨fun g kk g' h hG=>?_,fun _ _ h=>h,fun _ _ _ _ h=>h⟩
  unfold σ1 at h
  split at h
  ·rename_i e
   split at h
   ·rename_i hdm
    injection h with h
    injection h with _ h
    subst h
    obtain ⟨o,hm⟩:=hdom _ hdm
    obtain ⟨o2,_,h5⟩:=hob _ o hm
    have hxG:=(hX.ob _ _ _ h5).1
    have hg:g=(0,g.2):=by rw [← e]
    refine ⟨.inl hxG,(old _ hxG).trans ?_⟩
    rw [hg]
    exact ((hpost.step.G (0,g.2) ⟨rfl,hxG⟩).2).symm
   ·cases h
  ·split at h
   ·rename_i e
    injection h with h
    injection h with _ h
    subst h
    have hg:g=(1,g.2):=by rw [← e]
    rw [hg] at hG ⊢
    exact ⟨.inr ⟨g.2,rfl,hG⟩,yn g.2⟩
   ·cases h
 have fwρ:∀ g t2 g2,σ1 dom κ γ κ' s.ng i g=some (t2,g2)→y.G g→y'.ρ g2=y.ρ g:=fun g t2 g2 h hG=>(fw.G g t2 g2 h hG).2
 have conv:∀ b2,(x.W.heap.size≤b2∨Dg z obs b2)→(r.W0.heap.size≤b2∨r.D b2):=fun b2 h=>h.elim (fun h=>.inl (Nat.le_trans hX.gr.size h)) fun h=>(hD b2 h).2
 have notD:∀ t2 g2 o2 b2,(∀ t o,(t,o) ∈ obs→κ t≠t2)→s.ob t2=some (g2,o2)→blk (x.ρ g2)=some b2→¬ Dg z obs b2:=fun t2 g2 o2 b2 n h hb ⟨t,o,hm,hb'⟩=>by
  obtain ⟨o3,_,h5⟩:=hob t o hm
  exact hX.apart t2 (κ t) g2 (γ t) o2 o3 b2 (fun e=>n t o hm e.symm) h h5 hb hb'
 have cases2:∀ t2 g2 o2,(flips s.ob (usG κ obs obs2)) t2=some (g2,o2)→((∀ t o,(t,o) ∈ obs→κ t≠t2)∧s.ob t2=some (g2,o2))∨(t2,g2,o2) ∈ obs2:=fun t2 g2 o2 h=>by
  rcases ZkB (usG κ obs obs2) s.ob t2 with ⟨q1,q2⟩ | ⟨w,q1,q2⟩
  ·rw [q1] at h
   refine .inl ⟨fun t o hm e=>q2 none (List.mem_append_left _ (List.mem_map.2 ⟨(t,o),hm,by rw [e]⟩)),h⟩
  ·rw [q2] at h
   subst h
   rcases List.mem_append.1 q1 with h | h
   ·obtain ⟨_,_,e⟩:=List.mem_map.1 h
    injection e with _ e
    cases e
   ·obtain ⟨⟨t3,g3,o3⟩,hm,e⟩:=List.mem_map.1 h
    injection e with e1 e2
    injection e2 with e2
    injection e2 with e2 e3
    subst e1 e2 e3
    exact .inr hm
 have newOb:∀ t2 g2 o2,(t2,g2,o2) ∈ obs2→y'.G g2∧ObRep y' r.W0.heap.size r.D g2 o2:=fun t2 g2 o2 hm=>by
  obtain ⟨t,g,o,q1,q2,q3⟩:=h2 t2 g2 o2 hm
  obtain ⟨w1,w2⟩:=hpost.ob.ob t g o q1
  refine ⟨(fw.G g t2 g2 q2 w1).1,Ztc fw q3 (fwρ g t2 g2 q2 w1) (fun _ _ h=>h) rfl (fun b hb=>conv b (w2.lt b hb).2) w2⟩
 have newLt:∀ t2 g2 o2 b2,(t2,g2,o2) ∈ obs2→blk (y'.ρ g2)=some b2→x.W.heap.size≤b2∨Dg z obs b2:=fun t2 g2 o2 b2 hm hb=>by
  obtain ⟨t,g,o,q1,q2,q3⟩:=h2 t2 g2 o2 hm
  obtain ⟨w1,w2⟩:=hpost.ob.ob t g o q1
  rw [fwρ g t2 g2 q2 w1] at hb
  exact (w2.lt b2 hb).2
 have oldLt:∀ t2 g2 o2 b2,(∀ t o,(t,o) ∈ obs→κ t≠t2)→s.ob t2=some (g2,o2)→blk (y'.ρ g2)=some b2→b2<x.W.heap.size∧¬ Dg z obs b2:=fun t2 g2 o2 b2 n h hb=>by
  obtain ⟨q1,q2⟩:=hX.ob t2 g2 o2 h
  rw [old g2 q1] at hb
  exact ⟨(q2.lt b2 hb).1,notD t2 g2 o2 b2 n h hb⟩
 refine ⟨y',rfl,?_⟩
 refine ⟨by rw [ZdS];exact hX.defers,by rw [ZgU];exact hX.size,?_,fun g' hg'=>?_,fun t'=>?_,fun t2 g2 o2 hh=>?_,fun t1 t2 g1 g2 o1 o2 b2 hne q1 q2 hb hb2=>?_,hpost.flt,fun b o hb=>k.F b o (hX.f0 b o hb),fun b2 o2 hb=>?_,fun g' hg'=>⟨(k.G g' (hX.rho g' hg').1).1,(k.G g' (hX.rho g' hg').1).2.trans (hX.rho g' hg').2⟩,hX.inv,fun b o v hF hv=>k.W b o v (hX.f0 b o hF) (hX.keep b o v hF hv)⟩
 ·refine hX.gr.trans' hpost.gr.os hpost.gr.tape hpost.gr.output hpost.gr.size fun b' hb' hD'=>hpost.gr.block b' (Nat.lt_of_lt_of_le hb' hX.gr.size) fun hDb=>?_
  rcases (hD b' hDb).2 with h | h
  ·omega
  ·exact hD' h
 ·rcases hg' with hg' | ⟨c,rfl,_⟩
  ·exact (hX.gens g' hg').imp id fun ⟨e1,e2⟩=>⟨e1,.inl e2⟩
  ·exact .inr ⟨rfl,.inr (.inr ⟨by show 1000000≤i+1000000 * (c+1);omega,by show (i+1000000 * (c+1)) % 1000000=i;omega⟩)⟩
 ·exact Zrr hX.size hd (Ztb fw hres hpost.rep) (fun t=>(hX.tm t).step k) t'
 ·rcases cases2 t2 g2 o2 hh with ⟨n,h⟩ | hm
  ·obtain ⟨q1,q2⟩:=hX.ob t2 g2 o2 h
   refine ⟨.inl q1,q2.step q1 k fun b2 hb2=>?_⟩
   have hlt:=(q2.lt b2 hb2).1
   have hnd:=notD t2 g2 o2 b2 n h hb2
   refine ⟨hpost.gr.block b2 hlt hnd,fun o3 ho3=>?_⟩
   rcases hpost.fnew b2 o3 ho3 with h | h | h
   ·exact h
   ·exact absurd hlt (Nat.not_lt.2 h)
   ·exact absurd h hnd
  ·exact newOb t2 g2 o2 hm
 ·rcases cases2 t1 g1 o1 q1 with ⟨n1,w1⟩ | m1
  ·rcases cases2 t2 g2 o2 q2 with ⟨n2,w2⟩ | m2
   ·rw [old g1 (hX.ob t1 g1 o1 w1).1] at hb
    rw [old g2 (hX.ob t2 g2 o2 w2).1] at hb2
    exact hX.apart t1 t2 g1 g2 o1 o2 b2 hne w1 w2 hb hb2
   ·obtain ⟨u1,u2⟩:=oldLt t1 g1 o1 b2 n1 w1 hb
    rcases newLt t2 g2 o2 b2 m2 hb2 with w | w
    ·omega
    ·exact u2 w
  ·rcases cases2 t2 g2 o2 q2 with ⟨n2,w2⟩ | m2
   ·obtain ⟨u1,u2⟩:=oldLt t2 g2 o2 b2 n2 w2 hb2
    rcases newLt t1 g1 o1 b2 m1 hb with w | w
    ·omega
    ·exact u2 w
   ·obtain ⟨t,g,o,a1,a2,a3⟩:=h2 t1 g1 o1 m1
    obtain ⟨t',g',o',c1,c2,c3⟩:=h2 t2 g2 o2 m2
    rw [fwρ g t1 g1 a2 (hpost.ob.ob t g o a1).1] at hb
    rw [fwρ g' t2 g2 c2 (hpost.ob.ob t' g' o' c1).1] at hb2
    exact hpost.ob.apart t t' g g' o o' b2 (h3 t1 g1 o1 t2 g2 o2 t g o t' g' o' m1 m2 a1 c1 a2 c2 hne) a1 c1 hb hb2
 ·rcases hpost.fnew b2 o2 hb with h | h | h
  ·exact hX.fnew b2 o2 h
  ·exact .inr (.inl (Nat.le_trans hX.gr.size h))
  ·exact .inr (hD b2 h).2
end
end VL
end Go.Proofs.YtjblgpmagampbaaGreatDoor
namespace Go.Proofs.YtjblgpmagampbaaGreatDoor
namespace VL
open Go.RowKit
def obG (obs:List (Nat×VObj)):List (Nat×Option (Gen×VObj)):=obs.map fun q=>(q.1,some ((0,q.1),q.2))
theorem Zgw {t:Nat} {g:Gen} {o:VObj}:∀ {obs:List (Nat×VObj)},Zg (obG obs) t=some (g,o)→(t,o) ∈ obs∧g=(0,t)
 | [],h=>by cases h
 | q::r,h=>by
   change (if t=q.1 then some ((0,q.1),q.2) else Zg (obG r) t)=some (g,o) at h
   split at h
   ·rename_i e
    injection h with h
    injection h with e1 e2
    subst e e1 e2
    exact ⟨List.mem_cons_self ..,rfl⟩
   ·obtain ⟨h1,h2⟩:=Zgw h
    exact ⟨List.mem_cons_of_mem _ h1,h2⟩
def ZrL (args:List PV) (obs:List (Nat×VObj)):FS:=⟨fun t=>args.getD t (.tup []),Zg (obG obs),1⟩
section
variable {P:Program} [WInv P]
theorem Zhy (hmix:P.follows .mixedOrders=true) {f:FuncId} {fn:Func} {c:Code} {args:List PV} {obs:List (Nat×VObj)} {obs':List (Nat×Gen×VObj)} {e:Ex} {s0 s1:FS} {ps:List PV} {res:PV}
  (hg:isGo P f=true) (hf:P.funcs[f]? = some fn) (hb:fn.body=some c) (hn:args.length≤fn.ntmps) (hok:Zaz fn.ntmps c=true) (hrun:RunC P c (ZrL args obs) e s0) (hs:Shift s0 s1) (he:e = .normal∨e = .ret)
  (hres:ZbX P s1 fn.results.toList=some ps) (hps:ZbY ps=res) (hob:∀ t g o,(t,g,o) ∈ obs'→s1.ob t=some (g,o)):ContractG P f args obs res obs':=by
 subst hps
 refine ⟨hg,fun x vs hpre hinv=>?_⟩
 let r:Run:=⟨x.W,Dg x obs,(vs++Array.replicate (fn.ntmps - vs.size) undef).size,x.F,x.G,x.ρ,WInv.I P⟩
 have hNr:r.N=fn.ntmps:=by
  have:=hpre.size
  simp [r]
  omega
 have hX:RstX r (fun _=>False) (ZrL args obs) { tmps:=vs++Array.replicate (fn.ntmps - vs.size) undef,defers:=[] } x:=by
  refine ⟨rfl,rfl,Gr.refl _ _,fun g hg=>?_,fun t=>?_,fun t g o ho=>?_,fun t t' g g' o o' b hne h1 h2 hb1 hb2=>?_,hpre.flt,fun _ _ h=>h,fun _ _ h=>.inl h,fun _ h=>⟨h,rfl⟩,⟨hinv,hpre.gen⟩,fun _ _ _ _ h=>h⟩
  ·rw [hpre.gen g hg]
   exact .inl Nat.zero_lt_one
  ·show Rep x (args.getD t (.tup [])) _
   rw [Array.getD_eq_getD_getElem?,Array.getElem?_append,List.getD_eq_getElem?_getD]
   by_cases ht:t<vs.size
   ·rw [if_pos ht,List.getElem?_eq_getElem (by rw [hpre.size];exact ht),Array.getElem?_eq_getElem ht]
    exact hpre.rep t _ _ (List.getElem?_eq_getElem (by rw [hpre.size];exact ht)) (Array.getElem?_eq_getElem ht)
   ·rw [if_neg ht,List.getElem?_eq_none (by rw [hpre.size];omega)]
    have:(Array.replicate (fn.ntmps - vs.size) undef)[t - vs.size]?.getD undef=undef:=by
     rw [Array.getElem?_replicate]
     split<;>rfl
    rw [this]
    exact .tup [] #[] rfl (fun i p v hp=>by simp at hp)
  ·obtain ⟨hm,rfl⟩:=Zgw ho
   exact hpre.ob.ob t (0,t) o (ZfM.2 ⟨hm,rfl⟩)
  ·obtain ⟨hm,rfl⟩:=Zgw h1
   obtain ⟨hm',rfl⟩:=Zgw h2
   exact hpre.ob.apart t t' (0,t) (0,t') o o' b hne (ZfM.2 ⟨hm,rfl⟩) (ZfM.2 ⟨hm',rfl⟩) hb1 hb2
 refine calls_of_wp hf hb ?_
 refine (Zdu hmix hrun).1 r _ x _ ⟨rfl,by rw [hNr];exact hok⟩ hX fun a' y0 hY0=>?_
 obtain ⟨y,hyW,hY⟩:=hs _ _ _ hY0
 rw [← hyW]
 obtain ⟨ws,h1,h2,h3⟩:=Zbs hY fn.results.toList hres
 have hstep:Step x y:=⟨fun g hg=>hY.rho g hg,fun b o hb=>hY.f0 b o hb,fun b o v hb hv=>hY.keep b o v hb hv⟩
 have hO:GRep y x.W.heap.size (Dg x obs) obs':=⟨fun t g o h=>hY.ob t g o (hob t g o h),fun t t' g g' o o' b hne h h' hb hb'=>hY.apart t t' g g' o o' b hne (hob t g o h) (hob t' g' o' h') hb hb'⟩
 have hend:(results fn a'.tmps).run P y.W = .ok (if ws.length=1 then ws.getD 0 undef else .tuple ws.toArray) y.W:=by
  have:(fn.results.mapM (Zmn a')).run P y.W = .ok ws.toArray y.W:=by
   rw [Array.mapM_eq_mapM_toList,map_eq_pure_bind,Sem.run_bind,h1]
   rfl
  have e:results fn a'.tmps=(fn.results.mapM (Zmn a') >>= fun vs=>pure (if h:vs.size=1 then vs[0] else .tuple vs)):=by
   unfold results
   congr 1
  rw [e,Sem.run_bind,this]
  simp only [Result.andThen_ok,Sem.run_pure]
  congr 1
  by_cases hl:ws.length=1
  ·simp [hl]
  ·simp [hl]
 have hfin:∃ v,(results fn a'.tmps).run P y.W = .ok v y.W∧(fun e W'=>∃ y v,y.W=W'∧e=Ending.returned v∧PostG x y obs (ZbY ps) obs' v) (Ending.returned v) y.W:=by
  refine ⟨_,hend,y,_,rfl,rfl,hstep,hY.gr,hY.fnew,hY.flt,?_,hO⟩
  have hlq:ps.length=ws.length:=h2.symm
  unfold ZbY
  split
  ·rename_i p
   rw [if_pos (by simpa using hlq.symm)]
   exact h3 0 p rfl
  ·rename_i hne
   have hn1:¬ ws.length=1:=fun h=>by
    rw [h] at hlq
    match ps,hlq with
    | [q],_=>exact hne q rfl
   rw [if_neg hn1]
   refine .tup ps ws.toArray (by simpa using hlq) fun j q v hq hv=>?_
   have:=h3 j q hq
   have hv':ws[j]? = some v:=by simpa using hv
   rw [List.getD_eq_getElem?_getD,hv'] at this
   exact this
 rcases he with rfl | rfl
 ·exact ⟨hY.defers,hfin⟩
 ·exact ⟨hY.defers,hfin⟩
end
end VL
end Go.Proofs.YtjblgpmagampbaaGreatDoor
namespace Go.Proofs.YtjblgpmagampbaaGreatDoor
namespace VL
open Go.RowKit
def oc1 (f:Nat→Option (Gen×VObj)):PV→Option (Nat×Gen×OC)
 | .row t g=>match ZG f t g with
   | some (.row E k sh els)=>some (t,g,.row E k sh els)
   | _=>none
 | .bool b=>some (0,(0,0),.pv (.bool b))
 | .int k n=>some (0,(0,0),.pv (.int k n))
 | .str b=>some (0,(0,0),.pv (.str b))
 | .sl els=>some (0,(0,0),.pv (.sl els))
 | .nil=>some (0,(0,0),.pv .nil)
 | _=>none
def Zp6 (f:Nat→Option (Gen×VObj)):List PV→Option (List (Nat×Gen×OC))
 | []=>some []
 | p::ps=>match oc1 f p,Zp6 f ps with
   | some q,some qs=>some (q::qs)
   | _,_=>none
def okK (t:Nat):List (Nat×Gen×OC)→Bool
 | []=>true
 | (_,_,.pv _)::r=>okK t r
 | (k,_,.row _ _ _ _)::r=>k != t&&r.all (fun q=>match q.2.2 with
  | .row _ _ _ _=>q.1 != k
  | .pv _=>true)&&okK t r
def oqκ (oq:List (Nat×Gen×OC)) (c:Nat):Nat:=((oq[c]?).map (·.1)).getD 0
def oqν (oq:List (Nat×Gen×OC)) (c:Nat):Gen:=((oq[c]?).map (·.2.1)).getD (0,0)
theorem ZkN {f:Nat→Option (Gen×VObj)} {p:PV} {q:Nat×Gen×OC} (h:oc1 f p=some q):p=q.2.2.val q.1 q.2.1∧(∀ E k sh els,q.2.2=OC.row E k sh els→f q.1=some (q.2.1,.row E k sh els))∧∀ p',q.2.2=OC.pv p'→p'.flat=true:=by
 cases p with
 | row t g=>
   simp only [oc1] at h
   split at h
   ·rename_i E k sh els ho
    injection h with h
    subst h
    refine ⟨rfl,fun E' k' sh' els' e=>?_,fun p' e=>by cases e⟩
    injection e with e1 e2 e3 e4
    subst e1 e2 e3 e4
    exact ZD ho
   ·cases h
 | bool b=>injection h with h;subst h;exact ⟨rfl,(fun _ _ _ _ e=>by cases e),fun p' e=>by cases e;rfl⟩
 | int k n=>injection h with h;subst h;exact ⟨rfl,(fun _ _ _ _ e=>by cases e),fun p' e=>by cases e;rfl⟩
 | str b=>injection h with h;subst h;exact ⟨rfl,(fun _ _ _ _ e=>by cases e),fun p' e=>by cases e;rfl⟩
 | sl els=>injection h with h;subst h;exact ⟨rfl,(fun _ _ _ _ e=>by cases e),fun p' e=>by cases e;rfl⟩
 | nil=>injection h with h;subst h;exact ⟨rfl,(fun _ _ _ _ e=>by cases e),fun p' e=>by cases e;rfl⟩
 | _=>simp [oc1] at h
theorem ZpO {f:Nat→Option (Gen×VObj)}:∀ {cs:List PV} {oq:List (Nat×Gen×OC)},Zp6 f cs=some oq→cs.length=oq.length∧∀ (c:Nat) (q:Nat×Gen×OC),oq[c]? = some q→∃ p,cs[c]? = some p∧oc1 f p=some q
 | [],oq,h=>by
   injection h with h
   subst h
   exact ⟨rfl,fun c q hq=>by simp at hq⟩
 | p::ps,oq,h=>by
   simp only [Zp6] at h
   split at h
   ·rename_i q qs h1 h2
    injection h with h
    subst h
    obtain ⟨h3,h4⟩:=ZpO h2
    refine ⟨by simp [h3],fun c q' hq=>?_⟩
    cases c with
    | zero=>simp at hq;subst hq;exact ⟨p,rfl,h1⟩
    | succ c=>simp at hq ⊢;exact h4 c q' hq
   ·cases h
theorem ZlV {f:Nat→Option (Gen×VObj)} {cs:List PV} {oq:List (Nat×Gen×OC)} (h:Zp6 f cs=some oq) :
  cs=ZaX (oqκ oq) (oqν oq) 0 (oq.map (·.2.2))∧(∀ c E k sh els,(oq.map (·.2.2))[c]? = some (OC.row E k sh els)→f (oqκ oq c)=some (oqν oq c,.row E k sh els))∧∀ (c:Nat) (p:PV),(oq.map (·.2.2))[c]? = some (OC.pv p)→p.flat=true:=by
 obtain ⟨h1,h2⟩:=ZpO h
 refine ⟨?_,fun c E k sh els hc=>?_,fun c p hc=>?_⟩
 ·apply List.ext_getElem?
  intro c
  rw [Zbt,List.getElem?_map,Nat.zero_add]
  by_cases hlt:c<oq.length
  ·obtain ⟨q,hq⟩:∃ q,oq[c]? = some q:=⟨_,List.getElem?_eq_getElem hlt⟩
   obtain ⟨p,hp,hq2⟩:=h2 c q hq
   rw [hp,hq,(ZkN hq2).1]
   unfold oqκ oqν
   rw [hq]
   rfl
  ·rw [List.getElem?_eq_none (by omega),List.getElem?_eq_none (by omega)]
   rfl
 ·rw [List.getElem?_map,Option.map_eq_some_iff] at hc
  obtain ⟨q,hq,e⟩:=hc
  obtain ⟨p,hp,hq2⟩:=h2 c q hq
  have:=(ZkN hq2).2.1 E k sh els e
  unfold oqκ oqν
  rw [hq]
  exact this
 ·rw [List.getElem?_map,Option.map_eq_some_iff] at hc
  obtain ⟨q,hq,e⟩:=hc
  obtain ⟨p',hp,hq2⟩:=h2 c q hq
  exact (ZkN hq2).2.2 p e
theorem ZkO {t:Nat}:∀ {oq:List (Nat×Gen×OC)},okK t oq=true→(∀ (c:Nat) (q:Nat×Gen×OC) E k sh els,oq[c]? = some q→q.2.2=OC.row E k sh els→q.1≠t)∧
  ∀ (c c':Nat) (q q':Nat×Gen×OC) E k sh els E' k' sh' els',c<c'→oq[c]? = some q→oq[c']? = some q'→q.2.2=OC.row E k sh els→q'.2.2=OC.row E' k' sh' els'→q.1≠q'.1
 | [],_=>⟨fun c q _ _ _ _ h=>by simp at h,fun c c' q q' _ _ _ _ _ _ _ _ _ h=>by simp at h⟩
 | (k0,g0,.pv p0)::r,h=>by
  obtain ⟨h1,h2⟩:=ZkO (oq:=r) h
  refine ⟨fun c q E k sh els hq e=>?_,fun c c' q q' E k sh els E' k' sh' els' hlt hq hq' e e'=>?_⟩
  ·cases c with
   | zero=>simp at hq;subst hq;cases e
   | succ c=>exact h1 c q E k sh els (by simpa using hq) e
  ·cases c with
   | zero=>simp at hq;subst hq;cases e
   | succ c=>
     cases c' with
     | zero=>omega
     | succ c'=>exact h2 c c' q q' E k sh els E' k' sh' els' (by omega) (by simpa using hq) (by simpa using hq') e e'
 | (k0,g0,.row E0 kk0 sh0 els0)::r,h=>by
  simp only [okK,Bool.and_eq_true,bne_iff_ne,ne_eq,List.all_eq_true] at h
  obtain ⟨⟨h3,h4⟩,h5⟩:=h
  obtain ⟨h1,h2⟩:=ZkO (oq:=r) h5
  refine ⟨fun c q E k sh els hq e=>?_,fun c c' q q' E k sh els E' k' sh' els' hlt hq hq' e e'=>?_⟩
  ·cases c with
   | zero=>simp at hq;subst hq;exact h3
   | succ c=>exact h1 c q E k sh els (by simpa using hq) e
  ·cases c' with
   | zero=>omega
   | succ c'=>
     have hq2:r[c']? = some q':=by simpa using hq'
     cases c with
     | zero=>
       simp at hq
       subst hq
       have:=h4 q' (List.mem_of_getElem? hq2)
       rw [e'] at this
       simp only [bne_iff_ne,ne_eq] at this
       exact fun e=>this e.symm
     | succ c=>exact h2 c c' q q' E k sh els E' k' sh' els' (by omega) (by simpa using hq) hq2 e e'
theorem Znb {t:Nat} {oq:List (Nat×Gen×OC)} (h:okK t oq=true):(∀ c E k sh els,(oq.map (·.2.2))[c]? = some (OC.row E k sh els)→oqκ oq c≠t)∧
  ∀ c c' E k sh els E' k' sh' els',c≠c'→(oq.map (·.2.2))[c]? = some (OC.row E k sh els)→(oq.map (·.2.2))[c']? = some (OC.row E' k' sh' els')→oqκ oq c≠oqκ oq c':=by
 obtain ⟨h1,h2⟩:=ZkO h
 refine ⟨fun c E k sh els hc=>?_,fun c c' E k sh els E' k' sh' els' hne hc hc'=>?_⟩
 ·rw [List.getElem?_map,Option.map_eq_some_iff] at hc
  obtain ⟨q,hq,e⟩:=hc
  unfold oqκ
  rw [hq]
  exact h1 c q E k sh els hq e
 ·rw [List.getElem?_map,Option.map_eq_some_iff] at hc hc'
  obtain ⟨q,hq,e⟩:=hc
  obtain ⟨q',hq',e'⟩:=hc'
  unfold oqκ
  rw [hq,hq']
  rcases Nat.lt_or_gt_of_ne hne with hlt | hlt
  ·exact h2 c c' q q' E k sh els E' k' sh' els' hlt hq hq' e e'
  ·exact fun e0=>h2 c' c q' q E' k' sh' els' E k sh els hlt hq' hq e' e e0.symm
def usP (t:Nat) (g:Gen) (ng i:Nat) (oq:List (Nat×Gen×OC)) (oc':List OC):List (Nat×Option (Gen×VObj)):=
 ZhI (oqκ oq) 0 (oq.map (·.2.2))++(t,some (g,.box (ZaX (fun c=>1000+100 * t+c) (fun c=>(ng,i+1000000 * (c+1))) 0 oc')))::ZdO (fun c=>1000+100 * t+c) (fun c=>(ng,i+1000000 * (c+1))) 0 oc'
section
variable {P:Program} [WInv P] {r:Run} {ops:Array Oper} {o:Oper} {i:Nat} {s s':FS}
theorem ZpP {f:FuncId} {es:Array Operand} {ts:Array TypeId} {post post':List PV} {t:Nat} {g:Gen} {cs:List PV} {oq:List (Nat×Gen×OC)} {oc':List OC} {res:PV} (hw:Zb ops s o=some true) (ho:o.op = .call { callee:=.value (.func f),args:=es,argTypes:=ts })
  (he:es.toList.map (ev s) = .ptr t g 0::post) (hob:s.ob t=some (g,.box cs)) (hoq:Zp6 s.ob cs=some oq) (hk:okK t oq=true) (h3:ZeW s.ob post=some (post',[])) (hc:ContractP P f (.ptr 0 (0,0) 0::post') 0 (oq.map (·.2.2)) res oc') :
  OpR P ops i o s ⟨res,usP t g s.ng i oq oc'⟩:=.anyx hw fun s' r hA hI=>by
 obtain ⟨e1,e2,_⟩:=ZcJ ho hA
 obtain ⟨q1,q2,q3⟩:=ZlV hoq
 obtain ⟨q4,q5⟩:=Znb hk
 have hmem:(PV.ptr t g 0) ∈ es.toList.map (ev s):=by rw [he];exact List.mem_cons_self ..
 have ht:s.ob t=s'.ob t:=e2 _ hmem t (by simp [Zh0,Zc5,Zcz,Zab])
 have hrow:∀ c E k sh els,(oq.map (·.2.2))[c]? = some (OC.row E k sh els)→s.ob (oqκ oq c)=s'.ob (oqκ oq c):=fun c E k sh els h=>by
  refine e2 _ hmem (oqκ oq c) ?_
  have hcell:cs[c]? = some (.row (oqκ oq c) (oqν oq c)):=by
   rw [q1,Zbt,h,Nat.zero_add]
   rfl
  refine List.mem_append_right _ (List.mem_append_left _ (List.mem_flatMap.2 ⟨t,by simp [Zcz,Zab],?_⟩))
  unfold ZeR
  rw [hob]
  exact List.mem_flatMap.2 ⟨_,List.mem_of_getElem? hcell,by simp [Zab]⟩
 unfold usP
 rw [hA.ng]
 refine ZqC (pre:=[]) (pre':=[]) (post:=post) (ν:=oqν oq) ho (by rw [e1,he];rfl) (by rw [← ht,hob,← q1]) (fun c E k sh els h=>by rw [← hrow c E k sh els h];exact q2 c E k sh els h) q3 q4 q5 rfl ?_ (by decide) hc hI
 rw [← h3]
 exact (Zds fun p hp t ht=>e2 p (by rw [he];exact List.mem_cons_of_mem _ hp) t (Zb7 ht)).symm
end
section
variable {P:Program} [WInv P] {ops:Array Oper} {draw:Bool} {i:Nat} {L:List Oper} {acc:List (List Nat×List Nat)} {K:FS→Prop} {tm:List (Nat×PV)} {ob:List (Nat×Option (Gen×VObj))} {ng:Nat}
 {d:Option Tmp} {ty:TypeId} {pos:String} {after:Array Edge} {gd:Option (Nat×Bool)}
theorem Zgp {f:FuncId} {es:Array Operand} {ts:Array TypeId} {post post':List PV} {t:Nat} {g:Gen} {cs:List PV} {oq:List (Nat×Gen×OC)} {oc oc':List OC} {res:PV} {us:List (Nat×Option (Gen×VObj))} (hc:ContractP P f (.ptr 0 (0,0) 0::post') 0 oc res oc') (hw:Zb ops (mkS tm ob ng) ⟨d,.call ⟨.value (.func f),es,ts⟩,ty,pos,after,gd⟩=some true)
  (he:es.toList.map (evL tm) = .ptr t g 0::post) (hob:Zg ob t=some (g,.box cs)) (hoq:Zp6 (Zg ob) cs=some oq) (hoc:oq.map (·.2.2)=oc) (hk:okK t oq=true) (h3:ZeW (Zg ob) post=some (post',[])) (hus:usP t g ng i oq oc'=us)
  (k:GoL P ops draw (i+1) L (acc ++ [(Zr (mkS tm ob ng) ⟨d,.call ⟨.value (.func f),es,ts⟩,ty,pos,after,gd⟩,us.map (·.1))]) (mkS (Zau d res tm) (us.reverse++ob) ng) K):GoL P ops draw i (⟨d,.call ⟨.value (.func f),es,ts⟩,ty,pos,after,gd⟩::L) acc (mkS tm ob ng) K:=by
 subst hoc hus
 refine ZbR (ZpP hw rfl (by rw [ZB];exact he) hob hoq hk h3 hc) ?_
 rw [Zac]
 exact k
end
end VL
end Go.Proofs.YtjblgpmagampbaaGreatDoor
namespace Go.Proofs.YtjblgpmagampbaaGreatDoor
namespace VL
open Go.RowKit
section
variable {P:Program} [WInv P] {ops:Array Oper} {o:Oper} {i:Nat} {s:FS} {T:TypeId} {e e':Operand} {E a1 a2 t k n off:Nat} {a3:List PV} {te ti:TI} {g:Gen} {els new:List (List PV)} {el:List PV}
theorem ZjW {f f':Nat→Option (Gen×VObj)} {p:PV} (h:∀ t ∈ Zab p,f t=f' t):Zna f p=Zna f' p:=by
 cases p<;>simp only [Zna]
 rename_i t g
 rw [Zae (h t (by simp [Zab])) g]
omit [WInv P] in
theorem Zaj {s':FS} (h:Agree ops o s s') (he:e ∈ o.op.operands) (hq:quiet o.op=false) (hs:Zjb o.op=false) (hk:t ∈ Zab (ev s e)):ZG s'.ob t g=ZG s.ob t g:=Zae (h.key he hq hs t (Zb7 (Ze6 hk))).symm g
theorem Zqz (hw:Zb ops s o=some true) (ho:o.op = .call { callee:=.builtin .len,args:=#[e],argTypes:=#[T] }) (ht:tyI P T=some ⟨.slice E,a1,a2,a3⟩) (hels:Zna s.ob (ev s e)=some els):OpR P ops i o s ⟨.int .i64 els.length,[]⟩:=.any hw fun s' r hA hI=>by
 have hm:e ∈ o.op.operands:=by rw [ho];simp [Op.operands,Call.operands]
 refine Zsk ho ht ?_
 rw [← hA.ev e hm,← hels]
 exact (ZjW fun t ht=>hA.key hm (by rw [ho];rfl) (by rw [ho];rfl) t (Zb7 (Ze6 ht))).symm
theorem ZnH {E':Nat} (hw:Zb ops s o=some true) (ho:o.op = .indexAddr T e e') (ht:tyI P T=some ⟨.slice E,a1,a2,a3⟩) (hte:tyI P E=some te) (he:ev s e = .row t g) (hn:toNat? (ev s e')=some n) (hob:ZG s.ob t g=some (.prow E' k els)) (hnl:n<els.length) (hk:k=te.size) :
  OpR P ops i o s ⟨.elp t g n k 0,[]⟩:=.any hw fun s' r hA hI=>by
 have hm:e ∈ o.op.operands:=by rw [ho];simp [Op.operands]
 have hm':e' ∈ o.op.operands:=by rw [ho];simp [Op.operands]
 exact Zpz ho ht hte (by rw [← hA.ev e hm];exact he) (by rw [← hA.ev e' hm'];exact hn) (by rw [Zaj hA hm (by rw [ho];rfl) (by rw [ho];rfl) (by rw [he];simp [Zab])];exact hob) hnl hk
theorem Zo7 {p:PV} (hw:Zb ops s o=some true) (ho:o.op = .load T e) (ht:tyI P T=some ti) (he:ev s e = .elp t g n k off) (hob:ZG s.ob t g=some (.prow E k els)) (hel:els[n]? = some el) (hp:Zh1 ti (el.drop off)=some p):OpR P ops i o s ⟨p,[]⟩:=.any hw fun s' r hA hI=>by
 have hm:e ∈ o.op.operands:=by rw [ho];simp [Op.operands]
 exact ZqW ho ht (by rw [← hA.ev e hm];exact he) (by rw [Zaj hA hm (by rw [ho];rfl) (by rw [ho];rfl) (by rw [he];simp [Zab])];exact hob) hel hp
omit [WInv P] in
theorem Zls {s':FS} (h:Agree ops o s s') (ho:o.op = .store T e e') (hk:t ∈ Zab (ev s e)):ZG s'.ob t g=ZG s.ob t g:=Zae (h.keyL (e:=e) (by rw [ho];exact Ziu) (by rw [ho];rfl) t (Zb7 (Ze6 hk))).symm g
theorem ZnI {p:PV} (hw:Zb ops s o=some true) (ho:o.op = .store T e e') (ht:tyI P T=some ti) (he':ev s e'=p) (hl:p.cells.length=ti.size) (he:ev s e = .elp t g n k off) (hcell:p.cells.all PV.cell=true) (hob:ZG s.ob t g=some (.prow E k els)) (hel:els[n]? = some el) (hfit:off+ti.size≤k) :
  OpR P ops i o s ⟨.un,[(t,some (g,.prow E k (els.set n (Zaa el off p.cells))))]⟩:=.any hw fun s' r hA hI=>by
 have hm:e ∈ o.op.operands:=by rw [ho];simp [Op.operands]
 have hm':e' ∈ o.op.operands:=by rw [ho];simp [Op.operands]
 subst he'
 have h1:=hA.ev e' hm'
 rw [h1] at hl hcell ⊢
 exact ZoZ ho ht hl (by rw [← hA.ev e hm];exact he) hcell (by rw [Zls hA ho (by rw [he];simp [Zab])];exact hob) hel hfit
theorem Zmr (hw:Zb ops s o=some true) (ho:o.op = .call { callee:=.builtin .append,args:=#[e,e'],argTypes:=#[T,T] }) (ht:tyI P T=some ⟨.slice E,a1,a2,a3⟩) (hte:tyI P E=some te) (he:ev s e = .row t g) (hob:ZG s.ob t g=some (.prow E k els)) (hnew:Zna s.ob (ev s e')=some new)
  (hks:k=te.size) (hc1:(els.length+new.length) * te.bytes≤140737488355328) (hc2:els.length+new.length≤9223372036854775807) (hc3:0<te.size) (hc4:te.zero.length=te.size) (hk:∀ el ∈ new,el.length=te.size):OpR P ops i o s ⟨.row t (s.ng,i),[(t,some ((s.ng,i),.prow E k (els++new)))]⟩:=.any hw fun s' r hA hI=>by
 have hm:e ∈ o.op.operands:=by rw [ho];simp [Op.operands,Call.operands]
 have hm':e' ∈ o.op.operands:=by rw [ho];simp [Op.operands,Call.operands]
 rw [hA.ng]
 refine ZnC ho ht hte (by rw [← hA.ev e hm];exact he) (by rw [Zaj hA hm (by rw [ho];rfl) (by rw [ho];rfl) (by rw [he];simp [Zab])];exact hob) ?_ hks hc1 hc2 hc3 hc4 hk
 rw [← hA.ev e' hm',← hnew]
 exact (ZjW fun t ht=>hA.key hm' (by rw [ho];rfl) (by rw [ho];rfl) t (Zb7 (Ze6 ht))).symm
theorem ZnJ {w:Operand} (hw:Zb ops s o=some true) (ho:o.op = .slice T e none (some w) none) (ht:tyI P T=some ⟨.slice E,a1,a2,a3⟩) (hte:tyI P E=some te) (he:ev s e = .row t g) (hob:ZG s.ob t g=some (.prow E k els)) (hn:toNat? (ev s w)=some n) (hnl:n≤els.length) :
  OpR P ops i o s ⟨.row t (s.ng,i),[(t,some ((s.ng,i),.prow E k (els.take n)))]⟩:=.any hw fun s' r hA hI=>by
 have hm:e ∈ o.op.operands:=by rw [ho];simp [Op.operands]
 have hm':w ∈ o.op.operands:=by rw [ho];simp [Op.operands]
 rw [hA.ng]
 exact ZpQ ho ht hte (by rw [← hA.ev e hm];exact he) (by rw [Zaj hA hm (by rw [ho];rfl) (by rw [ho];rfl) (by rw [he];simp [Zab])];exact hob) (by rw [← hA.ev w hm'];exact hn) hnl
theorem ZnK {d:Nat} {parts:Array (Nat×Operand)} {cs:List PV} (hw:Zb ops s o=some true) (ho:o.op = .buildSlice T n parts) (hdst:o.dst=some d) (ht:tyI P T=some ⟨.slice E,a1,a2,a3⟩) (hte:tyI P E=some te)
  (hf:ZdZ (fun i=>some (i * te.size,te.size)) (List.replicate n te.zero).flatten (parts.toList.map fun q=>(q.1,ev s q.2))=some cs) (hcell:cs.all PV.cell=true) (hc1:cs.length=n * te.size) (hc2:n * te.size≤16777216) (hc3:0<te.size) :
  OpR P ops i o s ⟨.row d (s.ng,i),[(d,some ((s.ng,i),.prow E te.size (chunks te.size n cs)))]⟩:=.any hw fun s' r hA hI=>by
 rw [hA.ng]
 refine ZpR ho hdst ht hte ?_ hcell hc1 hc2 hc3
 rw [← hf]
 congr 1
 refine List.map_congr_left fun q hq=>?_
 rw [hA.ev q.2 (by rw [ho];simp [Op.operands];exact ⟨q.1,by simpa using hq⟩)]
end
section
variable {P:Program} [WInv P] {ops:Array Oper} {draw:Bool} {i:Nat} {L:List Oper} {acc:List (List Nat×List Nat)} {K:FS→Prop} {tm:List (Nat×PV)} {ob:List (Nat×Option (Gen×VObj))} {ng:Nat}
 {d:Option Tmp} {ty:TypeId} {pos:String} {after:Array Edge} {gd:Option (Nat×Bool)} {T:TypeId} {x y:Operand} {E kk by_:Nat} {z:List PV} {t:Nat} {g:Gen} {els new:List (List PV)}
theorem Zta [Sl P T E kk by_ z] (hw:Zb ops (mkS tm ob ng) ⟨d,.call ⟨.builtin .len,#[x],#[T]⟩,ty,pos,after,gd⟩=some true) (hx:Zna (Zg ob) (evL tm x)=some els)
  (k:GoL P ops draw (i+1) L (acc ++ [(Zr (mkS tm ob ng) ⟨d,.call ⟨.builtin .len,#[x],#[T]⟩,ty,pos,after,gd⟩,[])]) (mkS (Zau d (.int .i64 (els.length:Int)) tm) ob ng) K):GoL P ops draw i (⟨d,.call ⟨.builtin .len,#[x],#[T]⟩,ty,pos,after,gd⟩::L) acc (mkS tm ob ng) K:=by
 obtain ⟨s,b,zz,te,q1,q2,q3,_,_,_,_⟩:=Za7 (P:=P) (T:=T) (E:=E) (k:=kk) (by_:=by_) (z:=z)
 refine ZbR (Zqz hw rfl q1 (by rw [ZB];exact hx)) ?_
 rw [Zac]
 exact k
theorem Zd9 {E':Nat} {kd:IntKind} {n:Nat} [Sl P T E kk by_ z] (hw:Zb ops (mkS tm ob ng) ⟨d,.indexAddr T x y,ty,pos,after,gd⟩=some true) (hx:evL tm x = .row t g) (hb:ZG (Zg ob) t g=some (.prow E' kk els)) (hy:evL tm y = .int kd (n:Int)) (hn:n<els.length)
  (k:GoL P ops draw (i+1) L (acc ++ [(Zr (mkS tm ob ng) ⟨d,.indexAddr T x y,ty,pos,after,gd⟩,[])]) (mkS (Zau d (.elp t g n kk 0) tm) ob ng) K):GoL P ops draw i (⟨d,.indexAddr T x y,ty,pos,after,gd⟩::L) acc (mkS tm ob ng) K:=by
 obtain ⟨s,b,zz,te,q1,q2,q3,_,_,_,_⟩:=Za7 (P:=P) (T:=T) (E:=E) (k:=kk) (by_:=by_) (z:=z)
 refine ZbR (ZnH hw rfl q1 q2 (by rw [ZB];exact hx) (by rw [ZB,hy];exact ZbP) hb hn q3.symm) ?_
 rw [Zac]
 exact k
theorem Zcq {agg:Bool} {n q off:Nat} {e:List PV} {v:PV} [Ld P T agg n] (hw:Zb ops (mkS tm ob ng) ⟨d,.load T x,ty,pos,after,gd⟩=some true) (hx:evL tm x = .elp t g q kk off) (hb:ZG (Zg ob) t g=some (.prow E kk els)) (he:els[q]? = some e) (hv:ZlI agg n (e.drop off)=some v)
  (k:GoL P ops draw (i+1) L (acc ++ [(Zr (mkS tm ob ng) ⟨d,.load T x,ty,pos,after,gd⟩,[])]) (mkS (Zau d v tm) ob ng) K):GoL P ops draw i (⟨d,.load T x,ty,pos,after,gd⟩::L) acc (mkS tm ob ng) K:=by
 obtain ⟨ti,ht,h1,h2⟩:=Zi3 (P:=P) (T:=T) (agg:=agg) (n:=n)
 refine ZbR (Zo7 hw rfl ht (by rw [ZB];exact hx) hb he (by rw [Zps h1 h2];exact hv)) ?_
 rw [Zac]
 exact k
theorem Zid {agg:Bool} {n q off:Nat} {e ps:List PV} {p:PV} [Ld P T agg n] (hw:Zb ops (mkS tm ob ng) ⟨d,.store T x y,ty,pos,after,gd⟩=some true) (hx:evL tm x = .elp t g q kk off) (hb:ZG (Zg ob) t g=some (.prow E kk els)) (he:els[q]? = some e) (hy:evL tm y=p) (hps:p.cells=ps) (hl:ps.length=n)
  (hz:ps.all PV.cell=true) (hf:off+n≤kk) {els':List (List PV)} (hs:els.set q (Zaa e off ps)=els')
  (k:GoL P ops draw (i+1) L (acc ++ [(Zr (mkS tm ob ng) ⟨d,.store T x y,ty,pos,after,gd⟩,[t])]) (mkS (Zau d .un tm) ((t,some (g,.prow E kk els'))::ob) ng) K):GoL P ops draw i (⟨d,.store T x y,ty,pos,after,gd⟩::L) acc (mkS tm ob ng) K:=by
 obtain ⟨ti,ht,h1,h2⟩:=Zi3 (P:=P) (T:=T) (agg:=agg) (n:=n)
 subst hs hps
 refine ZbR (ZnI hw rfl ht (by rw [ZB];exact hy) (by rw [h2];exact hl) (by rw [ZB];exact hx) hz hb he (by rw [h2];exact hf)) ?_
 rw [Zac]
 exact k
theorem ZiS {dd:Nat} [Sl P T E kk by_ z] (hw:Zb ops (mkS tm ob ng) ⟨some dd,.call ⟨.builtin .append,#[x,y],#[T,T]⟩,ty,pos,after,gd⟩=some true) (hx:evL tm x = .row t g) (hb:ZG (Zg ob) t g=some (.prow E kk els)) (hy:Zna (Zg ob) (evL tm y)=some new)
  (h1:(els.length+new.length) * by_≤140737488355328) (h2:els.length+new.length≤9223372036854775807) (h3:∀ e ∈ new,e.length=kk)
  (k:GoL P ops draw (i+1) L (acc ++ [(Zr (mkS tm ob ng) ⟨some dd,.call ⟨.builtin .append,#[x,y],#[T,T]⟩,ty,pos,after,gd⟩,[t])]) (mkS ((dd,.row t (ng,i))::tm) ((t,some ((ng,i),.prow E kk (els++new)))::ob) ng) K) :
  GoL P ops draw i (⟨some dd,.call ⟨.builtin .append,#[x,y],#[T,T]⟩,ty,pos,after,gd⟩::L) acc (mkS tm ob ng) K:=by
 obtain ⟨s,b,zz,te,q1,q2,q3,q4,q5,q6,q7⟩:=Za7 (P:=P) (T:=T) (E:=E) (k:=kk) (by_:=by_) (z:=z)
 refine ZbR (Zmr hw rfl q1 q2 (by rw [ZB];exact hx) hb (by rw [ZB];exact hy) q3.symm (by rw [q4];exact h1) h2 (by rw [q3];exact q6) (by rw [q5,q3];exact q7) (fun e he=>by rw [q3];exact h3 e he)) ?_
 rw [Zac]
 exact k
theorem ZqA {w:Operand} {kd:IntKind} {n:Nat} {els':List (List PV)} [Sl P T E kk by_ z] (hw:Zb ops (mkS tm ob ng) ⟨d,.slice T x none (some w) none,ty,pos,after,gd⟩=some true) (hx:evL tm x = .row t g) (hb:ZG (Zg ob) t g=some (.prow E kk els)) (hy:evL tm w = .int kd (n:Int)) (hn:n≤els.length) (hs:els.take n=els')
  (k:GoL P ops draw (i+1) L (acc ++ [(Zr (mkS tm ob ng) ⟨d,.slice T x none (some w) none,ty,pos,after,gd⟩,[t])]) (mkS (Zau d (.row t (ng,i)) tm) ((t,some ((ng,i),.prow E kk els'))::ob) ng) K):GoL P ops draw i (⟨d,.slice T x none (some w) none,ty,pos,after,gd⟩::L) acc (mkS tm ob ng) K:=by
 obtain ⟨s,b,zz,te,q1,q2,q3,_,_,_,_⟩:=Za7 (P:=P) (T:=T) (E:=E) (k:=kk) (by_:=by_) (z:=z)
 subst hs
 refine ZbR (ZnJ hw rfl q1 q2 (by rw [ZB];exact hx) hb (by rw [ZB,hy];exact ZbP) hn) ?_
 rw [Zac]
 exact k
theorem Zie {dd n:Nat} {parts:Array (Nat×Operand)} {cs:List PV} [Sl P T E kk by_ z] (hw:Zb ops (mkS tm ob ng) ⟨some dd,.buildSlice T n parts,ty,pos,after,gd⟩=some true) (hf:ZdZ (fun i=>some (i * kk,kk)) (List.replicate n z).flatten (evs tm parts.toList)=some cs) (hz:cs.all PV.cell=true)
  (hl:cs.length=n * kk) (hm:n * kk≤16777216) {els':List (List PV)} (hs:chunks kk n cs=els')
  (k:GoL P ops draw (i+1) L (acc ++ [(Zr (mkS tm ob ng) ⟨some dd,.buildSlice T n parts,ty,pos,after,gd⟩,[dd])]) (mkS ((dd,.row dd (ng,i))::tm) ((dd,some ((ng,i),.prow E kk els'))::ob) ng) K):GoL P ops draw i (⟨some dd,.buildSlice T n parts,ty,pos,after,gd⟩::L) acc (mkS tm ob ng) K:=by
 obtain ⟨s,b,zz,te,q1,q2,q3,q4,q5,q6,_⟩:=Za7 (P:=P) (T:=T) (E:=E) (k:=kk) (by_:=by_) (z:=z)
 subst hs q3 q5
 refine ZbR (ZnK hw rfl rfl q1 q2 (by rw [ZB,ZlJ];exact hf) hz hl hm q6) ?_
 rw [Zac]
 exact k
end
end VL
end Go.Proofs.YtjblgpmagampbaaGreatDoor
namespace Go.Proofs.YtjblgpmagampbaaGreatDoor
namespace VL
open Go.RowKit
def ZqF (args:List PV) (j:Nat) (oc:List OC):FS:=⟨fun t=>args.getD t (.tup []),Zg ((j,some ((0,j),.box (ZaX κ0 ν0 0 oc)))::ZdO κ0 ν0 0 oc),1⟩
theorem Zhk {κ:Nat→Nat} {ν:Nat→Gen} {t:Nat} {g:Gen} {o:VObj}:∀ (l:List OC) (c0:Nat),Zg (ZdO κ ν c0 l) t=some (g,o)→∃ c E k sh els,l[c]? = some (OC.row E k sh els)∧t=κ (c0+c)∧g=ν (c0+c)∧o = .row E k sh els
 | [],c0,h=>by cases h
 | .pv p::r,c0,h=>by
   obtain ⟨c,E,k,sh,els,h1,h2,h3,h4⟩:=Zhk r (c0+1) h
   have e:c0+1+c=c0+(c+1):=by omega
   rw [e] at h2 h3
   exact ⟨c+1,E,k,sh,els,by simpa using h1,h2,h3,h4⟩
 | .row E k sh els::r,c0,h=>by
   change (if t=κ c0 then some (ν c0,VObj.row E k sh els) else Zg (ZdO κ ν (c0+1) r) t)=some (g,o) at h
   split at h
   ·rename_i e
    injection h with h
    injection h with e1 e2
    exact ⟨0,E,k,sh,els,rfl,e,e1.symm,e2.symm⟩
   ·obtain ⟨c,E,k,sh,els,h1,h2,h3,h4⟩:=Zhk r (c0+1) h
    have e:c0+1+c=c0+(c+1):=by omega
    rw [e] at h2 h3
    exact ⟨c+1,E,k,sh,els,by simpa using h1,h2,h3,h4⟩
theorem Zig {args:List PV} {j:Nat} {oc:List OC} {t:Nat} {g:Gen} {o:VObj} (h:(ZqF args j oc).ob t=some (g,o)):(t=j∧g=(0,j)∧o = .box (ZaX κ0 ν0 0 oc))∨∃ c E k sh els,oc[c]? = some (OC.row E k sh els)∧t=1000+c∧g=ν0 c∧o = .row E k sh els:=by
 change (if t=j then some ((0,j),VObj.box (ZaX κ0 ν0 0 oc)) else Zg (ZdO κ0 ν0 0 oc) t)=some (g,o) at h
 split at h
 ·rename_i e
  injection h with h
  injection h with e1 e2
  exact .inl ⟨e,e1.symm,e2.symm⟩
 ·obtain ⟨c,E,k,sh,els,h1,h2,h3,h4⟩:=Zhk oc 0 h
  rw [Nat.zero_add] at h2 h3
  exact .inr ⟨c,E,k,sh,els,h1,h2,h3,h4⟩
section
variable {P:Program} [WInv P]
theorem ZhK (hmix:P.follows .mixedOrders=true) {f:FuncId} {fn:Func} {c:Code} {args:List PV} {j:Nat} {oc oc':List OC} {e:Ex} {s1:FS} {ps cs:List PV} {oq:List (Nat×Gen×OC)} {res:PV}
  (hg:isGo P f=true) (hf:P.funcs[f]? = some fn) (hb:fn.body=some c) (hn:args.length≤fn.ntmps) (hok:Zaz fn.ntmps c=true) (hj:j<1000) (hrun:RunC P c (ZqF args j oc) e s1) (he:e = .normal∨e = .ret)
  (hres:ZbX P s1 fn.results.toList=some ps) (hps:ZbY ps=res) (hdry:res.dry=true) (hob:s1.ob j=some ((0,j),.box cs)) (hoq:Zp6 s1.ob cs=some oq) (hk:okK j oq=true) (hoc:oq.map (·.2.2)=oc'):ContractP P f args j oc res oc':=by
 subst hoc hps
 refine ⟨hg,hdry,fun x vs hpre hinv=>?_⟩
 let r:Run:=⟨x.W,Dp x (0,j) ν0 oc,(vs++Array.replicate (fn.ntmps - vs.size) undef).size,x.F,x.G,x.ρ,WInv.I P⟩
 have hNr:r.N=fn.ntmps:=by
  have:=hpre.size
  simp [r]
  omega
 have hX:RstX r (fun _=>False) (ZqF args j oc) { tmps:=vs++Array.replicate (fn.ntmps - vs.size) undef,defers:=[] } x:=by
  refine ⟨rfl,rfl,Gr.refl _ _,fun g hg=>?_,fun t=>?_,fun t g o ho=>?_,fun t t' g g' o o' b hne h1 h2 hb1 hb2=>?_,hpre.flt,fun _ _ h=>h,fun _ _ h=>.inl h,fun _ h=>⟨h,rfl⟩,⟨hinv,hpre.gen⟩,fun _ _ _ _ h=>h⟩
  ·rw [hpre.gen g hg]
   exact .inl Nat.zero_lt_one
  ·show Rep x (args.getD t (.tup [])) _
   rw [Array.getD_eq_getD_getElem?,Array.getElem?_append,List.getD_eq_getElem?_getD]
   by_cases ht:t<vs.size
   ·rw [if_pos ht,List.getElem?_eq_getElem (by rw [hpre.size];exact ht),Array.getElem?_eq_getElem ht]
    exact hpre.rep t _ _ (List.getElem?_eq_getElem (by rw [hpre.size];exact ht)) (Array.getElem?_eq_getElem ht)
   ·rw [if_neg ht,List.getElem?_eq_none (by rw [hpre.size];omega)]
    have:(Array.replicate (fn.ntmps - vs.size) undef)[t - vs.size]?.getD undef=undef:=by
     rw [Array.getElem?_replicate]
     split<;>rfl
    rw [this]
    exact .tup [] #[] rfl (fun i p v hp=>by simp at hp)
  ·rcases Zig ho with ⟨rfl,rfl,rfl⟩ | ⟨c,E,k,sh,els,h1,rfl,rfl,rfl⟩
   ·exact hpre.ob.box
   ·exact hpre.ob.row c E k sh els h1
  ·rcases Zig h1 with ⟨rfl,rfl,rfl⟩ | ⟨c,E,k,sh,els,q1,rfl,rfl,rfl⟩
   ·rcases Zig h2 with ⟨e,_⟩ | ⟨c',E',k',sh',els',w1,rfl,rfl,rfl⟩
    ·exact hne e.symm
    ·exact hpre.ob.apB c' E' k' sh' els' b w1 hb1 hb2
   ·rcases Zig h2 with ⟨rfl,rfl,rfl⟩ | ⟨c',E',k',sh',els',w1,rfl,rfl,rfl⟩
    ·exact hpre.ob.apB c E k sh els b q1 hb2 hb1
    ·exact hpre.ob.apR c c' E k sh els E' k' sh' els' b (fun e=>hne (by rw [e])) q1 w1 hb1 hb2
 refine calls_of_wp hf hb ?_
 refine (Zdu hmix hrun).1 r _ x _ ⟨rfl,by rw [hNr];exact hok⟩ hX fun a' y hY=>?_
 obtain ⟨ws,h1,h2,h3⟩:=Zbs hY fn.results.toList hres
 have hstep:Step x y:=⟨fun g hg=>hY.rho g hg,fun b o hb=>hY.f0 b o hb,fun b o v hb hv=>hY.keep b o v hb hv⟩
 obtain ⟨q1,q2,q3⟩:=ZlV hoq
 obtain ⟨q4,q5⟩:=Znb hk
 have hO:ORep y x.W.heap.size (Dp x (0,j) ν0 oc) (0,j) (oqκ oq) (oqν oq) (oq.map (·.2.2)):=by
  refine ⟨?_,fun c E k sh els h=>hY.ob _ _ _ (q2 c E k sh els h),fun c E k sh els b h hb1 hb2=>?_,fun c c' E k sh els E' k' sh' els' b hne h h' hb1 hb2=>?_,q3⟩
  ·rw [← q1]
   exact hY.ob j _ _ hob
  ·exact hY.apart j (oqκ oq c) (0,j) (oqν oq c) _ _ b (fun e=>q4 c E k sh els h e.symm) hob (q2 c E k sh els h) hb1 hb2
  ·exact hY.apart (oqκ oq c) (oqκ oq c') (oqν oq c) (oqν oq c') _ _ b (q5 c c' E k sh els E' k' sh' els' hne h h') (q2 c E k sh els h) (q2 c' E' k' sh' els' h') hb1 hb2
 have hend:(results fn a'.tmps).run P y.W = .ok (if ws.length=1 then ws.getD 0 undef else .tuple ws.toArray) y.W:=by
  have:(fn.results.mapM (Zmn a')).run P y.W = .ok ws.toArray y.W:=by
   rw [Array.mapM_eq_mapM_toList,map_eq_pure_bind,Sem.run_bind,h1]
   rfl
  have e:results fn a'.tmps=(fn.results.mapM (Zmn a') >>= fun vs=>pure (if h:vs.size=1 then vs[0] else .tuple vs)):=by
   unfold results
   congr 1
  rw [e,Sem.run_bind,this]
  simp only [Result.andThen_ok,Sem.run_pure]
  congr 1
  by_cases hl:ws.length=1
  ·simp [hl]
  ·simp [hl]
 have hfin:∃ v,(results fn a'.tmps).run P y.W = .ok v y.W∧(fun e W'=>∃ y v,y.W=W'∧e=Ending.returned v∧PostP x y j oc (ZbY ps) (oq.map (·.2.2)) v) (Ending.returned v) y.W:=by
  refine ⟨_,hend,y,_,rfl,rfl,hstep,hY.gr,hY.fnew,hY.flt,?_,_,_,hO⟩
  have hlq:ps.length=ws.length:=h2.symm
  unfold ZbY
  split
  ·rename_i p
   rw [if_pos (by simpa using hlq.symm)]
   exact h3 0 p rfl
  ·rename_i hne
   have hn1:¬ ws.length=1:=fun h=>by
    rw [h] at hlq
    match ps,hlq with
    | [q],_=>exact hne q rfl
   rw [if_neg hn1]
   refine .tup ps ws.toArray (by simpa using hlq) fun j q v hq hv=>?_
   have:=h3 j q hq
   have hv':ws[j]? = some v:=by simpa using hv
   rw [List.getD_eq_getElem?_getD,hv'] at this
   exact this
 rcases he with rfl | rfl
 ·exact ⟨hY.defers,hfin⟩
 ·exact ⟨hY.defers,hfin⟩
def Zte (P:Program) (rs:List ResultVar) (res:PV) (j:Nat) (oc':List OC):Ex→FS→Prop
 | .exit _,_=>False
 | _,s=>∃ ps cs oq,ZbX P s rs=some ps∧ZbY ps=res∧s.ob j=some ((0,j),.box cs)∧Zp6 s.ob cs=some oq∧okK j oq=true∧oq.map (·.2.2)=oc'
omit [WInv P] in
theorem Zru {s:FS} {rs:List ResultVar} {res:PV} {j:Nat} {oc':List OC} {ps cs:List PV} {oq:List (Nat×Gen×OC)} (h1:ZbX P s rs=some ps) (h2:ZbY ps=res) (h3:s.ob j=some ((0,j),.box cs)) (h4:Zp6 s.ob cs=some oq) (h5:okK j oq=true) (h6:oq.map (·.2.2)=oc'):Zte P rs res j oc' .ret s:=⟨ps,cs,oq,h1,h2,h3,h4,h5,h6⟩
theorem Zjv (hmix:P.follows .mixedOrders=true) {f:FuncId} {fn:Func} {c:Code} {args:List PV} {j:Nat} {oc:List OC} {R:PV→List OC→Prop} (hf:P.funcs[f]? = some fn) (hg:isGo P f=true) (hb:fn.body=some c) (hok:(decide (args.length≤fn.ntmps)&&Zaz fn.ntmps c&&decide (j<1000))=true)
  (h:PWs P [c] (fun e s=>∃ res oc',(R res oc'∧res.dry=true)∧Zte P fn.results.toList res j oc' e s) (mkS (ZcP 0 args) ((j,some ((0,j),.box (ZaX κ0 ν0 0 oc)))::ZdO κ0 ν0 0 oc) 1)):∃ res oc',R res oc'∧ContractP P f args j oc res oc':=by
 simp only [Bool.and_eq_true,decide_eq_true_eq] at hok
 obtain ⟨e,s',h1,res,oc',⟨hR,hd⟩,h2⟩:=ZbI h
 have hsh:Shift (ZqF args j oc) (mkS (ZcP 0 args) ((j,some ((0,j),.box (ZaX κ0 ν0 0 oc)))::ZdO κ0 ν0 0 oc) 1):=ZcO (fun t=>by
  rcases Zce args 0 t with h | ⟨_,h⟩
  ·exact .inl h
  ·exact .inr h) (fun t=>.inr rfl) (Nat.le_refl _)
 refine ⟨res,oc',hR,?_⟩
 cases e with
 | exit id=>exact h2.elim
 | normal=>
   obtain ⟨ps,cs,oq,q1,q2,q3,q4,q5,q6⟩:=h2
   exact ZhK hmix hg hf hb hok.1.1 hok.1.2 hok.2 (.shift hsh h1) (.inl rfl) q1 q2 hd q3 q4 q5 q6
 | ret=>
   obtain ⟨ps,cs,oq,q1,q2,q3,q4,q5,q6⟩:=h2
   exact ZhK hmix hg hf hb hok.1.1 hok.1.2 hok.2 (.shift hsh h1) (.inr rfl) q1 q2 hd q3 q4 q5 q6
theorem ZkE (hmix:P.follows .mixedOrders=true) {f:FuncId} {fn:Func} {c:Code} {args:List PV} {j:Nat} {oc oc':List OC} {res:PV} (hf:P.funcs[f]? = some fn) (hg:isGo P f=true) (hb:fn.body=some c) (hok:(decide (args.length≤fn.ntmps)&&Zaz fn.ntmps c&&decide (j<1000))=true) (hd:res.dry=true)
  (h:PWs P [c] (Zte P fn.results.toList res j oc') (mkS (ZcP 0 args) ((j,some ((0,j),.box (ZaX κ0 ν0 0 oc)))::ZdO κ0 ν0 0 oc) 1)):ContractP P f args j oc res oc':=by
 obtain ⟨res2,oc2,⟨rfl,rfl⟩,hc⟩:=Zjv (R:=fun r o=>r=res∧o=oc') hmix hf hg hb hok (by
  obtain ⟨e,s',h1,h2⟩:=ZbI h
  refine ZrQ h1 ?_
  exact ⟨res,oc',⟨⟨rfl,rfl⟩,hd⟩,h2⟩)
 exact hc
end
end VL
end Go.Proofs.YtjblgpmagampbaaGreatDoor
namespace Go.Proofs.YtjblgpmagampbaaGreatDoor
namespace VL
open Go.RowKit
section
variable {P:Program} [WInv P] {ops:Array Oper} {draw:Bool} {i:Nat} {L:List Oper} {acc:List (List Nat×List Nat)} {K:FS→Prop} {tm:List (Nat×PV)} {ob:List (Nat×Option (Gen×VObj))} {ng:Nat}
 {d:Option Tmp} {ty T T':TypeId} {pos:String} {after:Array Edge} {gd:Option (Nat×Bool)} {x y:Operand}
theorem ZrD (hw:Zb ops (mkS tm ob ng) ⟨d,.nilCheck x,ty,pos,after,gd⟩=some true) {cs:List PV} (hv:evL tm x = .cel cs)
  (k:GoL P ops draw (i+1) L (acc ++ [(Zr (mkS tm ob ng) ⟨d,.nilCheck x,ty,pos,after,gd⟩,[])]) (mkS (Zau d (.cel cs) tm) ob ng) K):GoL P ops draw i (⟨d,.nilCheck x,ty,pos,after,gd⟩::L) acc (mkS tm ob ng) K:=
 Zby (us:=[]) hw (.fn (by simp only [act,ZB,hv])) k
theorem ZmE {len kk:Nat} [h:Ar P T len kk] (hw:Zb ops (mkS tm ob ng) ⟨d,.indexAddr T x y,ty,pos,after,gd⟩=some true) {cs:List PV} {kd:IntKind} {n:Nat} (hx:evL tm x = .cel cs) (hy:evL tm y = .int kd (n:Int)) (hn:n<len)
  (k:GoL P ops draw (i+1) L (acc ++ [(Zr (mkS tm ob ng) ⟨d,.indexAddr T x y,ty,pos,after,gd⟩,[])]) (mkS (Zau d (.cel (cs.drop (n * kk))) tm) ob ng) K):GoL P ops draw i (⟨d,.indexAddr T x y,ty,pos,after,gd⟩::L) acc (mkS tm ob ng) K:=by
 refine Zby (us:=[]) hw (.fn ?_) k
 have:=h.eq
 unfold arI at this
 split at this
 ·rename_i len' E' s b zz ht
  cases hte:tyI P E' with
  | none=>rw [hte] at this;cases this
  | some te=>
    rw [hte] at this
    simp only [Option.map_some,Option.some.injEq,Prod.mk.injEq] at this
    obtain ⟨rfl,h2⟩:=this
    simp only [act,ht,ZB,hx,hy,ZbP,hte,if_pos hn,h2]
 ·cases this
end
theorem Zhu {cs xs:List PV} (h:cs.length=xs.length):Zaa cs 0 xs=xs:=by
 unfold Zaa
 rw [List.take_zero,List.nil_append,Nat.zero_add,← h,List.drop_length,List.append_nil]
theorem Zl0 (f:Nat→Option (Gen×VObj)):∀ (l:List Bool),Ze2 (Zmd f) (l.map PV.bool)=some (l.map PV.bool)
 | []=>rfl
 | b::l=>by
   have:=Zl0 f l
   simp only [List.map_cons,Ze2,Zmd,this]
end VL
end Go.Proofs.YtjblgpmagampbaaGreatDoor

namespace Go.Proofs.YtjblgpmagampbaaGreatDoor
namespace VL
open Go.RowKit
def Zck:Nat:=4611686018427387904
def atI {α:Type} (l:List α) (i:Int):Option α:=if 0≤i then l[i.toNat]? else none
def atS (s:ByteArray) (i:Int):Option Int:=if 0≤i then (s[i.toNat]?).map fun c=>(c.toNat:Int) else none
def Zjm {α:Type} (l:List α) (lo hi:Int):Option (List α):=if 0≤lo∧lo≤hi∧hi≤(l.length:Int) then some ((l.drop lo.toNat).take (hi.toNat - lo.toNat)) else none
def ZhC (s:ByteArray) (lo hi:Int):Option ByteArray:=if 0≤lo∧lo≤hi∧hi≤(s.size:Int) then some (s.extract lo.toNat hi.toNat) else none
def ZfA {α:Type} (w:Nat) (a b:List α):Option (List α):=if (a.length+b.length) * w≤140737488355328∧a.length+b.length≤9223372036854775807 then some (a++b) else none
def Zp3 (a b:ByteArray):Option ByteArray:=if a.size+b.size≤9223372036854775807 then some (a++b) else none
def ZdH {α:Type} (l:List α) (i:Int) (x:α):List α:=l.set i.toNat x
def ZsA (_:IntKind) (a b:Int):Option Int:=if b=0 then none else some (Int.tmod a b)
def ltS (a b:ByteArray):Bool:=Op.bytesLess a.toList b.toList
abbrev w64 (n:Int):Int:=IntKind.wrap .i64 n
abbrev csS (y:ByteArray):List PV:=[.str y]
abbrev csI (y:Int):List PV:=[.int .i64 y]
abbrev csB (y:Int):List PV:=[.int .u8 y]
def letk {γ β:Type} (k:γ) (f:γ→Option β):Option β:=f k
def Zas {α β:Type}:Nat→((α→Option β)→α→Option β)→α→Option β
 | 0,_,_=>none
 | n+1,f,a=>f (Zas n f) a
theorem bnd {α β:Type} {x:Option α} {f:α→Option β} {r:β} (h:x.bind f=some r):∃ v,x=some v∧f v=some r:=by
 cases x with
 | none=>cases h
 | some v=>exact ⟨v,rfl,h⟩
theorem ifT {β:Type} {b:Bool} {x y:Option β} {r:β} (hb:b=true) (h:(if b=true then x else y)=some r):x=some r:=by rw [if_pos hb] at h;exact h
theorem ifF {β:Type} {b:Bool} {x y:Option β} {r:β} (hb:b=false) (h:(if b=true then x else y)=some r):y=some r:=by rw [if_neg (by rw [hb];simp)] at h;exact h
theorem Za6 {γ β:Type} {k:γ} {f:γ→Option β} {r:β} {p:Prop} (h:letk k f=some r) (g:∀ q,q=k→f q=some r→p):p:=g k rfl h
theorem Zu {α β:Type} {n:Nat} {f:(α→Option β)→α→Option β} {a:α} {r:β} {p:Prop} (h:Zas n f a=some r) (g:∀ q m,q=f→Zas m q a=some r→p):p:=g f n rfl h
theorem Zv {α β:Type} {n:Nat} {f q:(α→Option β)→α→Option β} {a:α} {r:β} (e:q=f) (h:Zas n q a=some r):∃ m,n=m+1∧f (Zas m q) a=some r:=by
 cases n with
 | zero=>cases h
 | succ m=>exact ⟨m,rfl,by rw [← e];exact h⟩
theorem Zql {α β:Type} {f:(α→Option β)→α→Option β} (J:α→Prop) (m:α→Nat) (spec:α→β) (h:∀ a rec,J a→(∀ a',J a'→m a'<m a→rec a'=some (spec a'))→f rec a=some (spec a)):∀ (n:Nat) (a:α),J a→m a<n→Zas n f a=some (spec a)
 | 0,_,_,hm=>absurd hm (Nat.not_lt_zero _)
 | n+1,a,ha,hm=>h a _ ha fun a' ha' hm'=>Zql J m spec h n a' ha' (by omega)
theorem ZoI {α β:Type} {f:(α→Option β)→α→Option β} (J:α→Prop) (m:α→Nat) (R:β→Prop) (h:∀ a rec,J a→(∀ a',J a'→m a'<m a→∃ b,rec a'=some b∧R b)→∃ b,f rec a=some b∧R b):∀ (n:Nat) (a:α),J a→m a<n→∃ b,Zas n f a=some b∧R b
 | 0,_,_,hm=>absurd hm (Nat.not_lt_zero _)
 | n+1,a,ha,hm=>h a _ ha fun a' ha' hm'=>ZoI J m R h n a' ha' (by omega)
theorem Zga {α:Type} {l:List α} {i:Int} {e:α} (h:atI l i=some e):0≤i∧l[i.toNat]? = some e:=by
 unfold atI at h
 split at h
 ·exact ⟨by assumption,h⟩
 ·cases h
theorem ZrU {α:Type} (l:List α) (n:Nat):atI l (n:Int)=l[n]?:=by
 unfold atI
 rw [if_pos (by omega)]
 rfl
theorem ZiC {α β:Type} {f:α→β} {l:List α} {n:Nat} {e:α} (h:l[n]? = some e):(l.map f)[n]? = some (f e):=by rw [List.getElem?_map,h];rfl
theorem Zb0 {α:Type} {w:Nat} {a b c:List α} (h:ZfA w a b=some c):(a.length+b.length) * w≤140737488355328∧a.length+b.length≤9223372036854775807∧c=a++b:=by
 unfold ZfA at h
 split at h
 ·injection h with h
  rename_i q
  exact ⟨q.1,q.2,h.symm⟩
 ·cases h
theorem Zkq {α:Type} {l m:List α} {lo hi:Int} (h:Zjm l lo hi=some m):0≤lo∧lo≤hi∧hi≤(l.length:Int)∧m=(l.drop lo.toNat).take (hi.toNat - lo.toNat):=by
 unfold Zjm at h
 split at h
 ·injection h with h
  rename_i q
  exact ⟨q.1,q.2.1,q.2.2,h.symm⟩
 ·cases h
theorem Zqm {l m:ByteArray} {lo hi:Int} (h:ZhC l lo hi=some m):0≤lo∧lo≤hi∧hi≤(l.size:Int)∧l.extract lo.toNat hi.toNat=m:=by
 unfold ZhC at h
 split at h
 ·injection h with h
  rename_i q
  exact ⟨q.1,q.2.1,q.2.2,h⟩
 ·cases h
theorem Zmj {α:Type} {f:α→List PV} {kk:Nat} (hf:∀ x,(f x).length=kk) (l:List α):((l.map f).all fun e=>e.length == kk)=true:=by simp [hf]
def loI (tm:List (Nat×PV)):Option Operand→Option Int
 | none=>some 0
 | some e=>match evL tm e with
   | .int _ n=>some n
   | _=>none
def hiI (tm:List (Nat×PV)) (n:Nat):Option Operand→Option Int
 | none=>some n
 | some e=>match evL tm e with
   | .int _ n=>some n
   | _=>none
theorem ZsU {tm:List (Nat×PV)} {lo:Option Operand} {l:Int} (h:loI tm lo=some l) (h0:0≤l):loV tm lo=some l.toNat:=by
 cases lo with
 | none=>injection h with h;subst h;rfl
 | some e=>
   simp only [loI] at h
   simp only [loV]
   split at h
   ·rename_i he
    injection h with h
    subst h
    rw [he]
    simp [toNat?,h0]
   ·cases h
theorem ZsV {tm:List (Nat×PV)} {hi:Option Operand} {n:Nat} {l:Int} (h:hiI tm n hi=some l) (h0:0≤l):hiV tm n hi=some l.toNat:=by
 cases hi with
 | none=>injection h with h;subst h;rfl
 | some e=>
   simp only [hiI] at h
   simp only [hiV]
   split at h
   ·rename_i he
    injection h with h
    subst h
    rw [he]
    simp [toNat?,h0]
   ·cases h
section
variable {P:Program} [WInv P] {ops:Array Oper} {draw:Bool} {i:Nat} {L:List Oper} {acc:List (List Nat×List Nat)} {K:FS→Prop} {tm:List (Nat×PV)} {ob:List (Nat×Option (Gen×VObj))} {ng:Nat}
 {d:Option Tmp} {ty T T':TypeId} {pos:String} {after:Array Edge} {gd:Option (Nat×Bool)} {x y:Operand} {α:Type} {f:α→List PV}
theorem ZsW (t:Nat) {b:Bool} (hx:look tm t = .bool b) (h1:b=true→GoL P ops draw i L acc (mkS ((t,.bool true)::tm) ob ng) K) (h2:b=false→GoL P ops draw i L acc (mkS ((t,.bool false)::tm) ob ng) K):GoL P ops draw i L acc (mkS tm ob ng) K:=by
 have e:mkS ((t,.bool b)::tm) ob ng=mkS tm ob ng:=by
  unfold mkS
  congr 1
  funext t'
  show (if t'=t then PV.bool b else look tm t')=look tm t'
  split
  ·rename_i h;rw [h,hx]
  ·rfl
 rw [← e]
 cases b
 ·exact h2 rfl
 ·exact h1 rfl
theorem ZsX {E kk by_:Nat} {z:List PV} [Sl P T E kk by_ z] (hw:Zb ops (mkS tm ob ng) ⟨d,.call ⟨.builtin .len,#[x],#[T]⟩,ty,pos,after,gd⟩=some true) {M:List α} (hx:Zgr (Zg ob) (evL tm x)=some (M.map f))
  (k:GoL P ops draw (i+1) L (acc ++ [(Zr (mkS tm ob ng) ⟨d,.call ⟨.builtin .len,#[x],#[T]⟩,ty,pos,after,gd⟩,[])]) (mkS (Zau d (.int .i64 (M.length:Int)) tm) ob ng) K):GoL P ops draw i (⟨d,.call ⟨.builtin .len,#[x],#[T]⟩,ty,pos,after,gd⟩::L) acc (mkS tm ob ng) K:=by
 refine ZgT (n:=M.length) hw ?_ k
 cases hp:evL tm x<;>rw [hp] at hx<;>simp only [Zgr] at hx<;>try (cases hx;done)
 ·injection hx with hx;simp only [Zp7,hx,List.length_map]
 ·injection hx with hx
  have:M.length=0:=by rw [← List.length_map (f:=f),← hx];rfl
  simp only [Zp7,this]
 ·simp only [Zp7]
  split at hx
  ·rename_i ho
   injection hx with hx
   rw [hx,List.length_map]
  ·cases hx
theorem Zqn {E kk by_:Nat} {z:List PV} [Sl P T E kk by_ z] (hw:Zb ops (mkS tm ob ng) ⟨d,.indexAddr T x y,ty,pos,after,gd⟩=some true) {M:List α} {e:α} {kd:IntKind} {q:Int} (he:atI M q=some e) (hx:evL tm x = .sl (M.map f)) (hy:evL tm y = .int kd q) (hl:(f e).length=kk)
  (k:GoL P ops draw (i+1) L (acc ++ [(Zr (mkS tm ob ng) ⟨d,.indexAddr T x y,ty,pos,after,gd⟩,[])]) (mkS (Zau d (.cel (f e)) tm) ob ng) K):GoL P ops draw i (⟨d,.indexAddr T x y,ty,pos,after,gd⟩::L) acc (mkS tm ob ng) K:=by
 obtain ⟨h0,h1⟩:=Zga he
 exact Zdx (n:=q.toNat) hw hx (by rw [hy];congr 1;omega) (ZiC h1) hl k
theorem Zw {E kk by_:Nat} {z:List PV} [Sl P T E kk by_ z] (hw:Zb ops (mkS tm ob ng) ⟨d,.indexAddr T x y,ty,pos,after,gd⟩=some true) {M:List α} {e:α} {kd:IntKind} {q:Int} {t:Nat} {g:Gen} {E':Nat} {sh:Bool} (he:atI M q=some e) (hx:evL tm x = .row t g) (hb:ZG (Zg ob) t g=some (.row E' kk sh (M.map f))) (hy:evL tm y = .int kd q)
  (k:GoL P ops draw (i+1) L (acc ++ [(Zr (mkS tm ob ng) ⟨d,.indexAddr T x y,ty,pos,after,gd⟩,[])]) (mkS (Zau d (.elp t g q.toNat kk 0) tm) ob ng) K):GoL P ops draw i (⟨d,.indexAddr T x y,ty,pos,after,gd⟩::L) acc (mkS tm ob ng) K:=by
 obtain ⟨h0,h1⟩:=Zga he
 exact Zaf (n:=q.toNat) hw hx hb (by rw [hy];congr 1;omega) (by rw [List.length_map];exact (List.getElem?_eq_some_iff.1 h1).1) k
theorem ZM {agg:Bool} {n:Nat} [h:Ld P T agg n] (hw:Zb ops (mkS tm ob ng) ⟨d,.load T x,ty,pos,after,gd⟩=some true) {M:List α} {e:α} {q:Int} {t:Nat} {g:Gen} {E kk off:Nat} {sh:Bool} {v:PV} (he:atI M q=some e) (hx:evL tm x = .elp t g q.toNat kk off) (hb:ZG (Zg ob) t g=some (.row E kk sh (M.map f))) (hv:ZlI agg n ((f e).drop off)=some v)
  (k:GoL P ops draw (i+1) L (acc ++ [(Zr (mkS tm ob ng) ⟨d,.load T x,ty,pos,after,gd⟩,[])]) (mkS (Zau d v tm) ob ng) K):GoL P ops draw i (⟨d,.load T x,ty,pos,after,gd⟩::L) acc (mkS tm ob ng) K:=by
 obtain ⟨h0,h1⟩:=Zga he
 refine ZA (cs:=(f e).drop off) hw ?_ hv k
 rw [hx]
 simp only [ZeD,hb,if_true,ZiC h1,Option.map_some]
theorem Zbb {agg:Bool} {n:Nat} [Ld P T agg n] (hw:Zb ops (mkS tm ob ng) ⟨d,.store T x y,ty,pos,after,gd⟩=some true) {M:List α} {e e':α} {q:Int} {t:Nat} {g:Gen} {E kk off:Nat} {p:PV} {ps qs:List PV} {us:List (Nat×Option (Gen×VObj))} (he:atI M q=some e) (hx:evL tm x = .elp t g q.toNat kk off)
  (hb:ZG (Zg ob) t g=some (.row E kk false (M.map f))) (hy:evL tm y=p) (hps:p.cells=ps) (hl:ps.length=n) (hr:Zdy (Zg ob) ps=some (qs,us)) (hf:off+n≤kk) (hus:us.all (fun q=>q.1 != t)=true) (hs:Zaa (f e) off qs=f e')
  (k:GoL P ops draw (i+1) L (acc ++ [(Zr (mkS tm ob ng) ⟨d,.store T x y,ty,pos,after,gd⟩,us.map (·.1) ++ [t])]) (mkS (Zau d .un tm) ((t,some (g,VObj.row E kk false ((ZdH M q e').map f)))::(us.reverse++ob)) ng) K) :
  GoL P ops draw i (⟨d,.store T x y,ty,pos,after,gd⟩::L) acc (mkS tm ob ng) K:=by
 obtain ⟨h0,h1⟩:=Zga he
 refine Zi4 hw hx hb (ZiC h1) hy hps hl hr hf hus ?_
 rw [hs,show (M.map f).set q.toNat (f e')=(ZdH M q e').map f from (List.map_set ..).symm]
 simpa using k
theorem Zqo {E kk by_:Nat} {z:List PV} [Sl P T E kk by_ z] {lo hi:Option Operand} (hw:Zb ops (mkS tm ob ng) ⟨d,.slice T x lo hi none,ty,pos,after,gd⟩=some true) {M R:List α} {l h:Int} {us:List (Nat×Option (Gen×VObj))} (hs:Zjm M l h=some R) (hf:∀ x,(f x).length=kk)
  (hx:Zgr (Zg ob) (evL tm x)=some (M.map f)) (hlo:loI tm lo=some l) (hhi:hiI tm M.length hi=some h) (hus:Zp8 (Zg ob) (evL tm x)=us)
  (k:GoL P ops draw (i+1) L (acc ++ [(Zr (mkS tm ob ng) ⟨d,.slice T x lo hi none,ty,pos,after,gd⟩,us.map (·.1))]) (mkS (Zau d (.sl (R.map f)) tm) (us.reverse++ob) ng) K):GoL P ops draw i (⟨d,.slice T x lo hi none,ty,pos,after,gd⟩::L) acc (mkS tm ob ng) K:=by
 obtain ⟨h0,h1,h2,rfl⟩:=Zkq hs
 refine Zsg (l:=l.toNat) (h:=h.toNat) hw hx (ZsU hlo h0) (by rw [List.length_map];exact ZsV hhi (by omega)) (by omega) (by rw [List.length_map];omega) (Zmj hf M) hus ?_ k
 rw [List.map_take,List.map_drop]
theorem Zli (hT:P.underlying T=some .string) {lo hi:Option Operand} (hw:Zb ops (mkS tm ob ng) ⟨d,.slice T x lo hi none,ty,pos,after,gd⟩=some true) {a b:ByteArray} {l h:Int} (hs:ZhC a l h=some b) (hx:evL tm x = .str a) (hlo:loI tm lo=some l) (hhi:hiI tm a.size hi=some h)
  (k:GoL P ops draw (i+1) L (acc ++ [(Zr (mkS tm ob ng) ⟨d,.slice T x lo hi none,ty,pos,after,gd⟩,[])]) (mkS (Zau d (.str b) tm) ob ng) K):GoL P ops draw i (⟨d,.slice T x lo hi none,ty,pos,after,gd⟩::L) acc (mkS tm ob ng) K:=by
 obtain ⟨h0,h1,h2,h3⟩:=Zqm hs
 exact Zkl hT hw hx (ZsU hlo h0) (ZsV hhi (by omega)) (by omega) (by omega) h3 k
theorem ZoJ (hT:P.underlying T=some .string) (hw:Zb ops (mkS tm ob ng) ⟨d,.index T x y,ty,pos,after,gd⟩=some true) {a:ByteArray} {kd:IntKind} {q c:Int} (hn:atS a q=some c) (hx:evL tm x = .str a) (hy:evL tm y = .int kd q)
  (k:GoL P ops draw (i+1) L (acc ++ [(Zr (mkS tm ob ng) ⟨d,.index T x y,ty,pos,after,gd⟩,[])]) (mkS (Zau d (.int .u8 c) tm) ob ng) K):GoL P ops draw i (⟨d,.index T x y,ty,pos,after,gd⟩::L) acc (mkS tm ob ng) K:=by
 unfold atS at hn
 split at hn
 ·cases hc:a[q.toNat]? with
  | none=>rw [hc] at hn;cases hn
  | some b=>
    rw [hc] at hn
    injection hn with hn
    subst hn
    exact Zkk hT hw hx (n:=q.toNat) (by rw [hy];congr 1;omega) hc k
 ·cases hn
theorem ZmS (hw:Zb ops (mkS tm ob ng) ⟨d,.binOp .add T x y T',ty,pos,after,gd⟩=some true) {a b c:ByteArray} (hs:Zp3 a b=some c) (hx:evL tm x = .str a) (hy:evL tm y = .str b)
  (kk:GoL P ops draw (i+1) L (acc ++ [(Zr (mkS tm ob ng) ⟨d,.binOp .add T x y T',ty,pos,after,gd⟩,[])]) (mkS (Zau d (.str c) tm) ob ng) K):GoL P ops draw i (⟨d,.binOp .add T x y T',ty,pos,after,gd⟩::L) acc (mkS tm ob ng) K:=by
 unfold Zp3 at hs
 split at hs
 ·injection hs with hs
  subst hs
  exact Ztw hw hx hy (by assumption) kk
 ·cases hs
theorem ZsY {dd:Nat} {E kk by_:Nat} {z:List PV} [Sl P T E kk by_ z] (hw:Zb ops (mkS tm ob ng) ⟨some dd,.call ⟨.builtin .append,#[x,y],#[T,T]⟩,ty,pos,after,gd⟩=some true) {M R:List α} (hs:ZfA by_ [] M=some R) (hf:∀ x,(f x).length=kk) {new:List (List PV)} (hx:evL tm x = .nil) (hy:Zgr (Zg ob) (evL tm y)=some new) (hm:new=M.map f)
  (k:GoL P ops draw (i+1) L (acc ++ [(Zr (mkS tm ob ng) ⟨some dd,.call ⟨.builtin .append,#[x,y],#[T,T]⟩,ty,pos,after,gd⟩,[dd])]) (mkS ((dd,.row dd (ng,i))::tm) ((dd,some ((ng,i),.row E kk false (R.map f)))::ob) ng) K) :
  GoL P ops draw i (⟨some dd,.call ⟨.builtin .append,#[x,y],#[T,T]⟩,ty,pos,after,gd⟩::L) acc (mkS tm ob ng) K:=by
 subst hm
 obtain ⟨h1,h2,rfl⟩:=Zb0 hs
 exact ZlK hw hx hy (by simpa using h1) (by simpa using h2) (Zmj hf _) k
theorem ZsZ {dd:Nat} {E kk by_:Nat} {z:List PV} [Sl P T E kk by_ z] (hw:Zb ops (mkS tm ob ng) ⟨some dd,.call ⟨.builtin .append,#[x,y],#[T,T]⟩,ty,pos,after,gd⟩=some true) {M0 M R:List α} (hs:ZfA by_ M0 M=some R) (hf:∀ x,(f x).length=kk) {t:Nat} {g:Gen} {sh:Bool} {new:List (List PV)} (hx:evL tm x = .row t g) (ho:ZG (Zg ob) t g=some (.row E kk sh (M0.map f))) (hy:Zgr (Zg ob) (evL tm y)=some new) (hm:new=M.map f)
  (k:GoL P ops draw (i+1) L (acc ++ [(Zr (mkS tm ob ng) ⟨some dd,.call ⟨.builtin .append,#[x,y],#[T,T]⟩,ty,pos,after,gd⟩,[t])]) (mkS ((dd,.row t (ng,i))::tm) ((t,some ((ng,i),.row E kk sh (R.map f)))::ob) ng) K) :
  GoL P ops draw i (⟨some dd,.call ⟨.builtin .append,#[x,y],#[T,T]⟩,ty,pos,after,gd⟩::L) acc (mkS tm ob ng) K:=by
 subst hm
 obtain ⟨h1,h2,rfl⟩:=Zb0 hs
 exact Za2 hw hx ho hy (by simpa using h1) (by simpa using h2) (Zmj hf M) (by rw [← List.map_append];exact k)
theorem ZrV {len:Nat} [h:Ix P T len] (hw:Zb ops (mkS tm ob ng) ⟨d,.index T x y,ty,pos,after,gd⟩=some true) {p:α→PV} {M:List α} {e:α} {cs:List PV} {vs:List Value} {kd:IntKind} {q:Int} (he:atI M q=some e)
  (hx:evL tm x = .agg cs) (hm:cs=M.map p) (hps:Zbi cs=some vs) (hy:evL tm y = .int kd q) (hl:cs.length=len)
  (k:GoL P ops draw (i+1) L (acc ++ [(Zr (mkS tm ob ng) ⟨d,.index T x y,ty,pos,after,gd⟩,[])]) (mkS (Zau d (p e) tm) ob ng) K):GoL P ops draw i (⟨d,.index T x y,ty,pos,after,gd⟩::L) acc (mkS tm ob ng) K:=by
 obtain ⟨h0,h1⟩:=Zga he
 exact ZtQ (n:=q.toNat) hw hx hps (by rw [hy];congr 1;omega) hl (by rw [hm];exact ZiC h1) k
theorem Zrk (hw:Zb ops (mkS tm ob ng) ⟨d,.binOp .rem T x y T',ty,pos,after,gd⟩=some true) {k:IntKind} {a b c:Int} (hs:ZsA k a b=some c) (hx:evL tm x = .int k a) (hy:evL tm y = .int k b)
  (kk:GoL P ops draw (i+1) L (acc ++ [(Zr (mkS tm ob ng) ⟨d,.binOp .rem T x y T',ty,pos,after,gd⟩,[])]) (mkS (Zau d (.int k c) tm) ob ng) K):GoL P ops draw i (⟨d,.binOp .rem T x y T',ty,pos,after,gd⟩::L) acc (mkS tm ob ng) K:=by
 unfold ZsA at hs
 split at hs
 ·cases hs
 ·injection hs with hs
  subst hs
  exact ZtG hw hx hy (by assumption) kk
end
section
variable {P:Program} [WInv P] {α:Type} {St:α→Nat→FS} {J:α→Prop} {Q:Ex→FS→Prop} {s:FS} {id:Nat}
theorem Zs0 (h:Q .ret s):ZoH St J Q .ret s:=h
end
class StrT (P:Program) (T:TypeId):Prop where
 eq:P.underlying T=some .string
section
variable {P:Program} [WInv P] {ops:Array Oper} {draw:Bool} {i:Nat} {L:List Oper} {acc:List (List Nat×List Nat)} {K:FS→Prop} {tm:List (Nat×PV)} {ob:List (Nat×Option (Gen×VObj))} {ng:Nat}
 {d:Option Tmp} {ty T T':TypeId} {pos:String} {after:Array Edge} {gd:Option (Nat×Bool)} {x y:Operand} {α:Type} {f:α→List PV}
theorem Zs1 [h:StrT P T] (hw:Zb ops (mkS tm ob ng) ⟨d,.call ⟨.builtin .len,#[x],#[T]⟩,ty,pos,after,gd⟩=some true) {a:ByteArray} (hx:evL tm x = .str a)
  (k:GoL P ops draw (i+1) L (acc ++ [(Zr (mkS tm ob ng) ⟨d,.call ⟨.builtin .len,#[x],#[T]⟩,ty,pos,after,gd⟩,[])]) (mkS (Zau d (.int .i64 (a.size:Int)) tm) ob ng) K):GoL P ops draw i (⟨d,.call ⟨.builtin .len,#[x],#[T]⟩,ty,pos,after,gd⟩::L) acc (mkS tm ob ng) K:=Ze8 h.eq hw hx k
theorem Zaw {dd:Nat} {E kk by_:Nat} {z:List PV} [Sl P T E kk by_ z] {n:Nat} {parts:Array (Nat×Operand)} (M:List α) (hw:Zb ops (mkS tm ob ng) ⟨some dd,.buildSlice T n parts,ty,pos,after,gd⟩=some true) {cs qs:List PV} {us:List (Nat×Option (Gen×VObj))}
  (hf:ZdZ (fun i=>some (i * kk,kk)) (List.replicate n z).flatten (evs tm parts.toList)=some cs) (hr:Zdy (Zg ob) cs=some (qs,us)) (hl:qs.length=n * kk) (hm:n * kk≤16777216) (hc:chunks kk n qs=M.map f)
  (k:GoL P ops draw (i+1) L (acc ++ [(Zr (mkS tm ob ng) ⟨some dd,.buildSlice T n parts,ty,pos,after,gd⟩,us.map (·.1) ++ [dd])]) (mkS ((dd,.row dd (ng,i))::tm) ((dd,some ((ng,i),.row E kk false (M.map f)))::(us.reverse++ob)) ng) K) :
  GoL P ops draw i (⟨some dd,.buildSlice T n parts,ty,pos,after,gd⟩::L) acc (mkS tm ob ng) K:=
 ZP hw hf hr hl hm hc (by simpa using k)
end
theorem Zj {p q:Prop} (k:q) (h:q→p:=by
 (intro k)
 (repeat (first
  | refine ZA rfl rfl rfl ?_
  | refine Zm rfl (by (conv=>lhs;whnf);try rfl) ?_
  | refine Zn rfl (by (conv=>lhs;whnf);try rfl) ?_
  | refine Zi rfl rfl ?_
  | refine ZL rfl rfl rfl rfl (by (conv=>lhs;whnf);try rfl) ?_
  | refine ZhU rfl rfl rfl rfl (by (conv=>lhs;whnf);try rfl) ?_
  | refine Zez rfl rfl rfl ?_
  | refine Zap rfl rfl rfl (by (conv=>lhs;whnf);try rfl) (by (conv=>lhs;whnf);try rfl) (by rfl) (by rfl) (Nat.le_of_ble_eq_true rfl) (by (conv=>lhs;whnf);try rfl) ?_
  | refine Zbg rfl rfl ?_
  | refine Zs1 rfl rfl ?_
  | refine Zqg rfl rfl ?_
  | refine ZaL rfl rfl (by (conv=>lhs;whnf);try rfl) ?_
  | refine g_field rfl rfl rfl ?_
  | refine Zjw rfl (by (conv=>lhs;whnf);try rfl) (by (conv=>lhs;whnf);try rfl) (by rfl) ?_
  | refine ZcK rfl rfl ?_
  | refine Zak rfl rfl ?_
  | refine ZrD rfl rfl ?_
  | refine Zj2 rfl rfl ?_
  | refine ZrA rfl rfl ?_
  | refine Zrz rfl rfl rfl rfl ?_
  | refine Zc ?_
  | refine ZbS (by kernel_rfl) ?_
  | refine Zh ?_
  | refine Zz ?_
  | refine ZaY ?_
  | refine ZaR ?_
  | refine Zx ?_
  | refine ZcN ?_
  | refine ZJ ?_
  | refine ZpH ?_
  | refine bk_other rfl ?_
  | refine Zgo ?_
  | refine ZpI ?_
  | refine jk_exit ?_
  | refine Zs0 ?_
  | refine pws_label ?_))
 (exact k)):p:=h k
theorem ZnA {P:Program} [WInv P] {β:Type} {F:Option β} {R:β→PV} {f:FuncId} {fn:Func} {c:Code} {args:List PV} {r:β} (hF:F=some r) (hmix:P.follows .mixedOrders=true) (hf:P.funcs[f]? = some fn) (hg:isGo P f=true) (hb:fn.body=some c) (hok:(decide (args.length≤fn.ntmps)&&Zaz fn.ntmps c)=true)
  (h:∀ r,F=some r→PWs P [c] (ZsE P fn.results.toList (R r)) (mkS (ZcP 0 args) [] 1)):Zd P f args (R r):=Zbq hmix hf hg hb hok (h r hF)
end VL
end Go.Proofs.YtjblgpmagampbaaGreatDoor
namespace Go.Proofs.YtjblgpmagampbaaGreatDoor
namespace VL
open Go.RowKit
def ZpA (op:BinOp) (k:IntKind) (a b:Int):Int:=match op with
 | .and=>k.wrap (BitVec.ofInt k.bits a &&& BitVec.ofInt k.bits b).toNat
 | .or=>k.wrap (BitVec.ofInt k.bits a ||| BitVec.ofInt k.bits b).toNat
 | .xor=>k.wrap (BitVec.ofInt k.bits a ^^^ BitVec.ofInt k.bits b).toNat
 | _=>k.wrap (BitVec.ofInt k.bits a &&& ~~~BitVec.ofInt k.bits b).toNat
def ZnZ (k:IntKind) (a b:Int):Option Int:=if b<0 then none else some (a.fdiv (2 ^ (min b.toNat k.bits)))
section
variable {P:Program} [WInv P] {ops:Array Oper} {draw:Bool} {i:Nat} {L:List Oper} {acc:List (List Nat×List Nat)} {K:FS→Prop} {tm:List (Nat×PV)} {ob:List (Nat×Option (Gen×VObj))} {ng:Nat}
 {d:Option Tmp} {ty T T':TypeId} {pos:String} {after:Array Edge} {gd:Option (Nat×Bool)} {x y:Operand}
theorem ZgV (hw:Zb ops (mkS tm ob ng) ⟨d,.binOp .shr T x y T',ty,pos,after,gd⟩=some true) {k k':IntKind} {a b c:Int} (hs:ZnZ k a b=some c) (hx:evL tm x = .int k a) (hy:evL tm y = .int k' b)
  (kk:GoL P ops draw (i+1) L (acc ++ [(Zr (mkS tm ob ng) ⟨d,.binOp .shr T x y T',ty,pos,after,gd⟩,[])]) (mkS (Zau d (.int k c) tm) ob ng) K):GoL P ops draw i (⟨d,.binOp .shr T x y T',ty,pos,after,gd⟩::L) acc (mkS tm ob ng) K:=by
 unfold ZnZ at hs
 split at hs
 ·cases hs
 ·injection hs with hs
  subst hs
  exact Ztj hw hx hy (by assumption) kk
end
theorem Zi6 {P:Program} [WInv P] {β:Type} {F:Option β} {R:β→PV} {O:β→List PV} {f:FuncId} {fn:Func} {c:Code} {args:List PV} {j:Nat} {os:List PV} {r:β} (hF:F=some r) (hmix:P.follows .mixedOrders=true) (hf:P.funcs[f]? = some fn) (hg:isGo P f=true) (hb:fn.body=some c) (hok:(decide (args.length≤fn.ntmps)&&Zaz fn.ntmps c)=true)
  (h:∀ r,F=some r→PWs P [c] (Zty P fn.results.toList (R r) j (O r)) (mkS (ZcP 0 args) [(j,some ((0,j),.box os))] 1)):Contract P f args (some (j,os)) (R r) (O r):=Zko hmix hf hg hb hok (h r hF)
end VL
end Go.Proofs.YtjblgpmagampbaaGreatDoor
namespace Go.Proofs.YtjblgpmagampbaaGreatDoor
namespace VL
open Go.RowKit
theorem Zg2 {n:Int} (h1 : -9223372036854775808≤n) (h2:n≤9223372036854775807):w64 n=n:=by
 show IntKind.wrap .i64 n=n
 rw [IntKind.wrap_i64]
 omega
theorem Zrg {α:Type} {l:List α} {n:Nat} {e:α} (h:l[n]? = some e):atI l (n:Int)=some e:=by rw [ZrU,h]
theorem Zsx {α:Type} {w:Nat} {a b:List α} (h:(a.length+b.length) * w≤140737488355328) (h2:a.length+b.length≤9223372036854775807):ZfA w a b=some (a++b):=by
 unfold ZfA
 rw [if_pos ⟨h,h2⟩]
theorem ZmF {α:Type} {w:Nat} {a b:List α} (n:Nat) (h:a.length+b.length≤n) (h2:n * w≤140737488355328) (h3:n≤9223372036854775807):ZfA w a b=some (a++b):=
 Zsx (Nat.le_trans (Nat.mul_le_mul_right w h) h2) (Nat.le_trans h h3)
end VL
end Go.Proofs.YtjblgpmagampbaaGreatDoor
namespace Go.Proofs.YtjblgpmagampbaaGreatDoor
namespace VL
open Go.RowKit
def Tot {α:Type} (x:Option α) (Q:α→Prop):Prop:=∃ v,x=some v∧Q v
section
variable {α β γ:Type}
theorem Zar {v:α} {Q:α→Prop} (h:Q v):Tot (some v) Q:=⟨v,rfl,h⟩
theorem Zdr {x:Option α} {f:α→Option β} {Q:α→Prop} {R:β→Prop} (h:Tot x Q) (k:∀ v,Q v→Tot (f v) R):Tot (x.bind f) R:=by
 obtain ⟨v,h1,h2⟩:=h
 obtain ⟨r,h3,h4⟩:=k v h2
 exact ⟨r,by rw [h1];exact h3,h4⟩
theorem Zp {x:Option α} {f:α→Option β} {v:α} {R:β→Prop} (h:x=some v) (k:Tot (f v) R):Tot (x.bind f) R:=by
 rw [h];exact k
theorem Zee {b:Bool} {x y:Option β} {R:β→Prop} (h1:b=true→Tot x R) (h2:b=false→Tot y R):Tot (if b=true then x else y) R:=by
 cases b
 ·exact h2 rfl
 ·exact h1 rfl
theorem Zbh {p:Prop} [Decidable p] {x y:Option β} {R:β→Prop} (h1:p→Tot x R) (h2:¬ p→Tot y R):Tot (if decide p=true then x else y) R:=by
 by_cases h:p
 ·rw [if_pos (decide_eq_true h)];exact h1 h
 ·rw [if_neg (by simpa using h)];exact h2 h
theorem ZmC {p:Prop} [Decidable p] {x y:Option β} {R:β→Prop} (h1:¬ p→Tot x R) (h2:p→Tot y R):Tot (if (!decide p)=true then x else y) R:=by
 by_cases h:p
 ·rw [if_neg (by simpa using h)];exact h2 h
 ·rw [if_pos (by simpa using h)];exact h1 h
theorem ZkP {k:γ} {f:γ→Option β} {R:β→Prop} (S:γ→Prop) (hk:S k) (hf:∀ q,S q→Tot (f q) R):Tot (letk k f) R:=hf k hk
theorem ZgY {k:γ} {f:γ→Option β} {R:β→Prop} (h:Tot (f k) R):Tot (letk k f) R:=h
theorem ZcY {F:(α→Option β)→α→Option β} {a:α} {R:β→Prop} (J:α→Prop) (m:α→Nat) (h0:J a) (hm:m a≤4611686018427387900) (h:∀ a rec,J a→(∀ a',J a'→m a'<m a→Tot (rec a') R)→Tot (F rec a) R):Tot (Zas Zck F a) R:=
 ZoI J m R h Zck a h0 (by unfold Zck;omega)
theorem Zhr {l:List α} {i:Int} {f:α→Option β} {R:β→Prop} (h0:0≤i) (h1:i<(l.length:Int)) (k:∀ e,e ∈ l→l[i.toNat]? = some e→Tot (f e) R):Tot ((atI l i).bind f) R:=by
 obtain ⟨n,rfl⟩:∃ n:Nat,i=(n:Int):=⟨i.toNat,by omega⟩
 have hl:n<l.length:=by omega
 have e:l[n]? = some l[n]:=List.getElem?_eq_getElem hl
 refine Zp (v:=l[n]) (Zrg e) (k _ (List.getElem_mem hl) (by simp))
theorem Znc {w:Nat} {a b:List α} {f:List α→Option β} {R:β→Prop} (n:Nat) (h:a.length+b.length≤n) (h2:n * w≤140737488355328) (h3:n≤9223372036854775807) (k:Tot (f (a++b)) R):Tot ((ZfA w a b).bind f) R:=
 Zp (ZmF n h h2 h3) k
theorem Znd {k:IntKind} {a b:Int} {f:Int→Option β} {R:β→Prop} (h:b≠0) (g:Tot (f (Int.tmod a b)) R):Tot ((ZsA k a b).bind f) R:=
 Zp (by unfold ZsA;rw [if_neg h]) g
theorem Zne {k:IntKind} {a b:Int} {f:Int→Option β} {R:β→Prop} (h:0≤b) (g:Tot (f (a.fdiv (2 ^ (min b.toNat k.bits)))) R):Tot ((ZnZ k a b).bind f) R:=
 Zp (by unfold ZnZ;rw [if_neg (by omega)]) g
end
end VL
end Go.Proofs.YtjblgpmagampbaaGreatDoor
namespace Go.Proofs.YtjblgpmagampbaaGreatDoor
namespace VL
open Go.RowKit
theorem Zi7 {h:PV→Option PV}:∀ {a b a' b':List PV},Ze2 h a=some a'→Ze2 h b=some b'→Ze2 h (a++b)=some (a'++b')
 | [],b,a',b',h1,h2=>by
   injection h1 with h1
   subst h1
   exact h2
 | p::ps,b,a',b',h1,h2=>by
   simp only [Ze2] at h1
   split at h1
   ·rename_i q qs e1 e2
    injection h1 with h1
    subst h1
    show (match h p,Ze2 h (ps++b) with
     | some q,some qs=>some (q::qs)
     | _,_=>none)=_
    rw [e1,Zi7 e2 h2]
    rfl
   ·cases h1
theorem Zi8 {f:Nat→Option (Gen×VObj)}:∀ (L:List (List PV)),Ze2 (Zl4 f) (L.map PV.cel)=some (L.map PV.cel)
 | []=>rfl
 | cs::L=>by
   show (match Zl4 f (.cel cs),Ze2 (Zl4 f) (L.map PV.cel) with
    | some q,some qs=>some (q::qs)
    | _,_=>none)=_
   rw [Zi8 L]
   rfl
section
variable {P:Program} [WInv P] {ops:Array Oper} {draw:Bool} {i:Nat} {L:List Oper} {acc:List (List Nat×List Nat)} {K:FS→Prop} {tm:List (Nat×PV)} {ob:List (Nat×Option (Gen×VObj))} {ng:Nat}
 {d:Option Tmp} {ty:TypeId} {pos:String} {after:Array Edge} {gd:Option (Nat×Bool)}
theorem ZcW {e:Operand} {f:FuncId} {Lc:List (List PV)} {es:Array Operand} {ts:Array TypeId} {args1:List PV} {res:PV} (hc:Contract P f (args1++Lc.map .cel) none res []) (hw:Zb ops (mkS tm ob ng) ⟨d,.call ⟨.value e,es,ts⟩,ty,pos,after,gd⟩=some true)
  (hf:evL tm e = .fn f (Lc.map .cel)) (ha:Ze2 (frz (Zg ob)) (es.toList.map (evL tm))=some args1) (hp:res.dry=true)
  (k:GoL P ops draw (i+1) L (acc ++ [(Zr (mkS tm ob ng) ⟨d,.call ⟨.value e,es,ts⟩,ty,pos,after,gd⟩,[])]) (mkS (Zau d res tm) ob ng) K):GoL P ops draw i (⟨d,.call ⟨.value e,es,ts⟩,ty,pos,after,gd⟩::L) acc (mkS tm ob ng) K:=
 Zon hc hw hf ha (Zi8 Lc) hp k
theorem Zsl {f g:FuncId} {Lc:List (List PV)} {es:Array Operand} {ts:Array TypeId} {pre pre':List PV} {res:PV} (hc:Contract P f (pre' ++ [.fn g (Lc.map .cel)]) none res []) (hw:Zb ops (mkS tm ob ng) ⟨d,.call ⟨.value (.func f),es,ts⟩,ty,pos,after,gd⟩=some true)
  (he:es.toList.map (evL tm)=pre ++ [.fn g (Lc.map .cel)]) (ha:Ze2 (frz (Zg ob)) pre=some pre') (hp:res.dry=true)
  (k:GoL P ops draw (i+1) L (acc ++ [(Zr (mkS tm ob ng) ⟨d,.call ⟨.value (.func f),es,ts⟩,ty,pos,after,gd⟩,[])]) (mkS (Zau d res tm) ob ng) K):GoL P ops draw i (⟨d,.call ⟨.value (.func f),es,ts⟩,ty,pos,after,gd⟩::L) acc (mkS tm ob ng) K:=by
 refine Zhw hc hw ?_ hp k
 rw [he]
 refine Zi7 ha ?_
 show (match (Ze2 (Zl4 (Zg ob)) (Lc.map .cel)).map (PV.fn g),(some []:Option (List PV)) with
  | some q,some qs=>some (q::qs)
  | _,_=>none)=_
 rw [Zi8]
 rfl
end
theorem Zi9 {P:Program} [WInv P] {β:Type} {F:Option β} {O:β→VObj} {f:FuncId} {fn:Func} {c:Code} {args:List PV} {r:β} (hF:F=some r) (hmix:P.follows .mixedOrders=true) (hf:P.funcs[f]? = some fn) (hg:isGo P f=true) (hb:fn.body=some c) (hok:(decide (args.length≤fn.ntmps)&&Zaz fn.ntmps c)=true)
  (h:∀ r,F=some r→PWs P [c] (ZtF P fn.results.toList (O r)) (mkS (ZcP 0 args) [] 1)):ContractN P f args (O r):=ZkI hmix hf hg hb hok (h r hF)
theorem Zgl {P:Program} [WInv P] {β:Type} {F:Option β} {R:β→PV} {O:β→List OC} {f:FuncId} {fn:Func} {c:Code} {args:List PV} {oc:List OC} {r:β} (hF:F=some r) (hmix:P.follows .mixedOrders=true) (hf:P.funcs[f]? = some fn) (hg:isGo P f=true) (hb:fn.body=some c) (hok:(decide (args.length≤fn.ntmps)&&Zaz fn.ntmps c&&decide (0<1000))=true) (hd:(R r).dry=true)
  (h:∀ r,F=some r→PWs P [c] (Zte P fn.results.toList (R r) 0 (O r)) (mkS (ZcP 0 args) ((0,some ((0,0),.box (ZaX κ0 ν0 0 oc)))::ZdO κ0 ν0 0 oc) 1)):ContractP P f args 0 oc (R r) (O r):=ZkE hmix hf hg hb hok hd (h r hF)
theorem ZlN {P:Program} {s:FS} {rs:List ResultVar} {res:PV} {j:Nat} {oc':List OC} {ps cs:List PV} {oq:List (Nat×Gen×OC)} (h1:ZbX P s rs=some ps) (h2:ZbY ps=res) (h3:s.ob j=some ((0,j),.box cs)) (h4:Zp6 s.ob cs=some oq) (h5:okK j oq=true) (h6:oq.map (·.2.2)=oc'):Zte P rs res j oc' .normal s:=⟨ps,cs,oq,h1,h2,h3,h4,h5,h6⟩
end VL
end Go.Proofs.YtjblgpmagampbaaGreatDoor
namespace Go.Proofs.YtjblgpmagampbaaGreatDoor
namespace VL
theorem ZlH (σ:List (Gen×Gen)):∀ (L:List (List PV)),ZlF σ (L.map PV.cel)=some (L.map PV.cel)
 | []=>rfl
 | cs::L=>by
   show (match Zm7 σ (.cel cs),ZlF σ (L.map PV.cel) with
    | some q,some qs=>some (q::qs)
    | _,_=>none)=_
   rw [ZlH σ L]
   rfl
theorem Zey (σ:List (Gen×Gen)) (f:FuncId) (L:List (List PV)):ZsD σ (.fn f (L.map PV.cel))=some (.fn f (L.map PV.cel)):=by
 show (ZlF σ (L.map PV.cel)).map (PV.fn f)=_
 rw [ZlH]
 rfl
end VL
end Go.Proofs.YtjblgpmagampbaaGreatDoor
namespace Go.Proofs.YtjblgpmagampbaaGreatDoor
namespace VL
open Go.RowKit
def neL {α:Type}:List α→Option Unit
 | []=>none
 | _::_=>some ()
section
variable {P:Program} [WInv P] {ops:Array Oper} {o:Oper} {i:Nat} {s:FS} {T T':TypeId}
theorem Zpd {E:TypeId} {x:Operand} {e:List PV} {els:List (List PV)} (hT:P.underlying T=some (.slice E)) (hw:Zb ops s o=some true) (ho:o.op = .binOp .eql T x (.const (.slice none 0 0)) T') (hx:ev s x = .sl (e::els)):OpR P ops i o s ⟨.bool false,[]⟩:=.any hw fun s' r hA hI=>by
 have e1:ev s x=ev s' x:=hA.ev x (by rw [ho];simp [Op.operands])
 intro S a y Q hX hi hd
 have hr:=ZE hX x
 rw [← e1,hx] at hr
 generalize hv:a.eval x=v at hr
 cases hr with
 | sl _ A n c k b off f hn hc hm hk hA' hcell hh=>
   have hA2:=hA' (by rw [hn];simp)
   subst hA2
   refine ZC (v:=.bool false) (W':=y.W) ?_ (hX.val hd (.bool false))
   have hq:=Lib.run_eql_slice_nil (P:=P) y.W T E (some ⟨b,off,none⟩) n c 0 0 hT
   unfold execOp
   rw [ho]
   simp only [binOp] at hq ⊢
   simp_all [Act.eval,eqGuard]
   generalize Sem.run P (Op.equal T (Value.slice (some ⟨b,off,none⟩) (els.length+1) c) (Value.slice none 0 0)) y.W=R at hq ⊢
   cases R<;>simp_all [Result.andThen]
end
section
variable {P:Program} [WInv P] {ops:Array Oper} {draw:Bool} {i:Nat} {L:List Oper} {acc:List (List Nat×List Nat)} {K:FS→Prop} {tm:List (Nat×PV)} {ob:List (Nat×Option (Gen×VObj))} {ng:Nat}
 {d:Option Tmp} {ty T T':TypeId} {pos:String} {after:Array Edge} {gd:Option (Nat×Bool)} {x:Operand}
theorem Zr7 {E kk by_:Nat} {z:List PV} [h:Sl P T E kk by_ z] {α:Type} {f:α→List PV} {M:List α} {u:Unit} (hw:Zb ops (mkS tm ob ng) ⟨d,.binOp .eql T x (.const (.slice none 0 0)) T',ty,pos,after,gd⟩=some true) (hne:neL M=some u) (hx:evL tm x = .sl (M.map f))
  (k:GoL P ops draw (i+1) L (acc ++ [(Zr (mkS tm ob ng) ⟨d,.binOp .eql T x (.const (.slice none 0 0)) T',ty,pos,after,gd⟩,[])]) (mkS (Zau d (.bool false) tm) ob ng) K):GoL P ops draw i (⟨d,.binOp .eql T x (.const (.slice none 0 0)) T',ty,pos,after,gd⟩::L) acc (mkS tm ob ng) K:=by
 cases M with
 | nil=>cases hne
 | cons m M=>
   obtain ⟨ti,h1,h2⟩:∃ E,P.underlying T=some (.slice E)∧True:=by
    have:=h.eq
    unfold slI at this
    split at this
    ·rename_i ht
     obtain ⟨_,_,q,_⟩:=Zt ht
     exact ⟨_,q,trivial⟩
    ·simp at this
   refine ZbR (u:=⟨.bool false,[]⟩) (Zpd h1 hw rfl (by rw [ZB];exact hx)) ?_
   rw [Zac]
   exact k
end
end VL
end Go.Proofs.YtjblgpmagampbaaGreatDoor

namespace Go.Proofs.YtjblgpmagampbaaGreatDoor
namespace VL
open Go.RowKit
section
variable {P:Program} {r:Run} {o:Oper} {i:Nat} {s:FS}
theorem ZqJ {S:Nat→Prop} {a:Act} {x:Ctx} (hX:RstX r S s a x) (hi:¬ S i) {d:Nat} (hd:d<r.N) {E k c:Nat} {vs:Array Value} (hl:vs.size=c * k) (hm:c≤9223372036854775807) :
  ∃ y:Ctx,y.W=x.W.alloc (.cells vs E)∧RstX r (fun j=>S j∨j=i) (s.app (some d) ⟨.row d (s.ng,i),[(d,some ((s.ng,i),.row E k false []))]⟩) (a.put (some d) (.slice (some ⟨x.W.heap.size,0,none⟩) 0 c)) y:=by
 have hold:∀ b,b<x.W.heap.size→(x.W.alloc (.cells vs E)).heap[b]? = x.W.heap[b]?:=fun b hb=>heap_alloc_old x.W _ hb
 refine hX.newObj hi (fun k hk=>by cases hk;exact hd) rfl rfl rfl (by simp) (fun b hb _=>hold b hb) (fun b o v hF hv=>?_) (v0:=.slice (some ⟨x.W.heap.size,0,none⟩) 0 c) (fun b hb=>.inl ?_) (fun y st hF hW hρ=>?_) (fun y st hW hG hρ=>?_)
 ·rw [World.cell?_of_block (hold b (hX.flt b o hF))];exact hv
 ·have:x.W.heap.size=b:=by simpa [blk] using hb
  omega
 ·refine ⟨fun e he=>(by cases he),fun e he=>(by cases he),[],?_,fun m p v hpp hv=>(by simp at hpp),fun b hb=>⟨.inl ?_,fun o ho=>?_⟩⟩
  ·rw [hρ,hW]
   exact ⟨by simp,.inr ⟨x.W.heap.size,c,vs,rfl,Nat.zero_le _,heap_alloc_new x.W _,Nat.zero_le _,by unfold maxLen;omega,hl,by simp⟩⟩
  ·rw [hρ] at hb
   have e:x.W.heap.size=b:=by simpa [blk] using hb
   rw [← e]
   exact hX.gr.size
  ·rw [hρ] at hb
   rw [hF] at ho
   have e:x.W.heap.size=b:=by simpa [blk] using hb
   have:=hX.flt b o ho
   change b<x.W.heap.size at this
   omega
 ·exact .row d (s.ng,i) _ _ _ hG hρ
theorem ZqK {T E d:Nat} {e e':Operand} {te:TI} {sz b:Nat} {zz:List PV} {c:Nat} {kl kc:IntKind} (ho:o.op = .makeSlice T e e') (hdst:o.dst=some d) (ht:tyI P T=some ⟨.slice E,sz,b,zz⟩) (hte:tyI P E=some te) (hl:ev s e = .int kl 0) (hc:ev s e' = .int kc (c:Int)) (hb:te.bytes * c≤281474976710656) (hm:c≤9223372036854775807) :
  OpOK P r o i s ⟨.row d (s.ng,i),[(d,some ((s.ng,i),.row E te.size false []))]⟩:=by
 intro S a x Q hX hi hd
 obtain ⟨inf,zv,h1,_⟩:=Zt ht
 obtain ⟨inf',z',h1',h2',h3',h4',h5',h6'⟩:=Zt hte
 have q1:a.eval e = .int kl 0:=by
  have:=ZE hX e
  rw [hl] at this
  generalize a.eval e=v at this
  cases this
  rfl
 have q2:a.eval e' = .int kc (c:Int):=by
  have:=ZE hX e'
  rw [hc] at this
  generalize a.eval e'=v at this
  cases this
  rfl
 have hrun:=run_make (P:=P) (w:=x.W) T E inf' z' h1 h2' h3' kl kc 0 c (Int.le_refl _) (by omega) (by
  rw [h5',← Int.natCast_mul];omega) (by omega)
 simp only [Int.toNat_natCast,Int.toNat_zero,h4'] at hrun
 obtain ⟨y,hy1,hy2⟩:=ZqJ hX hi (hd d hdst) (E:=E) (k:=te.size) (c:=c) (vs:=madeCells z'.cells (c * te.size)) (size_madeCells _ _) hm
 rw [hdst]
 refine ZC (v:=.slice (some ⟨x.W.heap.size,0,none⟩) 0 c) (W':=x.W.alloc (.cells (madeCells z'.cells (c * te.size)) E)) ?_ ⟨y,hy1,by rw [hdst];exact hy2⟩
 unfold execOp
 rw [ho]
 simp [q1,q2,hrun]
end
def Zsc (w:Nat) (c:Int):Option Unit:=if 0≤c∧c * (w:Int)≤281474976710656∧c≤9223372036854775807 then some () else none
section
variable {P:Program} [WInv P] {ops:Array Oper} {draw:Bool} {i:Nat} {L:List Oper} {acc:List (List Nat×List Nat)} {K:FS→Prop} {tm:List (Nat×PV)} {ob:List (Nat×Option (Gen×VObj))} {ng:Nat}
 {d:Nat} {ty T:TypeId} {pos:String} {after:Array Edge} {gd:Option (Nat×Bool)} {x y:Operand}
theorem Zsd {α:Type} (f:α→List PV) {E kk by_:Nat} {z:List PV} [Sl P T E kk by_ z] {kl:IntKind} {c:Int} {u:Unit} (hw:Zb ops (mkS tm ob ng) ⟨some d,.makeSlice T x y,ty,pos,after,gd⟩=some true) (hx:evL tm x = .int kl 0) {kc:IntKind} (hy:evL tm y = .int kc c) (hs:Zsc by_ c=some u)
  (k:GoL P ops draw (i+1) L (acc ++ [(Zr (mkS tm ob ng) ⟨some d,.makeSlice T x y,ty,pos,after,gd⟩,[d])]) (mkS ((d,.row d (ng,i))::tm) ((d,some ((ng,i),.row E kk false (List.map f [])))::ob) ng) K):GoL P ops draw i (⟨some d,.makeSlice T x y,ty,pos,after,gd⟩::L) acc (mkS tm ob ng) K:=by
 obtain ⟨s1,b,zz,te,q1,q2,q3,q4,q5,q6,q7⟩:=Za7 (P:=P) (T:=T) (E:=E) (k:=kk) (by_:=by_) (z:=z)
 unfold Zsc at hs
 split at hs
 ·rename_i hc
  refine ZbR (u:=⟨.row d (ng,i),[(d,some ((ng,i),.row E kk false []))]⟩) (.any hw fun s' r hA hI=>?_) ?_
  ·have e1:ev s' x = .int kl 0:=by rw [← hA.ev x (by simp [Op.operands])];exact (congrFun (ZB tm ob ng) x).trans hx
   have e2:ev s' y = .int kc ((c.toNat:Nat):Int):=by rw [← hA.ev y (by simp [Op.operands]),Int.toNat_of_nonneg hc.1];exact (congrFun (ZB tm ob ng) y).trans hy
   have e3:s'.ng=ng:=hA.ng.symm
   rw [← e3,← q3]
   refine ZqK rfl rfl q1 q2 e1 e2 ?_ ?_
   ·rw [q4]
    have h1:=hc.2.1
    have:((by_ * c.toNat:Nat):Int)≤281474976710656:=by rw [Int.natCast_mul,Int.toNat_of_nonneg hc.1,Int.mul_comm];exact h1
    omega
   ·have:=hc.2.2
    omega
  ·rw [Zac]
   exact k
 ·cases hs
end
theorem Zpl {P:Program} {y:Ctx} {l:List Int} {v:Value} (h:Rep y (.sl (l.map fun n=>[PV.int .u8 n])) v) {src E dst:TypeId} (hs:P.underlying src=some (.slice E)) (he:P.underlying E=some (.int .u8)) (hd:P.underlying dst=some .string) :
  (convert src dst v).run P y.W = .ok (.string (strOfNums l)) y.W:=by
 generalize hg:(l.map fun n=>[PV.int .u8 n])=els at h
 cases h with
 | sl _ A n c k b off f hn hc hm hk hA hcell hh=>
   have hln:n=l.length:=by rw [hn,← hg,List.length_map]
   have hel:∀ (i:Nat) (m:Int),l[i]? = some m→els[i]? = some [PV.int .u8 m]:=fun i m hi=>by rw [← hg,List.getElem?_map,hi];rfl
   have key:∀ a:Addr,A=some a→(loadCells a n).run P y.W = .ok (l.map (Value.int .u8)).toArray y.W:=fun a ha=>by
    have:=run_loadCells_list (P:=P) y.W a (l.map (Value.int .u8)) (fun j u hj=>by
     rw [List.getElem?_map,Option.map_eq_some_iff] at hj
     obtain ⟨m,hm1,rfl⟩:=hj
     have hjl:=(List.getElem?_eq_some_iff.1 hm1).1
     rw [hA (by omega)] at ha
     injection ha with ha
     subst ha
     have h1:=hel j m hm1
     have hk1:k=1:=by rw [← hk _ (List.mem_of_getElem? h1)];rfl
     subst hk1
     obtain ⟨_,_,h2⟩:=hcell j 0 _ _ h1 rfl
     have h3:=hh j 0 _ _ h1 rfl
     have h4:f j 0 = .int .u8 m:=by
      generalize f j 0=w at h3
      cases h3
      rfl
     rw [h4] at h2
     have hadd:(⟨b,off,none⟩:Addr).add j=⟨b,off+j,none⟩:=by unfold Addr.add;split<;>simp_all
     rw [hadd]
     simpa using h2)
    simpa [hln] using this
   cases A with
   | none=>
     have:l = []:=by
      rcases Nat.eq_zero_or_pos n with h0 | h0
      ·exact List.eq_nil_of_length_eq_zero (by omega)
      ·have:=hA h0
       cases this
     subst this
     exact run_convert_bytes_nil y.W src E hs he n c dst hd
   | some a=>
     rw [run_convert_bytes_string y.W src dst E (some a) n c hs he hd,run_bytesToString y.W a n c l (key a rfl),foldl_push_bytes]
     simp [strOfNums,ByteArray.empty,ByteArray.emptyWithCapacity]
     rfl
section
variable {P:Program} [WInv P] {ops:Array Oper} {draw:Bool} {i:Nat} {L:List Oper} {acc:List (List Nat×List Nat)} {K:FS→Prop} {tm:List (Nat×PV)} {ob:List (Nat×Option (Gen×VObj))} {ng:Nat}
 {d:Option Tmp} {ty T T':TypeId} {pos:String} {after:Array Edge} {gd:Option (Nat×Bool)} {x:Operand}
theorem Zm8 {E kk by_:Nat} {z:List PV} [Sl P T E kk by_ z] [hk:Kd P E .u8] [hs:StrT P T'] {l:List Int} (hw:Zb ops (mkS tm ob ng) ⟨d,.convert T T' x,ty,pos,after,gd⟩=some true) (hx:Zmd (Zg ob) (evL tm x)=some (.sl (l.map fun n=>[PV.int .u8 n])))
  (k:GoL P ops draw (i+1) L (acc ++ [(Zr (mkS tm ob ng) ⟨d,.convert T T' x,ty,pos,after,gd⟩,[])]) (mkS (Zau d (.str (strOfNums l)) tm) ob ng) K):GoL P ops draw i (⟨d,.convert T T' x,ty,pos,after,gd⟩::L) acc (mkS tm ob ng) K:=by
 obtain ⟨s1,b,zz,te,q1,q2,q3,q4,q5,q6,q7⟩:=Za7 (P:=P) (T:=T) (E:=E) (k:=kk) (by_:=by_) (z:=z)
 obtain ⟨inf,zv,h1,_⟩:=Zt q1
 refine ZbR (u:=⟨.str (strOfNums l),[]⟩) (.any hw fun s' r hA hI=>?_) ?_
 ·intro S a c Q hX hi hd
  have hm:x ∈ (Op.convert T T' x).operands:=by simp [Op.operands]
  have e1:ev s' x=evL tm x:=by rw [← hA.ev x hm];exact congrFun (ZB tm ob ng) x
  have e2:Zmd s'.ob (ev s' x)=some (.sl (l.map fun n=>[PV.int .u8 n])):=by
   rw [← Zfv (fun t ht=>hA.key1 hm rfl rfl t ht),e1]
   exact hx
  have h3:=Zdf hX e2 (ZE hX x)
  have hrun:=Zpl (P:=P) h3 (src:=T) (dst:=T') h1 hk.eq hs.eq
  refine ZC (v:=.string (strOfNums l)) (W':=c.W) ?_ (hX.val hd (.str _))
  unfold execOp
  have hrun2:(convert T T' (a.eval x)).run P c.W = .ok (.string (strOfNums l)) c.W:=hrun
  simp [hrun2]
 ·rw [Zac]
  exact k
end
end VL
end Go.Proofs.YtjblgpmagampbaaGreatDoor

namespace Go.Proofs.YtjblgpmagampbaaGreatDoor
namespace VL
section
variable {P:Program} [WInv P] {α β:Type} {cs:List Code} {Q:Ex→FS→Prop} {s:FS} {tm:List (Nat×PV)} {ob:List (Nat×Option (Gen×VObj))} {ng:Nat}
theorem rg {draw:Bool} {id:Nat} {l:List Oper} {q:Prop} (k:q) (h:q→GoL P l.toArray draw 0 l [] s fun s'=>PWs P cs Q ⟨s'.tm,s'.ob,s'.ng+1⟩:=by
 (intro k)
 (refine Zj ?_)
 (exact k)):PWs P (.region id l.toArray draw::cs) Q s:=Za (h k)
theorem bl {id:Nat} {c:Code} {q:Prop} (k:q) (h:q→PWs P [c] (ZlQ id (PWs P cs Q) Q) s:=by
 (intro k)
 (refine Zj ?_)
 (exact k)):PWs P (.block id c::cs) Q s:=ZU (h k)
theorem cS {A B:Option β} {r:β} {c:Operand} {x y:Code} {t:Bool} {q1 q2:Prop} (hF:(if t=true then A else B)=some r) (hc:evL tm c = .bool t) (k1:A=some r→q1) (k2:B=some r→q2)
  (h1:q1→PWs P (x::cs) Q (mkS tm ob ng):=by
 (intro k)
 (refine Zj ?_)
 (exact k)) (h2:q2→PWs P (y::cs) Q (mkS tm ob ng):=by
 (intro k)
 (refine Zj ?_)
 (exact k)):PWs P (.cond c x y::cs) Q (mkS tm ob ng):=
 ZoA hc (fun h=>h1 (k1 (ifT h hF))) fun h=>h2 (k2 (ifF h hF))
theorem kS (t:Nat) {A B:Option β} {r:β} {ops:Array Oper} {draw:Bool} {i:Nat} {L:List Oper} {acc:List (List Nat×List Nat)} {K:FS→Prop} {b:Bool} {q1 q2:Prop} (hF:(if b=true then A else B)=some r) (hx:look tm t = .bool b) (k1:A=some r→q1) (k2:B=some r→q2)
  (h1:q1→GoL P ops draw i L acc (mkS ((t,.bool true)::tm) ob ng) K:=by
 (intro k)
 (refine Zj ?_)
 (exact k)) (h2:q2→GoL P ops draw i L acc (mkS ((t,.bool false)::tm) ob ng) K:=by
 (intro k)
 (refine Zj ?_)
 (exact k)):GoL P ops draw i L acc (mkS tm ob ng) K:=
 ZsW t hx (fun h=>h1 (k1 (ifT h hF))) fun h=>h2 (k2 (ifF h hF))
theorem cF {F:Option β} (R:β→PV) {f:FuncId} {fn:Func} {c:Code} {args:List PV} {r:β} (hF:F=some r) (hmix:P.follows .mixedOrders=true) (hf:P.funcs[f]? = some fn)
  (h:∀ r,F=some r→PWs P [c] (ZsE P fn.results.toList (R r)) (mkS (ZcP 0 args) [] 1)) (hg:isGo P f=true:=by kernel_rfl) (hb:fn.body=some c:=by exact rfl) (hok:(decide (args.length≤fn.ntmps)&&Zaz fn.ntmps c)=true:=by kernel_rfl):Zd P f args (R r):=
 ZnA hF hmix hf hg hb hok h
omit [WInv P] in
theorem rQ {res:PV} {rs:List ResultVar} {ps qs:List PV} {us:List (Nat×Option (Gen×VObj))} (h1:ZbX P s rs=some ps:=by exact rfl) (h2:ZeW s.ob ps=some (qs,us):=by exact rfl) (h3:ZbY qs=res:=by exact rfl):ZsE P rs res .ret s:=ZdW h1 h2 h3
def sg (σ:List (Nat×Nat×Nat)):List (Gen×Gen):=σ.map fun q=>((1,q.1),q.2)
theorem sR (σ:List (Nat×Nat×Nat)) {tm':List (Nat×PV)} {ob':List (Nat×Option (Gen×VObj))} {ng':Nat} (h1:Zpk (sg σ) tm tm':=by
 (repeat (refine ⟨rfl,?_⟩))
 (exact trivial)) (h2:Zmw (sg σ) ob ob':=by
 (repeat (refine ⟨⟨rfl,rfl⟩,?_⟩))
 (exact trivial)) (h3:(decide (0<ng')&&(sg σ).all fun q=>decide (q.1.1<ng'))=true:=by exact rfl):Shift (mkS tm ob ng) (mkS tm' ob' ng'):=
 Zew (sg σ) h1 h2 h3
theorem jn {St:α→Nat→FS} {J:α→Prop} (a:α) (h1:J a) (h3:Shift s (St a 2)):ZoH St J Q .normal s:=Zc1 a 2 h1 h3
theorem rn {St:α→Nat→FS} {J:α→Prop} {m:α→Nat} {a:α} (a':α) (h1:J a') (h3:Shift s (St a' 2)) (h2:m a'<m a:=by exact Nat.lt_succ_self _):ZlR St J m a Q .normal s:=ZR a' 2 h1 h2 h3
theorem jL {K:α→Option β} {f:(α→Option β)→Option β} {r:β} {c c2:Code} {q1:(α→Option β)→Prop} {q2:α→Prop} (hF:letk K f=some r) (St:α→FS) (h1:∀ k,f k=some r→q1 k) (h2:∀ x,K x=some r→q2 x)
  (g1:∀ k:α→Option β,q1 k→PWs P [c] (ZoH (fun a _=>St a) (fun x=>k x=some r) Q) s:=by
 (intro k h)
 (refine Zj ?_)
 (exact h)) (g2:∀ x,q2 x→PWs P (c2::cs) Q (St x):=by
 (intro x h)
 (try dsimp only)
 (refine Zj ?_)
 (exact h)):PWs P (c::c2::cs) Q s:=
 ZaV (fun a _=>St a) (fun x=>K x=some r) (g1 K (h1 K hF)) fun a _ hJ=>g2 a (h2 a hJ)
end
end VL
end Go.Proofs.YtjblgpmagampbaaGreatDoor
namespace Go.Proofs.YtjblgpmagampbaaGreatDoor
namespace VL
open Go.RowKit
def PV.dryF:PV→Bool
 | .fn _ ps=>ps.isEmpty
 | p=>p.dry1
theorem Rep.dryF {x y:Ctx} {p:PV} {v:Value} (h:Rep x p v) (hp:p.dryF=true):Rep y p v:=by
 cases h with
 | fn f ps cs hl hh=>
   have:ps = []:=List.isEmpty_iff.1 hp
   subst this
   exact .fn f [] cs hl fun i p v hq=>by simp at hq
 | bool b=>exact .bool b
 | int k n=>exact .int k n
 | str s=>exact .str s
 | _=>simp [PV.dryF,PV.dry1] at hp
def Dr (x:Ctx) (b:Nat):Prop:=blk (x.ρ (0,0))=some b
structure PreR (x:Ctx) (args:List PV) (E k:Nat) (els:List (List PV)) (vs:Array Value):Prop where
 size:args.length+1=vs.size
 rep:∀ (i:Nat) (p:PV) (v:Value),(PV.row 0 (0,0)::args)[i]? = some p→vs[i]? = some v→Rep x p v
 ob:x.G (0,0)∧ObRep x x.W.heap.size (Dr x) (0,0) (.row E k false els)
 gen:∀ g,x.G g→g.1=0
 flt:∀ b o,x.F b o→b<x.W.heap.size
structure PostR (x y:Ctx) (E k:Nat) (r:PV) (els':List (List PV)) (v:Value):Prop where
 step:Step x y
 gr:Gr (Dr x) x.W y.W
 fnew:∀ b o,y.F b o→x.F b o∨x.W.heap.size≤b∨Dr x b
 flt:∀ b o,y.F b o→b<y.W.heap.size
 rep:Rep y r v
 ob:ObRep y x.W.heap.size (Dr x) (0,0) (.row E k false els')
structure ContractR (P:Program) [WInv P] (f:FuncId) (args:List PV) (E k:Nat) (els:List (List PV)) (r:PV) (els':List (List PV)):Prop where
 isGo:VL.isGo P f=true
 calls:∀ (x:Ctx) (vs:Array Value),PreR x args E k els vs→(∀ W',Gr (Dr x) x.W W'→WInv.I P W')→Calls P f vs x.W fun e W'=>∃ y v,y.W=W'∧e = .returned v∧PostR x y E k r els' v
section
variable {P:Program} [WInv P] {r:Run} {ops:Array Oper} {o:Oper} {i:Nat} {s s':FS}
theorem ZqE {f:FuncId} {es:Array Operand} {ts:Array TypeId} {post:List PV} {t:Nat} {g:Gen} {E k:Nat} {els els':List (List PV)} {res res':PV} (ho:o.op = .call { callee:=.value (.func f),args:=es,argTypes:=ts })
  (he:es.toList.map (ev s) = .row t g::post) (hob:s.ob t=some (g,.row E k false els)) (hp:post.all PV.dryF=true) (hc:ContractR P f post E k els res els') (hres:res.dry=true∧res'=res∨res = .row 0 (0,0)∧res' = .row t g) (hI:r.I=WInv.I P):OpOK P r o i s ⟨res',[(t,some (g,.row E k false els'))]⟩:=by
 intro S a x Q hX hi hd
 have hrep:∀ (j:Nat) (p:PV),(PV.row t g::post)[j]? = some p→Rep x p ((es.map a.eval).getD j undef):=fun j p hp=>by
  rw [← he,List.getElem?_map] at hp
  cases he:es.toList[j]? with
  | none=>rw [he] at hp;simp at hp
  | some e=>
    rw [he] at hp
    simp only [Option.map_some,Option.some.injEq] at hp
    subst hp
    have hea:es[j]? = some e:=by simpa using he
    have:(es.map a.eval).getD j undef=a.eval e:=by simp [hea]
    rw [this]
    exact ZE hX e
 obtain ⟨hG,hO⟩:=hX.ob t g _ hob
 have hlt:=fun b hb=>hO.lt b hb
 obtain ⟨q1,q2,vs2,q3,q4,q5⟩:=hO
 let z:Ctx:=⟨fun g'=>g'=(0,0),x.F,x.W,fun _=>x.ρ g⟩
 have hpre:PreR z post E k els (es.map a.eval):=by
  refine ⟨?_,fun j p v hj hv=>?_,⟨rfl,q1,q2,vs2,q3,fun m p v hm hv=>?_,fun b hb=>⟨.inr hb,(q5 b hb).2⟩⟩,fun g' e=>?_,hX.flt⟩
  ·have:=congrArg List.length he
   simp at this
   simp [this]
  ·cases j with
   | zero=>
     simp only [List.getElem?_cons_zero,Option.some.injEq] at hj
     subst hj
     have:=hrep 0 (.row t g) rfl
     rw [Array.getD_eq_getD_getElem?,hv] at this
     simp only [Option.getD_some] at this
     cases this with
     | row _ _ A n c _ hvv=>exact .row _ _ A n c rfl hvv
   | succ j=>
     have hj':post[j]? = some p:=by simpa using hj
     have:=hrep (j+1) p hj
     rw [Array.getD_eq_getD_getElem?,hv] at this
     exact Rep.dryF this (List.all_eq_true.1 hp p (List.mem_of_getElem? hj'))
  ·obtain ⟨e,he,hpe⟩:=List.mem_flatten.1 (List.mem_of_getElem? hm)
   exact (q4 m p v hm hv).pure_mono (q2 e he p hpe) (fun _ _ h=>h) (fun _ _ _ _ h=>h)
  ·rw [show g'=(0,0) from e]
 have hbig:r.W0.heap.size≤x.W.heap.size:=hX.gr.size
 have hcalls:=hc.calls z _ hpre fun W' hW=>by
  rw [← hI]
  exact hX.inv.1 W' (hX.gr.trans' hW.os hW.tape hW.output hW.size fun b hb hD=>hW.block b (Nat.lt_of_lt_of_le hb hbig) fun e=>by
   rcases (hlt b e).2 with h | h
   ·omega
   ·exact hD h)
 unfold Oper.wp
 rw [Zc0 ho hc.isGo,Oper.upon_enter]
 refine hcalls.mono ?_
 rintro e' W' ⟨y,v,rfl,rfl,hpost⟩
 obtain ⟨w1,w2,vs3,w3,w4,w5⟩:=hpost.ob
 have hρ:y.ρ (0,0)=x.ρ g:=(hpost.step.G (0,0) rfl).2
 rw [hρ] at w3 w5
 let y':Ctx:=⟨x.G,y.F,y.W,x.ρ⟩
 have k2:Step x y':=⟨fun _ h=>⟨h,rfl⟩,fun b o h=>hpost.step.F b o h,fun b o w hF hw=>hpost.step.W b o w hF hw⟩
 refine ⟨y',rfl,hX.change k2 hd hpost.gr.os hpost.gr.tape hpost.gr.output hpost.gr.size (fun b hb hne=>hpost.gr.block b hb fun e=>hne g _ hob e) (fun b o h=>?_) hpost.flt
  (fun g' hg'=>(hX.gens g' hg').imp id fun ⟨e1,e2⟩=>⟨e1,.inl e2⟩) hG ⟨w1,w2,vs3,w3,fun m p v hm hv=>?_,fun b hb=>⟨(hlt b hb).2,(w5 b hb).2⟩⟩ (fun b hb=>.inr ⟨g,_,hob,hb⟩) ?_⟩
 ·rcases hpost.fnew b o h with h1 | h1 | h1
  ·exact .inl h1
  ·exact .inr h1
  ·have:=((w5 b h1).2 o h).1
   cases this
 ·obtain ⟨e,he,hpe⟩:=List.mem_flatten.1 (List.mem_of_getElem? hm)
  exact (w4 m p v hm hv).pure_mono (w2 e he p hpe) (fun _ _ h=>h) (fun _ _ _ _ h=>h)
 ·have hr:=hpost.rep
  rcases hres with ⟨h1,rfl⟩ | ⟨rfl,rfl⟩
  ·exact hr.dry h1
  ·cases hr with
   | row _ _ A n c _ hvv=>exact .row _ _ A n c hG (hρ.symm.trans hvv)
theorem Zpe {f:FuncId} {es:Array Operand} {ts:Array TypeId} {post:List PV} {t:Nat} {g:Gen} {E k:Nat} {els els':List (List PV)} {res res':PV} (hw:Zb ops s o=some true) (ho:o.op = .call { callee:=.value (.func f),args:=es,argTypes:=ts })
  (he:es.toList.map (ev s) = .row t g::post) (hob:s.ob t=some (g,.row E k false els)) (hp:post.all PV.dryF=true) (hc:ContractR P f post E k els res els') (hres:res.dry=true∧res'=res∨res = .row 0 (0,0)∧res' = .row t g):OpR P ops i o s ⟨res',[(t,some (g,.row E k false els'))]⟩:=.any hw fun s' r hA hI=>by
 obtain ⟨e1,e2,_⟩:=ZcJ ho hA
 refine ZqE ho (by rw [e1,he]) ?_ hp hc hres hI
 rw [← e2 (.row t g) (by rw [he];simp) t (by simp [Zh0,Zc5,Zcz,Zab])]
 exact hob
end
section
variable {P:Program} [WInv P] {ops:Array Oper} {draw:Bool} {i:Nat} {L:List Oper} {acc:List (List Nat×List Nat)} {K:FS→Prop} {tm:List (Nat×PV)} {ob:List (Nat×Option (Gen×VObj))} {ng:Nat}
 {d:Option Tmp} {ty:TypeId} {pos:String} {after:Array Edge} {gd:Option (Nat×Bool)}
theorem Zbn {f:FuncId} {es:Array Operand} {ts:Array TypeId} {post:List PV} {t:Nat} {g:Gen} {E k:Nat} {els els':List (List PV)} {res:PV} (hc:ContractR P f post E k els res els') (hw:Zb ops (mkS tm ob ng) ⟨d,.call ⟨.value (.func f),es,ts⟩,ty,pos,after,gd⟩=some true)
  (he:es.toList.map (evL tm) = .row t g::post) (hob:Zg ob t=some (g,.row E k false els)) (hp:post.all PV.dryF=true) (hd:res.dry=true)
  (kk:GoL P ops draw (i+1) L (acc ++ [(Zr (mkS tm ob ng) ⟨d,.call ⟨.value (.func f),es,ts⟩,ty,pos,after,gd⟩,[t])]) (mkS (Zau d res tm) ((t,some (g,.row E k false els'))::ob) ng) K) :
  GoL P ops draw i (⟨d,.call ⟨.value (.func f),es,ts⟩,ty,pos,after,gd⟩::L) acc (mkS tm ob ng) K:=by
 refine ZbR (Zpe hw rfl (by rw [ZB];exact he) hob hp hc (.inl ⟨hd,rfl⟩)) ?_
 rw [Zac]
 exact kk
end
def Zmt (args:List PV) (E k:Nat) (els:List (List PV)):FS:=⟨fun t=>(PV.row 0 (0,0)::args).getD t (.tup []),Zg [(0,some ((0,0),.row E k false els))],1⟩
theorem ZfI {args:List PV} {E k:Nat} {els:List (List PV)} {t:Nat} {g:Gen} {o:VObj} (h:(Zmt args E k els).ob t=some (g,o)):t=0∧g=(0,0)∧o = .row E k false els:=by
 change (if t=0 then some ((0,0),VObj.row E k false els) else none)=some (g,o) at h
 split at h
 ·rename_i e
  injection h with h
  injection h with e1 e2
  exact ⟨e,e1.symm,e2.symm⟩
 ·cases h
def Ztt (P:Program) (rs:List ResultVar) (res:PV) (E k:Nat) (els':List (List PV)):Ex→FS→Prop
 | .exit _,_=>False
 | _,s=>∃ ps,ZbX P s rs=some ps∧ZbY ps=res∧s.ob 0=some ((0,0),.row E k false els')
theorem Zm2 {P:Program} {s:FS} {rs:List ResultVar} {res:PV} {E k:Nat} {els':List (List PV)} {ps:List PV} (h1:ZbX P s rs=some ps) (h2:ZbY ps=res) (h3:s.ob 0=some ((0,0),.row E k false els')):Ztt P rs res E k els' .ret s:=⟨ps,h1,h2,h3⟩
theorem ZbG {P:Program} {s:FS} {rs:List ResultVar} {res:PV} {E k:Nat} {els':List (List PV)} {ps:List PV} (h1:ZbX P s rs=some ps) (h2:ZbY ps=res) (h3:s.ob 0=some ((0,0),.row E k false els')):Ztt P rs res E k els' .normal s:=⟨ps,h1,h2,h3⟩
section
variable {P:Program} [WInv P]
theorem ZhJ (hmix:P.follows .mixedOrders=true) {f:FuncId} {fn:Func} {c:Code} {args:List PV} {E k:Nat} {els els':List (List PV)} {e:Ex} {s1:FS} {ps:List PV} {res:PV}
  (hg:isGo P f=true) (hf:P.funcs[f]? = some fn) (hb:fn.body=some c) (hn:args.length+1≤fn.ntmps) (hok:Zaz fn.ntmps c=true) (hrun:RunC P c (Zmt args E k els) e s1) (he:e = .normal∨e = .ret)
  (hres:ZbX P s1 fn.results.toList=some ps) (hps:ZbY ps=res) (hob:s1.ob 0=some ((0,0),.row E k false els')):ContractR P f args E k els res els':=by
 subst hps
 refine ⟨hg,fun x vs hpre hinv=>?_⟩
 let r:Run:=⟨x.W,Dr x,(vs++Array.replicate (fn.ntmps - vs.size) undef).size,x.F,x.G,x.ρ,WInv.I P⟩
 have hNr:r.N=fn.ntmps:=by
  have:=hpre.size
  simp [r]
  omega
 have hX:RstX r (fun _=>False) (Zmt args E k els) { tmps:=vs++Array.replicate (fn.ntmps - vs.size) undef,defers:=[] } x:=by
  refine ⟨rfl,rfl,Gr.refl _ _,fun g hg=>?_,fun t=>?_,fun t g o ho=>?_,fun t t' g g' o o' b hne h1 h2 hb1 hb2=>?_,hpre.flt,fun _ _ h=>h,fun _ _ h=>.inl h,fun _ h=>⟨h,rfl⟩,⟨hinv,hpre.gen⟩,fun _ _ _ _ h=>h⟩
  ·rw [hpre.gen g hg]
   exact .inl Nat.zero_lt_one
  ·show Rep x ((PV.row 0 (0,0)::args).getD t (.tup [])) _
   rw [Array.getD_eq_getD_getElem?,Array.getElem?_append,List.getD_eq_getElem?_getD]
   by_cases ht:t<vs.size
   ·have hl:t<(PV.row 0 (0,0)::args).length:=by
     rw [List.length_cons,hpre.size]
     exact ht
    rw [if_pos ht,List.getElem?_eq_getElem hl,Array.getElem?_eq_getElem ht]
    exact hpre.rep t _ _ (List.getElem?_eq_getElem hl) (Array.getElem?_eq_getElem ht)
   ·rw [if_neg ht,List.getElem?_eq_none (by rw [List.length_cons,hpre.size];omega)]
    have:(Array.replicate (fn.ntmps - vs.size) undef)[t - vs.size]?.getD undef=undef:=by
     rw [Array.getElem?_replicate]
     split<;>rfl
    rw [this]
    exact .tup [] #[] rfl (fun i p v hp=>by simp at hp)
  ·obtain ⟨rfl,rfl,rfl⟩:=ZfI ho
   exact hpre.ob
  ·exact absurd ((ZfI h1).1.trans (ZfI h2).1.symm) hne
 refine calls_of_wp hf hb ?_
 refine (Zdu hmix hrun).1 r _ x _ ⟨rfl,by rw [hNr];exact hok⟩ hX fun a' y hY=>?_
 obtain ⟨ws,h1,h2,h3⟩:=Zbs hY fn.results.toList hres
 have hstep:Step x y:=⟨fun g hg=>hY.rho g hg,fun b o hb=>hY.f0 b o hb,fun b o v hb hv=>hY.keep b o v hb hv⟩
 have hend:(results fn a'.tmps).run P y.W = .ok (if ws.length=1 then ws.getD 0 undef else .tuple ws.toArray) y.W:=by
  have:(fn.results.mapM (Zmn a')).run P y.W = .ok ws.toArray y.W:=by
   rw [Array.mapM_eq_mapM_toList,map_eq_pure_bind,Sem.run_bind,h1]
   rfl
  have e:results fn a'.tmps=(fn.results.mapM (Zmn a') >>= fun vs=>pure (if h:vs.size=1 then vs[0] else .tuple vs)):=by
   unfold results
   congr 1
  rw [e,Sem.run_bind,this]
  simp only [Result.andThen_ok,Sem.run_pure]
  congr 1
  by_cases hl:ws.length=1
  ·simp [hl]
  ·simp [hl]
 have hfin:∃ v,(results fn a'.tmps).run P y.W = .ok v y.W∧(fun e W'=>∃ y v,y.W=W'∧e=Ending.returned v∧PostR x y E k (ZbY ps) els' v) (Ending.returned v) y.W:=by
  refine ⟨_,hend,y,_,rfl,rfl,hstep,hY.gr,hY.fnew,hY.flt,?_,(hY.ob 0 _ _ hob).2⟩
  have hlq:ps.length=ws.length:=h2.symm
  unfold ZbY
  split
  ·rename_i p
   rw [if_pos (by simpa using hlq.symm)]
   exact h3 0 p rfl
  ·rename_i hne
   have hn1:¬ ws.length=1:=fun h=>by
    rw [h] at hlq
    match ps,hlq with
    | [q],_=>exact hne q rfl
   rw [if_neg hn1]
   refine .tup ps ws.toArray (by simpa using hlq) fun j q v hq hv=>?_
   have:=h3 j q hq
   have hv':ws[j]? = some v:=by simpa using hv
   rw [List.getD_eq_getElem?_getD,hv'] at this
   exact this
 rcases he with rfl | rfl
 ·exact ⟨hY.defers,hfin⟩
 ·exact ⟨hY.defers,hfin⟩
theorem ZkD (hmix:P.follows .mixedOrders=true) {f:FuncId} {fn:Func} {c:Code} {args:List PV} {E k:Nat} {els els':List (List PV)} {res:PV} (hf:P.funcs[f]? = some fn) (hg:isGo P f=true) (hb:fn.body=some c) (hok:(decide (args.length+1≤fn.ntmps)&&Zaz fn.ntmps c)=true)
  (h:PWs P [c] (Ztt P fn.results.toList res E k els') (mkS (ZcP 0 (.row 0 (0,0)::args)) [(0,some ((0,0),.row E k false els))] 1)):ContractR P f args E k els res els':=by
 simp only [Bool.and_eq_true,decide_eq_true_eq] at hok
 obtain ⟨e,s',h1,h2⟩:=ZbI h
 have hsh:Shift (Zmt args E k els) (mkS (ZcP 0 (.row 0 (0,0)::args)) [(0,some ((0,0),.row E k false els))] 1):=ZcO (fun t=>by
  rcases Zce (PV.row 0 (0,0)::args) 0 t with h | ⟨_,h⟩
  ·exact .inl h
  ·exact .inr h) (fun t=>.inr rfl) (Nat.le_refl _)
 cases e with
 | exit id=>exact h2.elim
 | normal=>
   obtain ⟨ps,q1,q2,q3⟩:=h2
   exact ZhJ hmix hg hf hb hok.1 hok.2 (.shift hsh h1) (.inl rfl) q1 q2 q3
 | ret=>
   obtain ⟨ps,q1,q2,q3⟩:=h2
   exact ZhJ hmix hg hf hb hok.1 hok.2 (.shift hsh h1) (.inr rfl) q1 q2 q3
end
end VL
end Go.Proofs.YtjblgpmagampbaaGreatDoor
namespace Go.Proofs.YtjblgpmagampbaaGreatDoor
namespace VL
open Go.RowKit
theorem ZaS {P:Program} [WInv P] {β:Type} {F:Option β} {R:β→PV} {O:β→List (List PV)} {f:FuncId} {fn:Func} {c:Code} {args:List PV} {E k:Nat} {els:List (List PV)} {r:β} (hF:F=some r) (hmix:P.follows .mixedOrders=true) (hf:P.funcs[f]? = some fn) (hg:isGo P f=true) (hb:fn.body=some c) (hok:(decide (args.length+1≤fn.ntmps)&&Zaz fn.ntmps c)=true)
  (h:∀ r,F=some r→PWs P [c] (Ztt P fn.results.toList (R r) E k (O r)) (mkS (ZcP 0 (.row 0 (0,0)::args)) [(0,some ((0,0),.row E k false els))] 1)):ContractR P f args E k els (R r) (O r):=ZkD hmix hf hg hb hok (h r hF)
def dn:PV→PV
 | .nil=>.sl []
 | p=>p
theorem Zrj {x:Ctx} {p:PV} {v:Value} (h:Rep x p v):Rep x (dn p) v:=by
 cases h with
 | nil=>exact .sl [] none 0 0 0 0 0 (fun _ _=>.int .i64 0) rfl (Nat.le_refl _) (by omega) (by simp) (by omega) (by simp) (by simp)
 | bool b=>exact .bool b
 | int k n=>exact .int k n
 | str s=>exact .str s
 | un v=>exact .un v
 | agg ps cs hl h=>exact .agg ps cs hl h
 | tup ps cs hl h=>exact .tup ps cs hl h
 | sl els A n c k b off f h1 h2 h3 h4 h5 h6 h7=>exact .sl els A n c k b off f h1 h2 h3 h4 h5 h6 h7
 | ptr t g off b h1 h2=>exact .ptr t g off b h1 h2
 | elp t g i k off b h1 h2=>exact .elp t g i k off b h1 h2
 | row t g A n c h1 h2=>exact .row t g A n c h1 h2
 | suf t g i k A A' n c c' h1 h2 h3 h4 h5=>exact .suf t g i k A A' n c c' h1 h2 h3 h4 h5
 | mp t g b h1 h2=>exact .mp t g b h1 h2
 | cel cs b off f h1 h2=>exact .cel cs b off f h1 h2
 | fn f ps cs hl h=>exact .fn f ps cs hl h
end VL
end Go.Proofs.YtjblgpmagampbaaGreatDoor
namespace Go.Proofs.YtjblgpmagampbaaGreatDoor
namespace VL
open Go.RowKit
section
variable {P:Program} {r:Run} {o:Oper} {i:Nat} {s:FS}
theorem ZqZ {x:Ctx} {B:Nat} {D:Nat→Prop} {g:Gen} {E k m c:Nat} {sh:Bool} {els:List (List PV)} {A:Option Addr} (h:ObRep x B D g (.row E k sh els)) (hv:x.ρ g = .slice A m c) :
  m=els.length∧els.length≤c∧c≤9223372036854775807∧(0<els.length→∃ b,A=some ⟨b,0,none⟩):=by
 obtain ⟨_,_,vs,h3,_,_⟩:=h
 rcases h3.2 with ⟨hn,hl⟩ | ⟨b,cap,cur,hv2,_,_,hc,hm,_⟩
 ·rw [hv] at hn
  injection hn with e1 e2 e3
  exact ⟨by omega,by omega,by omega,fun h=>by omega⟩
 ·rw [hv] at hv2
  injection hv2 with e1 e2 e3
  subst e3
  exact ⟨e2,hc,by unfold maxLen at hm;omega,fun _=>⟨b,e1⟩⟩
theorem Ztl {T:TypeId} {e w:Operand} {E E' a1 a2 t k n:Nat} {a3:List PV} {te:TI} {g:Gen} {sh:Bool} {els:List (List PV)} (ho:o.op = .slice T e (some w) none none) (ht:tyI P T=some ⟨.slice E,a1,a2,a3⟩) (hte:tyI P E=some te)
  (he:ev s e = .row t g) (hob:ZG s.ob t g=some (.row E' k sh els)) (hn:toNat? (ev s w)=some n) (hnl:n≤els.length) (hk:k=te.size):OpOK P r o i s ⟨.suf t g n k,[]⟩:=by
 intro S a x Q hX hi hd
 subst hk
 obtain ⟨inf,z,h1,_⟩:=Zt ht
 obtain ⟨inf',z',h1',h2',_,h4',_,_⟩:=Zt hte
 have hr:=ZE hX e
 obtain ⟨kd,hw⟩:=Za3 hn (ZE hX w)
 obtain ⟨hg,hO⟩:=hX.ob t g _ (ZD hob)
 rw [he] at hr
 generalize hv:a.eval e=v at hr
 cases hr with
 | row _ _ A m c hG hvv=>
   obtain ⟨rfl,hlc,hcm,hA⟩:=ZqZ hO hvv
   have hb:(Instr.sliceBounds true els.length c (some (a.eval w)) none none).run P x.W = .ok (n,els.length,c) x.W:=by
    simp [Instr.sliceBounds,Instr.sliceBound,asIntOf,hw,hnl]
   refine ZC (v:=.slice (if c=n then A else A.map (·.add (n * te.size))) (els.length - n) (c - n)) (W':=x.W) ?_ (hX.val hd ?_)
   ·unfold execOp
    rw [ho]
    simp [hv,Instr.sliceAt,Instr.slice,run_underlying h1,hb,sizeOf,typeInfo,h2',h4']
   ·refine .suf t g n te.size A _ els.length c _ hG hvv hnl ⟨hlc,hcm⟩ fun hlt=>?_
    obtain ⟨b,rfl⟩:=hA (by omega)
    exact ⟨b,rfl,by rw [if_neg (by omega)];simp only [Option.map_some,ZaQ,Nat.zero_add]⟩
theorem Zso {T:TypeId} {e:Operand} {E E' a1 a2 t k k' n:Nat} {a3:List PV} {g:Gen} {sh:Bool} {els:List (List PV)} (ho:o.op = .call { callee:=.builtin .len,args:=#[e],argTypes:=#[T] }) (ht:tyI P T=some ⟨.slice E,a1,a2,a3⟩)
  (he:ev s e = .suf t g n k) (hob:ZG s.ob t g=some (.row E' k' sh els)):OpOK P r o i s ⟨.int .i64 ((els.length - n:Nat):Int),[]⟩:=by
 intro S a x Q hX hi hd
 obtain ⟨inf,z,h1,_⟩:=Zt ht
 have hr:=ZE hX e
 obtain ⟨hg,hO⟩:=hX.ob t g _ (ZD hob)
 rw [he] at hr
 generalize hv:a.eval e=v at hr
 cases hr with
 | suf _ _ _ _ A A' m c c' hG hvv h3 h4 h5=>
   obtain ⟨rfl,_⟩:=ZqZ hO hvv
   refine ZC (v:=.int .i64 ((els.length - n:Nat):Int)) (W':=x.W) ?_ (hX.val hd (.int _ _))
   unfold execOp
   rw [ho]
   simp [resolve,invoke,builtin,Builtin.len_,hv,run_underlying h1,goInt]
theorem ZpK {T:TypeId} {e e':Operand} {E E' a1 a2 t k q n:Nat} {a3:List PV} {te:TI} {g:Gen} {sh:Bool} {els:List (List PV)} (ho:o.op = .indexAddr T e e') (ht:tyI P T=some ⟨.slice E,a1,a2,a3⟩) (hte:tyI P E=some te) (he:ev s e = .suf t g q k)
  (hn:toNat? (ev s e')=some n) (hob:ZG s.ob t g=some (.row E' k sh els)) (hnl:q+n<els.length) (hk:k=te.size):OpOK P r o i s ⟨.elp t g (q+n) k 0,[]⟩:=by
 intro S a x Q hX hi hd
 subst hk
 obtain ⟨inf,z,h1,_⟩:=Zt ht
 obtain ⟨inf',z',h1',h2',_,h4',_,_⟩:=Zt hte
 have hr:=ZE hX e
 obtain ⟨kd,hidx⟩:=Za3 hn (ZE hX e')
 have key:∀ (ad:Addr) (len cap:Nat),a.eval e = .slice (some ad) len cap→n<len→(execOp a.eval o).run P x.W = .ok (.value (.pointer (some (ad.add (n * te.size))))) x.W:=fun ad len cap hv hlt=>by
  unfold execOp
  rw [ho]
  have:(0:Int)≤n∧(n:Int)<len:=by omega
  simp [hv,hidx,Instr.indexAt,asIntOf,run_underlying h1,sizeOf,typeInfo,h2',h4',hlt]
 rw [he] at hr
 obtain ⟨hg,hO⟩:=hX.ob t g _ (ZD hob)
 generalize hv:a.eval e=v at hr key
 cases hr with
 | suf _ _ _ _ A A' m c c' hG hvv h3 h4 h5=>
   obtain ⟨rfl,_⟩:=ZqZ hO hvv
   obtain ⟨b,rfl,rfl⟩:=h5 (by omega)
   refine ZC (key _ _ _ rfl (by omega)) (hX.val hd ?_)
   rw [ZaQ,← Nat.add_mul]
   have:=Rep.elp (x:=x) t g (q+n) te.size 0 b hG (by rw [hvv];rfl)
   rw [Nat.add_zero] at this
   exact this
theorem ZpL {T:TypeId} {e w:Operand} {E E0 a1 a2 t k n:Nat} {a3:List PV} {te:TI} {g:Gen} {els:List (List PV)} (ho:o.op = .slice T e none (some w) none) (ht:tyI P T=some ⟨.slice E,a1,a2,a3⟩) (hte:tyI P E=some te)
  (he:ev s e = .row t g) (hob:ZG s.ob t g=some (.row E0 k false els)) (hn:toNat? (ev s w)=some n) (hnl:n≤els.length):OpOK P r o i s ⟨.row t (s.ng,i),[(t,some ((s.ng,i),.row E0 k false (els.take n)))]⟩:=by
 intro S a x Q hX hi hd
 obtain ⟨inf,z,h1,_⟩:=Zt ht
 obtain ⟨inf',z',h1',h2',_,h4',_,_⟩:=Zt hte
 have hr:=ZE hX e
 obtain ⟨kd,hw⟩:=Za3 hn (ZE hX w)
 have hob':=ZD hob
 obtain ⟨hg,hO⟩:=hX.ob t g _ hob'
 obtain ⟨q1,q2,vs,h3,q4,q5⟩:=hO
 rw [he] at hr
 generalize hv:a.eval e=v at hr
 cases hr with
 | row _ _ A m c hG hvv=>
   rw [hvv] at h3
   have hmc:m=els.length∧els.length≤c∧(A=none∧c=0∧els.length=0∨∃ b,A=some ⟨b,0,none⟩):=by
    rcases h3.2 with ⟨hn0,hl⟩ | ⟨b,cap,cur,hv2,_,_,hc,_⟩
    ·injection hn0 with e1 e2 e3
     exact ⟨by omega,by omega,.inl ⟨e1,by omega,hl⟩⟩
    ·injection hv2 with e1 e2 e3
     subst e3
     exact ⟨e2,hc,.inr ⟨b,e1⟩⟩
   obtain ⟨rfl,hlc,hA⟩:=hmc
   have hb:(Instr.sliceBounds true els.length c none (some (a.eval w)) none).run P x.W = .ok (0,n,c) x.W:=by
    have hhc:(0:Int)≤n∧(n:Int)≤c:=by omega
    have hhc2:n≤c:=by omega
    simp [Instr.sliceBounds,Instr.sliceBound,asIntOf,hw,hhc2]
   have hsame:(if c=0 then A else A.map (·.add (0 * te.size)))=A:=by
    rcases hA with ⟨rfl,rfl,_⟩ | ⟨b,rfl⟩
    ·rfl
    ·split
     ·rfl
     ·simp only [Option.map_some,ZaQ,Nat.zero_mul,Nat.add_zero]
   refine ZC (v:=.slice A n c) (W':=x.W) ?_ ?_
   ·unfold execOp
    rw [ho]
    have hb':=hb
    simp [hv,Instr.sliceAt,Instr.slice,run_underlying h1,hb',sizeOf,typeInfo,h2',h4']
    have:=hsame
    simp at this
    exact this
   ·refine hX.newObj hi hd rfl rfl rfl (Nat.le_refl _) (fun b hb _=>rfl) (fun b o v hF hv=>hv) (v0:=.slice A n c) (fun b hb=>.inr ⟨g,_,hob',?_⟩) (fun y st hF hW hρ=>⟨fun el hel=>q1 el (List.mem_of_mem_take hel),fun el hel=>q2 el (List.mem_of_mem_take hel),vs.take (n * k),?_,fun m' q u hq hu=>?_,fun b hb=>⟨?_,fun o ho=>?_⟩⟩) (fun y st hW hG hρ=>.row _ _ _ _ _ hG hρ)
    ·rw [hvv]
     rcases hA with ⟨rfl,rfl,_⟩ | ⟨b',rfl⟩
     ·simp [blk] at hb
     ·exact hb
    ·rw [hρ,hW]
     have hlt:(els.take n).length=n:=by rw [List.length_take];omega
     rw [hlt]
     have hvl:vs.length=els.length * k:=h3.1
     have hnk:n * k≤els.length * k:=Nat.mul_le_mul_right _ hnl
     refine ⟨by rw [List.length_take];omega,?_⟩
     rcases h3.2 with ⟨hn0,hl⟩ | ⟨b,cap,cur,hv2,hB,hh,hc,hm,hs,htk⟩
     ·injection hn0 with e1 e2 e3
      exact .inl ⟨by rw [e1,e3,show n=0 by omega],by omega⟩
     ·injection hv2 with e1 e2 e3
      subst e1 e3
      refine .inr ⟨b,c,cur,rfl,hB,hh,by omega,hm,hs,?_⟩
      rw [← htk,List.take_take,Nat.min_eq_left hnk]
    ·have hlf:(els.take n).flatten=els.flatten.take (n * k):=by
      have h6:els.flatten=(els.take n).flatten++(els.drop n).flatten:=by rw [← List.flatten_append,List.take_append_drop]
      have h7:(els.take n).flatten.length=n * k:=by
       rw [ZW (k:=k) _ (fun el hel=>q1 el (List.mem_of_mem_take hel)),List.length_take]
       have:min n els.length=n:=by omega
       rw [this]
      rw [h6,← h7,List.take_left']
      rfl
     rw [hlf,List.getElem?_take] at hq
     rw [List.getElem?_take] at hu
     split at hq
     ·rename_i hm'
      rw [if_pos hm'] at hu
      exact (q4 m' q u hq hu).step st
     ·cases hq
    ·rw [hρ] at hb
     refine (q5 b ?_).1
     rw [hvv]
     rcases hA with ⟨rfl,rfl,_⟩ | ⟨b',rfl⟩
     ·simp [blk] at hb
     ·exact hb
    ·rw [hρ] at hb
     rw [hF] at ho
     refine absurd ((q5 b ?_).2 o ho).1 (by decide)
     rw [hvv]
     rcases hA with ⟨rfl,rfl,_⟩ | ⟨b',rfl⟩
     ·simp [blk] at hb
     ·exact hb
theorem ZpM {T:TypeId} {e:Operand} {E E' a1 a2 t k q:Nat} {a3 zc:List PV} {te:TI} {g:Gen} {els:List (List PV)} (ho:o.op = .call { callee:=.builtin .clear,args:=#[e],argTypes:=#[T] }) (ht:tyI P T=some ⟨.slice E,a1,a2,a3⟩) (hte:tyI P E=some te)
  (he:ev s e = .suf t g q k) (hob:ZG s.ob t g=some (.row E' k false els)) (hk:k=te.size) (hz:te.zero.map dn=zc) (hp:∀ p ∈ zc,p.pure=true) (hlen:te.zero.length=te.size) (hpos:0<te.size) :
  OpOK P r o i s ⟨.tup [],[(t,some (g,.row E' k false (els.take q++List.replicate (els.length - q) zc)))]⟩:=by
 intro S a x Q hX hi hd
 subst hk
 obtain ⟨inf,z,h1,_⟩:=Zt ht
 obtain ⟨inf',z',h1',h2',h3',h4',h5',h6'⟩:=Zt hte
 have hr:=ZE hX e
 have hob':=ZD hob
 obtain ⟨hg,hO⟩:=hX.ob t g _ hob'
 have hO':=hO
 obtain ⟨h1e,h2e,vs,h3e,h4e,h5e⟩:=hO
 rw [he] at hr
 generalize hv:a.eval e=v at hr
 have htup:Rep x (.tup []) (.tuple #[]):=.tup [] #[] rfl (fun i p v hp=>by simp at hp)
 cases hr with
 | suf _ _ _ _ A A' m c c' hG hvv h3 h4 h5=>
   obtain ⟨rfl,_,_,_⟩:=ZqZ hO' hvv
   by_cases hlt:q<els.length
   ·obtain ⟨b,rfl,rfl⟩:=h5 hlt
    rcases h3e.2 with ⟨hn,_⟩ | ⟨b2,cap,cur,hv2,hB2,hh,hnc,hcm2,hcs,htake⟩
    ·rw [hvv] at hn
     cases hn
    rw [hvv] at hv2
    injection hv2 with q1 q2 q3
    injection q1 with q1
    injection q1 with q1
    subst q1 q3
    obtain ⟨m,hm⟩:∃ m,els.length - q=m+1:=⟨els.length - q - 1,by omega⟩
    have hzs:z'.cells.size=te.size:=by rw [← hlen,h6'];simp
    have hzl:zc.length=te.size:=by rw [← hz,List.length_map,hlen]
    have hvl:vs.length=els.length * te.size:=h3e.1
    have hcap:els.length * te.size≤c * te.size:=Nat.mul_le_mul_right _ hnc
    have hsum:q * te.size+(els.length - q) * te.size=els.length * te.size:=by rw [← Nat.add_mul];congr 1;omega
    generalize hcl:(Builtin.zeroCells z'.cells (els.length - q)).toList=zs
    have hzsl:zs.length=(els.length - q) * te.size:=by rw [← hcl];simp [Builtin.zeroCells,hzs]
    have hzone:∀ v ∈ zs,v.oneCell'=true:=fun v hv=>by
     rw [← hcl] at hv
     obtain ⟨j,hj⟩:=List.getElem?_of_mem hv
     have hj2:=hj
     simp only [Builtin.zeroCells,Array.getElem?_toList,Array.getElem?_map] at hj
     have hjl:j<(els.length - q) * z'.cells.size:=by
      have:=(List.getElem?_eq_some_iff.1 hj2).1
      simpa [Builtin.zeroCells] using this
     rw [Array.getElem?_range,if_pos hjl] at hj
     simp only [Option.map_some,Option.some.injEq] at hj
     have hj3:j % z'.cells.size<z'.cells.size:=Nat.mod_lt _ (by omega)
     rw [getElem!_pos z'.cells _ hj3] at hj
     have hq:zc[j % z'.cells.size]? = some (dn (Zbf z'.cells[j % z'.cells.size])):=by rw [← hz,h6'];simp [hj3]
     have:=(Zrj (ZbQ x z'.cells[j % z'.cells.size])).one (PV.cell_of_pure (hp _ (List.mem_of_getElem? hq)))
     rw [hj] at this
     exact this
    have hreps:∀ (j:Nat) (p:PV) (v:Value),(List.replicate (els.length - q) zc).flatten[j]? = some p→zs[j]? = some v→Rep x p v:=fun j p v hp hv=>by
     have hk:∀ e ∈ List.replicate (els.length - q) zc,e.length=te.size:=fun e he=>by rw [List.eq_of_mem_replicate he,hzl]
     have hjl:j<(els.length - q) * te.size:=by
      have:=(List.getElem?_eq_some_iff.1 hp).1
      rw [ZW _ hk] at this
      simpa using this
     have hi':j / te.size<els.length - q:=Nat.div_lt_of_lt_mul (by rw [Nat.mul_comm];exact hjl)
     have hj':j % te.size<te.size:=Nat.mod_lt _ hpos
     have hem:j / te.size * te.size+j % te.size=j:=by rw [Nat.mul_comm];exact Nat.div_add_mod j _
     have he:(List.replicate (els.length - q) zc)[j / te.size]? = some zc:=by rw [List.getElem?_replicate,if_pos hi']
     have hj2:j % te.size<z'.cells.size:=by rw [hzs];exact hj'
     have hq:zc[j % te.size]? = some (dn (Zbf z'.cells[j % te.size])):=by rw [← hz,h6'];simp [hj2]
     have:=ZdT (k:=te.size) (List.replicate (els.length - q) zc) hk _ _ _ _ he hq
     rw [hem,hp] at this
     injection this with this
     subst this
     rw [← hcl] at hv
     simp only [Builtin.zeroCells,Array.getElem?_toList,Array.getElem?_map] at hv
     rw [Array.getElem?_range,if_pos (by rw [hzs];exact hjl),hzs] at hv
     simp only [Option.map_some,Option.some.injEq] at hv
     rw [getElem!_pos z'.cells (j % te.size) hj2] at hv
     subst hv
     exact Zrj (ZbQ x _)
    have hst:=run_storeCells_at P b (q * te.size) E' zs 0 cur x.W hh (by omega) hzone
    simp only [Nat.add_zero] at hst
    have hF:∀ b' o',x.F b' o'→b'≠b:=fun b' o' hFF e=>by
     subst e
     have:=((h5e b' (by rw [hvv];rfl)).2 o' hFF).1
     cases this
    let W':=x.W.setRow b (cur.toList.take (q * te.size)++zs++cur.toList.drop (q * te.size+zs.length)).toArray
    have k2:Step x ⟨x.G,x.F,W',x.ρ⟩:=⟨fun _ h=>⟨h,rfl⟩,fun _ _ h=>h,fun b' o' v' hFF hv'=>(ZbN x.W b _ (hF b' o' hFF)).trans hv'⟩
    have hsz:W'.heap.size=x.W.heap.size:=by simp [W',World.setRow]
    have hlen2:(els.take q++List.replicate (els.length - q) zc).length=els.length:=by simp;omega
    refine ZC (v:=.tuple #[]) (W':=W') ?_ ⟨⟨x.G,x.F,W',x.ρ⟩,rfl,?_⟩
    ·unfold execOp
     rw [ho]
     have hzv:∀ w,(zeroValue E).run P w = .ok z' w:=fun w=>by simp [zeroValue,typeInfo,h2',h3']
     simp [resolve,invoke,builtin,Builtin.clear_,hv,run_underlying h1,hzv,hm]
     rw [← hm,hcl,hst]
     simp [W']
    ·refine hX.change k2 hd rfl rfl rfl (by rw [hsz];exact Nat.le_refl _) (fun b' hb' hne=>setRow_other x.W b b' _ (fun e=>hne g _ hob' (by rw [hvv,e];rfl))) (fun _ _ h=>.inl h) (fun b' o' hb'=>by show b'<W'.heap.size;rw [hsz];exact hX.flt b' o' hb')
      (fun g' hg'=>(hX.gens g' hg').imp id fun ⟨e1,e2⟩=>⟨e1,.inl e2⟩) hg ?_ (fun b' hb'=>.inr ⟨g,_,hob',hb'⟩) (htup.step k2)
     refine ⟨fun e2 he2=>?_,fun e2 he2 p hpp=>?_,vs.take (q * te.size)++zs++vs.drop (q * te.size+zs.length),?_,fun m' p v' hpp hvv'=>?_,fun b' hb'=>⟨(h5e b' hb').1,fun o' hFF=>?_⟩⟩
     ·rcases List.mem_append.1 he2 with h | h
      ·exact h1e e2 (List.mem_of_mem_take h)
      ·rw [List.eq_of_mem_replicate h,hzl]
     ·rcases List.mem_append.1 he2 with h | h
      ·exact h2e e2 (List.mem_of_mem_take h) p hpp
      ·rw [List.eq_of_mem_replicate h] at hpp
       exact hp p hpp
     ·refine ⟨?_,.inr ⟨b,c,_,by change x.ρ g=_;rw [hvv,hlen2],hB2,setRow_heap x.W b cur _ E' (0,0) hh,by rw [hlen2];exact hnc,hcm2,?_,?_⟩⟩
      ·rw [hlen2];simp;omega
      ·simp;omega
      ·rw [hlen2,← htake]
       exact Zf8 cur.toList zs (q * te.size) (els.length * te.size) (by omega) (by have e:cur.toList.length=cur.size:=(by simp);omega)
     ·have hflat:(els.take q++List.replicate (els.length - q) zc).flatten=els.flatten.take (q * te.size)++(List.replicate (els.length - q) zc).flatten++els.flatten.drop (q * te.size+((List.replicate (els.length - q) zc).flatten).length):=by
       have hkz:∀ e ∈ List.replicate (els.length - q) zc,e.length=te.size:=fun e he=>by rw [List.eq_of_mem_replicate he,hzl]
       have e1:(els.take q).flatten=els.flatten.take (q * te.size):=by
        conv=>rhs;rw [← List.take_append_drop q els,List.flatten_append]
        have:(els.take q).flatten.length=q * te.size:=by
         rw [ZW _ (fun e he=>h1e e (List.mem_of_mem_take he)),List.length_take]
         congr 1
         omega
        rw [← this,List.take_left]
       rw [List.flatten_append,e1,ZW _ hkz,List.length_replicate,hsum,← ZW els h1e,List.drop_length,List.append_nil]
      have hpp':=hpp
      rw [hflat] at hpp'
      have hkz:∀ e ∈ List.replicate (els.length - q) zc,e.length=te.size:=fun e he=>by rw [List.eq_of_mem_replicate he,hzl]
      have hrl:(List.replicate (els.length - q) zc).flatten.length=zs.length:=by rw [ZW _ hkz,List.length_replicate,hzsl]
      rcases written (by rw [ZW els h1e,hvl]) hrl (by rw [ZW els h1e,hrl,hzsl];omega) hpp' hvv' with ⟨e1,e2⟩ | ⟨j,e1,e2⟩
      ·exact (h4e m' p v' e1 e2).step k2
      ·exact (hreps j p v' e1 e2).step k2
     ·rw [hlen2]
      exact (h5e b' hb').2 o' hFF
   ·have e0:els.take q++List.replicate (els.length - q) zc=els:=by
     rw [show els.length - q=0 by omega,List.replicate_zero,List.append_nil,List.take_of_length_le (by omega)]
    rw [e0]
    refine ZC (v:=.tuple #[]) (W':=x.W) ?_ ⟨x,rfl,?_⟩
    ·unfold execOp
     rw [ho]
     rw [show els.length - q=0 by omega] at hv
     cases A'<;>simp [resolve,invoke,builtin,Builtin.clear_,hv,run_underlying h1]
    ·exact hX.change (Step.refl x) hd rfl rfl rfl (Nat.le_refl _) (fun _ _ _=>rfl) (fun _ _ h=>.inl h) hX.flt (fun g' hg'=>(hX.gens g' hg').imp id fun ⟨e1,e2⟩=>⟨e1,.inl e2⟩) hg hO' (fun b' hb'=>.inr ⟨g,_,hob',hb'⟩) htup
end
section
variable {P:Program} [WInv P] {ops:Array Oper} {o:Oper} {i:Nat} {s:FS} {T:TypeId} {e e' w:Operand} {E E' a1 a2 t k q n:Nat} {a3:List PV} {te:TI} {g:Gen} {sh:Bool} {els:List (List PV)}
theorem Zsp (hw:Zb ops s o=some true) (ho:o.op = .slice T e (some w) none none) (ht:tyI P T=some ⟨.slice E,a1,a2,a3⟩) (hte:tyI P E=some te) (he:ev s e = .row t g) (hob:ZG s.ob t g=some (.row E' k sh els)) (hn:toNat? (ev s w)=some n) (hnl:n≤els.length) (hk:k=te.size) :
  OpR P ops i o s ⟨.suf t g n k,[]⟩:=.any hw fun s' r hA hI=>by
 have hm:e ∈ o.op.operands:=by rw [ho];simp [Op.operands]
 have hm':w ∈ o.op.operands:=by rw [ho];simp [Op.operands]
 exact Ztl ho ht hte (by rw [← hA.ev e hm];exact he) (by rw [Zaj hA hm (by rw [ho];rfl) (by rw [ho];rfl) (by rw [he];simp [Zab])];exact hob) (by rw [← hA.ev w hm'];exact hn) hnl hk
theorem Zq0 (hw:Zb ops s o=some true) (ho:o.op = .call { callee:=.builtin .len,args:=#[e],argTypes:=#[T] }) (ht:tyI P T=some ⟨.slice E,a1,a2,a3⟩) (he:ev s e = .suf t g n k) (hob:ZG s.ob t g=some (.row E' k sh els)):OpR P ops i o s ⟨.int .i64 ((els.length - n:Nat):Int),[]⟩:=.any hw fun s' r hA hI=>by
 have hm:e ∈ o.op.operands:=by rw [ho];simp [Op.operands,Call.operands]
 exact Zso ho ht (by rw [← hA.ev e hm];exact he) (by rw [Zaj hA hm (by rw [ho];rfl) (by rw [ho];rfl) (by rw [he];simp [Zab])];exact hob)
theorem Zn2 (hw:Zb ops s o=some true) (ho:o.op = .indexAddr T e e') (ht:tyI P T=some ⟨.slice E,a1,a2,a3⟩) (hte:tyI P E=some te) (he:ev s e = .suf t g q k) (hn:toNat? (ev s e')=some n) (hob:ZG s.ob t g=some (.row E' k sh els)) (hnl:q+n<els.length) (hk:k=te.size) :
  OpR P ops i o s ⟨.elp t g (q+n) k 0,[]⟩:=.any hw fun s' r hA hI=>by
 have hm:e ∈ o.op.operands:=by rw [ho];simp [Op.operands]
 have hm':e' ∈ o.op.operands:=by rw [ho];simp [Op.operands]
 exact ZpK ho ht hte (by rw [← hA.ev e hm];exact he) (by rw [← hA.ev e' hm'];exact hn) (by rw [Zaj hA hm (by rw [ho];rfl) (by rw [ho];rfl) (by rw [he];simp [Zab])];exact hob) hnl hk
theorem Zn3 {w:Operand} (hw:Zb ops s o=some true) (ho:o.op = .slice T e none (some w) none) (ht:tyI P T=some ⟨.slice E,a1,a2,a3⟩) (hte:tyI P E=some te) (he:ev s e = .row t g) (hob:ZG s.ob t g=some (.row E' k false els)) (hn:toNat? (ev s w)=some n) (hnl:n≤els.length) :
  OpR P ops i o s ⟨.row t (s.ng,i),[(t,some ((s.ng,i),.row E' k false (els.take n)))]⟩:=.any hw fun s' r hA hI=>by
 have hm:e ∈ o.op.operands:=by rw [ho];simp [Op.operands]
 have hm':w ∈ o.op.operands:=by rw [ho];simp [Op.operands]
 rw [hA.ng]
 exact ZpL ho ht hte (by rw [← hA.ev e hm];exact he) (by rw [Zaj hA hm (by rw [ho];rfl) (by rw [ho];rfl) (by rw [he];simp [Zab])];exact hob) (by rw [← hA.ev w hm'];exact hn) hnl
theorem Zn4 {zc:List PV} (hw:Zb ops s o=some true) (ho:o.op = .call { callee:=.builtin .clear,args:=#[e],argTypes:=#[T] }) (ht:tyI P T=some ⟨.slice E,a1,a2,a3⟩) (hte:tyI P E=some te) (he:ev s e = .suf t g q k) (hob:ZG s.ob t g=some (.row E' k false els)) (hk:k=te.size)
  (hz:te.zero.map dn=zc) (hp:∀ p ∈ zc,p.pure=true) (hlen:te.zero.length=te.size) (hpos:0<te.size):OpR P ops i o s ⟨.tup [],[(t,some (g,.row E' k false (els.take q++List.replicate (els.length - q) zc)))]⟩:=.any hw fun s' r hA hI=>by
 have hm:e ∈ o.op.operands:=by rw [ho];simp [Op.operands,Call.operands]
 exact ZpM ho ht hte (by rw [← hA.ev e hm];exact he) (by rw [Zaj hA hm (by rw [ho];rfl) (by rw [ho];rfl) (by rw [he];simp [Zab])];exact hob) hk hz hp hlen hpos
end
section
variable {P:Program} [WInv P] {ops:Array Oper} {draw:Bool} {i:Nat} {L:List Oper} {acc:List (List Nat×List Nat)} {K:FS→Prop} {tm:List (Nat×PV)} {ob:List (Nat×Option (Gen×VObj))} {ng:Nat}
 {d:Option Tmp} {ty:TypeId} {pos:String} {after:Array Edge} {gd:Option (Nat×Bool)} {T:TypeId} {x y:Operand} {E kk by_:Nat} {z:List PV} {t:Nat} {g:Gen} {els:List (List PV)}
theorem Ztm {w:Operand} {kd:IntKind} {n:Nat} {E':Nat} {sh:Bool} [Sl P T E kk by_ z] (hw:Zb ops (mkS tm ob ng) ⟨d,.slice T x (some w) none none,ty,pos,after,gd⟩=some true) (hx:evL tm x = .row t g) (hb:ZG (Zg ob) t g=some (.row E' kk sh els)) (hy:evL tm w = .int kd (n:Int)) (hn:n≤els.length)
  (k:GoL P ops draw (i+1) L (acc ++ [(Zr (mkS tm ob ng) ⟨d,.slice T x (some w) none none,ty,pos,after,gd⟩,[])]) (mkS (Zau d (.suf t g n kk) tm) ob ng) K):GoL P ops draw i (⟨d,.slice T x (some w) none none,ty,pos,after,gd⟩::L) acc (mkS tm ob ng) K:=by
 obtain ⟨s,b,zz,te,q1,q2,q3,_,_,_,_⟩:=Za7 (P:=P) (T:=T) (E:=E) (k:=kk) (by_:=by_) (z:=z)
 refine ZbR (Zsp hw rfl q1 q2 (by rw [ZB];exact hx) hb (by rw [ZB,hy];exact ZbP) hn q3.symm) ?_
 rw [Zac]
 exact k
theorem Ztn {n k':Nat} {E':Nat} {sh:Bool} [Sl P T E kk by_ z] (hw:Zb ops (mkS tm ob ng) ⟨d,.call ⟨.builtin .len,#[x],#[T]⟩,ty,pos,after,gd⟩=some true) (hx:evL tm x = .suf t g n k') (hb:ZG (Zg ob) t g=some (.row E' k' sh els)) {v:Int} (hv:((els.length - n:Nat):Int)=v)
  (k:GoL P ops draw (i+1) L (acc ++ [(Zr (mkS tm ob ng) ⟨d,.call ⟨.builtin .len,#[x],#[T]⟩,ty,pos,after,gd⟩,[])]) (mkS (Zau d (.int .i64 v) tm) ob ng) K):GoL P ops draw i (⟨d,.call ⟨.builtin .len,#[x],#[T]⟩,ty,pos,after,gd⟩::L) acc (mkS tm ob ng) K:=by
 obtain ⟨s,b,zz,te,q1,q2,q3,_,_,_,_⟩:=Za7 (P:=P) (T:=T) (E:=E) (k:=kk) (by_:=by_) (z:=z)
 subst hv
 refine ZbR (Zq0 hw rfl q1 (by rw [ZB];exact hx) hb) ?_
 rw [Zac]
 exact k
theorem Zq1 {E':Nat} {sh:Bool} {kd:IntKind} {q n m:Nat} [Sl P T E kk by_ z] (hw:Zb ops (mkS tm ob ng) ⟨d,.indexAddr T x y,ty,pos,after,gd⟩=some true) (hx:evL tm x = .suf t g q kk) (hb:ZG (Zg ob) t g=some (.row E' kk sh els)) (hy:evL tm y = .int kd (n:Int)) (hm:q+n=m) (hn:m<els.length)
  (k:GoL P ops draw (i+1) L (acc ++ [(Zr (mkS tm ob ng) ⟨d,.indexAddr T x y,ty,pos,after,gd⟩,[])]) (mkS (Zau d (.elp t g m kk 0) tm) ob ng) K):GoL P ops draw i (⟨d,.indexAddr T x y,ty,pos,after,gd⟩::L) acc (mkS tm ob ng) K:=by
 obtain ⟨s,b,zz,te,q1,q2,q3,_,_,_,_⟩:=Za7 (P:=P) (T:=T) (E:=E) (k:=kk) (by_:=by_) (z:=z)
 subst hm
 refine ZbR (Zn2 hw rfl q1 q2 (by rw [ZB];exact hx) (by rw [ZB,hy];exact ZbP) hb hn q3.symm) ?_
 rw [Zac]
 exact k
theorem Zq2 {w:Operand} {E':Nat} {kd:IntKind} {n:Nat} {els':List (List PV)} [Sl P T E kk by_ z] (hw:Zb ops (mkS tm ob ng) ⟨d,.slice T x none (some w) none,ty,pos,after,gd⟩=some true) (hx:evL tm x = .row t g) (hb:ZG (Zg ob) t g=some (.row E' kk false els)) (hy:evL tm w = .int kd (n:Int)) (hn:n≤els.length) (hs:els.take n=els')
  (k:GoL P ops draw (i+1) L (acc ++ [(Zr (mkS tm ob ng) ⟨d,.slice T x none (some w) none,ty,pos,after,gd⟩,[t])]) (mkS (Zau d (.row t (ng,i)) tm) ((t,some ((ng,i),.row E' kk false els'))::ob) ng) K):GoL P ops draw i (⟨d,.slice T x none (some w) none,ty,pos,after,gd⟩::L) acc (mkS tm ob ng) K:=by
 obtain ⟨s,b,zz,te,q1,q2,q3,_,_,_,_⟩:=Za7 (P:=P) (T:=T) (E:=E) (k:=kk) (by_:=by_) (z:=z)
 subst hs
 refine ZbR (Zn3 hw rfl q1 q2 (by rw [ZB];exact hx) hb (by rw [ZB,hy];exact ZbP) hn) ?_
 rw [Zac]
 exact k
theorem Zq3 {q:Nat} {E':Nat} {zc:List PV} [Sl P T E kk by_ z] (hw:Zb ops (mkS tm ob ng) ⟨d,.call ⟨.builtin .clear,#[x],#[T]⟩,ty,pos,after,gd⟩=some true) (hx:evL tm x = .suf t g q kk) (hb:ZG (Zg ob) t g=some (.row E' kk false els)) (hz:z.map dn=zc) (hp:zc.all PV.pure=true) {els':List (List PV)} (hs:els.take q++List.replicate (els.length - q) zc=els')
  (k:GoL P ops draw (i+1) L (acc ++ [(Zr (mkS tm ob ng) ⟨d,.call ⟨.builtin .clear,#[x],#[T]⟩,ty,pos,after,gd⟩,[t])]) (mkS (Zau d (.tup []) tm) ((t,some (g,.row E' kk false els'))::ob) ng) K):GoL P ops draw i (⟨d,.call ⟨.builtin .clear,#[x],#[T]⟩,ty,pos,after,gd⟩::L) acc (mkS tm ob ng) K:=by
 obtain ⟨s,b,zz,te,q1,q2,q3,q4,q5,q6,q7⟩:=Za7 (P:=P) (T:=T) (E:=E) (k:=kk) (by_:=by_) (z:=z)
 subst hs
 refine ZbR (Zn4 hw rfl q1 q2 (by rw [ZB];exact hx) hb q3.symm (by rw [q5];exact hz) (fun p hpp=>List.all_eq_true.1 hp p hpp) (by rw [q5,q7,q3]) (by rw [q3];exact q6)) ?_
 rw [Zac]
 exact k
end
end VL
end Go.Proofs.YtjblgpmagampbaaGreatDoor
namespace Go.Proofs.YtjblgpmagampbaaGreatDoor
namespace VL
open Go.RowKit
structure PostS (x y:Ctx) (E k:Nat) (els':List (List PV)) (v:Value):Prop where
 step:Step x y
 gr:Gr (Dr x) x.W y.W
 fnew:∀ b o,y.F b o→x.F b o∨x.W.heap.size≤b∨Dr x b
 flt:∀ b o,y.F b o→b<y.W.heap.size
 ob:∃ g,y.ρ g=v∧ObRep y x.W.heap.size (Dr x) g (.row E k false els')
structure ContractS (P:Program) [WInv P] (f:FuncId) (args:List PV) (E k:Nat) (els els':List (List PV)):Prop where
 isGo:VL.isGo P f=true
 calls:∀ (x:Ctx) (vs:Array Value),PreR x args E k els vs→(∀ W',Gr (Dr x) x.W W'→WInv.I P W')→Calls P f vs x.W fun e W'=>∃ y v,y.W=W'∧e = .returned v∧PostS x y E k els' v
section
variable {P:Program} {r:Run} {S:Nat→Prop} {s:FS} {a:Act} {x:Ctx}
theorem RstX.changeF (h:RstX r S s a x) {S':Nat→Prop} {y:Ctx} (k:Step x y) {d:Option Tmp} {v:Value} {val:PV} (hd:∀ k,d=some k→k<r.N) {t:Nat} {g':Gen} {o:VObj}
  (os:y.W.os=x.W.os) (tape:y.W.tape=x.W.tape) (out:y.W.output=x.W.output) (size:x.W.heap.size≤y.W.heap.size)
  (hblock:∀ b,b<x.W.heap.size→(∀ g o,s.ob t=some (g,o)→blk (x.ρ g)≠some b)→y.W.heap[b]? = x.W.heap[b]?)
  (hF:∀ b o,y.F b o→x.F b o∨x.W.heap.size≤b∨∃ g o',s.ob t=some (g,o')∧blk (x.ρ g)=some b) (hflt:∀ b o,y.F b o→b<y.W.heap.size) (gens:∀ g,y.G g→g.1<s.ng∨(g.1=s.ng∧S' g.2)) (hG:y.G g') (hob:ObRep y r.W0.heap.size r.D g' o)
  (hfresh:∀ b,blk (y.ρ g')=some b→x.W.heap.size≤b∨∃ g o,s.ob t=some (g,o)∧blk (x.ρ g)=some b) (hval:Rep y val v) :
  RstX r S' (s.app d ⟨val,[(t,some (g',o))]⟩) (a.put d v) y:=by
 have far:∀ t' g2 o2 b,t'≠t→s.ob t'=some (g2,o2)→blk (x.ρ g2)=some b→b<x.W.heap.size∧∀ g o,s.ob t=some (g,o)→blk (x.ρ g)≠some b:=fun t' g2 o2 b ht h2 hb=>
  ⟨((h.ob t' g2 o2 h2).2.lt b hb).1,fun g o ho=>h.apart t' t g2 g o2 o b ht h2 ho hb⟩
 have hobs:∀ t',(s.app d ⟨val,[(t,some (g',o))]⟩).ob t'=if t'=t then some (g',o) else s.ob t':=fun t'=>rfl
 have hnew:∀ t' g2 o2 b,t'≠t→s.ob t'=some (g2,o2)→blk (x.ρ g2)=some b→blk (y.ρ g')≠some b:=fun t' g2 o2 b ht h2 hb e=>by
  obtain ⟨h3,h4⟩:=far t' g2 o2 b ht h2 hb
  rcases hfresh b e with h5 | ⟨g,o,h5,h6⟩
  ·omega
  ·exact h4 g o h5 h6
 refine ⟨by rw [ZdS];exact h.defers,by rw [ZgU];exact h.size,?_,gens,fun t'=>?_,fun t' g2 o2 h2=>?_,fun t1 t2 g1 g2 o1 o2 b hne h1 h2 hb=>?_,
  hflt,fun b o hb=>k.F b o (h.f0 b o hb),fun b o hb=>?_,fun g hg=>⟨(k.G g (h.rho g hg).1).1,(k.G g (h.rho g hg).1).2.trans (h.rho g hg).2⟩,h.inv,fun b o v hF hv=>k.W b o v (h.f0 b o hF) (h.keep b o v hF hv)⟩
 ·refine h.gr.trans' os tape out size fun b hb hD=>hblock b (Nat.lt_of_lt_of_le hb h.gr.size) fun g o ho e=>?_
  rcases ((h.ob t g o ho).2.lt b e).2 with h3 | h3
  ·omega
  ·exact hD h3
 ·rw [Zih h.size hd]
  cases d with
  | none=>exact (h.tm t').step k
  | some q=>
    show Rep y (if t'=q then val else s.tm t') (if t'=q then v else a.tmps.getD t' undef)
    split
    ·exact hval
    ·exact (h.tm t').step k
 ·rw [hobs] at h2
  split at h2
  ·injection h2 with h2
   injection h2 with e1 e2
   subst e1 e2
   exact ⟨hG,hob⟩
  ·rename_i hne
   obtain ⟨h3,h4⟩:=h.ob t' g2 o2 h2
   exact ⟨(k.G g2 h3).1,h4.step h3 k fun b hb=>⟨hblock b (far t' g2 o2 b hne h2 hb).1 (far t' g2 o2 b hne h2 hb).2,fun o ho=>by
    rcases hF b o ho with h5 | h5 | ⟨g5,o5,h5,h6⟩
    ·exact h5
    ·have:=(far t' g2 o2 b hne h2 hb).1;omega
    ·exact absurd h6 ((far t' g2 o2 b hne h2 hb).2 g5 o5 h5)⟩⟩
 ·rw [hobs] at h1 h2
  split at h1<;>split at h2
  ·rename_i e1 e2;exact absurd (e1.trans e2.symm) hne
  ·rename_i e1 e2
   injection h1 with h1
   injection h1 with e3 e4
   subst e3 e4
   rw [(k.G g2 (h.ob t2 g2 o2 h2).1).2]
   exact fun e=>hnew t2 g2 o2 b e2 h2 e hb
  ·rename_i e1 e2
   injection h2 with h2
   injection h2 with e3 e4
   subst e3 e4
   rw [(k.G g1 (h.ob t1 g1 o1 h1).1).2] at hb
   exact hnew t1 g1 o1 b e1 h1 hb
  ·rw [(k.G g1 (h.ob t1 g1 o1 h1).1).2] at hb
   rw [(k.G g2 (h.ob t2 g2 o2 h2).1).2]
   exact h.apart t1 t2 g1 g2 o1 o2 b hne h1 h2 hb
 ·rcases hF b o hb with h3 | h3 | ⟨g5,o5,h5,h6⟩
  ·exact h.fnew b o h3
  ·exact .inr (.inl (Nat.le_trans h.gr.size h3))
  ·exact .inr ((h.ob t g5 o5 h5).2.lt b h6).2
end
theorem Zlr {x:Ctx} {B:Nat} {D:Nat→Prop} {g:Gen} {E k:Nat} {sh:Bool} {els:List (List PV)} (h:ObRep x B D g (.row E k sh els)):∃ A n c,x.ρ g = .slice A n c:=by
 obtain ⟨_,_,vs,h3,_⟩:=h
 rcases h3.2 with ⟨hn,_⟩ | ⟨b,cap,cur,hv,_⟩
 ·exact ⟨_,_,_,hn⟩
 ·exact ⟨_,_,_,hv⟩
section
variable {P:Program} [WInv P] {r:Run} {ops:Array Oper} {o:Oper} {i:Nat} {s s':FS}
theorem Zqy {f:FuncId} {es:Array Operand} {ts:Array TypeId} {post:List PV} {t:Nat} {g:Gen} {E k:Nat} {els els':List (List PV)} (ho:o.op = .call { callee:=.value (.func f),args:=es,argTypes:=ts })
  (he:es.toList.map (ev s) = .row t g::post) (hob:s.ob t=some (g,.row E k false els)) (hp:post.all PV.dryF=true) (hc:ContractS P f post E k els els') (hI:r.I=WInv.I P):OpOK P r o i s ⟨.row t (s.ng,i),[(t,some ((s.ng,i),.row E k false els'))]⟩:=by
 intro S a x Q hX hi hd
 have hrep:∀ (j:Nat) (p:PV),(PV.row t g::post)[j]? = some p→Rep x p ((es.map a.eval).getD j undef):=fun j p hp=>by
  rw [← he,List.getElem?_map] at hp
  cases he:es.toList[j]? with
  | none=>rw [he] at hp;simp at hp
  | some e=>
    rw [he] at hp
    simp only [Option.map_some,Option.some.injEq] at hp
    subst hp
    have hea:es[j]? = some e:=by simpa using he
    have:(es.map a.eval).getD j undef=a.eval e:=by simp [hea]
    rw [this]
    exact ZE hX e
 obtain ⟨hG,hO⟩:=hX.ob t g _ hob
 have hlt:=fun b hb=>hO.lt b hb
 obtain ⟨q1,q2,vs2,q3,q4,q5⟩:=hO
 let z:Ctx:=⟨fun g'=>g'=(0,0),x.F,x.W,fun _=>x.ρ g⟩
 have hpre:PreR z post E k els (es.map a.eval):=by
  refine ⟨?_,fun j p v hj hv=>?_,⟨rfl,q1,q2,vs2,q3,fun m p v hm hv=>?_,fun b hb=>⟨.inr hb,(q5 b hb).2⟩⟩,fun g' e=>?_,hX.flt⟩
  ·have:=congrArg List.length he
   simp at this
   simp [this]
  ·cases j with
   | zero=>
     simp only [List.getElem?_cons_zero,Option.some.injEq] at hj
     subst hj
     have:=hrep 0 (.row t g) rfl
     rw [Array.getD_eq_getD_getElem?,hv] at this
     simp only [Option.getD_some] at this
     cases this with
     | row _ _ A n c _ hvv=>exact .row _ _ A n c rfl hvv
   | succ j=>
     have hj':post[j]? = some p:=by simpa using hj
     have:=hrep (j+1) p hj
     rw [Array.getD_eq_getD_getElem?,hv] at this
     exact Rep.dryF this (List.all_eq_true.1 hp p (List.mem_of_getElem? hj'))
  ·obtain ⟨e,he,hpe⟩:=List.mem_flatten.1 (List.mem_of_getElem? hm)
   exact (q4 m p v hm hv).pure_mono (q2 e he p hpe) (fun _ _ h=>h) (fun _ _ _ _ h=>h)
  ·rw [show g'=(0,0) from e]
 have hbig:r.W0.heap.size≤x.W.heap.size:=hX.gr.size
 have hcalls:=hc.calls z _ hpre fun W' hW=>by
  rw [← hI]
  exact hX.inv.1 W' (hX.gr.trans' hW.os hW.tape hW.output hW.size fun b hb hD=>hW.block b (Nat.lt_of_lt_of_le hb hbig) fun e=>by
   rcases (hlt b e).2 with h | h
   ·omega
   ·exact hD h)
 unfold Oper.wp
 rw [Zc0 ho hc.isGo,Oper.upon_enter]
 refine hcalls.mono ?_
 rintro e' W' ⟨y,v,rfl,rfl,hpost⟩
 obtain ⟨g0,hv0,hob0⟩:=hpost.ob
 obtain ⟨A,n,c,hsl⟩:=Zlr hob0
 obtain ⟨w1,w2,vs3,w3,w4,w5⟩:=hob0
 rw [hv0] at w3 w5 hsl
 have hnew:¬ x.G (s.ng,i):=fun hg=>by
  rcases hX.gens _ hg with e | ⟨_,e⟩
  ·exact absurd e (Nat.lt_irrefl _)
  ·exact hi e
 let y':Ctx:=⟨fun g=>x.G g∨g=(s.ng,i),y.F,y.W,fun g=>if g=(s.ng,i) then v else x.ρ g⟩
 have hρ:y'.ρ (s.ng,i)=v:=if_pos rfl
 have k2:Step x y':=⟨fun g hg=>⟨.inl hg,if_neg (fun (e:g=(s.ng,i))=>hnew (by rw [← e];exact hg))⟩,fun b o h=>hpost.step.F b o h,fun b o w hF hw=>hpost.step.W b o w hF hw⟩
 refine ⟨y',rfl,hX.changeF k2 hd hpost.gr.os hpost.gr.tape hpost.gr.output hpost.gr.size (fun b hb hne=>hpost.gr.block b hb fun e=>hne g _ hob e) (fun b o h=>?_) hpost.flt
  (fun g' hg'=>?_) (.inr rfl) ⟨w1,w2,vs3,?_,fun m p v hm hv=>?_,fun b hb=>?_⟩ (fun b hb=>?_) ?_⟩
 ·rcases hpost.fnew b o h with h1 | h1 | h1
  ·exact .inl h1
  ·exact .inr (.inl h1)
  ·exact .inr (.inr ⟨g,_,hob,h1⟩)
 ·rcases hg' with hg' | rfl
  ·exact (hX.gens g' hg').imp id fun ⟨e1,e2⟩=>⟨e1,.inl e2⟩
  ·exact .inr ⟨rfl,.inr rfl⟩
 ·rw [hρ]
  exact w3
 ·obtain ⟨e,he,hpe⟩:=List.mem_flatten.1 (List.mem_of_getElem? hm)
  exact (w4 m p v hm hv).pure_mono (w2 e he p hpe) (fun _ _ h=>h) (fun _ _ _ _ h=>h)
 ·rw [hρ] at hb
  refine ⟨?_,(w5 b hb).2⟩
  rcases (w5 b hb).1 with h | h
  ·exact .inl (Nat.le_trans hbig h)
  ·exact (hlt b h).2
 ·rw [hρ] at hb
  rcases (w5 b hb).1 with h | h
  ·exact .inl h
  ·exact .inr ⟨g,_,hob,h⟩
 ·rw [hsl]
  exact .row _ _ A n c (show x.G (s.ng,i)∨(s.ng,i)=(s.ng,i) from .inr rfl) (hρ.trans hsl)
theorem Zo4 {f:FuncId} {es:Array Operand} {ts:Array TypeId} {post:List PV} {t:Nat} {g:Gen} {E k:Nat} {els els':List (List PV)} (hw:Zb ops s o=some true) (ho:o.op = .call { callee:=.value (.func f),args:=es,argTypes:=ts })
  (he:es.toList.map (ev s) = .row t g::post) (hob:s.ob t=some (g,.row E k false els)) (hp:post.all PV.dryF=true) (hc:ContractS P f post E k els els'):OpR P ops i o s ⟨.row t (s.ng,i),[(t,some ((s.ng,i),.row E k false els'))]⟩:=.any hw fun s' r hA hI=>by
 rw [hA.ng]
 obtain ⟨e1,e2,_⟩:=ZcJ ho hA
 refine Zqy ho (by rw [e1,he]) ?_ hp hc hI
 rw [← e2 (.row t g) (by rw [he];simp) t (by simp [Zh0,Zc5,Zcz,Zab])]
 exact hob
end
section
variable {P:Program} [WInv P] {ops:Array Oper} {draw:Bool} {i:Nat} {L:List Oper} {acc:List (List Nat×List Nat)} {K:FS→Prop} {tm:List (Nat×PV)} {ob:List (Nat×Option (Gen×VObj))} {ng:Nat}
 {d:Option Tmp} {ty:TypeId} {pos:String} {after:Array Edge} {gd:Option (Nat×Bool)}
theorem ZiO {f:FuncId} {es:Array Operand} {ts:Array TypeId} {post:List PV} {t:Nat} {g:Gen} {E k:Nat} {els els':List (List PV)} (hc:ContractS P f post E k els els') (hw:Zb ops (mkS tm ob ng) ⟨d,.call ⟨.value (.func f),es,ts⟩,ty,pos,after,gd⟩=some true)
  (he:es.toList.map (evL tm) = .row t g::post) (hob:Zg ob t=some (g,.row E k false els)) (hp:post.all PV.dryF=true)
  (kk:GoL P ops draw (i+1) L (acc ++ [(Zr (mkS tm ob ng) ⟨d,.call ⟨.value (.func f),es,ts⟩,ty,pos,after,gd⟩,[t])]) (mkS (Zau d (.row t (ng,i)) tm) ((t,some ((ng,i),.row E k false els'))::ob) ng) K) :
  GoL P ops draw i (⟨d,.call ⟨.value (.func f),es,ts⟩,ty,pos,after,gd⟩::L) acc (mkS tm ob ng) K:=by
 refine ZbR (Zo4 hw rfl (by rw [ZB];exact he) hob hp hc) ?_
 rw [Zac]
 exact kk
end
def Zr3 (P:Program) (rs:List ResultVar) (E k:Nat) (els':List (List PV)):Ex→FS→Prop
 | .exit _,_=>False
 | _,s=>∃ g,ZbX P s rs=some [.row 0 g]∧s.ob 0=some (g,.row E k false els')
theorem ZeX {P:Program} {s:FS} {rs:List ResultVar} {E k:Nat} {els':List (List PV)} {g:Gen} (h1:ZbX P s rs=some [.row 0 g]) (h3:s.ob 0=some (g,.row E k false els')):Zr3 P rs E k els' .ret s:=⟨g,h1,h3⟩
section
variable {P:Program} [WInv P]
theorem ZhF (hmix:P.follows .mixedOrders=true) {f:FuncId} {fn:Func} {c:Code} {args:List PV} {E k:Nat} {els els':List (List PV)} {e:Ex} {s1:FS} {g0:Gen}
  (hg:isGo P f=true) (hf:P.funcs[f]? = some fn) (hb:fn.body=some c) (hn:args.length+1≤fn.ntmps) (hok:Zaz fn.ntmps c=true) (hrun:RunC P c (Zmt args E k els) e s1) (he:e = .normal∨e = .ret)
  (hres:ZbX P s1 fn.results.toList=some [.row 0 g0]) (hob:s1.ob 0=some (g0,.row E k false els')):ContractS P f args E k els els':=by
 refine ⟨hg,fun x vs hpre hinv=>?_⟩
 let r:Run:=⟨x.W,Dr x,(vs++Array.replicate (fn.ntmps - vs.size) undef).size,x.F,x.G,x.ρ,WInv.I P⟩
 have hNr:r.N=fn.ntmps:=by
  have:=hpre.size
  simp [r]
  omega
 have hX:RstX r (fun _=>False) (Zmt args E k els) { tmps:=vs++Array.replicate (fn.ntmps - vs.size) undef,defers:=[] } x:=by
  refine ⟨rfl,rfl,Gr.refl _ _,fun g hg=>?_,fun t=>?_,fun t g o ho=>?_,fun t t' g g' o o' b hne h1 h2 hb1 hb2=>?_,hpre.flt,fun _ _ h=>h,fun _ _ h=>.inl h,fun _ h=>⟨h,rfl⟩,⟨hinv,hpre.gen⟩,fun _ _ _ _ h=>h⟩
  ·rw [hpre.gen g hg]
   exact .inl Nat.zero_lt_one
  ·show Rep x ((PV.row 0 (0,0)::args).getD t (.tup [])) _
   rw [Array.getD_eq_getD_getElem?,Array.getElem?_append,List.getD_eq_getElem?_getD]
   by_cases ht:t<vs.size
   ·have hl:t<(PV.row 0 (0,0)::args).length:=by
     rw [List.length_cons,hpre.size]
     exact ht
    rw [if_pos ht,List.getElem?_eq_getElem hl,Array.getElem?_eq_getElem ht]
    exact hpre.rep t _ _ (List.getElem?_eq_getElem hl) (Array.getElem?_eq_getElem ht)
   ·rw [if_neg ht,List.getElem?_eq_none (by rw [List.length_cons,hpre.size];omega)]
    have:(Array.replicate (fn.ntmps - vs.size) undef)[t - vs.size]?.getD undef=undef:=by
     rw [Array.getElem?_replicate]
     split<;>rfl
    rw [this]
    exact .tup [] #[] rfl (fun i p v hp=>by simp at hp)
  ·obtain ⟨rfl,rfl,rfl⟩:=ZfI ho
   exact hpre.ob
  ·exact absurd ((ZfI h1).1.trans (ZfI h2).1.symm) hne
 refine calls_of_wp hf hb ?_
 refine (Zdu hmix hrun).1 r _ x _ ⟨rfl,by rw [hNr];exact hok⟩ hX fun a' y hY=>?_
 obtain ⟨ws,h1,h2,h3⟩:=Zbs hY fn.results.toList hres
 have hstep:Step x y:=⟨fun g hg=>hY.rho g hg,fun b o hb=>hY.f0 b o hb,fun b o v hb hv=>hY.keep b o v hb hv⟩
 have hend:(results fn a'.tmps).run P y.W = .ok (if ws.length=1 then ws.getD 0 undef else .tuple ws.toArray) y.W:=by
  have:(fn.results.mapM (Zmn a')).run P y.W = .ok ws.toArray y.W:=by
   rw [Array.mapM_eq_mapM_toList,map_eq_pure_bind,Sem.run_bind,h1]
   rfl
  have e:results fn a'.tmps=(fn.results.mapM (Zmn a') >>= fun vs=>pure (if h:vs.size=1 then vs[0] else .tuple vs)):=by
   unfold results
   congr 1
  rw [e,Sem.run_bind,this]
  simp only [Result.andThen_ok,Sem.run_pure]
  congr 1
  by_cases hl:ws.length=1
  ·simp [hl]
  ·simp [hl]
 have hfin:∃ v,(results fn a'.tmps).run P y.W = .ok v y.W∧(fun e W'=>∃ y v,y.W=W'∧e=Ending.returned v∧PostS x y E k els' v) (Ending.returned v) y.W:=by
  refine ⟨_,hend,y,_,rfl,rfl,hstep,hY.gr,hY.fnew,hY.flt,g0,?_,(hY.ob 0 _ _ hob).2⟩
  rw [if_pos (by simpa using h2)]
  have h5:=h3 0 (.row 0 g0) rfl
  generalize ws.getD 0 undef=u at h5 ⊢
  cases h5 with
  | row _ _ A n c _ hvv=>exact hvv
 rcases he with rfl | rfl
 ·exact ⟨hY.defers,hfin⟩
 ·exact ⟨hY.defers,hfin⟩
theorem Zjt (hmix:P.follows .mixedOrders=true) {f:FuncId} {fn:Func} {c:Code} {args:List PV} {E k:Nat} {els els':List (List PV)} (hf:P.funcs[f]? = some fn) (hg:isGo P f=true) (hb:fn.body=some c) (hok:(decide (args.length+1≤fn.ntmps)&&Zaz fn.ntmps c)=true)
  (h:PWs P [c] (Zr3 P fn.results.toList E k els') (mkS (ZcP 0 (.row 0 (0,0)::args)) [(0,some ((0,0),.row E k false els))] 1)):ContractS P f args E k els els':=by
 simp only [Bool.and_eq_true,decide_eq_true_eq] at hok
 obtain ⟨e,s',h1,h2⟩:=ZbI h
 have hsh:Shift (Zmt args E k els) (mkS (ZcP 0 (.row 0 (0,0)::args)) [(0,some ((0,0),.row E k false els))] 1):=ZcO (fun t=>by
  rcases Zce (PV.row 0 (0,0)::args) 0 t with h | ⟨_,h⟩
  ·exact .inl h
  ·exact .inr h) (fun t=>.inr rfl) (Nat.le_refl _)
 cases e with
 | exit id=>exact h2.elim
 | normal=>
   obtain ⟨g0,q1,q3⟩:=h2
   exact ZhF hmix hg hf hb hok.1 hok.2 (.shift hsh h1) (.inl rfl) q1 q3
 | ret=>
   obtain ⟨g0,q1,q3⟩:=h2
   exact ZhF hmix hg hf hb hok.1 hok.2 (.shift hsh h1) (.inr rfl) q1 q3
end
end VL
end Go.Proofs.YtjblgpmagampbaaGreatDoor

namespace Go.Proofs.YtjblgpmagampbaaGreatDoor
namespace VL
section
variable {P:Program} [WInv P] {α β γ:Type} {ops:Array Oper} {draw:Bool} {i:Nat} {L:List Oper} {acc:List (List Nat×List Nat)} {K:FS→Prop} {tm:List (Nat×PV)} {ob:List (Nat×Option (Gen×VObj))} {ng:Nat}
 {d:Option Tmp} {ty T:TypeId} {pos:String} {after:Array Edge} {gd:Option (Nat×Bool)} {x y:Operand} {r:γ} {q:β→Prop}
theorem aC {F:Option β} {G:β→Option γ} {R:β→PV} {f:FuncId} {es:Array Operand} {ts:Array TypeId} {args:List PV} {us:List (Nat×Option (Gen×VObj))} (hF:F.bind G=some r) (hc:∀ v,F=some v→Zd P f args (R v)) (k:∀ v,G v=some r→q v)
  (hw:Zb ops (mkS tm ob ng) ⟨d,.call ⟨.value (.func f),es,ts⟩,ty,pos,after,gd⟩=some true:=by exact rfl) (ha:ZeW (Zg ob) (es.toList.map (evL tm))=some (args,us):=by exact rfl)
  (h:∀ v,q v→GoL P ops draw (i+1) L (acc ++ [(Zr (mkS tm ob ng) ⟨d,.call ⟨.value (.func f),es,ts⟩,ty,pos,after,gd⟩,us.map (·.1))]) (mkS (Zau d (R v) tm) (us.reverse++ob) ng) K:=by
 (intro v k)
 (refine Zj ?_)
 (exact k)):GoL P ops draw i (⟨d,.call ⟨.value (.func f),es,ts⟩,ty,pos,after,gd⟩::L) acc (mkS tm ob ng) K:=by
 obtain ⟨v,hv,hG⟩:=bnd hF
 exact Ze0 (hc v hv) hw ha (h v (k v hG))
theorem aL {F:Option β} {G:β→Option γ} {R:β→PV} {f:FuncId} {es:Array Operand} {ts:Array TypeId} {args:List PV} (hF:F.bind G=some r) (hc:∀ v,F=some v→Zd P f args (R v)) (k:∀ v,G v=some r→q v)
  (hw:Zb ops (mkS tm ob ng) ⟨d,.call ⟨.value (.func f),es,ts⟩,ty,pos,after,gd⟩=some true:=by exact rfl) (ha:Ze2 (frz (Zg ob)) (es.toList.map (evL tm))=some args:=by exact rfl) (hp:∀ v,(R v).dry=true:=by exact fun _=>rfl)
  (h:∀ v,q v→GoL P ops draw (i+1) L (acc ++ [(Zr (mkS tm ob ng) ⟨d,.call ⟨.value (.func f),es,ts⟩,ty,pos,after,gd⟩,[])]) (mkS (Zau d (R v) tm) ob ng) K:=by
 (intro v k)
 (refine Zj ?_)
 (exact k)):GoL P ops draw i (⟨d,.call ⟨.value (.func f),es,ts⟩,ty,pos,after,gd⟩::L) acc (mkS tm ob ng) K:=by
 obtain ⟨v,hv,hG⟩:=bnd hF
 exact Zhw (hc v hv) hw ha (hp v) (h v (k v hG))
theorem aN {dd:Nat} {F:Option β} {G:β→Option γ} {O:β→VObj} {f:FuncId} {es:Array Operand} {ts:Array TypeId} {args:List PV} {us:List (Nat×Option (Gen×VObj))} (hF:F.bind G=some r) (hc:∀ v,F=some v→ContractN P f args (O v)) (k:∀ v,G v=some r→q v)
  (hw:Zb ops (mkS tm ob ng) ⟨some dd,.call ⟨.value (.func f),es,ts⟩,ty,pos,after,gd⟩=some true:=by exact rfl) (ha:ZeW (Zg ob) (es.toList.map (evL tm))=some (args,us):=by exact rfl)
  (h:∀ v,q v→GoL P ops draw (i+1) L (acc ++ [(Zr (mkS tm ob ng) ⟨some dd,.call ⟨.value (.func f),es,ts⟩,ty,pos,after,gd⟩,(us ++ [(dd,some ((ng,i),O v))]).map (·.1))])
   (mkS ((dd,ZgS (O v) dd (ng,i))::tm) ((us ++ [(dd,some ((ng,i),O v))]).reverse++ob) ng) K:=by
 (intro v k)
 (refine Zj ?_)
 (exact k)):GoL P ops draw i (⟨some dd,.call ⟨.value (.func f),es,ts⟩,ty,pos,after,gd⟩::L) acc (mkS tm ob ng) K:=by
 obtain ⟨v,hv,hG⟩:=bnd hF
 exact Zse (hc v hv) hw ha (h v (k v hG))
theorem aO {F:Option β} {G:β→Option γ} {R:β→PV} {O:β→List PV} {f:FuncId} {es:Array Operand} {ts:Array TypeId} {post post':List PV} {t:Nat} {g:Gen} {cs qs:List PV} {us2 us3:List (Nat×Option (Gen×VObj))} (hF:F.bind G=some r)
  (hc:∀ v,F=some v→Contract P f (.ptr 0 (0,0) 0::post') (some (0,qs)) (R v) (O v)) (k:∀ v,G v=some r→q v) (hw:Zb ops (mkS tm ob ng) ⟨d,.call ⟨.value (.func f),es,ts⟩,ty,pos,after,gd⟩=some true:=by exact rfl)
  (he:es.toList.map (evL tm) = .ptr t g 0::post:=by exact rfl) (hob:ZG (Zg ob) t g=some (.box cs):=by exact rfl) (h2:Zdy (Zg ob) cs=some (qs,us2):=by exact rfl) (h3:ZeW (Zg ob) post=some (post',us3):=by exact rfl)
  (h:∀ v,q v→GoL P ops draw (i+1) L (acc ++ [(Zr (mkS tm ob ng) ⟨d,.call ⟨.value (.func f),es,ts⟩,ty,pos,after,gd⟩,(us2++us3 ++ [(t,some (g,VObj.box (O v)))]).map (·.1))])
   (mkS (Zau d (R v) tm) ((us2++us3 ++ [(t,some (g,VObj.box (O v)))]).reverse++ob) ng) K:=by
 (intro v k)
 (refine Zj ?_)
 (exact k)):GoL P ops draw i (⟨d,.call ⟨.value (.func f),es,ts⟩,ty,pos,after,gd⟩::L) acc (mkS tm ob ng) K:=by
 obtain ⟨v,hv,hG⟩:=bnd hF
 exact ZrN (hc v hv) hw he hob h2 h3 (h v (k v hG))
theorem aI (f:β→List PV) {M:List β} {n:Int} {G:β→Option γ} {E kk by_:Nat} {z:List PV} [Sl P T E kk by_ z] {kd:IntKind} (hF:(atI M n).bind G=some r) (k:∀ v,G v=some r→q v)
  (hw:Zb ops (mkS tm ob ng) ⟨d,.indexAddr T x y,ty,pos,after,gd⟩=some true:=by exact rfl) (hx:evL tm x = .sl (M.map f):=by exact rfl) (hy:evL tm y = .int kd n:=by exact rfl) (hl:∀ e,(f e).length=kk:=by exact fun _=>rfl)
  (h:∀ e,q e→GoL P ops draw (i+1) L (acc ++ [(Zr (mkS tm ob ng) ⟨d,.indexAddr T x y,ty,pos,after,gd⟩,[])]) (mkS (Zau d (.cel (f e)) tm) ob ng) K:=by
 (intro v k)
 (refine Zj ?_)
 (exact k)):GoL P ops draw i (⟨d,.indexAddr T x y,ty,pos,after,gd⟩::L) acc (mkS tm ob ng) K:=by
 obtain ⟨v,hv,hG⟩:=bnd hF
 exact Zqn hw hv hx hy (hl v) (h v (k v hG))
theorem aS {a:ByteArray} {n:Int} {G:Int→Option γ} {q:Int→Prop} {kd:IntKind} (hF:(atS a n).bind G=some r) (k:∀ v,G v=some r→q v) [hT:StrT P T]
  (hw:Zb ops (mkS tm ob ng) ⟨d,.index T x y,ty,pos,after,gd⟩=some true:=by exact rfl) (hx:evL tm x = .str a:=by exact rfl) (hy:evL tm y = .int kd n:=by exact rfl)
  (h:∀ c,q c→GoL P ops draw (i+1) L (acc ++ [(Zr (mkS tm ob ng) ⟨d,.index T x y,ty,pos,after,gd⟩,[])]) (mkS (Zau d (.int .u8 c) tm) ob ng) K:=by
 (intro v k)
 (refine Zj ?_)
 (exact k)):GoL P ops draw i (⟨d,.index T x y,ty,pos,after,gd⟩::L) acc (mkS tm ob ng) K:=by
 obtain ⟨v,hv,hG⟩:=bnd hF
 exact ZoJ StrT.eq hw hv hx hy (h v (k v hG))
theorem sS {a:ByteArray} {l m:Int} {G:ByteArray→Option γ} {q:ByteArray→Prop} {lo hi:Option Operand} (hF:(ZhC a l m).bind G=some r) (k:∀ v,G v=some r→q v) [hT:StrT P T]
  (hw:Zb ops (mkS tm ob ng) ⟨d,.slice T x lo hi none,ty,pos,after,gd⟩=some true:=by exact rfl) (hx:evL tm x = .str a:=by exact rfl) (hlo:loI tm lo=some l:=by exact rfl) (hhi:hiI tm a.size hi=some m:=by exact rfl)
  (h:∀ b,q b→GoL P ops draw (i+1) L (acc ++ [(Zr (mkS tm ob ng) ⟨d,.slice T x lo hi none,ty,pos,after,gd⟩,[])]) (mkS (Zau d (.str b) tm) ob ng) K:=by
 (intro v k)
 (refine Zj ?_)
 (exact k)):GoL P ops draw i (⟨d,.slice T x lo hi none,ty,pos,after,gd⟩::L) acc (mkS tm ob ng) K:=by
 obtain ⟨v,hv,hG⟩:=bnd hF
 exact Zli StrT.eq hw hv hx hlo hhi (h v (k v hG))
theorem sT {a b:ByteArray} {G:ByteArray→Option γ} {q:ByteArray→Prop} {T':TypeId} (hF:(Zp3 a b).bind G=some r) (k:∀ v,G v=some r→q v)
  (hw:Zb ops (mkS tm ob ng) ⟨d,.binOp .add T x y T',ty,pos,after,gd⟩=some true:=by exact rfl) (hx:evL tm x = .str a:=by exact rfl) (hy:evL tm y = .str b:=by exact rfl)
  (h:∀ c,q c→GoL P ops draw (i+1) L (acc ++ [(Zr (mkS tm ob ng) ⟨d,.binOp .add T x y T',ty,pos,after,gd⟩,[])]) (mkS (Zau d (.str c) tm) ob ng) K:=by
 (intro v k)
 (refine Zj ?_)
 (exact k)):GoL P ops draw i (⟨d,.binOp .add T x y T',ty,pos,after,gd⟩::L) acc (mkS tm ob ng) K:=by
 obtain ⟨v,hv,hG⟩:=bnd hF
 exact ZmS hw hv hx hy (h v (k v hG))
theorem pR (f:β→List PV) {dd:Nat} {E kk by_:Nat} {z:List PV} [Sl P T E kk by_ z] {M0 M:List β} {G:List β→Option γ} {q:List β→Prop} {t:Nat} {g:Gen} {sh:Bool} {new:List (List PV)} (hF:(ZfA by_ M0 M).bind G=some r) (k:∀ v,G v=some r→q v)
  (hw:Zb ops (mkS tm ob ng) ⟨some dd,.call ⟨.builtin .append,#[x,y],#[T,T]⟩,ty,pos,after,gd⟩=some true:=by exact rfl) (hf:∀ x,(f x).length=kk:=by exact fun _=>rfl) (hx:evL tm x = .row t g:=by exact rfl) (ho:ZG (Zg ob) t g=some (.row E kk sh (M0.map f)):=by exact rfl) (hy:Zgr (Zg ob) (evL tm y)=some new:=by exact rfl) (hm:new=M.map f:=by exact rfl)
  (h:∀ R,q R→GoL P ops draw (i+1) L (acc ++ [(Zr (mkS tm ob ng) ⟨some dd,.call ⟨.builtin .append,#[x,y],#[T,T]⟩,ty,pos,after,gd⟩,[t])]) (mkS ((dd,.row t (ng,i))::tm) ((t,some ((ng,i),.row E kk sh (R.map f)))::ob) ng) K:=by
 (intro v k)
 (refine Zj ?_)
 (exact k)):GoL P ops draw i (⟨some dd,.call ⟨.builtin .append,#[x,y],#[T,T]⟩,ty,pos,after,gd⟩::L) acc (mkS tm ob ng) K:=by
 obtain ⟨v,hv,hG⟩:=bnd hF
 exact ZsZ hw hv hf hx ho hy hm (h v (k v hG))
theorem sM (f:β→List PV) {E kk by_:Nat} {z:List PV} [Sl P T E kk by_ z] {lo hi:Option Operand} {M:List β} {l m:Int} {G:List β→Option γ} {q:List β→Prop} {us:List (Nat×Option (Gen×VObj))} (hF:(Zjm M l m).bind G=some r) (k:∀ v,G v=some r→q v)
  (hw:Zb ops (mkS tm ob ng) ⟨d,.slice T x lo hi none,ty,pos,after,gd⟩=some true:=by exact rfl) (hf:∀ x,(f x).length=kk:=by exact fun _=>rfl) (hx:Zgr (Zg ob) (evL tm x)=some (M.map f):=by exact rfl) (hlo:loI tm lo=some l:=by exact rfl) (hhi:hiI tm M.length hi=some m:=by exact rfl) (hus:Zp8 (Zg ob) (evL tm x)=us:=by exact rfl)
  (h:∀ R,q R→GoL P ops draw (i+1) L (acc ++ [(Zr (mkS tm ob ng) ⟨d,.slice T x lo hi none,ty,pos,after,gd⟩,us.map (·.1))]) (mkS (Zau d (.sl (R.map f)) tm) (us.reverse++ob) ng) K:=by
 (intro v k)
 (refine Zj ?_)
 (exact k)):GoL P ops draw i (⟨d,.slice T x lo hi none,ty,pos,after,gd⟩::L) acc (mkS tm ob ng) K:=by
 obtain ⟨v,hv,hG⟩:=bnd hF
 exact Zqo hw hv hf hx hlo hhi hus (h v (k v hG))
theorem lM (f:β→List PV) (M:List β) {E kk by_:Nat} {z:List PV} [Sl P T E kk by_ z] {q:Prop} (k:q)
  (hw:Zb ops (mkS tm ob ng) ⟨d,.call ⟨.builtin .len,#[x],#[T]⟩,ty,pos,after,gd⟩=some true:=by exact rfl) (hx:Zgr (Zg ob) (evL tm x)=some (M.map f):=by exact rfl)
  (h:q→GoL P ops draw (i+1) L (acc ++ [(Zr (mkS tm ob ng) ⟨d,.call ⟨.builtin .len,#[x],#[T]⟩,ty,pos,after,gd⟩,[])]) (mkS (Zau d (.int .i64 (M.length:Int)) tm) ob ng) K:=by
 (intro k)
 (refine Zj ?_)
 (exact k)):GoL P ops draw i (⟨d,.call ⟨.builtin .len,#[x],#[T]⟩,ty,pos,after,gd⟩::L) acc (mkS tm ob ng) K:=ZsX hw hx (h k)
theorem bM (f:β→List PV) (M:List β) {dd:Nat} {E kk by_:Nat} {z:List PV} [Sl P T E kk by_ z] {n:Nat} {parts:Array (Nat×Operand)} {q:Prop} {cs qs:List PV} {us:List (Nat×Option (Gen×VObj))} (k:q)
  (hw:Zb ops (mkS tm ob ng) ⟨some dd,.buildSlice T n parts,ty,pos,after,gd⟩=some true:=by exact rfl) (hf:ZdZ (fun i=>some (i * kk,kk)) (List.replicate n z).flatten (evs tm parts.toList)=some cs:=by exact rfl) (hr:Zdy (Zg ob) cs=some (qs,us):=by exact rfl) (hl:qs.length=n * kk:=by exact rfl) (hm:n * kk≤16777216:=by exact (Nat.le_of_ble_eq_true rfl)) (hc:chunks kk n qs=M.map f:=by exact rfl)
  (h:q→GoL P ops draw (i+1) L (acc ++ [(Zr (mkS tm ob ng) ⟨some dd,.buildSlice T n parts,ty,pos,after,gd⟩,us.map (·.1) ++ [dd])]) (mkS ((dd,.row dd (ng,i))::tm) ((dd,some ((ng,i),.row E kk false (M.map f)))::(us.reverse++ob)) ng) K:=by
 (intro k)
 (refine Zj ?_)
 (exact k)):GoL P ops draw i (⟨some dd,.buildSlice T n parts,ty,pos,after,gd⟩::L) acc (mkS tm ob ng) K:=Zaw M hw hf hr hl hm hc (h k)
end
end VL
end Go.Proofs.YtjblgpmagampbaaGreatDoor
namespace Go.Proofs.YtjblgpmagampbaaGreatDoor
namespace VL
open Go.RowKit
def Zlo {α:Type} (l:List α) (q:Int):Option Unit:=if 0≤q∧q≤(l.length:Int) then some () else none
def atQ {α:Type} (l:List α) (q i:Int):Option α:=if 0≤q∧0≤i then atI l (q+i) else none
def Zr0 {α:Type} (l:List α) (q:Int):Int:=((l.length - q.toNat:Nat):Int)
def ZoX {α:Type} (l:List α) (q:Int) (z:α):List α:=l.take q.toNat++List.replicate (l.length - q.toNat) z
theorem Zei {α:Type} {l:List α} {q i:Int} {e:α} (h:atQ l q i=some e):atI l (q+i)=some e:=by
 unfold atQ at h
 split at h
 ·exact h
 ·cases h
section
variable {P:Program} [WInv P] {ops:Array Oper} {draw:Bool} {i:Nat} {L:List Oper} {acc:List (List Nat×List Nat)} {K:FS→Prop} {tm:List (Nat×PV)} {ob:List (Nat×Option (Gen×VObj))} {ng:Nat}
 {d:Option Tmp} {ty:TypeId} {pos:String} {after:Array Edge} {gd:Option (Nat×Bool)} {T:TypeId} {x y:Operand} {E kk by_:Nat} {z:List PV} {t:Nat} {g:Gen} {α:Type} {f:α→List PV}
theorem ZiH {w:Operand} {kd:IntKind} {q:Int} {E':Nat} {sh:Bool} {u:Unit} {M:List α} [Sl P T E kk by_ z] (hw:Zb ops (mkS tm ob ng) ⟨d,.slice T x (some w) none none,ty,pos,after,gd⟩=some true) (hs:Zlo M q=some u) (hx:evL tm x = .row t g) (hb:ZG (Zg ob) t g=some (.row E' kk sh (M.map f))) (hy:evL tm w = .int kd q)
  (k:GoL P ops draw (i+1) L (acc ++ [(Zr (mkS tm ob ng) ⟨d,.slice T x (some w) none none,ty,pos,after,gd⟩,[])]) (mkS (Zau d (.suf t g q.toNat kk) tm) ob ng) K):GoL P ops draw i (⟨d,.slice T x (some w) none none,ty,pos,after,gd⟩::L) acc (mkS tm ob ng) K:=by
 unfold Zlo at hs
 split at hs
 ·rename_i hc
  exact Ztm (n:=q.toNat) hw hx hb (by rw [hy,Int.toNat_of_nonneg hc.1]) (by rw [List.length_map];omega) k
 ·cases hs
theorem ZoY {q:Int} {k' E':Nat} {sh:Bool} {M:List α} [Sl P T E kk by_ z] (hw:Zb ops (mkS tm ob ng) ⟨d,.call ⟨.builtin .len,#[x],#[T]⟩,ty,pos,after,gd⟩=some true) (hx:evL tm x = .suf t g q.toNat k') (hb:ZG (Zg ob) t g=some (.row E' k' sh (M.map f)))
  (k:GoL P ops draw (i+1) L (acc ++ [(Zr (mkS tm ob ng) ⟨d,.call ⟨.builtin .len,#[x],#[T]⟩,ty,pos,after,gd⟩,[])]) (mkS (Zau d (.int .i64 (Zr0 M q)) tm) ob ng) K):GoL P ops draw i (⟨d,.call ⟨.builtin .len,#[x],#[T]⟩,ty,pos,after,gd⟩::L) acc (mkS tm ob ng) K:=
 Ztn hw hx hb (by rw [List.length_map];rfl) k
theorem Zcm {E':Nat} {sh:Bool} {kd:IntKind} {q n:Int} {M:List α} {e:α} [Sl P T E kk by_ z] (hw:Zb ops (mkS tm ob ng) ⟨d,.indexAddr T x y,ty,pos,after,gd⟩=some true) (he:atQ M q n=some e) (hx:evL tm x = .suf t g q.toNat kk) (hb:ZG (Zg ob) t g=some (.row E' kk sh (M.map f))) (hy:evL tm y = .int kd n)
  (k:GoL P ops draw (i+1) L (acc ++ [(Zr (mkS tm ob ng) ⟨d,.indexAddr T x y,ty,pos,after,gd⟩,[])]) (mkS (Zau d (.elp t g (q+n).toNat kk 0) tm) ob ng) K):GoL P ops draw i (⟨d,.indexAddr T x y,ty,pos,after,gd⟩::L) acc (mkS tm ob ng) K:=by
 have h2:=(Zga (Zei he)).2
 unfold atQ at he
 split at he
 ·rename_i hc
  exact Zq1 (n:=n.toNat) hw hx hb (by rw [hy,Int.toNat_of_nonneg hc.2]) (by omega) (by rw [List.length_map];exact (List.getElem?_eq_some_iff.1 h2).1) k
 ·cases he
theorem Zib {q:Int} {E':Nat} {zr:α} {M:List α} [Sl P T E kk by_ z] (hw:Zb ops (mkS tm ob ng) ⟨d,.call ⟨.builtin .clear,#[x],#[T]⟩,ty,pos,after,gd⟩=some true) (hx:evL tm x = .suf t g q.toNat kk) (hb:ZG (Zg ob) t g=some (.row E' kk false (M.map f))) (hz:z.map dn=f zr) (hp:(f zr).all PV.pure=true)
  (k:GoL P ops draw (i+1) L (acc ++ [(Zr (mkS tm ob ng) ⟨d,.call ⟨.builtin .clear,#[x],#[T]⟩,ty,pos,after,gd⟩,[t])]) (mkS (Zau d (.tup []) tm) ((t,some (g,.row E' kk false ((ZoX M q zr).map f)))::ob) ng) K):GoL P ops draw i (⟨d,.call ⟨.builtin .clear,#[x],#[T]⟩,ty,pos,after,gd⟩::L) acc (mkS tm ob ng) K:=
 Zq3 hw hx hb hz hp (by unfold ZoX;rw [List.map_append,List.map_take,List.map_replicate,List.length_map]) k
theorem Zic {w:Operand} {E':Nat} {kd:IntKind} {h:Int} {M R:List α} [Sl P T E kk by_ z] (hw:Zb ops (mkS tm ob ng) ⟨d,.slice T x none (some w) none,ty,pos,after,gd⟩=some true) (hs:Zjm M 0 h=some R) (hx:evL tm x = .row t g) (hb:ZG (Zg ob) t g=some (.row E' kk false (M.map f))) (hy:evL tm w = .int kd h)
  (k:GoL P ops draw (i+1) L (acc ++ [(Zr (mkS tm ob ng) ⟨d,.slice T x none (some w) none,ty,pos,after,gd⟩,[t])]) (mkS (Zau d (.row t (ng,i)) tm) ((t,some ((ng,i),.row E' kk false (R.map f)))::ob) ng) K):GoL P ops draw i (⟨d,.slice T x none (some w) none,ty,pos,after,gd⟩::L) acc (mkS tm ob ng) K:=by
 obtain ⟨h0,h1,h2,rfl⟩:=Zkq hs
 refine Zq2 (n:=h.toNat) hw hx hb (by rw [hy,Int.toNat_of_nonneg h1]) (by rw [List.length_map];omega) (?_:_=_) k
 rw [← List.map_take]
 rfl
end
theorem ZdL {P:Program} [WInv P] {β:Type} {F:Option β} {O:β→List (List PV)} {f:FuncId} {fn:Func} {c:Code} {args:List PV} {E k:Nat} {els:List (List PV)} {r:β} (hF:F=some r) (hmix:P.follows .mixedOrders=true) (hf:P.funcs[f]? = some fn) (hg:isGo P f=true) (hb:fn.body=some c) (hok:(decide (args.length+1≤fn.ntmps)&&Zaz fn.ntmps c)=true)
  (h:∀ r,F=some r→PWs P [c] (Zr3 P fn.results.toList E k (O r)) (mkS (ZcP 0 (.row 0 (0,0)::args)) [(0,some ((0,0),.row E k false els))] 1)):ContractS P f args E k els (O r):=Zjt hmix hf hg hb hok (h r hF)
end VL
end Go.Proofs.YtjblgpmagampbaaGreatDoor
