/- Functions that turn an object with rows of its own. No program is named. | Objects with rows of their own: the rule for a caller, and how a function of that kind is shown. No program is named. | A function that turns an object with rows of its own: run its body. No program is named. | Arrays and pointers that only look. No program is named. | A guard whose test is not known: both ways. No program is named. | Functions as Lean functions: the words in which they are written, and the rules that hold a body against them. No program is named. | More rules for functions as Lean functions: rows under another key, rows made public, tests on bools, bits. No program is named. | The plain side of functions as Lean functions: lemmas to reckon them. No program is named. | A variable of the package is read; and what it is that a function as a Lean function returns something. No program is named. | Function values as Lean functions; functions that hand back a new object; functions that turn an object with rows: held against Lean functions. No program is named. | Functions of the program as Lean functions. Written by fxgen.py. | One step of a run, whichever it is. No program is named. -/
import Derived.Test.YtphibahplgmgfaaGreatDoorPB02
namespace Go.Proofs.YtphibahplgmgfaaGreatDoor
namespace VL
open Go.RowKit
inductive OC where
 | pv (p:PV)
 | row (E k:Nat) (sh:Bool) (els:List (List PV))
def PV.flat:PV→Bool
 | .bool _ | .int _ _ | .str _ | .sl _ | .nil=>true
 | _=>false
def OC.val (t:Nat) (g:Gen):OC→PV
 | .pv p=>p
 | .row _ _ _ _=>.row t g
def ocCells (κ:Nat→Nat) (ν:Nat→Gen):Nat→List OC→List PV
 | _,[]=>[]
 | c,q::r=>q.val (κ c) (ν c)::ocCells κ ν (c+1) r
def ocRows (κ:Nat→Nat) (ν:Nat→Gen):Nat→List OC→List (Nat×Option (Gen×VObj))
 | _,[]=>[]
 | c,.pv _::r=>ocRows κ ν (c+1) r
 | c,.row E k sh els::r=>(κ c,some (ν c,.row E k sh els))::ocRows κ ν (c+1) r
def ocDrop (κ:Nat→Nat):Nat→List OC→List (Nat×Option (Gen×VObj))
 | _,[]=>[]
 | c,.pv _::r=>ocDrop κ (c+1) r
 | c,.row _ _ _ _::r=>(κ c,none)::ocDrop κ (c+1) r
theorem ocCells_get (κ:Nat→Nat) (ν:Nat→Gen):∀ (l:List OC) (c0 c:Nat),(ocCells κ ν c0 l)[c]? = (l[c]?).map fun q=>q.val (κ (c0+c)) (ν (c0+c))
 | [],c0,c=>by simp [ocCells]
 | q::r,c0,0=>by simp [ocCells]
 | q::r,c0,c+1=>by
   simp only [ocCells,List.getElem?_cons_succ]
   rw [ocCells_get κ ν r (c0+1) c]
   have:c0+1+c=c0+(c+1):=by omega
   rw [this]
theorem ocCells_len (κ:Nat→Nat) (ν:Nat→Gen):∀ (l:List OC) (c0:Nat),(ocCells κ ν c0 l).length=l.length
 | [],_=>rfl
 | q::r,c0=>by simp [ocCells,ocCells_len κ ν r]
theorem ocRows_mem {κ:Nat→Nat} {ν:Nat→Gen} {t:Nat} {v:Option (Gen×VObj)}:∀ (l:List OC) (c0:Nat),(t,v) ∈ ocRows κ ν c0 l→∃ c E k sh els,l[c]? = some (.row E k sh els)∧t=κ (c0+c)∧v=some (ν (c0+c),.row E k sh els)
 | [],_,h=>by cases h
 | .pv p::r,c0,h=>by
   obtain ⟨c,E,k,sh,els,h1,h2,h3⟩:=ocRows_mem r (c0+1) h
   have:c0+1+c=c0+(c+1):=by omega
   rw [this] at h2 h3
   exact ⟨c+1,E,k,sh,els,by simpa using h1,h2,h3⟩
 | .row E k sh els::r,c0,h=>by
   rcases List.mem_cons.1 h with h | h
   ·injection h with h1 h2
    exact ⟨0,E,k,sh,els,rfl,h1,h2⟩
   ·obtain ⟨c,E,k,sh,els,h1,h2,h3⟩:=ocRows_mem r (c0+1) h
    have:c0+1+c=c0+(c+1):=by omega
    rw [this] at h2 h3
    exact ⟨c+1,E,k,sh,els,by simpa using h1,h2,h3⟩
theorem ocDrop_mem {κ:Nat→Nat} {t:Nat} {v:Option (Gen×VObj)}:∀ (l:List OC) (c0:Nat),(t,v) ∈ ocDrop κ c0 l→v=none
 | [],_,h=>by cases h
 | .pv p::r,c0,h=>ocDrop_mem r (c0+1) h
 | .row E k sh els::r,c0,h=>by
   rcases List.mem_cons.1 h with h | h
   ·injection h with h1 h2
   ·exact ocDrop_mem r (c0+1) h
theorem ocDrop_has {κ:Nat→Nat}:∀ (l:List OC) (c0 c:Nat) {E k:Nat} {sh:Bool} {els:List (List PV)},l[c]? = some (.row E k sh els)→(κ (c0+c),none) ∈ ocDrop κ c0 l
 | [],_,c,_,_,_,_,h=>by simp at h
 | q::r,c0,0,E,k,sh,els,h=>by
   simp at h
   subst h
   exact List.mem_cons_self ..
 | q::r,c0,c+1,E,k,sh,els,h=>by
   have h':r[c]? = some (.row E k sh els):=by simpa using h
   have:=ocDrop_has (κ:=κ) r (c0+1) c h'
   have e:c0+1+c=c0+(c+1):=by omega
   rw [e] at this
   cases q with
   | pv p=>exact this
   | row _ _ _ _=>exact List.mem_cons_of_mem _ this
theorem flips_or:∀ (us:List (Nat×Option (Gen×VObj))) (f:Nat→Option (Gen×VObj)) (t:Nat),((flips f us) t=f t∧∀ v,(t,v) ∉ us)∨∃ v,(t,v) ∈ us∧(flips f us) t=v
 | [],f,t=>.inl ⟨rfl,fun v h=>by cases h⟩
 | (k,w)::us,f,t=>by
  rcases flips_or us (setOb f k w) t with ⟨h1,h2⟩ | ⟨v,h1,h2⟩
  ·by_cases e:t=k
   ·refine .inr ⟨w,by rw [e];exact List.mem_cons_self ..,?_⟩
    show (flips (setOb f k w) us) t=w
    rw [h1]
    unfold setOb
    rw [if_pos e]
   ·refine .inl ⟨?_,fun v hv=>?_⟩
    ·show (flips (setOb f k w) us) t=f t
     rw [h1]
     unfold setOb
     rw [if_neg e]
    ·rcases List.mem_cons.1 hv with h | h
     ·injection h with h _
      exact e h
     ·exact h2 v h
  ·exact .inr ⟨v,List.mem_cons_of_mem _ h1,h2⟩
theorem Rep.flat_mono {x y:Ctx} {p:PV} {v:Value} (h:Rep x p v) (hp:p.flat=true) (hF:∀ b o,x.F b o→y.F b o) (hW:∀ b o v,x.F b o→x.W.cell? ⟨b,o,none⟩=some v→y.W.cell? ⟨b,o,none⟩=some v):Rep y p v:=by
 cases p with
 | nil=>cases h;exact .nil
 | bool b=>exact h.pure_mono rfl hF hW
 | int k n=>exact h.pure_mono rfl hF hW
 | str s=>exact h.pure_mono rfl hF hW
 | sl els=>exact h.pure_mono rfl hF hW
 | _=>simp [PV.flat] at hp
theorem PV.cell_of_flat {p:PV} (h:p.flat=true):p.cell=true:=by cases p<;>simp_all [PV.flat,PV.cell]
structure ORep (x:Ctx) (B:Nat) (D:Nat→Prop) (g:Gen) (κ:Nat→Nat) (ν:Nat→Gen) (oc:List OC):Prop where
 box:x.G g∧ObRep x B D g (.box (ocCells κ ν 0 oc))
 row:∀ c E k sh els,oc[c]? = some (OC.row E k sh els)→x.G (ν c)∧ObRep x B D (ν c) (.row E k sh els)
 apB:∀ c E k sh els b,oc[c]? = some (OC.row E k sh els)→blk (x.ρ g)=some b→blk (x.ρ (ν c))≠some b
 apR:∀ c c' E k sh els E' k' sh' els' b,c≠c'→oc[c]? = some (OC.row E k sh els)→oc[c']? = some (OC.row E' k' sh' els')→blk (x.ρ (ν c))=some b→blk (x.ρ (ν c'))≠some b
 flat:∀ (c:Nat) (p:PV),oc[c]? = some (OC.pv p)→p.flat=true
def Dp (x:Ctx) (g:Gen) (ν:Nat→Gen) (oc:List OC) (b:Nat):Prop:=blk (x.ρ g)=some b∨∃ c E k sh els,oc[c]? = some (OC.row E k sh els)∧blk (x.ρ (ν c))=some b
def κ0 (c:Nat):Nat:=1000+c
def ν0 (c:Nat):Gen:=(0,1000+c)
structure PreP (x:Ctx) (args:List PV) (j:Nat) (oc:List OC) (vs:Array Value):Prop where
 size:args.length=vs.size
 rep:∀ (i:Nat) (p:PV) (v:Value),args[i]? = some p→vs[i]? = some v→Rep x p v
 ob:ORep x x.W.heap.size (Dp x (0,j) ν0 oc) (0,j) κ0 ν0 oc
 gen:∀ g,x.G g→g.1=0
 flt:∀ b o,x.F b o→b<x.W.heap.size
structure PostP (x y:Ctx) (j:Nat) (oc:List OC) (r:PV) (oc':List OC) (v:Value):Prop where
 step:Step x y
 gr:Gr (Dp x (0,j) ν0 oc) x.W y.W
 fnew:∀ b o,y.F b o→x.F b o∨x.W.heap.size≤b∨Dp x (0,j) ν0 oc b
 flt:∀ b o,y.F b o→b<y.W.heap.size
 rep:Rep y r v
 ob:∃ κ ν,ORep y x.W.heap.size (Dp x (0,j) ν0 oc) (0,j) κ ν oc'
structure ContractP (P:Program) [WInv P] (f:FuncId) (args:List PV) (j:Nat) (oc:List OC) (r:PV) (oc':List OC):Prop where
 isGo:VL.isGo P f=true
 dry:r.dry=true
 calls:∀ (x:Ctx) (vs:Array Value),PreP x args j oc vs→(∀ W',Gr (Dp x (0,j) ν0 oc) x.W W'→WInv.I P W')→Calls P f vs x.W fun e W'=>∃ y v,y.W=W'∧e = .returned v∧PostP x y j oc r oc' v
theorem tm_put {y:Ctx} {s:FS} {a:Act} {N:Nat} (hs:a.tmps.size=N) {d:Option Tmp} (hd:∀ k,d=some k→k<N) {p:PV} {v:Value} {us:List (Nat×Option (Gen×VObj))} (hp:Rep y p v) (ho:∀ t,Rep y (s.tm t) (a.tmps.getD t undef)) (t':Nat):Rep y ((s.app d ⟨p,us⟩).tm t') ((a.put d v).tmps.getD t' undef):=by
 rw [put_getD hs hd]
 cases d with
 | none=>exact ho t'
 | some q=>
   show Rep y (if t'=q then p else s.tm t') (if t'=q then v else a.tmps.getD t' undef)
   split
   ·exact hp
   ·exact ho t'
section
variable {P:Program} [WInv P] {r:Run} {ops:Array Oper} {o:Oper} {i:Nat} {s s':FS}
theorem ok_callP {f:FuncId} {es:Array Operand} {ts:Array TypeId} {pre post pre' post':List PV} {t:Nat} {g:Gen} {κ:Nat→Nat} {ν:Nat→Gen} {oc oc':List OC} {res:PV} (ho:o.op = .call { callee:=.value (.func f),args:=es,argTypes:=ts })
  (he:es.toList.map (ev s)=pre ++ .ptr t g 0::post) (hob:s.ob t=some (g,.box (ocCells κ ν 0 oc))) (hrow:∀ c E k sh els,oc[c]? = some (OC.row E k sh els)→s.ob (κ c)=some (ν c,.row E k sh els)) (hfl:∀ (c:Nat) (p:PV),oc[c]? = some (OC.pv p)→p.flat=true)
  (hk1:∀ c E k sh els,oc[c]? = some (OC.row E k sh els)→κ c≠t) (hk2:∀ c c' E k sh els E' k' sh' els',c≠c'→oc[c]? = some (OC.row E k sh els)→oc[c']? = some (OC.row E' k' sh' els')→κ c≠κ c')
  (h1:resA s.ob pre=some (pre',[])) (h3:resA s.ob post=some (post',[])) (hn:pre.length<1000) (hc:ContractP P f (pre' ++ .ptr pre.length (0,pre.length) 0::post') pre.length oc res oc') (hI:r.I=WInv.I P) :
  OpOKx P r o i s ⟨res,ocDrop κ 0 oc++(t,some (g,.box (ocCells (fun c=>1000+100 * t+c) (fun c=>(s.ng,i+1000000 * (c+1))) 0 oc')))::ocRows (fun c=>1000+100 * t+c) (fun c=>(s.ng,i+1000000 * (c+1))) 0 oc'⟩:=by
 intro S a x Q hX hiM hi hi2 hd
 have hrep:∀ (j:Nat) (p:PV),(pre ++ .ptr t g 0::post)[j]? = some p→Rep x p ((es.map a.eval).getD j undef):=fun j p hp=>by
  rw [← he,List.getElem?_map] at hp
  cases he:es.toList[j]? with
  | none=>rw [he] at hp;simp at hp
  | some e=>
    rw [he] at hp
    simp only [Option.map_some,Option.some.injEq] at hp
    subst hp
    have hea:es[j]? = some e:=by simpa using he
    have:(es.map a.eval).getD j undef=a.eval e:=by simp [hea]
    rw [this]
    exact ev_rep hX e
 obtain ⟨F1,st1,hX1,hR1,_⟩:=resA_sound _ (Flip.refl s.ob) hX (g:=fun j=>(es.map a.eval).getD j undef) h1 (fun j p hp=>hrep j p (by
  rw [List.getElem?_append_left (List.getElem?_eq_some_iff.1 hp).1];exact hp))
 change RstX r S s a { x with F:=F1 } at hX1
 obtain ⟨F3,st3,hX3,hR3,_⟩:=resA_sound post (Flip.refl s.ob) hX1 (g:=fun j=>(es.map a.eval).getD (pre.length+1+j) undef) h3 (fun j p hp=>((hrep (pre.length+1+j) p (by
  rw [List.getElem?_append_right (by omega)]
  have:pre.length+1+j - pre.length=j+1:=by omega
  rw [this,List.getElem?_cons_succ]
  exact hp)).step st1))
 change RstX r S s a { x with F:=F3 } at hX3
 obtain ⟨hGg,b,T,vs,hρ,hh,hcl,hcc,hcr,hBb,hnF⟩:=hX3.ob t g _ hob
 have hblt:b<x.W.heap.size:=(Array.getElem?_eq_some_iff.1 hh).1
 change x.ρ g=_ at hρ
 have hF13:∀ b o,F1 b o→F3 b o:=fun b o h=>st3.F b o h
 have hpl:pre'.length=pre.length:=resA_len _ h1
 let z:Ctx:=⟨fun g'=>g'=(0,pre.length)∨∃ c E k sh els,oc[c]? = some (OC.row E k sh els)∧g'=(0,1000+c),F3,x.W,fun g'=>if g'=(0,pre.length) then x.ρ g else x.ρ (ν (g'.2 - 1000))⟩
 have zn:z.ρ (0,pre.length)=x.ρ g:=if_pos rfl
 have zr:∀ c,z.ρ (ν0 c)=x.ρ (ν c):=fun c=>by
  show (if ((0,1000+c):Gen)=(0,pre.length) then x.ρ g else x.ρ (ν (1000+c - 1000)))=_
  rw [if_neg (fun e=>by injection e with _ e;omega)]
  have:1000+c - 1000=c:=by omega
  rw [this]
 have hD:∀ b2,Dp z (0,pre.length) ν0 oc b2↔(blk (x.ρ g)=some b2∨∃ c E k sh els,oc[c]? = some (OC.row E k sh els)∧blk (x.ρ (ν c))=some b2):=fun b2=>by
  unfold Dp
  rw [zn]
  constructor
  ·rintro (h | ⟨c,E,k,sh,els,h,h'⟩)
   ·exact .inl h
   ·rw [zr] at h'
    exact .inr ⟨c,E,k,sh,els,h,h'⟩
  ·rintro (h | ⟨c,E,k,sh,els,h,h'⟩)
   ·exact .inl h
   ·exact .inr ⟨c,E,k,sh,els,h,by rw [zr];exact h'⟩
 have rowR:∀ c E k sh els,oc[c]? = some (OC.row E k sh els)→x.G (ν c)∧ObRep { x with F:=F3 } r.W0.heap.size r.D (ν c) (.row E k sh els):=fun c E k sh els h=>hX3.ob (κ c) (ν c) _ (hrow c E k sh els h)
 have hDlt:∀ b2,Dp z (0,pre.length) ν0 oc b2→b2<x.W.heap.size∧(r.W0.heap.size≤b2∨r.D b2):=fun b2 h=>by
  rcases (hD b2).1 h with h | ⟨c,E,k,sh,els,h,h'⟩
  ·exact (hX3.ob t g _ hob).2.lt b2 h
  ·exact (rowR c E k sh els h).2.lt b2 h'
 have hpre:PreP z (pre' ++ .ptr pre.length (0,pre.length) 0::post') pre.length oc (es.map a.eval):=by
  refine ⟨?_,fun j p v hp hv=>?_,⟨⟨.inl rfl,b,T,vs,zn.trans hρ,hh,?_,fun p hp=>?_,fun j p v hp hv=>?_,.inr ((hD b).2 (.inl (by rw [hρ];rfl))),hnF⟩,fun c E k sh els h=>?_,fun c E k sh els b2 h hb hb2=>?_,fun c c' E k sh els E' k' sh' els' b2 hne h h' hb hb2=>?_,hfl⟩,fun g' hg'=>?_,hX3.flt⟩
  ·have hl:=congrArg List.length he
   simp at hl
   simp [hpl,resA_len _ h3,hl]
  ·rw [List.getElem?_append,hpl] at hp
   split at hp
   ·obtain ⟨q1,q2⟩:=hR1 j p hp
    rw [Array.getD_eq_getD_getElem?,hv] at q2
    exact q2.clean_mono q1 hF13 (fun _ _ _ _ h=>h)
   ·rename_i hj
    cases hk:j - pre.length with
    | zero=>
      rw [hk] at hp
      simp only [List.getElem?_cons_zero,Option.some.injEq] at hp
      subst hp
      obtain rfl:j=pre.length:=by omega
      have:=hrep pre.length (.ptr t g 0) (by rw [List.getElem?_append_right (Nat.le_refl _),Nat.sub_self];rfl)
      rw [Array.getD_eq_getD_getElem?,hv] at this
      simp only [Option.getD_some] at this
      cases this with
      | ptr _ _ _ b2 _ hb2=>exact .ptr _ _ _ b2 (.inl rfl) (by rw [zn];exact hb2)
    | succ k=>
      rw [hk,List.getElem?_cons_succ] at hp
      obtain ⟨q1,q2⟩:=hR3 k p hp
      have:pre.length+1+k=j:=by omega
      rw [this,Array.getD_eq_getD_getElem?,hv] at q2
      exact q2.clean_mono q1 (fun _ _ h=>h) (fun _ _ _ _ h=>h)
  ·rw [ocCells_len] at hcl ⊢
   exact hcl
  ·obtain ⟨j,hj⟩:=List.getElem?_of_mem hp
   rw [ocCells_get,Option.map_eq_some_iff] at hj
   obtain ⟨q,hq,rfl⟩:=hj
   cases q with
   | pv p=>exact PV.cell_of_flat (hfl j p hq)
   | row _ _ _ _=>rfl
  ·rw [ocCells_get,Option.map_eq_some_iff] at hp
   obtain ⟨q,hq,rfl⟩:=hp
   have:=hcr j (q.val (κ (0+j)) (ν (0+j))) v (by rw [ocCells_get,hq];rfl) hv
   rw [Nat.zero_add] at this ⊢
   cases q with
   | pv p=>exact Rep.flat_mono this (hfl j p hq) (fun _ _ h=>h) (fun _ _ _ _ h=>h)
   | row E k sh els=>
     cases this with
     | row _ _ A n c hG hvv=>exact .row _ _ A n c (.inr ⟨j,E,k,sh,els,hq,rfl⟩) ((zr j).trans hvv)
  ·obtain ⟨_,q1,q2,vs2,q3,q4,q5⟩:=rowR c E k sh els h
   refine ⟨.inr ⟨c,E,k,sh,els,h,rfl⟩,q1,q2,vs2,by rw [zr];exact q3,fun m p v hp hv=>?_,fun b2 hb2=>?_⟩
   ·obtain ⟨e,he,hpe⟩:=List.mem_flatten.1 (List.mem_of_getElem? hp)
    exact (q4 m p v hp hv).pure_mono (q2 e he p hpe) (fun _ _ h=>h) (fun _ _ _ _ h=>h)
   ·rw [zr] at hb2
    exact ⟨.inr ((hD b2).2 (.inr ⟨c,E,k,sh,els,h,hb2⟩)),(q5 b2 hb2).2⟩
  ·rw [zn] at hb
   rw [zr] at hb2
   exact hX3.apart t (κ c) g (ν c) _ _ b2 (fun e=>hk1 c E k sh els h e.symm) hob (hrow c E k sh els h) hb hb2
  ·rw [zr] at hb hb2
   exact hX3.apart (κ c) (κ c') (ν c) (ν c') _ _ b2 (hk2 c c' E k sh els E' k' sh' els' hne h h') (hrow c E k sh els h) (hrow c' E' k' sh' els' h') hb hb2
  ·rcases hg' with rfl | ⟨c,E,k,sh,els,_,rfl⟩<;>rfl
 have hcalls:=hc.calls z _ hpre fun W' hW=>by
  rw [← hI]
  exact hX.inv.1 W' (hX.gr.trans' hW.os hW.tape hW.output hW.size fun b' hb' hD'=>hW.block b' (Nat.lt_of_lt_of_le hb' hX.gr.size) fun hDb=>by
   rcases (hDlt b' hDb).2 with h | h
   ·omega
   ·exact hD' h)
 unfold Oper.wp
 rw [exec_call ho hc.isGo,Oper.upon_enter]
 refine hcalls.mono ?_
 rintro e W' ⟨y,v,rfl,rfl,hpost⟩
 obtain ⟨κ2,ν2,hO⟩:=hpost.ob
 let nm:Nat→Gen:=fun c=>(s.ng,i+1000000 * (c+1))
 let y':Ctx:=⟨fun g'=>x.G g'∨∃ c E k sh els,oc'[c]? = some (OC.row E k sh els)∧g'=nm c,y.F,y.W,fun g'=>if g'.1=s.ng∧g'.2 % 1000000=i∧1000000≤g'.2 then y.ρ (ν2 (g'.2 / 1000000 - 1)) else x.ρ g'⟩
 have yn:∀ c,y'.ρ (nm c)=y.ρ (ν2 c):=fun c=>by
  show (if s.ng=s.ng∧(i+1000000 * (c+1)) % 1000000=i∧1000000≤i+1000000 * (c+1) then y.ρ (ν2 ((i+1000000 * (c+1)) / 1000000 - 1)) else _)=_
  rw [if_pos ⟨rfl,by omega,by omega⟩]
  have:(i+1000000 * (c+1)) / 1000000 - 1=c:=by omega
  rw [this]
 have old:∀ g',x.G g'→y'.ρ g'=x.ρ g':=fun g' hg'=>if_neg fun ⟨e1,e2,e3⟩=>by
  rcases hX.gens g' hg' with e | ⟨_,e⟩
  ·omega
  ·refine hi (hi2 (g'.2 / 1000000 - 1) ?_)
   have:i+1000000 * (g'.2 / 1000000 - 1+1)=g'.2:=by omega
   rw [this]
   exact e
 have k:Step { x with F:=F3 } y':=⟨fun g' hg'=>⟨.inl hg',old g' hg'⟩,fun b o hb=>hpost.step.F b o hb,fun b o v hb hv=>hpost.step.W b o v hb hv⟩
 have notD:∀ t2 g2 o2 b2,t2≠t→(∀ c E k sh els,oc[c]? = some (OC.row E k sh els)→κ c≠t2)→s.ob t2=some (g2,o2)→blk (x.ρ g2)=some b2→¬ Dp z (0,pre.length) ν0 oc b2:=fun t2 g2 o2 b2 n1 n2 h hb hDb=>by
  rcases (hD b2).1 hDb with h' | ⟨c,E,k,sh,els,h',h''⟩
  ·exact hX3.apart t2 t g2 g o2 _ b2 n1 h hob hb h'
  ·exact hX3.apart t2 (κ c) g2 (ν c) o2 _ b2 (fun e=>n2 c E k sh els h' e.symm) h (hrow c E k sh els h') hb h''
 have conv:∀ b2,(x.W.heap.size≤b2∨Dp z (0,pre.length) ν0 oc b2)→(r.W0.heap.size≤b2∨r.D b2):=fun b2 h=>h.elim (fun h=>.inl (Nat.le_trans hX.gr.size h)) fun h=>(hDlt b2 h).2
 have oldOb:∀ t2 g2 o2,t2≠t→(∀ c E k sh els,oc[c]? = some (OC.row E k sh els)→κ c≠t2)→s.ob t2=some (g2,o2)→ObRep y' r.W0.heap.size r.D g2 o2:=fun t2 g2 o2 n1 n2 h=>by
  obtain ⟨q1,q2⟩:=hX3.ob t2 g2 o2 h
  refine q2.step q1 k fun b2 hb2=>?_
  have hlt:=(q2.lt b2 hb2).1
  have hnd:=notD t2 g2 o2 b2 n1 n2 h hb2
  refine ⟨hpost.gr.block b2 hlt hnd,fun o3 ho3=>?_⟩
  rcases hpost.fnew b2 o3 ho3 with h | h | h
  ·exact h
  ·exact absurd hlt (Nat.not_lt.2 h)
  ·exact absurd h hnd
 have newRow:∀ c E k sh els,oc'[c]? = some (OC.row E k sh els)→ObRep y' r.W0.heap.size r.D (nm c) (.row E k sh els):=fun c E k sh els h=>by
  obtain ⟨_,q1,q2,vs2,q3,q4,q5⟩:=hO.row c E k sh els h
  refine ⟨q1,q2,vs2,by rw [yn];exact q3,fun m p v hp hv=>?_,fun b2 hb2=>?_⟩
  ·obtain ⟨e,he,hpe⟩:=List.mem_flatten.1 (List.mem_of_getElem? hp)
   exact (q4 m p v hp hv).pure_mono (q2 e he p hpe) (fun _ _ h=>h) (fun _ _ _ _ h=>h)
  ·rw [yn] at hb2
   exact ⟨conv b2 (q5 b2 hb2).1,(q5 b2 hb2).2⟩
 have hρy:y.ρ (0,pre.length)=x.ρ g:=((hpost.step.G (0,pre.length) (.inl rfl)).2).trans zn
 have newBox:ObRep y' r.W0.heap.size r.D g (.box (ocCells (fun c=>1000+100 * t+c) nm 0 oc')):=by
  obtain ⟨_,b2,T2,vs2,q1,q2,q3,q4,q5,q6,q7⟩:=hO.box
  have hb2:b=b2:=by
   rw [hρy,hρ] at q1
   injection q1 with q1
   injection q1 with q1
   injection q1
  subst hb2
  refine ⟨b,T2,vs2,(old g hGg).trans hρ,q2,?_,fun p hp=>?_,fun j p v hp hv=>?_,hBb,q7⟩
  ·rw [ocCells_len] at q3 ⊢
   exact q3
  ·obtain ⟨j,hj⟩:=List.getElem?_of_mem hp
   rw [ocCells_get,Option.map_eq_some_iff] at hj
   obtain ⟨q,hq,rfl⟩:=hj
   cases q with
   | pv p=>exact PV.cell_of_flat (hO.flat j p hq)
   | row _ _ _ _=>rfl
  ·rw [ocCells_get,Option.map_eq_some_iff] at hp
   obtain ⟨q,hq,rfl⟩:=hp
   have:=q5 j (q.val (κ2 (0+j)) (ν2 (0+j))) v (by rw [ocCells_get,hq];rfl) hv
   rw [Nat.zero_add] at this ⊢
   cases q with
   | pv p=>exact Rep.flat_mono this (hO.flat j p hq) (fun _ _ h=>h) (fun _ _ _ _ h=>h)
   | row E k sh els=>
     cases this with
     | row _ _ A n c hG hvv=>exact .row _ _ A n c (.inr ⟨j,E,k,sh,els,hq,rfl⟩) ((yn j).trans hvv)
 have cases3:∀ t2 g2 o2,(flips s.ob (ocDrop κ 0 oc++(t,some (g,.box (ocCells (fun c=>1000+100 * t+c) nm 0 oc')))::ocRows (fun c=>1000+100 * t+c) nm 0 oc')) t2=some (g2,o2)→
   (t2≠t∧(∀ c E k sh els,oc[c]? = some (OC.row E k sh els)→κ c≠t2)∧s.ob t2=some (g2,o2))∨(t2=t∧g2=g∧o2 = .box (ocCells (fun c=>1000+100 * t+c) nm 0 oc'))∨∃ c E k sh els,oc'[c]? = some (OC.row E k sh els)∧t2=1000+100 * t+c∧g2=nm c∧o2 = .row E k sh els:=fun t2 g2 o2 h=>by
  rcases flips_or (ocDrop κ 0 oc++(t,some (g,.box (ocCells (fun c=>1000+100 * t+c) nm 0 oc')))::ocRows (fun c=>1000+100 * t+c) nm 0 oc') s.ob t2 with ⟨q1,q2⟩ | ⟨w,q1,q2⟩
  ·rw [q1] at h
   refine .inl ⟨fun e=>q2 (some (g,.box (ocCells (fun c=>1000+100 * t+c) nm 0 oc'))) (by rw [e];exact List.mem_append_right _ (List.mem_cons_self ..)),fun c E k sh els hc e=>q2 none ?_,h⟩
   rw [← e]
   have:=ocDrop_has (κ:=κ) oc 0 c hc
   rw [Nat.zero_add] at this
   exact List.mem_append_left _ this
  ·rw [q2] at h
   subst h
   rcases List.mem_append.1 q1 with h | h
   ·exact absurd (ocDrop_mem oc 0 h) (by simp)
   ·rcases List.mem_cons.1 h with h | h
    ·injection h with e1 e2
     injection e2 with e2
     injection e2 with e2 e3
     exact .inr (.inl ⟨e1,e2,e3⟩)
    ·obtain ⟨c,E,k,sh,els,e1,e2,e3⟩:=ocRows_mem oc' 0 h
     rw [Nat.zero_add] at e2 e3
     injection e3 with e3
     injection e3 with e3 e4
     exact .inr (.inr ⟨c,E,k,sh,els,e1,e2,e3,e4⟩)
 have oldD:∀ t2 g2 o2 b2,t2≠t→(∀ c E k sh els,oc[c]? = some (OC.row E k sh els)→κ c≠t2)→s.ob t2=some (g2,o2)→blk (y'.ρ g2)=some b2→b2<x.W.heap.size∧¬ Dp z (0,pre.length) ν0 oc b2:=fun t2 g2 o2 b2 n1 n2 h hb=>by
  obtain ⟨q1,q2⟩:=hX3.ob t2 g2 o2 h
  rw [old g2 q1] at hb
  exact ⟨(q2.lt b2 hb).1,notD t2 g2 o2 b2 n1 n2 h hb⟩
 have boxD:∀ b2,blk (y'.ρ g)=some b2→Dp z (0,pre.length) ν0 oc b2:=fun b2 hb=>by
  rw [old g hGg] at hb
  exact (hD b2).2 (.inl hb)
 have rowD:∀ c E k sh els b2,oc'[c]? = some (OC.row E k sh els)→blk (y'.ρ (nm c))=some b2→x.W.heap.size≤b2∨Dp z (0,pre.length) ν0 oc b2:=fun c E k sh els b2 h hb=>by
  rw [yn] at hb
  exact ((hO.row c E k sh els h).2.lt b2 hb).2
 refine ⟨y',rfl,?_⟩
 refine ⟨by rw [put_defers'];exact hX.defers,by rw [put_size];exact hX.size,?_,fun g' hg'=>?_,fun t'=>?_,fun t2 g2 o2 h2=>?_,fun t1 t2 g1 g2 o1 o2 b2 hne q1 q2 hb hb2=>?_,hpost.flt,fun b o hb=>k.F b o (hX3.f0 b o hb),fun b2 o2 hb=>?_,fun g' hg'=>⟨(k.G g' (hX3.rho g' hg').1).1,(k.G g' (hX3.rho g' hg').1).2.trans (hX3.rho g' hg').2⟩,hX.inv,fun b o v hF hv=>k.W b o v (hX3.f0 b o hF) (hX.keep b o v hF hv)⟩
 ·refine hX.gr.trans' hpost.gr.os hpost.gr.tape hpost.gr.output hpost.gr.size fun b' hb' hD'=>hpost.gr.block b' (Nat.lt_of_lt_of_le hb' hX.gr.size) fun hDb=>?_
  rcases (hDlt b' hDb).2 with h | h
  ·omega
  ·exact hD' h
 ·rcases hg' with hg' | ⟨c,E,k,sh,els,_,rfl⟩
  ·exact (hX.gens g' hg').imp id fun ⟨e1,e2⟩=>⟨e1,.inl e2⟩
  ·exact .inr ⟨rfl,.inr (.inr ⟨by show 1000000≤i+1000000 * (c+1);omega,by show (i+1000000 * (c+1)) % 1000000=i;omega⟩)⟩
 ·exact tm_put hX.size hd (hpost.rep.dry hc.dry) (fun t=>(hX3.tm t).step k) t'
 ·rcases cases3 t2 g2 o2 h2 with ⟨n1,n2,h⟩ | ⟨rfl,rfl,rfl⟩ | ⟨c,E,k',sh,els,h,rfl,rfl,rfl⟩
  ·exact ⟨.inl (hX3.ob t2 g2 o2 h).1,oldOb t2 g2 o2 n1 n2 h⟩
  ·exact ⟨.inl hGg,newBox⟩
  ·exact ⟨.inr ⟨c,E,k',sh,els,h,rfl⟩,newRow c E k' sh els h⟩
 ·rcases cases3 t1 g1 o1 q1 with ⟨n1,n2,h⟩ | ⟨e1,e2,e3⟩ | ⟨c,E,k',sh,els,h,e1,e2,e3⟩
  ·rcases cases3 t2 g2 o2 q2 with ⟨m1,m2,h'⟩ | ⟨f1,f2,f3⟩ | ⟨c',E',k2,sh',els',h',f1,f2,f3⟩
   ·rw [old g1 (hX3.ob t1 g1 o1 h).1] at hb
    rw [old g2 (hX3.ob t2 g2 o2 h').1] at hb2
    exact hX3.apart t1 t2 g1 g2 o1 o2 b2 hne h h' hb hb2
   ·subst f2
    exact (oldD t1 g1 o1 b2 n1 n2 h hb).2 (boxD b2 hb2)
   ·subst f2
    obtain ⟨w1,w2⟩:=oldD t1 g1 o1 b2 n1 n2 h hb
    rcases rowD c' E' k2 sh' els' b2 h' hb2 with w | w
    ·omega
    ·exact w2 w
  ·subst e2
   rcases cases3 t2 g2 o2 q2 with ⟨m1,m2,h'⟩ | ⟨f1,f2,f3⟩ | ⟨c',E',k2,sh',els',h',f1,f2,f3⟩
   ·exact (oldD t2 g2 o2 b2 m1 m2 h' hb2).2 (boxD b2 hb)
   ·exact hne (e1.trans f1.symm)
   ·subst f2
    rw [yn] at hb2
    rw [old g1 hGg,← hρy] at hb
    exact hO.apB c' E' k2 sh' els' b2 h' hb hb2
  ·subst e2
   rcases cases3 t2 g2 o2 q2 with ⟨m1,m2,h'⟩ | ⟨f1,f2,f3⟩ | ⟨c',E',k2,sh',els',h',f1,f2,f3⟩
   ·obtain ⟨w1,w2⟩:=oldD t2 g2 o2 b2 m1 m2 h' hb2
    rcases rowD c E k' sh els b2 h hb with w | w
    ·omega
    ·exact w2 w
   ·subst f2
    rw [yn] at hb
    rw [old g2 hGg,← hρy] at hb2
    exact hO.apB c E k' sh els b2 h hb2 hb
   ·subst f2
    rw [yn] at hb hb2
    exact hO.apR c c' E k' sh els E' k2 sh' els' b2 (fun e=>hne (by rw [e1,f1,e])) h h' hb hb2
 ·rcases hpost.fnew b2 o2 hb with h | h | h
  ·exact hX3.fnew b2 o2 h
  ·exact .inr (.inl (Nat.le_trans hX.gr.size h))
  ·exact .inr (hDlt b2 h).2
end
end VL
end Go.Proofs.YtphibahplgmgfaaGreatDoor
namespace Go.Proofs.YtphibahplgmgfaaGreatDoor
namespace VL
open Go.RowKit
def oc1 (f:Nat→Option (Gen×VObj)):PV→Option (Nat×Gen×OC)
 | .row t g=>match getOb f t g with
   | some (.row E k sh els)=>some (t,g,.row E k sh els)
   | _=>none
 | .bool b=>some (0,(0,0),.pv (.bool b))
 | .int k n=>some (0,(0,0),.pv (.int k n))
 | .str b=>some (0,(0,0),.pv (.str b))
 | .sl els=>some (0,(0,0),.pv (.sl els))
 | .nil=>some (0,(0,0),.pv .nil)
 | _=>none
def ocOf (f:Nat→Option (Gen×VObj)):List PV→Option (List (Nat×Gen×OC))
 | []=>some []
 | p::ps=>match oc1 f p,ocOf f ps with
   | some q,some qs=>some (q::qs)
   | _,_=>none
def okK (t:Nat):List (Nat×Gen×OC)→Bool
 | []=>true
 | (_,_,.pv _)::r=>okK t r
 | (k,_,.row _ _ _ _)::r=>k != t&&r.all (fun q=>match q.2.2 with
  | .row _ _ _ _=>q.1 != k
  | .pv _=>true)&&okK t r
def oqκ (oq:List (Nat×Gen×OC)) (c:Nat):Nat:=((oq[c]?).map (·.1)).getD 0
def oqν (oq:List (Nat×Gen×OC)) (c:Nat):Gen:=((oq[c]?).map (·.2.1)).getD (0,0)
theorem oc1_spec {f:Nat→Option (Gen×VObj)} {p:PV} {q:Nat×Gen×OC} (h:oc1 f p=some q):p=q.2.2.val q.1 q.2.1∧(∀ E k sh els,q.2.2=OC.row E k sh els→f q.1=some (q.2.1,.row E k sh els))∧∀ p',q.2.2=OC.pv p'→p'.flat=true:=by
 cases p with
 | row t g=>
   simp only [oc1] at h
   split at h
   ·rename_i E k sh els ho
    injection h with h
    subst h
    refine ⟨rfl,fun E' k' sh' els' e=>?_,fun p' e=>by cases e⟩
    injection e with e1 e2 e3 e4
    subst e1 e2 e3 e4
    exact getOb_some ho
   ·cases h
 | bool b=>injection h with h;subst h;exact ⟨rfl,(fun _ _ _ _ e=>by cases e),fun p' e=>by cases e;rfl⟩
 | int k n=>injection h with h;subst h;exact ⟨rfl,(fun _ _ _ _ e=>by cases e),fun p' e=>by cases e;rfl⟩
 | str b=>injection h with h;subst h;exact ⟨rfl,(fun _ _ _ _ e=>by cases e),fun p' e=>by cases e;rfl⟩
 | sl els=>injection h with h;subst h;exact ⟨rfl,(fun _ _ _ _ e=>by cases e),fun p' e=>by cases e;rfl⟩
 | nil=>injection h with h;subst h;exact ⟨rfl,(fun _ _ _ _ e=>by cases e),fun p' e=>by cases e;rfl⟩
 | _=>simp [oc1] at h
theorem ocOf_at {f:Nat→Option (Gen×VObj)}:∀ {cs:List PV} {oq:List (Nat×Gen×OC)},ocOf f cs=some oq→cs.length=oq.length∧∀ (c:Nat) (q:Nat×Gen×OC),oq[c]? = some q→∃ p,cs[c]? = some p∧oc1 f p=some q
 | [],oq,h=>by
   injection h with h
   subst h
   exact ⟨rfl,fun c q hq=>by simp at hq⟩
 | p::ps,oq,h=>by
   simp only [ocOf] at h
   split at h
   ·rename_i q qs h1 h2
    injection h with h
    subst h
    obtain ⟨h3,h4⟩:=ocOf_at h2
    refine ⟨by simp [h3],fun c q' hq=>?_⟩
    cases c with
    | zero=>simp at hq;subst hq;exact ⟨p,rfl,h1⟩
    | succ c=>simp at hq ⊢;exact h4 c q' hq
   ·cases h
theorem ocOf_spec {f:Nat→Option (Gen×VObj)} {cs:List PV} {oq:List (Nat×Gen×OC)} (h:ocOf f cs=some oq) :
  cs=ocCells (oqκ oq) (oqν oq) 0 (oq.map (·.2.2))∧(∀ c E k sh els,(oq.map (·.2.2))[c]? = some (OC.row E k sh els)→f (oqκ oq c)=some (oqν oq c,.row E k sh els))∧∀ (c:Nat) (p:PV),(oq.map (·.2.2))[c]? = some (OC.pv p)→p.flat=true:=by
 obtain ⟨h1,h2⟩:=ocOf_at h
 refine ⟨?_,fun c E k sh els hc=>?_,fun c p hc=>?_⟩
 ·apply List.ext_getElem?
  intro c
  rw [ocCells_get,List.getElem?_map,Nat.zero_add]
  by_cases hlt:c<oq.length
  ·obtain ⟨q,hq⟩:∃ q,oq[c]? = some q:=⟨_,List.getElem?_eq_getElem hlt⟩
   obtain ⟨p,hp,hq2⟩:=h2 c q hq
   rw [hp,hq,(oc1_spec hq2).1]
   unfold oqκ oqν
   rw [hq]
   rfl
  ·rw [List.getElem?_eq_none (by omega),List.getElem?_eq_none (by omega)]
   rfl
 ·rw [List.getElem?_map,Option.map_eq_some_iff] at hc
  obtain ⟨q,hq,e⟩:=hc
  obtain ⟨p,hp,hq2⟩:=h2 c q hq
  have:=(oc1_spec hq2).2.1 E k sh els e
  unfold oqκ oqν
  rw [hq]
  exact this
 ·rw [List.getElem?_map,Option.map_eq_some_iff] at hc
  obtain ⟨q,hq,e⟩:=hc
  obtain ⟨p',hp,hq2⟩:=h2 c q hq
  exact (oc1_spec hq2).2.2 p e
theorem okK_spec {t:Nat}:∀ {oq:List (Nat×Gen×OC)},okK t oq=true→(∀ (c:Nat) (q:Nat×Gen×OC) E k sh els,oq[c]? = some q→q.2.2=OC.row E k sh els→q.1≠t)∧
  ∀ (c c':Nat) (q q':Nat×Gen×OC) E k sh els E' k' sh' els',c<c'→oq[c]? = some q→oq[c']? = some q'→q.2.2=OC.row E k sh els→q'.2.2=OC.row E' k' sh' els'→q.1≠q'.1
 | [],_=>⟨fun c q _ _ _ _ h=>by simp at h,fun c c' q q' _ _ _ _ _ _ _ _ _ h=>by simp at h⟩
 | (k0,g0,.pv p0)::r,h=>by
  obtain ⟨h1,h2⟩:=okK_spec (oq:=r) h
  refine ⟨fun c q E k sh els hq e=>?_,fun c c' q q' E k sh els E' k' sh' els' hlt hq hq' e e'=>?_⟩
  ·cases c with
   | zero=>simp at hq;subst hq;cases e
   | succ c=>exact h1 c q E k sh els (by simpa using hq) e
  ·cases c with
   | zero=>simp at hq;subst hq;cases e
   | succ c=>
     cases c' with
     | zero=>omega
     | succ c'=>exact h2 c c' q q' E k sh els E' k' sh' els' (by omega) (by simpa using hq) (by simpa using hq') e e'
 | (k0,g0,.row E0 kk0 sh0 els0)::r,h=>by
  simp only [okK,Bool.and_eq_true,bne_iff_ne,ne_eq,List.all_eq_true] at h
  obtain ⟨⟨h3,h4⟩,h5⟩:=h
  obtain ⟨h1,h2⟩:=okK_spec (oq:=r) h5
  refine ⟨fun c q E k sh els hq e=>?_,fun c c' q q' E k sh els E' k' sh' els' hlt hq hq' e e'=>?_⟩
  ·cases c with
   | zero=>simp at hq;subst hq;exact h3
   | succ c=>exact h1 c q E k sh els (by simpa using hq) e
  ·cases c' with
   | zero=>omega
   | succ c'=>
     have hq2:r[c']? = some q':=by simpa using hq'
     cases c with
     | zero=>
       simp at hq
       subst hq
       have:=h4 q' (List.mem_of_getElem? hq2)
       rw [e'] at this
       simp only [bne_iff_ne,ne_eq] at this
       exact fun e=>this e.symm
     | succ c=>exact h2 c c' q q' E k sh els E' k' sh' els' (by omega) (by simpa using hq) hq2 e e'
theorem okK_keys {t:Nat} {oq:List (Nat×Gen×OC)} (h:okK t oq=true):(∀ c E k sh els,(oq.map (·.2.2))[c]? = some (OC.row E k sh els)→oqκ oq c≠t)∧
  ∀ c c' E k sh els E' k' sh' els',c≠c'→(oq.map (·.2.2))[c]? = some (OC.row E k sh els)→(oq.map (·.2.2))[c']? = some (OC.row E' k' sh' els')→oqκ oq c≠oqκ oq c':=by
 obtain ⟨h1,h2⟩:=okK_spec h
 refine ⟨fun c E k sh els hc=>?_,fun c c' E k sh els E' k' sh' els' hne hc hc'=>?_⟩
 ·rw [List.getElem?_map,Option.map_eq_some_iff] at hc
  obtain ⟨q,hq,e⟩:=hc
  unfold oqκ
  rw [hq]
  exact h1 c q E k sh els hq e
 ·rw [List.getElem?_map,Option.map_eq_some_iff] at hc hc'
  obtain ⟨q,hq,e⟩:=hc
  obtain ⟨q',hq',e'⟩:=hc'
  unfold oqκ
  rw [hq,hq']
  rcases Nat.lt_or_gt_of_ne hne with hlt | hlt
  ·exact h2 c c' q q' E k sh els E' k' sh' els' hlt hq hq' e e'
  ·exact fun e0=>h2 c' c q' q E' k' sh' els' E k sh els hlt hq' hq e' e e0.symm
def usP (t:Nat) (g:Gen) (ng i:Nat) (oq:List (Nat×Gen×OC)) (oc':List OC):List (Nat×Option (Gen×VObj)):=
 ocDrop (oqκ oq) 0 (oq.map (·.2.2))++(t,some (g,.box (ocCells (fun c=>1000+100 * t+c) (fun c=>(ng,i+1000000 * (c+1))) 0 oc')))::ocRows (fun c=>1000+100 * t+c) (fun c=>(ng,i+1000000 * (c+1))) 0 oc'
section
variable {P:Program} [WInv P] {r:Run} {ops:Array Oper} {o:Oper} {i:Nat} {s s':FS}
theorem opR_callP {f:FuncId} {es:Array Operand} {ts:Array TypeId} {post post':List PV} {t:Nat} {g:Gen} {cs:List PV} {oq:List (Nat×Gen×OC)} {oc':List OC} {res:PV} (hw:wantedV ops s o=some true) (ho:o.op = .call { callee:=.value (.func f),args:=es,argTypes:=ts })
  (he:es.toList.map (ev s) = .ptr t g 0::post) (hob:s.ob t=some (g,.box cs)) (hoq:ocOf s.ob cs=some oq) (hk:okK t oq=true) (h3:resA s.ob post=some (post',[])) (hc:ContractP P f (.ptr 0 (0,0) 0::post') 0 (oq.map (·.2.2)) res oc') :
  OpR P ops i o s ⟨res,usP t g s.ng i oq oc'⟩:=.anyx hw fun s' r hA hI=>by
 obtain ⟨e1,e2,_⟩:=agree_call ho hA
 obtain ⟨q1,q2,q3⟩:=ocOf_spec hoq
 obtain ⟨q4,q5⟩:=okK_keys hk
 have hmem:(PV.ptr t g 0) ∈ es.toList.map (ev s):=by rw [he];exact List.mem_cons_self ..
 have ht:s.ob t=s'.ob t:=e2 _ hmem t (by simp [keysP,keys2,keys1])
 have hrow:∀ c E k sh els,(oq.map (·.2.2))[c]? = some (OC.row E k sh els)→s.ob (oqκ oq c)=s'.ob (oqκ oq c):=fun c E k sh els h=>by
  refine e2 _ hmem (oqκ oq c) ?_
  have hcell:cs[c]? = some (.row (oqκ oq c) (oqν oq c)):=by
   rw [q1,ocCells_get,h,Nat.zero_add]
   rfl
  simp only [keysP,keys2,keys1,List.flatMap_cons,List.flatMap_nil,List.append_nil]
  refine List.mem_append_right _ ?_
  unfold keysI
  rw [hob]
  exact List.mem_flatMap.2 ⟨_,List.mem_of_getElem? hcell,by simp [keys1]⟩
 unfold usP
 rw [hA.ng]
 refine ok_callP (pre:=[]) (pre':=[]) (post:=post) (ν:=oqν oq) ho (by rw [e1,he];rfl) (by rw [← ht,hob,← q1]) (fun c E k sh els h=>by rw [← hrow c E k sh els h];exact q2 c E k sh els h) q3 q4 q5 rfl ?_ (by decide) hc hI
 rw [← h3]
 exact (resA_congr fun p hp t ht=>e2 p (by rw [he];exact List.mem_cons_of_mem _ hp) t (keys2_P ht)).symm
end
section
variable {P:Program} [WInv P] {ops:Array Oper} {draw:Bool} {i:Nat} {L:List Oper} {acc:List (List Nat×List Nat)} {K:FS→Prop} {tm:List (Nat×PV)} {ob:List (Nat×Option (Gen×VObj))} {ng:Nat}
 {d:Option Tmp} {ty:TypeId} {pos:String} {after:Array Edge} {gd:Option (Nat×Bool)}
theorem g_callP {f:FuncId} {es:Array Operand} {ts:Array TypeId} {post post':List PV} {t:Nat} {g:Gen} {cs:List PV} {oq:List (Nat×Gen×OC)} {oc oc':List OC} {res:PV} {us:List (Nat×Option (Gen×VObj))} (hc:ContractP P f (.ptr 0 (0,0) 0::post') 0 oc res oc') (hw:wantedV ops (mkS tm ob ng) ⟨d,.call ⟨.value (.func f),es,ts⟩,ty,pos,after,gd⟩=some true)
  (he:es.toList.map (evL tm) = .ptr t g 0::post) (hob:lookO ob t=some (g,.box cs)) (hoq:ocOf (lookO ob) cs=some oq) (hoc:oq.map (·.2.2)=oc) (hk:okK t oq=true) (h3:resA (lookO ob) post=some (post',[])) (hus:usP t g ng i oq oc'=us)
  (k:GoL P ops draw (i+1) L (acc ++ [(keysO (mkS tm ob ng) ⟨d,.call ⟨.value (.func f),es,ts⟩,ty,pos,after,gd⟩,us.map (·.1))]) (mkS (putT d res tm) (us.reverse++ob) ng) K):GoL P ops draw i (⟨d,.call ⟨.value (.func f),es,ts⟩,ty,pos,after,gd⟩::L) acc (mkS tm ob ng) K:=by
 subst hoc hus
 refine go_op (opR_callP hw rfl (by rw [ev_mkS];exact he) hob hoq hk h3 hc) ?_
 rw [mkS_app]
 exact k
end
end VL
end Go.Proofs.YtphibahplgmgfaaGreatDoor
namespace Go.Proofs.YtphibahplgmgfaaGreatDoor
namespace VL
open Go.RowKit
def initP (args:List PV) (j:Nat) (oc:List OC):FS:=⟨fun t=>args.getD t (.tup []),lookO ((j,some ((0,j),.box (ocCells κ0 ν0 0 oc)))::ocRows κ0 ν0 0 oc),1⟩
theorem lookO_rows {κ:Nat→Nat} {ν:Nat→Gen} {t:Nat} {g:Gen} {o:VObj}:∀ (l:List OC) (c0:Nat),lookO (ocRows κ ν c0 l) t=some (g,o)→∃ c E k sh els,l[c]? = some (OC.row E k sh els)∧t=κ (c0+c)∧g=ν (c0+c)∧o = .row E k sh els
 | [],c0,h=>by cases h
 | .pv p::r,c0,h=>by
   obtain ⟨c,E,k,sh,els,h1,h2,h3,h4⟩:=lookO_rows r (c0+1) h
   have e:c0+1+c=c0+(c+1):=by omega
   rw [e] at h2 h3
   exact ⟨c+1,E,k,sh,els,by simpa using h1,h2,h3,h4⟩
 | .row E k sh els::r,c0,h=>by
   change (if t=κ c0 then some (ν c0,VObj.row E k sh els) else lookO (ocRows κ ν (c0+1) r) t)=some (g,o) at h
   split at h
   ·rename_i e
    injection h with h
    injection h with e1 e2
    exact ⟨0,E,k,sh,els,rfl,e,e1.symm,e2.symm⟩
   ·obtain ⟨c,E,k,sh,els,h1,h2,h3,h4⟩:=lookO_rows r (c0+1) h
    have e:c0+1+c=c0+(c+1):=by omega
    rw [e] at h2 h3
    exact ⟨c+1,E,k,sh,els,by simpa using h1,h2,h3,h4⟩
theorem initP_ob {args:List PV} {j:Nat} {oc:List OC} {t:Nat} {g:Gen} {o:VObj} (h:(initP args j oc).ob t=some (g,o)):(t=j∧g=(0,j)∧o = .box (ocCells κ0 ν0 0 oc))∨∃ c E k sh els,oc[c]? = some (OC.row E k sh els)∧t=1000+c∧g=ν0 c∧o = .row E k sh els:=by
 change (if t=j then some ((0,j),VObj.box (ocCells κ0 ν0 0 oc)) else lookO (ocRows κ0 ν0 0 oc) t)=some (g,o) at h
 split at h
 ·rename_i e
  injection h with h
  injection h with e1 e2
  exact .inl ⟨e,e1.symm,e2.symm⟩
 ·obtain ⟨c,E,k,sh,els,h1,h2,h3,h4⟩:=lookO_rows oc 0 h
  rw [Nat.zero_add] at h2 h3
  exact .inr ⟨c,E,k,sh,els,h1,h2,h3,h4⟩
section
variable {P:Program} [WInv P]
theorem contractP_of (hmix:P.follows .mixedOrders=true) {f:FuncId} {fn:Func} {c:Code} {args:List PV} {j:Nat} {oc oc':List OC} {e:Ex} {s1:FS} {ps cs:List PV} {oq:List (Nat×Gen×OC)} {res:PV}
  (hg:isGo P f=true) (hf:P.funcs[f]? = some fn) (hb:fn.body=some c) (hn:args.length≤fn.ntmps) (hok:codeOK fn.ntmps c=true) (hj:j<1000) (hrun:RunC P c (initP args j oc) e s1) (he:e = .normal∨e = .ret)
  (hres:resVs P s1 fn.results.toList=some ps) (hps:oneOr ps=res) (hdry:res.dry=true) (hob:s1.ob j=some ((0,j),.box cs)) (hoq:ocOf s1.ob cs=some oq) (hk:okK j oq=true) (hoc:oq.map (·.2.2)=oc'):ContractP P f args j oc res oc':=by
 subst hoc hps
 refine ⟨hg,hdry,fun x vs hpre hinv=>?_⟩
 let r:Run:=⟨x.W,Dp x (0,j) ν0 oc,(vs++Array.replicate (fn.ntmps - vs.size) undef).size,x.F,x.G,x.ρ,WInv.I P⟩
 have hNr:r.N=fn.ntmps:=by
  have:=hpre.size
  simp [r]
  omega
 have hX:RstX r (fun _=>False) (initP args j oc) { tmps:=vs++Array.replicate (fn.ntmps - vs.size) undef,defers:=[] } x:=by
  refine ⟨rfl,rfl,Gr.refl _ _,fun g hg=>?_,fun t=>?_,fun t g o ho=>?_,fun t t' g g' o o' b hne h1 h2 hb1 hb2=>?_,hpre.flt,fun _ _ h=>h,fun _ _ h=>.inl h,fun _ h=>⟨h,rfl⟩,⟨hinv,hpre.gen⟩,fun _ _ _ _ h=>h⟩
  ·rw [hpre.gen g hg]
   exact .inl Nat.zero_lt_one
  ·show Rep x (args.getD t (.tup [])) _
   rw [Array.getD_eq_getD_getElem?,Array.getElem?_append,List.getD_eq_getElem?_getD]
   by_cases ht:t<vs.size
   ·rw [if_pos ht,List.getElem?_eq_getElem (by rw [hpre.size];exact ht),Array.getElem?_eq_getElem ht]
    exact hpre.rep t _ _ (List.getElem?_eq_getElem (by rw [hpre.size];exact ht)) (Array.getElem?_eq_getElem ht)
   ·rw [if_neg ht,List.getElem?_eq_none (by rw [hpre.size];omega)]
    have:(Array.replicate (fn.ntmps - vs.size) undef)[t - vs.size]?.getD undef=undef:=by
     rw [Array.getElem?_replicate]
     split<;>rfl
    rw [this]
    exact .tup [] #[] rfl (fun i p v hp=>by simp at hp)
  ·rcases initP_ob ho with ⟨rfl,rfl,rfl⟩ | ⟨c,E,k,sh,els,h1,rfl,rfl,rfl⟩
   ·exact hpre.ob.box
   ·exact hpre.ob.row c E k sh els h1
  ·rcases initP_ob h1 with ⟨rfl,rfl,rfl⟩ | ⟨c,E,k,sh,els,q1,rfl,rfl,rfl⟩
   ·rcases initP_ob h2 with ⟨e,_⟩ | ⟨c',E',k',sh',els',w1,rfl,rfl,rfl⟩
    ·exact hne e.symm
    ·exact hpre.ob.apB c' E' k' sh' els' b w1 hb1 hb2
   ·rcases initP_ob h2 with ⟨rfl,rfl,rfl⟩ | ⟨c',E',k',sh',els',w1,rfl,rfl,rfl⟩
    ·exact hpre.ob.apB c E k sh els b q1 hb2 hb1
    ·exact hpre.ob.apR c c' E k sh els E' k' sh' els' b (fun e=>hne (by rw [e])) q1 w1 hb1 hb2
 refine calls_of_wp hf hb ?_
 refine (runC_sound hmix hrun).1 r _ x _ ⟨rfl,by rw [hNr];exact hok⟩ hX fun a' y hY=>?_
 obtain ⟨ws,h1,h2,h3⟩:=results_sound hY fn.results.toList hres
 have hstep:Step x y:=⟨fun g hg=>hY.rho g hg,fun b o hb=>hY.f0 b o hb,fun b o v hb hv=>hY.keep b o v hb hv⟩
 obtain ⟨q1,q2,q3⟩:=ocOf_spec hoq
 obtain ⟨q4,q5⟩:=okK_keys hk
 have hO:ORep y x.W.heap.size (Dp x (0,j) ν0 oc) (0,j) (oqκ oq) (oqν oq) (oq.map (·.2.2)):=by
  refine ⟨?_,fun c E k sh els h=>hY.ob _ _ _ (q2 c E k sh els h),fun c E k sh els b h hb1 hb2=>?_,fun c c' E k sh els E' k' sh' els' b hne h h' hb1 hb2=>?_,q3⟩
  ·rw [← q1]
   exact hY.ob j _ _ hob
  ·exact hY.apart j (oqκ oq c) (0,j) (oqν oq c) _ _ b (fun e=>q4 c E k sh els h e.symm) hob (q2 c E k sh els h) hb1 hb2
  ·exact hY.apart (oqκ oq c) (oqκ oq c') (oqν oq c) (oqν oq c') _ _ b (q5 c c' E k sh els E' k' sh' els' hne h h') (q2 c E k sh els h) (q2 c' E' k' sh' els' h') hb1 hb2
 have hend:(results fn a'.tmps).run P y.W = .ok (if ws.length=1 then ws.getD 0 undef else .tuple ws.toArray) y.W:=by
  have:(fn.results.mapM (resM a')).run P y.W = .ok ws.toArray y.W:=by
   rw [Array.mapM_eq_mapM_toList,map_eq_pure_bind,Sem.run_bind,h1]
   rfl
  have e:results fn a'.tmps=(fn.results.mapM (resM a') >>= fun vs=>pure (if h:vs.size=1 then vs[0] else .tuple vs)):=by
   unfold results
   congr 1
  rw [e,Sem.run_bind,this]
  simp only [Result.andThen_ok,Sem.run_pure]
  congr 1
  by_cases hl:ws.length=1
  ·simp [hl]
  ·simp [hl]
 have hfin:∃ v,(results fn a'.tmps).run P y.W = .ok v y.W∧(fun e W'=>∃ y v,y.W=W'∧e=Ending.returned v∧PostP x y j oc (oneOr ps) (oq.map (·.2.2)) v) (Ending.returned v) y.W:=by
  refine ⟨_,hend,y,_,rfl,rfl,hstep,hY.gr,hY.fnew,hY.flt,?_,_,_,hO⟩
  have hlq:ps.length=ws.length:=h2.symm
  unfold oneOr
  split
  ·rename_i p
   rw [if_pos (by simpa using hlq.symm)]
   exact h3 0 p rfl
  ·rename_i hne
   have hn1:¬ ws.length=1:=fun h=>by
    rw [h] at hlq
    match ps,hlq with
    | [q],_=>exact hne q rfl
   rw [if_neg hn1]
   refine .tup ps ws.toArray (by simpa using hlq) fun j q v hq hv=>?_
   have:=h3 j q hq
   have hv':ws[j]? = some v:=by simpa using hv
   rw [List.getD_eq_getElem?_getD,hv'] at this
   exact this
 rcases he with rfl | rfl
 ·exact ⟨hY.defers,hfin⟩
 ·exact ⟨hY.defers,hfin⟩
def RetP (P:Program) (rs:List ResultVar) (res:PV) (j:Nat) (oc':List OC):Ex→FS→Prop
 | .exit _,_=>False
 | _,s=>∃ ps cs oq,resVs P s rs=some ps∧oneOr ps=res∧s.ob j=some ((0,j),.box cs)∧ocOf s.ob cs=some oq∧okK j oq=true∧oq.map (·.2.2)=oc'
omit [WInv P] in
theorem rp_ret {s:FS} {rs:List ResultVar} {res:PV} {j:Nat} {oc':List OC} {ps cs:List PV} {oq:List (Nat×Gen×OC)} (h1:resVs P s rs=some ps) (h2:oneOr ps=res) (h3:s.ob j=some ((0,j),.box cs)) (h4:ocOf s.ob cs=some oq) (h5:okK j oq=true) (h6:oq.map (·.2.2)=oc'):RetP P rs res j oc' .ret s:=⟨ps,cs,oq,h1,h2,h3,h4,h5,h6⟩
theorem contract_runPE (hmix:P.follows .mixedOrders=true) {f:FuncId} {fn:Func} {c:Code} {args:List PV} {j:Nat} {oc:List OC} {R:PV→List OC→Prop} (hf:P.funcs[f]? = some fn) (hg:isGo P f=true) (hb:fn.body=some c) (hok:(decide (args.length≤fn.ntmps)&&codeOK fn.ntmps c&&decide (j<1000))=true)
  (h:PWs P [c] (fun e s=>∃ res oc',(R res oc'∧res.dry=true)∧RetP P fn.results.toList res j oc' e s) (mkS (argTm 0 args) ((j,some ((0,j),.box (ocCells κ0 ν0 0 oc)))::ocRows κ0 ν0 0 oc) 1)):∃ res oc',R res oc'∧ContractP P f args j oc res oc':=by
 simp only [Bool.and_eq_true,decide_eq_true_eq] at hok
 obtain ⟨e,s',h1,res,oc',⟨hR,hd⟩,h2⟩:=pw_of_one h
 have hsh:Shift (initP args j oc) (mkS (argTm 0 args) ((j,some ((0,j),.box (ocCells κ0 ν0 0 oc)))::ocRows κ0 ν0 0 oc) 1):=shift_drop (fun t=>by
  rcases argTm_look args 0 t with h | ⟨_,h⟩
  ·exact .inl h
  ·exact .inr h) (fun t=>.inr rfl) (Nat.le_refl _)
 refine ⟨res,oc',hR,?_⟩
 cases e with
 | exit id=>exact h2.elim
 | normal=>
   obtain ⟨ps,cs,oq,q1,q2,q3,q4,q5,q6⟩:=h2
   exact contractP_of hmix hg hf hb hok.1.1 hok.1.2 hok.2 (.shift hsh h1) (.inl rfl) q1 q2 hd q3 q4 q5 q6
 | ret=>
   obtain ⟨ps,cs,oq,q1,q2,q3,q4,q5,q6⟩:=h2
   exact contractP_of hmix hg hf hb hok.1.1 hok.1.2 hok.2 (.shift hsh h1) (.inr rfl) q1 q2 hd q3 q4 q5 q6
theorem contract_runP (hmix:P.follows .mixedOrders=true) {f:FuncId} {fn:Func} {c:Code} {args:List PV} {j:Nat} {oc oc':List OC} {res:PV} (hf:P.funcs[f]? = some fn) (hg:isGo P f=true) (hb:fn.body=some c) (hok:(decide (args.length≤fn.ntmps)&&codeOK fn.ntmps c&&decide (j<1000))=true) (hd:res.dry=true)
  (h:PWs P [c] (RetP P fn.results.toList res j oc') (mkS (argTm 0 args) ((j,some ((0,j),.box (ocCells κ0 ν0 0 oc)))::ocRows κ0 ν0 0 oc) 1)):ContractP P f args j oc res oc':=by
 obtain ⟨res2,oc2,⟨rfl,rfl⟩,hc⟩:=contract_runPE (R:=fun r o=>r=res∧o=oc') hmix hf hg hb hok (by
  obtain ⟨e,s',h1,h2⟩:=pw_of_one h
  refine pws_one h1 ?_
  exact ⟨res,oc',⟨⟨rfl,rfl⟩,hd⟩,h2⟩)
 exact hc
end
end VL
end Go.Proofs.YtphibahplgmgfaaGreatDoor
namespace Go.Proofs.YtphibahplgmgfaaGreatDoor
namespace VL
open Go.RowKit
section
variable {P:Program} [WInv P] {ops:Array Oper} {draw:Bool} {i:Nat} {L:List Oper} {acc:List (List Nat×List Nat)} {K:FS→Prop} {tm:List (Nat×PV)} {ob:List (Nat×Option (Gen×VObj))} {ng:Nat}
 {d:Option Tmp} {ty T T':TypeId} {pos:String} {after:Array Edge} {gd:Option (Nat×Bool)} {x y:Operand}
theorem g_nilC (hw:wantedV ops (mkS tm ob ng) ⟨d,.nilCheck x,ty,pos,after,gd⟩=some true) {cs:List PV} (hv:evL tm x = .cel cs)
  (k:GoL P ops draw (i+1) L (acc ++ [(keysO (mkS tm ob ng) ⟨d,.nilCheck x,ty,pos,after,gd⟩,[])]) (mkS (putT d (.cel cs) tm) ob ng) K):GoL P ops draw i (⟨d,.nilCheck x,ty,pos,after,gd⟩::L) acc (mkS tm ob ng) K:=
 go_act (us:=[]) hw (.fn (by simp only [act,ev_mkS,hv])) k
theorem g_index_cel {len kk:Nat} [h:Ar P T len kk] (hw:wantedV ops (mkS tm ob ng) ⟨d,.indexAddr T x y,ty,pos,after,gd⟩=some true) {cs:List PV} {kd:IntKind} {n:Nat} (hx:evL tm x = .cel cs) (hy:evL tm y = .int kd (n:Int)) (hn:n<len)
  (k:GoL P ops draw (i+1) L (acc ++ [(keysO (mkS tm ob ng) ⟨d,.indexAddr T x y,ty,pos,after,gd⟩,[])]) (mkS (putT d (.cel (cs.drop (n * kk))) tm) ob ng) K):GoL P ops draw i (⟨d,.indexAddr T x y,ty,pos,after,gd⟩::L) acc (mkS tm ob ng) K:=by
 refine go_act (us:=[]) hw (.fn ?_) k
 have:=h.eq
 unfold arI at this
 split at this
 ·rename_i len' E' s b zz ht
  cases hte:tyI P E' with
  | none=>rw [hte] at this;cases this
  | some te=>
    rw [hte] at this
    simp only [Option.map_some,Option.some.injEq,Prod.mk.injEq] at this
    obtain ⟨rfl,h2⟩:=this
    simp only [act,ht,ev_mkS,hx,hy,toNat_cast,hte,if_pos hn,h2]
 ·cases this
end
theorem writeL_all {cs xs:List PV} (h:cs.length=xs.length):writeL cs 0 xs=xs:=by
 unfold writeL
 rw [List.take_zero,List.nil_append,Nat.zero_add,← h,List.drop_length,List.append_nil]
theorem frz_bools (f:Nat→Option (Gen×VObj)):∀ (l:List Bool),mapO (frz1 f) (l.map PV.bool)=some (l.map PV.bool)
 | []=>rfl
 | b::l=>by
   have:=frz_bools f l
   simp only [List.map_cons,mapO,frz1,this]
end VL
end Go.Proofs.YtphibahplgmgfaaGreatDoor

namespace Go.Proofs.YtphibahplgmgfaaGreatDoor
namespace VL
open Go.RowKit
def bigN:Nat:=4611686018427387904
def atI {α:Type} (l:List α) (i:Int):Option α:=if 0≤i then l[i.toNat]? else none
def atS (s:ByteArray) (i:Int):Option Int:=if 0≤i then (s[i.toNat]?).map fun c=>(c.toNat:Int) else none
def subL {α:Type} (l:List α) (lo hi:Int):Option (List α):=if 0≤lo∧lo≤hi∧hi≤(l.length:Int) then some ((l.drop lo.toNat).take (hi.toNat - lo.toNat)) else none
def subS (s:ByteArray) (lo hi:Int):Option ByteArray:=if 0≤lo∧lo≤hi∧hi≤(s.size:Int) then some (s.extract lo.toNat hi.toNat) else none
def appL {α:Type} (w:Nat) (a b:List α):Option (List α):=if (a.length+b.length) * w≤140737488355328∧a.length+b.length≤9223372036854775807 then some (a++b) else none
def catS (a b:ByteArray):Option ByteArray:=if a.size+b.size≤9223372036854775807 then some (a++b) else none
def setI {α:Type} (l:List α) (i:Int) (x:α):List α:=l.set i.toNat x
def quoI (k:IntKind) (a b:Int):Option Int:=if b=0 then none else some (k.wrap (Int.tdiv a b))
def remI (_:IntKind) (a b:Int):Option Int:=if b=0 then none else some (Int.tmod a b)
def ltS (a b:ByteArray):Bool:=Op.bytesLess a.toList b.toList
abbrev w64 (n:Int):Int:=IntKind.wrap .i64 n
abbrev csS (y:ByteArray):List PV:=[.str y]
abbrev csI (y:Int):List PV:=[.int .i64 y]
abbrev csB (y:Int):List PV:=[.int .u8 y]
def letk {γ β:Type} (k:γ) (f:γ→Option β):Option β:=f k
def fixN {α β:Type}:Nat→((α→Option β)→α→Option β)→α→Option β
 | 0,_,_=>none
 | n+1,f,a=>f (fixN n f) a
theorem bnd {α β:Type} {x:Option α} {f:α→Option β} {r:β} (h:x.bind f=some r):∃ v,x=some v∧f v=some r:=by
 cases x with
 | none=>cases h
 | some v=>exact ⟨v,rfl,h⟩
theorem ifT {β:Type} {b:Bool} {x y:Option β} {r:β} (hb:b=true) (h:(if b=true then x else y)=some r):x=some r:=by rw [if_pos hb] at h;exact h
theorem ifF {β:Type} {b:Bool} {x y:Option β} {r:β} (hb:b=false) (h:(if b=true then x else y)=some r):y=some r:=by rw [if_neg (by rw [hb];simp)] at h;exact h
theorem letk_elim {γ β:Type} {k:γ} {f:γ→Option β} {r:β} {p:Prop} (h:letk k f=some r) (g:∀ q,q=k→f q=some r→p):p:=g k rfl h
theorem fix_elim {α β:Type} {n:Nat} {f:(α→Option β)→α→Option β} {a:α} {r:β} {p:Prop} (h:fixN n f a=some r) (g:∀ q m,q=f→fixN m q a=some r→p):p:=g f n rfl h
theorem fix_step {α β:Type} {n:Nat} {f q:(α→Option β)→α→Option β} {a:α} {r:β} (e:q=f) (h:fixN n q a=some r):∃ m,n=m+1∧f (fixN m q) a=some r:=by
 cases n with
 | zero=>cases h
 | succ m=>exact ⟨m,rfl,by rw [← e];exact h⟩
theorem fixN_ind {α β:Type} {f:(α→Option β)→α→Option β} (J:α→Prop) (m:α→Nat) (spec:α→β) (h:∀ a rec,J a→(∀ a',J a'→m a'<m a→rec a'=some (spec a'))→f rec a=some (spec a)):∀ (n:Nat) (a:α),J a→m a<n→fixN n f a=some (spec a)
 | 0,_,_,hm=>absurd hm (Nat.not_lt_zero _)
 | n+1,a,ha,hm=>h a _ ha fun a' ha' hm'=>fixN_ind J m spec h n a' ha' (by omega)
theorem fixN_ex {α β:Type} {f:(α→Option β)→α→Option β} (J:α→Prop) (m:α→Nat) (R:β→Prop) (h:∀ a rec,J a→(∀ a',J a'→m a'<m a→∃ b,rec a'=some b∧R b)→∃ b,f rec a=some b∧R b):∀ (n:Nat) (a:α),J a→m a<n→∃ b,fixN n f a=some b∧R b
 | 0,_,_,hm=>absurd hm (Nat.not_lt_zero _)
 | n+1,a,ha,hm=>h a _ ha fun a' ha' hm'=>fixN_ex J m R h n a' ha' (by omega)
theorem atI_get {α:Type} {l:List α} {i:Int} {e:α} (h:atI l i=some e):0≤i∧l[i.toNat]? = some e:=by
 unfold atI at h
 split at h
 ·exact ⟨by assumption,h⟩
 ·cases h
theorem atI_nat {α:Type} (l:List α) (n:Nat):atI l (n:Int)=l[n]?:=by
 unfold atI
 rw [if_pos (by omega)]
 rfl
theorem map_get {α β:Type} {f:α→β} {l:List α} {n:Nat} {e:α} (h:l[n]? = some e):(l.map f)[n]? = some (f e):=by rw [List.getElem?_map,h];rfl
theorem appL_get {α:Type} {w:Nat} {a b c:List α} (h:appL w a b=some c):(a.length+b.length) * w≤140737488355328∧a.length+b.length≤9223372036854775807∧c=a++b:=by
 unfold appL at h
 split at h
 ·injection h with h
  rename_i q
  exact ⟨q.1,q.2,h.symm⟩
 ·cases h
theorem subL_get {α:Type} {l m:List α} {lo hi:Int} (h:subL l lo hi=some m):0≤lo∧lo≤hi∧hi≤(l.length:Int)∧m=(l.drop lo.toNat).take (hi.toNat - lo.toNat):=by
 unfold subL at h
 split at h
 ·injection h with h
  rename_i q
  exact ⟨q.1,q.2.1,q.2.2,h.symm⟩
 ·cases h
theorem subS_get {l m:ByteArray} {lo hi:Int} (h:subS l lo hi=some m):0≤lo∧lo≤hi∧hi≤(l.size:Int)∧l.extract lo.toNat hi.toNat=m:=by
 unfold subS at h
 split at h
 ·injection h with h
  rename_i q
  exact ⟨q.1,q.2.1,q.2.2,h⟩
 ·cases h
theorem map_all {α:Type} {f:α→List PV} {kk:Nat} (hf:∀ x,(f x).length=kk) (l:List α):((l.map f).all fun e=>e.length == kk)=true:=by simp [hf]
def loI (tm:List (Nat×PV)):Option Operand→Option Int
 | none=>some 0
 | some e=>match evL tm e with
   | .int _ n=>some n
   | _=>none
def hiI (tm:List (Nat×PV)) (n:Nat):Option Operand→Option Int
 | none=>some n
 | some e=>match evL tm e with
   | .int _ n=>some n
   | _=>none
theorem lo_of {tm:List (Nat×PV)} {lo:Option Operand} {l:Int} (h:loI tm lo=some l) (h0:0≤l):loV tm lo=some l.toNat:=by
 cases lo with
 | none=>injection h with h;subst h;rfl
 | some e=>
   simp only [loI] at h
   simp only [loV]
   split at h
   ·rename_i he
    injection h with h
    subst h
    rw [he]
    simp [toNat?,h0]
   ·cases h
theorem hi_of {tm:List (Nat×PV)} {hi:Option Operand} {n:Nat} {l:Int} (h:hiI tm n hi=some l) (h0:0≤l):hiV tm n hi=some l.toNat:=by
 cases hi with
 | none=>injection h with h;subst h;rfl
 | some e=>
   simp only [hiI] at h
   simp only [hiV]
   split at h
   ·rename_i he
    injection h with h
    subst h
    rw [he]
    simp [toNat?,h0]
   ·cases h
section
variable {P:Program} [WInv P] {ops:Array Oper} {draw:Bool} {i:Nat} {L:List Oper} {acc:List (List Nat×List Nat)} {K:FS→Prop} {tm:List (Nat×PV)} {ob:List (Nat×Option (Gen×VObj))} {ng:Nat}
 {d:Option Tmp} {ty T T':TypeId} {pos:String} {after:Array Edge} {gd:Option (Nat×Bool)} {x y:Operand} {α:Type} {f:α→List PV}
theorem g_know (t:Nat) {b:Bool} (hx:look tm t = .bool b) (h1:b=true→GoL P ops draw i L acc (mkS ((t,.bool true)::tm) ob ng) K) (h2:b=false→GoL P ops draw i L acc (mkS ((t,.bool false)::tm) ob ng) K):GoL P ops draw i L acc (mkS tm ob ng) K:=by
 have e:mkS ((t,.bool b)::tm) ob ng=mkS tm ob ng:=by
  unfold mkS
  congr 1
  funext t'
  show (if t'=t then PV.bool b else look tm t')=look tm t'
  split
  ·rename_i h;rw [h,hx]
  ·rfl
 rw [← e]
 cases b
 ·exact h2 rfl
 ·exact h1 rfl
theorem g_lenM {E kk by_:Nat} {z:List PV} [Sl P T E kk by_ z] (hw:wantedV ops (mkS tm ob ng) ⟨d,.call ⟨.builtin .len,#[x],#[T]⟩,ty,pos,after,gd⟩=some true) {M:List α} (hx:elsV (lookO ob) (evL tm x)=some (M.map f))
  (k:GoL P ops draw (i+1) L (acc ++ [(keysO (mkS tm ob ng) ⟨d,.call ⟨.builtin .len,#[x],#[T]⟩,ty,pos,after,gd⟩,[])]) (mkS (putT d (.int .i64 (M.length:Int)) tm) ob ng) K):GoL P ops draw i (⟨d,.call ⟨.builtin .len,#[x],#[T]⟩,ty,pos,after,gd⟩::L) acc (mkS tm ob ng) K:=by
 refine g_len (n:=M.length) hw ?_ k
 cases hp:evL tm x<;>rw [hp] at hx<;>simp only [elsV] at hx<;>try (cases hx;done)
 ·injection hx with hx;simp only [lenV,hx,List.length_map]
 ·injection hx with hx
  have:M.length=0:=by rw [← List.length_map (f:=f),← hx];rfl
  simp only [lenV,this]
 ·simp only [lenV]
  split at hx
  ·rename_i ho
   injection hx with hx
   rw [hx,List.length_map]
  ·cases hx
theorem g_indexI {E kk by_:Nat} {z:List PV} [Sl P T E kk by_ z] (hw:wantedV ops (mkS tm ob ng) ⟨d,.indexAddr T x y,ty,pos,after,gd⟩=some true) {M:List α} {e:α} {kd:IntKind} {q:Int} (he:atI M q=some e) (hx:evL tm x = .sl (M.map f)) (hy:evL tm y = .int kd q) (hl:(f e).length=kk)
  (k:GoL P ops draw (i+1) L (acc ++ [(keysO (mkS tm ob ng) ⟨d,.indexAddr T x y,ty,pos,after,gd⟩,[])]) (mkS (putT d (.cel (f e)) tm) ob ng) K):GoL P ops draw i (⟨d,.indexAddr T x y,ty,pos,after,gd⟩::L) acc (mkS tm ob ng) K:=by
 obtain ⟨h0,h1⟩:=atI_get he
 exact g_index_sl (n:=q.toNat) hw hx (by rw [hy];congr 1;omega) (map_get h1) hl k
theorem g_indexR {E kk by_:Nat} {z:List PV} [Sl P T E kk by_ z] (hw:wantedV ops (mkS tm ob ng) ⟨d,.indexAddr T x y,ty,pos,after,gd⟩=some true) {M:List α} {e:α} {kd:IntKind} {q:Int} {t:Nat} {g:Gen} {E':Nat} {sh:Bool} (he:atI M q=some e) (hx:evL tm x = .row t g) (hb:getOb (lookO ob) t g=some (.row E' kk sh (M.map f))) (hy:evL tm y = .int kd q)
  (k:GoL P ops draw (i+1) L (acc ++ [(keysO (mkS tm ob ng) ⟨d,.indexAddr T x y,ty,pos,after,gd⟩,[])]) (mkS (putT d (.elp t g q.toNat kk 0) tm) ob ng) K):GoL P ops draw i (⟨d,.indexAddr T x y,ty,pos,after,gd⟩::L) acc (mkS tm ob ng) K:=by
 obtain ⟨h0,h1⟩:=atI_get he
 exact g_index_row (n:=q.toNat) hw hx hb (by rw [hy];congr 1;omega) (by rw [List.length_map];exact (List.getElem?_eq_some_iff.1 h1).1) k
theorem g_loadR {agg:Bool} {n:Nat} [h:Ld P T agg n] (hw:wantedV ops (mkS tm ob ng) ⟨d,.load T x,ty,pos,after,gd⟩=some true) {M:List α} {e:α} {q:Int} {t:Nat} {g:Gen} {E kk off:Nat} {sh:Bool} {v:PV} (he:atI M q=some e) (hx:evL tm x = .elp t g q.toNat kk off) (hb:getOb (lookO ob) t g=some (.row E kk sh (M.map f))) (hv:takeN agg n ((f e).drop off)=some v)
  (k:GoL P ops draw (i+1) L (acc ++ [(keysO (mkS tm ob ng) ⟨d,.load T x,ty,pos,after,gd⟩,[])]) (mkS (putT d v tm) ob ng) K):GoL P ops draw i (⟨d,.load T x,ty,pos,after,gd⟩::L) acc (mkS tm ob ng) K:=by
 obtain ⟨h0,h1⟩:=atI_get he
 refine g_load (cs:=(f e).drop off) hw ?_ hv k
 rw [hx]
 simp only [readAt,hb,if_true,map_get h1,Option.map_some]
theorem g_storeR {agg:Bool} {n:Nat} [Ld P T agg n] (hw:wantedV ops (mkS tm ob ng) ⟨d,.store T x y,ty,pos,after,gd⟩=some true) {M:List α} {e e':α} {q:Int} {t:Nat} {g:Gen} {E kk off:Nat} {p:PV} {ps qs:List PV} {us:List (Nat×Option (Gen×VObj))} (he:atI M q=some e) (hx:evL tm x = .elp t g q.toNat kk off)
  (hb:getOb (lookO ob) t g=some (.row E kk false (M.map f))) (hy:evL tm y=p) (hps:p.cells=ps) (hl:ps.length=n) (hr:resL (lookO ob) ps=some (qs,us)) (hf:off+n≤kk) (hus:us.all (fun q=>q.1 != t)=true) (hs:writeL (f e) off qs=f e')
  (k:GoL P ops draw (i+1) L (acc ++ [(keysO (mkS tm ob ng) ⟨d,.store T x y,ty,pos,after,gd⟩,us.map (·.1) ++ [t])]) (mkS (putT d .un tm) ((t,some (g,VObj.row E kk false ((setI M q e').map f)))::(us.reverse++ob)) ng) K) :
  GoL P ops draw i (⟨d,.store T x y,ty,pos,after,gd⟩::L) acc (mkS tm ob ng) K:=by
 obtain ⟨h0,h1⟩:=atI_get he
 refine g_store_row hw hx hb (map_get h1) hy hps hl hr hf hus ?_
 rw [hs,show (M.map f).set q.toNat (f e')=(setI M q e').map f from (List.map_set ..).symm]
 simpa using k
theorem g_sliceM {E kk by_:Nat} {z:List PV} [Sl P T E kk by_ z] {lo hi:Option Operand} (hw:wantedV ops (mkS tm ob ng) ⟨d,.slice T x lo hi none,ty,pos,after,gd⟩=some true) {M R:List α} {l h:Int} {us:List (Nat×Option (Gen×VObj))} (hs:subL M l h=some R) (hf:∀ x,(f x).length=kk)
  (hx:elsV (lookO ob) (evL tm x)=some (M.map f)) (hlo:loI tm lo=some l) (hhi:hiI tm M.length hi=some h) (hus:pubV (lookO ob) (evL tm x)=us)
  (k:GoL P ops draw (i+1) L (acc ++ [(keysO (mkS tm ob ng) ⟨d,.slice T x lo hi none,ty,pos,after,gd⟩,us.map (·.1))]) (mkS (putT d (.sl (R.map f)) tm) (us.reverse++ob) ng) K):GoL P ops draw i (⟨d,.slice T x lo hi none,ty,pos,after,gd⟩::L) acc (mkS tm ob ng) K:=by
 obtain ⟨h0,h1,h2,rfl⟩:=subL_get hs
 refine g_slice (l:=l.toNat) (h:=h.toNat) hw hx (lo_of hlo h0) (by rw [List.length_map];exact hi_of hhi (by omega)) (by omega) (by rw [List.length_map];omega) (map_all hf M) hus ?_ k
 rw [List.map_take,List.map_drop]
theorem g_sliceSI (hT:P.underlying T=some .string) {lo hi:Option Operand} (hw:wantedV ops (mkS tm ob ng) ⟨d,.slice T x lo hi none,ty,pos,after,gd⟩=some true) {a b:ByteArray} {l h:Int} (hs:subS a l h=some b) (hx:evL tm x = .str a) (hlo:loI tm lo=some l) (hhi:hiI tm a.size hi=some h)
  (k:GoL P ops draw (i+1) L (acc ++ [(keysO (mkS tm ob ng) ⟨d,.slice T x lo hi none,ty,pos,after,gd⟩,[])]) (mkS (putT d (.str b) tm) ob ng) K):GoL P ops draw i (⟨d,.slice T x lo hi none,ty,pos,after,gd⟩::L) acc (mkS tm ob ng) K:=by
 obtain ⟨h0,h1,h2,h3⟩:=subS_get hs
 exact g_sliceS hT hw hx (lo_of hlo h0) (hi_of hhi (by omega)) (by omega) (by omega) h3 k
theorem g_indexSI (hT:P.underlying T=some .string) (hw:wantedV ops (mkS tm ob ng) ⟨d,.index T x y,ty,pos,after,gd⟩=some true) {a:ByteArray} {kd:IntKind} {q c:Int} (hn:atS a q=some c) (hx:evL tm x = .str a) (hy:evL tm y = .int kd q)
  (k:GoL P ops draw (i+1) L (acc ++ [(keysO (mkS tm ob ng) ⟨d,.index T x y,ty,pos,after,gd⟩,[])]) (mkS (putT d (.int .u8 c) tm) ob ng) K):GoL P ops draw i (⟨d,.index T x y,ty,pos,after,gd⟩::L) acc (mkS tm ob ng) K:=by
 unfold atS at hn
 split at hn
 ·cases hc:a[q.toNat]? with
  | none=>rw [hc] at hn;cases hn
  | some b=>
    rw [hc] at hn
    injection hn with hn
    subst hn
    exact g_indexS hT hw hx (n:=q.toNat) (by rw [hy];congr 1;omega) hc k
 ·cases hn
theorem g_catI (hw:wantedV ops (mkS tm ob ng) ⟨d,.binOp .add T x y T',ty,pos,after,gd⟩=some true) {a b c:ByteArray} (hs:catS a b=some c) (hx:evL tm x = .str a) (hy:evL tm y = .str b)
  (kk:GoL P ops draw (i+1) L (acc ++ [(keysO (mkS tm ob ng) ⟨d,.binOp .add T x y T',ty,pos,after,gd⟩,[])]) (mkS (putT d (.str c) tm) ob ng) K):GoL P ops draw i (⟨d,.binOp .add T x y T',ty,pos,after,gd⟩::L) acc (mkS tm ob ng) K:=by
 unfold catS at hs
 split at hs
 ·injection hs with hs
  subst hs
  exact g_cat hw hx hy (by assumption) kk
 ·cases hs
theorem g_appN {dd:Nat} {E kk by_:Nat} {z:List PV} [Sl P T E kk by_ z] (hw:wantedV ops (mkS tm ob ng) ⟨some dd,.call ⟨.builtin .append,#[x,y],#[T,T]⟩,ty,pos,after,gd⟩=some true) {M R:List α} (hs:appL by_ [] M=some R) (hf:∀ x,(f x).length=kk) {new:List (List PV)} (hx:evL tm x = .nil) (hy:elsV (lookO ob) (evL tm y)=some new) (hm:new=M.map f)
  (k:GoL P ops draw (i+1) L (acc ++ [(keysO (mkS tm ob ng) ⟨some dd,.call ⟨.builtin .append,#[x,y],#[T,T]⟩,ty,pos,after,gd⟩,[dd])]) (mkS ((dd,.row dd (ng,i))::tm) ((dd,some ((ng,i),.row E kk false (R.map f)))::ob) ng) K) :
  GoL P ops draw i (⟨some dd,.call ⟨.builtin .append,#[x,y],#[T,T]⟩,ty,pos,after,gd⟩::L) acc (mkS tm ob ng) K:=by
 subst hm
 obtain ⟨h1,h2,rfl⟩:=appL_get hs
 exact g_append_nil hw hx hy (by simpa using h1) (by simpa using h2) (map_all hf _) k
theorem g_appR {dd:Nat} {E kk by_:Nat} {z:List PV} [Sl P T E kk by_ z] (hw:wantedV ops (mkS tm ob ng) ⟨some dd,.call ⟨.builtin .append,#[x,y],#[T,T]⟩,ty,pos,after,gd⟩=some true) {M0 M R:List α} (hs:appL by_ M0 M=some R) (hf:∀ x,(f x).length=kk) {t:Nat} {g:Gen} {sh:Bool} {new:List (List PV)} (hx:evL tm x = .row t g) (ho:getOb (lookO ob) t g=some (.row E kk sh (M0.map f))) (hy:elsV (lookO ob) (evL tm y)=some new) (hm:new=M.map f)
  (k:GoL P ops draw (i+1) L (acc ++ [(keysO (mkS tm ob ng) ⟨some dd,.call ⟨.builtin .append,#[x,y],#[T,T]⟩,ty,pos,after,gd⟩,[t])]) (mkS ((dd,.row t (ng,i))::tm) ((t,some ((ng,i),.row E kk sh (R.map f)))::ob) ng) K) :
  GoL P ops draw i (⟨some dd,.call ⟨.builtin .append,#[x,y],#[T,T]⟩,ty,pos,after,gd⟩::L) acc (mkS tm ob ng) K:=by
 subst hm
 obtain ⟨h1,h2,rfl⟩:=appL_get hs
 exact g_append_row hw hx ho hy (by simpa using h1) (by simpa using h2) (map_all hf M) (by rw [← List.map_append];exact k)
theorem g_ixI {len:Nat} [h:Ix P T len] (hw:wantedV ops (mkS tm ob ng) ⟨d,.index T x y,ty,pos,after,gd⟩=some true) {p:α→PV} {M:List α} {e:α} {cs:List PV} {vs:List Value} {kd:IntKind} {q:Int} (he:atI M q=some e)
  (hx:evL tm x = .agg cs) (hm:cs=M.map p) (hps:plainL cs=some vs) (hy:evL tm y = .int kd q) (hl:cs.length=len)
  (k:GoL P ops draw (i+1) L (acc ++ [(keysO (mkS tm ob ng) ⟨d,.index T x y,ty,pos,after,gd⟩,[])]) (mkS (putT d (p e) tm) ob ng) K):GoL P ops draw i (⟨d,.index T x y,ty,pos,after,gd⟩::L) acc (mkS tm ob ng) K:=by
 obtain ⟨h0,h1⟩:=atI_get he
 exact g_ix (n:=q.toNat) hw hx hps (by rw [hy];congr 1;omega) hl (by rw [hm];exact map_get h1) k
theorem g_remI (hw:wantedV ops (mkS tm ob ng) ⟨d,.binOp .rem T x y T',ty,pos,after,gd⟩=some true) {k:IntKind} {a b c:Int} (hs:remI k a b=some c) (hx:evL tm x = .int k a) (hy:evL tm y = .int k b)
  (kk:GoL P ops draw (i+1) L (acc ++ [(keysO (mkS tm ob ng) ⟨d,.binOp .rem T x y T',ty,pos,after,gd⟩,[])]) (mkS (putT d (.int k c) tm) ob ng) K):GoL P ops draw i (⟨d,.binOp .rem T x y T',ty,pos,after,gd⟩::L) acc (mkS tm ob ng) K:=by
 unfold remI at hs
 split at hs
 ·cases hs
 ·injection hs with hs
  subst hs
  exact g_rem hw hx hy (by assumption) kk
theorem g_quoI (hw:wantedV ops (mkS tm ob ng) ⟨d,.binOp .quo T x y T',ty,pos,after,gd⟩=some true) {k:IntKind} {a b c:Int} (hs:quoI k a b=some c) (hx:evL tm x = .int k a) (hy:evL tm y = .int k b)
  (kk:GoL P ops draw (i+1) L (acc ++ [(keysO (mkS tm ob ng) ⟨d,.binOp .quo T x y T',ty,pos,after,gd⟩,[])]) (mkS (putT d (.int k c) tm) ob ng) K):GoL P ops draw i (⟨d,.binOp .quo T x y T',ty,pos,after,gd⟩::L) acc (mkS tm ob ng) K:=by
 unfold quoI at hs
 split at hs
 ·cases hs
 ·injection hs with hs
  subst hs
  exact g_quo hw hx hy (by assumption) kk
end
section
variable {P:Program} [WInv P] {α:Type} {St:α→Nat→FS} {J:α→Prop} {Q:Ex→FS→Prop} {s:FS} {id:Nat}
theorem jk_ret (h:Q .ret s):joinK St J Q .ret s:=h
end
class StrT (P:Program) (T:TypeId):Prop where
 eq:P.underlying T=some .string
section
variable {P:Program} [WInv P] {ops:Array Oper} {draw:Bool} {i:Nat} {L:List Oper} {acc:List (List Nat×List Nat)} {K:FS→Prop} {tm:List (Nat×PV)} {ob:List (Nat×Option (Gen×VObj))} {ng:Nat}
 {d:Option Tmp} {ty T T':TypeId} {pos:String} {after:Array Edge} {gd:Option (Nat×Bool)} {x y:Operand} {α:Type} {f:α→List PV}
theorem g_lenT [h:StrT P T] (hw:wantedV ops (mkS tm ob ng) ⟨d,.call ⟨.builtin .len,#[x],#[T]⟩,ty,pos,after,gd⟩=some true) {a:ByteArray} (hx:evL tm x = .str a)
  (k:GoL P ops draw (i+1) L (acc ++ [(keysO (mkS tm ob ng) ⟨d,.call ⟨.builtin .len,#[x],#[T]⟩,ty,pos,after,gd⟩,[])]) (mkS (putT d (.int .i64 (a.size:Int)) tm) ob ng) K):GoL P ops draw i (⟨d,.call ⟨.builtin .len,#[x],#[T]⟩,ty,pos,after,gd⟩::L) acc (mkS tm ob ng) K:=g_lenS h.eq hw hx k
theorem g_buildM {dd:Nat} {E kk by_:Nat} {z:List PV} [Sl P T E kk by_ z] {n:Nat} {parts:Array (Nat×Operand)} (M:List α) (hw:wantedV ops (mkS tm ob ng) ⟨some dd,.buildSlice T n parts,ty,pos,after,gd⟩=some true) {cs qs:List PV} {us:List (Nat×Option (Gen×VObj))}
  (hf:fillP (fun i=>some (i * kk,kk)) (List.replicate n z).flatten (evs tm parts.toList)=some cs) (hr:resL (lookO ob) cs=some (qs,us)) (hl:qs.length=n * kk) (hm:n * kk≤16777216) (hc:chunks kk n qs=M.map f)
  (k:GoL P ops draw (i+1) L (acc ++ [(keysO (mkS tm ob ng) ⟨some dd,.buildSlice T n parts,ty,pos,after,gd⟩,us.map (·.1) ++ [dd])]) (mkS ((dd,.row dd (ng,i))::tm) ((dd,some ((ng,i),.row E kk false (M.map f)))::(us.reverse++ob)) ng) K) :
  GoL P ops draw i (⟨some dd,.buildSlice T n parts,ty,pos,after,gd⟩::L) acc (mkS tm ob ng) K:=
 g_buildSlice hw hf hr hl hm hc (by simpa using k)
end
theorem runX {p q:Prop} (k:q) (h:q→p:=by
 (intro k)
 (repeat (first
  | refine g_load rfl rfl rfl ?_
  | refine g_move rfl (by (conv=>lhs;whnf);try rfl) ?_
  | refine g_assign rfl (by (conv=>lhs;whnf);try rfl) ?_
  | refine g_fieldAddr rfl rfl ?_
  | refine g_int rfl rfl rfl rfl (by (conv=>lhs;whnf);try rfl) ?_
  | refine g_str rfl rfl rfl rfl (by (conv=>lhs;whnf);try rfl) ?_
  | refine g_extract rfl rfl rfl ?_
  | refine g_store rfl rfl rfl (by (conv=>lhs;whnf);try rfl) (by (conv=>lhs;whnf);try rfl) (by rfl) (by rfl) (Nat.le_of_ble_eq_true rfl) (by (conv=>lhs;whnf);try rfl) ?_
  | refine g_build rfl rfl ?_
  | refine g_lenT rfl rfl ?_
  | refine g_not rfl rfl ?_
  | refine g_pick rfl rfl (by (conv=>lhs;whnf);try rfl) ?_
  | refine g_field rfl rfl rfl ?_
  | refine g_box rfl (by (conv=>lhs;whnf);try rfl) (by (conv=>lhs;whnf);try rfl) (by rfl) ?_
  | refine g_alloc rfl rfl ?_
  | refine g_nil rfl rfl ?_
  | refine g_nilC rfl rfl ?_
  | refine g_build_ar rfl rfl ?_
  | refine g_conv rfl rfl ?_
  | refine g_bits rfl rfl rfl rfl ?_
  | refine go_endF ?_
  | refine go_endT (by kernel_rfl) ?_
  | refine pws_seq ?_
  | refine pws_skip ?_
  | refine pws_ret ?_
  | refine pws_exit ?_
  | refine pws_nil ?_
  | refine bk_exit ?_
  | refine bk_normal ?_
  | refine bk_ret ?_
  | refine bk_other rfl ?_
  | refine rk_exit ?_
  | refine rk_ret ?_
  | refine jk_exit ?_
  | refine jk_ret ?_
  | refine pws_label ?_))
 (exact k)):p:=h k
theorem contract_F {P:Program} [WInv P] {β:Type} {F:Option β} {R:β→PV} {f:FuncId} {fn:Func} {c:Code} {args:List PV} {r:β} (hF:F=some r) (hmix:P.follows .mixedOrders=true) (hf:P.funcs[f]? = some fn) (hg:isGo P f=true) (hb:fn.body=some c) (hok:(decide (args.length≤fn.ntmps)&&codeOK fn.ntmps c)=true)
  (h:∀ r,F=some r→PWs P [c] (RetQ P fn.results.toList (R r)) (mkS (argTm 0 args) [] 1)):Contract0 P f args (R r):=contract_run hmix hf hg hb hok (h r hF)
end VL
end Go.Proofs.YtphibahplgmgfaaGreatDoor
namespace Go.Proofs.YtphibahplgmgfaaGreatDoor
namespace VL
open Go.RowKit
class BoolT (P:Program) (T:TypeId):Prop where
 eq:P.underlying T=some .bool
def bitsI (op:BinOp) (k:IntKind) (a b:Int):Int:=match op with
 | .and=>k.wrap (BitVec.ofInt k.bits a &&& BitVec.ofInt k.bits b).toNat
 | .or=>k.wrap (BitVec.ofInt k.bits a ||| BitVec.ofInt k.bits b).toNat
 | .xor=>k.wrap (BitVec.ofInt k.bits a ^^^ BitVec.ofInt k.bits b).toNat
 | _=>k.wrap (BitVec.ofInt k.bits a &&& ~~~BitVec.ofInt k.bits b).toNat
def shrI (k:IntKind) (a b:Int):Option Int:=if b<0 then none else some (a.fdiv (2 ^ (min b.toNat k.bits)))
section
variable {P:Program} [WInv P] {ops:Array Oper} {draw:Bool} {i:Nat} {L:List Oper} {acc:List (List Nat×List Nat)} {K:FS→Prop} {tm:List (Nat×PV)} {ob:List (Nat×Option (Gen×VObj))} {ng:Nat}
 {d:Option Tmp} {ty T T':TypeId} {pos:String} {after:Array Edge} {gd:Option (Nat×Bool)} {x y:Operand}
theorem g_shrI (hw:wantedV ops (mkS tm ob ng) ⟨d,.binOp .shr T x y T',ty,pos,after,gd⟩=some true) {k k':IntKind} {a b c:Int} (hs:shrI k a b=some c) (hx:evL tm x = .int k a) (hy:evL tm y = .int k' b)
  (kk:GoL P ops draw (i+1) L (acc ++ [(keysO (mkS tm ob ng) ⟨d,.binOp .shr T x y T',ty,pos,after,gd⟩,[])]) (mkS (putT d (.int k c) tm) ob ng) K):GoL P ops draw i (⟨d,.binOp .shr T x y T',ty,pos,after,gd⟩::L) acc (mkS tm ob ng) K:=by
 unfold shrI at hs
 split at hs
 ·cases hs
 ·injection hs with hs
  subst hs
  exact g_shr hw hx hy (by assumption) kk
theorem g_boolE [h:BoolT P T] (hw:wantedV ops (mkS tm ob ng) ⟨d,.binOp .eql T x y T',ty,pos,after,gd⟩=some true) {a b:Bool} (hx:evL tm x = .bool a) (hy:evL tm y = .bool b)
  (kk:GoL P ops draw (i+1) L (acc ++ [(keysO (mkS tm ob ng) ⟨d,.binOp .eql T x y T',ty,pos,after,gd⟩,[])]) (mkS (putT d (.bool (a == b)) tm) ob ng) K):GoL P ops draw i (⟨d,.binOp .eql T x y T',ty,pos,after,gd⟩::L) acc (mkS tm ob ng) K:=by
 refine g_plain2 rfl (fun _ _ h=>by cases h) hw hx hy (v:=.bool a) (w:=.bool b) (r:=.bool (a == b)) rfl rfl (fun ρ W h1 h2=>?_) rfl kk
 simp [execOp,h1,h2,eqGuard,binOp,run_equal_bool W T a b h.eq]
end
theorem contract_FO {P:Program} [WInv P] {β:Type} {F:Option β} {R:β→PV} {O:β→List PV} {f:FuncId} {fn:Func} {c:Code} {args:List PV} {j:Nat} {os:List PV} {r:β} (hF:F=some r) (hmix:P.follows .mixedOrders=true) (hf:P.funcs[f]? = some fn) (hg:isGo P f=true) (hb:fn.body=some c) (hok:(decide (args.length≤fn.ntmps)&&codeOK fn.ntmps c)=true)
  (h:∀ r,F=some r→PWs P [c] (RetO P fn.results.toList (R r) j (O r)) (mkS (argTm 0 args) [(j,some ((0,j),.box os))] 1)):Contract P f args (some (j,os)) (R r) (O r):=contract_runO hmix hf hg hb hok (h r hF)
end VL
end Go.Proofs.YtphibahplgmgfaaGreatDoor
namespace Go.Proofs.YtphibahplgmgfaaGreatDoor
namespace VL
open Go.RowKit
theorem w64_of {n:Int} (h1 : -9223372036854775808≤n) (h2:n≤9223372036854775807):w64 n=n:=by
 show IntKind.wrap .i64 n=n
 rw [IntKind.wrap_i64]
 omega
theorem atI_some {α:Type} {l:List α} {n:Nat} {e:α} (h:l[n]? = some e):atI l (n:Int)=some e:=by rw [atI_nat,h]
theorem appL_of {α:Type} {w:Nat} {a b:List α} (h:(a.length+b.length) * w≤140737488355328) (h2:a.length+b.length≤9223372036854775807):appL w a b=some (a++b):=by
 unfold appL
 rw [if_pos ⟨h,h2⟩]
theorem appL_le {α:Type} {w:Nat} {a b:List α} (n:Nat) (h:a.length+b.length≤n) (h2:n * w≤140737488355328) (h3:n≤9223372036854775807):appL w a b=some (a++b):=
 appL_of (Nat.le_trans (Nat.mul_le_mul_right w h) h2) (Nat.le_trans h h3)
theorem catS_of {a b:ByteArray} (h:a.size+b.size≤9223372036854775807):catS a b=some (a++b):=by
 unfold catS
 rw [if_pos h]
theorem subL_of {α:Type} {l:List α} {a b:Nat} (h1:a≤b) (h2:b≤l.length):subL l (a:Int) (b:Int)=some ((l.drop a).take (b - a)):=by
 unfold subL
 rw [if_pos ⟨by omega,by omega,by omega⟩]
 rfl
theorem subL_from {α:Type} {l:List α} {a:Nat} (h2:a≤l.length):subL l (a:Int) (l.length:Int)=some (l.drop a):=by
 rw [subL_of h2 (Nat.le_refl _),List.take_of_length_le (by simp)]
theorem subL_to {α:Type} {l:List α} {a:Nat} (h2:a≤l.length):subL l 0 (a:Int)=some (l.take a):=by
 rw [show (0:Int)=((0:Nat):Int) from rfl,subL_of (Nat.zero_le _) h2]
 simp
theorem drop_cons {α:Type} {l:List α} {n:Nat} {e:α} (h:l[n]? = some e):l.drop n=e::l.drop (n+1):=by
 obtain ⟨hlt,he⟩:=List.getElem?_eq_some_iff.1 h
 rw [List.drop_eq_getElem_cons hlt,he]
end VL
end Go.Proofs.YtphibahplgmgfaaGreatDoor
namespace Go.Proofs.YtphibahplgmgfaaGreatDoor
namespace VL
open Go.RowKit
class GlobT (P:Program) [WInv P] (g:Nat) (cs:outParam (List PV)):Prop where
 eq:∀ W,WInv.I P W→∀ (j:Nat) (q:PV),cs[j]? = some q→∃ u,W.cell? ⟨g,j,none⟩=some u∧∀ x:Ctx,Rep x q u
section
variable {P:Program} [WInv P] {ops:Array Oper} {draw:Bool} {i:Nat} {L:List Oper} {acc:List (List Nat×List Nat)} {K:FS→Prop} {tm:List (Nat×PV)} {ob:List (Nat×Option (Gen×VObj))} {ng:Nat}
 {d:Option Tmp} {ty T:TypeId} {pos:String} {after:Array Edge} {gd:Option (Nat×Bool)}
theorem ok_loadG {g:Nat} {cs:List PV} [hg:GlobT P g cs] {r:Run} {o:Oper} {s:FS} {ti:TI} {p:PV} (ho:o.op = .load T (.global g)) (ht:tyI P T=some ti) (hp:takeT ti cs=some p) (hI:r.I=WInv.I P):OpOK P r o i s ⟨p,[]⟩:=by
 intro S a x Q hX hi hd
 have hw:WInv.I P x.W:=by rw [← hI];exact hX.inv.1 _ hX.gr
 obtain ⟨v,h1,h2⟩:=run_loadVar_take (x:=x) (b:=g) (off:=0) ht (fun j q hq=>by
  obtain ⟨u,h3,h4⟩:=hg.eq _ hw j q hq
  exact ⟨u,by rw [Nat.zero_add];exact h3,h4 x⟩) hp
 refine wp_value (v:=v) (W':=x.W) ?_ (hX.val hd h2)
 unfold execOp
 rw [ho]
 simp [Act.eval,h1]
theorem g_loadG {g:Nat} {cs:List PV} [GlobT P g cs] {agg:Bool} {n:Nat} [h:Ld P T agg n] (hw:wantedV ops (mkS tm ob ng) ⟨d,.load T (.global g),ty,pos,after,gd⟩=some true) {v:PV} (hv:takeN agg n cs=some v)
  (k:GoL P ops draw (i+1) L (acc ++ [(keysO (mkS tm ob ng) ⟨d,.load T (.global g),ty,pos,after,gd⟩,[])]) (mkS (putT d v tm) ob ng) K):GoL P ops draw i (⟨d,.load T (.global g),ty,pos,after,gd⟩::L) acc (mkS tm ob ng) K:=by
 obtain ⟨ti,ht,h1,h2⟩:=ld_spec (P:=P) (T:=T) (agg:=agg) (n:=n)
 refine go_op (u:=⟨v,[]⟩) (.any hw fun s' r hA hI=>ok_loadG (cs:=cs) rfl ht (by rw [takeT_N h1 h2];exact hv) hI) ?_
 rw [mkS_app]
 exact k
end
def Tot {α:Type} (x:Option α) (Q:α→Prop):Prop:=∃ v,x=some v∧Q v
section
variable {α β γ:Type}
theorem Tot.mono {x:Option α} {Q R:α→Prop} (h:Tot x Q) (g:∀ v,Q v→R v):Tot x R:=by
 obtain ⟨v,h1,h2⟩:=h
 exact ⟨v,h1,g v h2⟩
theorem tot_some {v:α} {Q:α→Prop} (h:Q v):Tot (some v) Q:=⟨v,rfl,h⟩
theorem tot_bind {x:Option α} {f:α→Option β} {Q:α→Prop} {R:β→Prop} (h:Tot x Q) (k:∀ v,Q v→Tot (f v) R):Tot (x.bind f) R:=by
 obtain ⟨v,h1,h2⟩:=h
 obtain ⟨r,h3,h4⟩:=k v h2
 exact ⟨r,by rw [h1];exact h3,h4⟩
theorem tot_bindE {x:Option α} {f:α→Option β} {v:α} {R:β→Prop} (h:x=some v) (k:Tot (f v) R):Tot (x.bind f) R:=by
 rw [h];exact k
theorem tot_if {b:Bool} {x y:Option β} {R:β→Prop} (h1:b=true→Tot x R) (h2:b=false→Tot y R):Tot (if b=true then x else y) R:=by
 cases b
 ·exact h2 rfl
 ·exact h1 rfl
theorem tot_ifD {p:Prop} [Decidable p] {x y:Option β} {R:β→Prop} (h1:p→Tot x R) (h2:¬ p→Tot y R):Tot (if decide p=true then x else y) R:=by
 by_cases h:p
 ·rw [if_pos (decide_eq_true h)];exact h1 h
 ·rw [if_neg (by simpa using h)];exact h2 h
theorem tot_ifN {p:Prop} [Decidable p] {x y:Option β} {R:β→Prop} (h1:¬ p→Tot x R) (h2:p→Tot y R):Tot (if (!decide p)=true then x else y) R:=by
 by_cases h:p
 ·rw [if_neg (by simpa using h)];exact h2 h
 ·rw [if_pos (by simpa using h)];exact h1 h
theorem tot_let {k:γ} {f:γ→Option β} {R:β→Prop} (S:γ→Prop) (hk:S k) (hf:∀ q,S q→Tot (f q) R):Tot (letk k f) R:=hf k hk
theorem tot_let0 {k:γ} {f:γ→Option β} {R:β→Prop} (h:Tot (f k) R):Tot (letk k f) R:=h
theorem tot_loop {F:(α→Option β)→α→Option β} {a:α} {R:β→Prop} (J:α→Prop) (m:α→Nat) (h0:J a) (hm:m a≤4611686018427387900) (h:∀ a rec,J a→(∀ a',J a'→m a'<m a→Tot (rec a') R)→Tot (F rec a) R):Tot (fixN bigN F a) R:=
 fixN_ex J m R h bigN a h0 (by unfold bigN;omega)
theorem tot_atI {l:List α} {i:Int} {f:α→Option β} {R:β→Prop} (h0:0≤i) (h1:i<(l.length:Int)) (k:∀ e,e ∈ l→l[i.toNat]? = some e→Tot (f e) R):Tot ((atI l i).bind f) R:=by
 obtain ⟨n,rfl⟩:∃ n:Nat,i=(n:Int):=⟨i.toNat,by omega⟩
 have hl:n<l.length:=by omega
 have e:l[n]? = some l[n]:=List.getElem?_eq_getElem hl
 refine tot_bindE (v:=l[n]) (atI_some e) (k _ (List.getElem_mem hl) (by simp))
theorem tot_appL {w:Nat} {a b:List α} {f:List α→Option β} {R:β→Prop} (n:Nat) (h:a.length+b.length≤n) (h2:n * w≤140737488355328) (h3:n≤9223372036854775807) (k:Tot (f (a++b)) R):Tot ((appL w a b).bind f) R:=
 tot_bindE (appL_le n h h2 h3) k
theorem tot_catS {a b:ByteArray} {f:ByteArray→Option β} {R:β→Prop} (h:a.size+b.size≤9223372036854775807) (k:(a++b).size=a.size+b.size→Tot (f (a++b)) R):Tot ((catS a b).bind f) R:=
 tot_bindE (catS_of h) (k (by rw [ByteArray.size_append]))
theorem tot_remI {k:IntKind} {a b:Int} {f:Int→Option β} {R:β→Prop} (h:b≠0) (g:Tot (f (Int.tmod a b)) R):Tot ((remI k a b).bind f) R:=
 tot_bindE (by unfold remI;rw [if_neg h]) g
theorem tot_quoI {k:IntKind} {a b:Int} {f:Int→Option β} {R:β→Prop} (h:b≠0) (g:Tot (f (k.wrap (Int.tdiv a b))) R):Tot ((quoI k a b).bind f) R:=
 tot_bindE (by unfold quoI;rw [if_neg h]) g
theorem tot_shrI {k:IntKind} {a b:Int} {f:Int→Option β} {R:β→Prop} (h:0≤b) (g:Tot (f (a.fdiv (2 ^ (min b.toNat k.bits)))) R):Tot ((shrI k a b).bind f) R:=
 tot_bindE (by unfold shrI;rw [if_neg (by omega)]) g
end
end VL
end Go.Proofs.YtphibahplgmgfaaGreatDoor
namespace Go.Proofs.YtphibahplgmgfaaGreatDoor
namespace VL
open Go.RowKit
theorem mapO_append {h:PV→Option PV}:∀ {a b a' b':List PV},mapO h a=some a'→mapO h b=some b'→mapO h (a++b)=some (a'++b')
 | [],b,a',b',h1,h2=>by
   injection h1 with h1
   subst h1
   exact h2
 | p::ps,b,a',b',h1,h2=>by
   simp only [mapO] at h1
   split at h1
   ·rename_i q qs e1 e2
    injection h1 with h1
    subst h1
    show (match h p,mapO h (ps++b) with
     | some q,some qs=>some (q::qs)
     | _,_=>none)=_
    rw [e1,mapO_append e2 h2]
    rfl
   ·cases h1
theorem mapO_cels {f:Nat→Option (Gen×VObj)}:∀ (L:List (List PV)),mapO (frzC f) (L.map PV.cel)=some (L.map PV.cel)
 | []=>rfl
 | cs::L=>by
   show (match frzC f (.cel cs),mapO (frzC f) (L.map PV.cel) with
    | some q,some qs=>some (q::qs)
    | _,_=>none)=_
   rw [mapO_cels L]
   rfl
section
variable {P:Program} [WInv P] {ops:Array Oper} {draw:Bool} {i:Nat} {L:List Oper} {acc:List (List Nat×List Nat)} {K:FS→Prop} {tm:List (Nat×PV)} {ob:List (Nat×Option (Gen×VObj))} {ng:Nat}
 {d:Option Tmp} {ty:TypeId} {pos:String} {after:Array Edge} {gd:Option (Nat×Bool)}
theorem g_callFC {e:Operand} {f:FuncId} {Lc:List (List PV)} {es:Array Operand} {ts:Array TypeId} {args1:List PV} {res:PV} (hc:Contract P f (args1++Lc.map .cel) none res []) (hw:wantedV ops (mkS tm ob ng) ⟨d,.call ⟨.value e,es,ts⟩,ty,pos,after,gd⟩=some true)
  (hf:evL tm e = .fn f (Lc.map .cel)) (ha:mapO (frz (lookO ob)) (es.toList.map (evL tm))=some args1) (hp:res.dry=true)
  (k:GoL P ops draw (i+1) L (acc ++ [(keysO (mkS tm ob ng) ⟨d,.call ⟨.value e,es,ts⟩,ty,pos,after,gd⟩,[])]) (mkS (putT d res tm) ob ng) K):GoL P ops draw i (⟨d,.call ⟨.value e,es,ts⟩,ty,pos,after,gd⟩::L) acc (mkS tm ob ng) K:=
 g_callF hc hw hf ha (mapO_cels Lc) hp k
theorem g_lookF {f g:FuncId} {Lc:List (List PV)} {es:Array Operand} {ts:Array TypeId} {pre pre':List PV} {res:PV} (hc:Contract P f (pre' ++ [.fn g (Lc.map .cel)]) none res []) (hw:wantedV ops (mkS tm ob ng) ⟨d,.call ⟨.value (.func f),es,ts⟩,ty,pos,after,gd⟩=some true)
  (he:es.toList.map (evL tm)=pre ++ [.fn g (Lc.map .cel)]) (ha:mapO (frz (lookO ob)) pre=some pre') (hp:res.dry=true)
  (k:GoL P ops draw (i+1) L (acc ++ [(keysO (mkS tm ob ng) ⟨d,.call ⟨.value (.func f),es,ts⟩,ty,pos,after,gd⟩,[])]) (mkS (putT d res tm) ob ng) K):GoL P ops draw i (⟨d,.call ⟨.value (.func f),es,ts⟩,ty,pos,after,gd⟩::L) acc (mkS tm ob ng) K:=by
 refine g_look hc hw ?_ hp k
 rw [he]
 refine mapO_append ha ?_
 show (match (mapO (frzC (lookO ob)) (Lc.map .cel)).map (PV.fn g),(some []:Option (List PV)) with
  | some q,some qs=>some (q::qs)
  | _,_=>none)=_
 rw [mapO_cels]
 rfl
end
theorem contract_FN {P:Program} [WInv P] {β:Type} {F:Option β} {O:β→VObj} {f:FuncId} {fn:Func} {c:Code} {args:List PV} {r:β} (hF:F=some r) (hmix:P.follows .mixedOrders=true) (hf:P.funcs[f]? = some fn) (hg:isGo P f=true) (hb:fn.body=some c) (hok:(decide (args.length≤fn.ntmps)&&codeOK fn.ntmps c)=true)
  (h:∀ r,F=some r→PWs P [c] (RetN P fn.results.toList (O r)) (mkS (argTm 0 args) [] 1)):ContractN P f args (O r):=contract_runN hmix hf hg hb hok (h r hF)
theorem contract_FP {P:Program} [WInv P] {β:Type} {F:Option β} {R:β→PV} {O:β→List OC} {f:FuncId} {fn:Func} {c:Code} {args:List PV} {oc:List OC} {r:β} (hF:F=some r) (hmix:P.follows .mixedOrders=true) (hf:P.funcs[f]? = some fn) (hg:isGo P f=true) (hb:fn.body=some c) (hok:(decide (args.length≤fn.ntmps)&&codeOK fn.ntmps c&&decide (0<1000))=true) (hd:(R r).dry=true)
  (h:∀ r,F=some r→PWs P [c] (RetP P fn.results.toList (R r) 0 (O r)) (mkS (argTm 0 args) ((0,some ((0,0),.box (ocCells κ0 ν0 0 oc)))::ocRows κ0 ν0 0 oc) 1)):ContractP P f args 0 oc (R r) (O r):=contract_runP hmix hf hg hb hok hd (h r hF)
end VL
end Go.Proofs.YtphibahplgmgfaaGreatDoor
set_option linter.unusedVariables false
set_option linter.unusedSimpArgs false
namespace Go.Proofs.YtphibahplgmgfaaGreatDoor
open VL
instance:VL.BoolT Tryz.prog 4:=⟨by kernel_rfl⟩
instance:VL.StrT Tryz.prog 9:=⟨by kernel_rfl⟩
structure SrcF where
 l:List Int
 pos:Int
 seed:Int
def SrcF.cs (x:SrcF):List PV:=[.sl (List.map csI x.l),.int .i64 x.pos,.int .u64 x.seed]
instance:VL.GlobT Tryz.prog 0 [.int .i64 5,.str ⟨#[80,111,108,105,99,121]⟩]:=⟨fun W h j q hq=>by
 match j,hq with
 | 0,hq=>injection hq with hq;subst hq;exact ⟨_,h.2.1,fun _=>.int _ _⟩
 | 1,hq=>injection hq with hq;subst hq;exact ⟨_,h.2.2,fun _=>.str _⟩
 | j+2,hq=>simp at hq⟩
end Go.Proofs.YtphibahplgmgfaaGreatDoor
namespace Go.Proofs.YtphibahplgmgfaaGreatDoor
namespace VL
theorem runA {p q:Prop} (k:q) (h:q→p:=by
 (intro k)
 (first
  | refine g_move rfl (by (conv=>lhs;whnf);try rfl) ?_
  | refine g_load rfl rfl rfl ?_
  | refine g_fieldAddr rfl rfl ?_
  | refine g_assign rfl (by (conv=>lhs;whnf);try rfl) ?_
  | refine g_int rfl rfl rfl rfl (by (conv=>lhs;whnf);try rfl) ?_
  | refine g_str rfl rfl rfl rfl (by (conv=>lhs;whnf);try rfl) ?_
  | refine g_nil rfl rfl ?_
  | refine g_build_ar rfl rfl ?_
  | refine g_conv rfl rfl ?_
  | refine g_bits rfl rfl rfl rfl ?_
  | refine g_shr rfl rfl rfl (by decide) ?_
  | refine g_len rfl rfl ?_
  | refine g_box rfl (by (conv=>lhs;whnf);try rfl) (by (conv=>lhs;whnf);try rfl) (by rfl) ?_
  | refine g_alloc rfl rfl ?_
  | refine g_store rfl rfl rfl (by (conv=>lhs;whnf);try rfl) (by (conv=>lhs;whnf);try rfl) (by rfl) (by rfl) (Nat.le_of_ble_eq_true rfl) (by (conv=>lhs;whnf);try rfl) ?_
  | refine g_build rfl rfl ?_
  | refine g_buildSlice rfl rfl rfl (by rfl) (by decide) (by (conv=>lhs;whnf);try rfl) ?_
  | refine g_extract rfl rfl rfl ?_
  | refine g_not rfl rfl ?_
  | refine g_pick rfl rfl (by (conv=>lhs;whnf);try rfl) ?_
  | refine g_field rfl rfl rfl ?_
  | refine go_endF ?_
  | refine go_endT (by kernel_rfl) ?_
  | refine pws_seq ?_
  | refine pws_regionL ?_
  | refine pws_block ?_
  | refine pws_skip ?_
  | refine pws_ret ?_
  | refine pws_exit ?_
  | refine pws_nil ?_
  | refine bk_exit ?_
  | refine bk_ret ?_
  | refine bk_normal ?_
  | refine rk_exit ?_
  | refine rk_ret ?_)
 (exact k)):p:=h k
end VL
end Go.Proofs.YtphibahplgmgfaaGreatDoor
