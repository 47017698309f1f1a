/- Functions that turn an object with rows of its own. No -/
import Derived.Test.YtpdaeclbndpabaaGreatDoorCM02
set_option linter.unusedSimpArgs false
set_option linter.unusedVariables false
set_option maxHeartbeats 4000000
set_option maxRecDepth 100000
namespace Go.Proofs.YtpdaeclbndpabaaGreatDoor
namespace VL
open Go.RowKit
inductive OC where
 | pv (p:PV)
 | row (E k:Nat) (sh:Bool) (els:List (List PV))
def PV.flat:PV->Bool | .bool _ | .int _ _ | .str _ | .sl _ | .nil=>true | _=>false
def OC.val (t:Nat) (g:Gen):OC->PV | .pv p=>p | .row _ _ _ _=>.row t g
def ZaX (κ:Nat->Nat) (ν:Nat->Gen):Nat->List OC->List PV | _,[]=>[] | c,q::r=>q.val (κ c) (ν c)::ZaX κ ν (c+1) r
def ZeA (κ:Nat->Nat) (ν:Nat->Gen):Nat->List OC->List (Nat×Option (Gen×VObj)) | _,[]=>[] | c,.pv _::r=>ZeA κ ν (c+1) r | c,.row E k sh els::r=>(κ c,some (ν c,.row E k sh els))::ZeA κ ν (c+1) r
def ZjN (κ:Nat->Nat):Nat->List OC->List (Nat×Option (Gen×VObj)) | _,[]=>[] | c,.pv _::r=>ZjN κ (c+1) r | c,.row _ _ _ _::r=>(κ c,none)::ZjN κ (c+1) r
theorem Zbg (κ:Nat->Nat) (ν:Nat->Gen):∀ (l:List OC) (c0 c:Nat),(ZaX κ ν c0 l)[c]? = (l[c]?).map fun q=>q.val (κ (c0+c)) (ν (c0+c))
 | [],c0,c=>by simp [ZaX]
 | q::r,c0,0=>by simp [ZaX]
 | q::r,c0,c+1=>by
   simp only [ZaX,List.getElem?_cons_succ]
   rw [Zbg κ ν r (c0+1) c]
   have:c0+1+c=c0+(c+1):=by omega
   rw [this]
theorem ZhS (κ:Nat->Nat) (ν:Nat->Gen):∀ (l:List OC) (c0:Nat),(ZaX κ ν c0 l).length=l.length
 | [],_=>rfl
 | q::r,c0=>by simp [ZaX,ZhS κ ν r]
theorem Zjo {κ:Nat->Nat} {ν:Nat->Gen} {t:Nat} {v:Option (Gen×VObj)}:∀ (l:List OC) (c0:Nat),(t,v) ∈ ZeA κ ν c0 l->∃ c E k sh els,l[c]? = some (.row E k sh els)/\t=κ (c0+c)/\v=some (ν (c0+c),.row E k sh els)
 | [],_,h=>by cases h
 | .pv p::r,c0,h=>by
   obtain ⟨c,E,k,sh,els,h1,h2,h3⟩:=Zjo r (c0+1) h
   have:c0+1+c=c0+(c+1):=by omega
   rw [this] at h2 h3
   exact ⟨c+1,E,k,sh,els,by simpa using h1,h2,h3⟩
 | .row E k sh els::r,c0,h=>by
   rcases List.mem_cons.1 h with h | h
   injection h with h1 h2
   exact ⟨0,E,k,sh,els,rfl,h1,h2⟩
   obtain ⟨c,E,k,sh,els,h1,h2,h3⟩:=Zjo r (c0+1) h
   have:c0+1+c=c0+(c+1):=by omega
   rw [this] at h2 h3
   exact ⟨c+1,E,k,sh,els,by simpa using h1,h2,h3⟩
theorem Zjp {κ:Nat->Nat} {t:Nat} {v:Option (Gen×VObj)}:∀ (l:List OC) (c0:Nat),(t,v) ∈ ZjN κ c0 l->v=none
 | [],_,h=>by cases h
 | .pv p::r,c0,h=>Zjp r (c0+1) h
 | .row E k sh els::r,c0,h=>by
   rcases List.mem_cons.1 h with h | h
   injection h with h1 h2
   exact Zjp r (c0+1) h
theorem Zmk {κ:Nat->Nat}:∀ (l:List OC) (c0 c:Nat) {E k:Nat} {sh:Bool} {els:List (List PV)},l[c]? = some (.row E k sh els)->(κ (c0+c),none) ∈ ZjN κ c0 l
 | [],_,c,_,_,_,_,h=>by simp at h
 | q::r,c0,0,E,k,sh,els,h=>by
   simp at h
   subst h
   exact List.mem_cons_self ..
 | q::r,c0,c+1,E,k,sh,els,h=>by
   have h':r[c]? = some (.row E k sh els):=by simpa using h
   have:=Zmk (κ:=κ) r (c0+1) c h'
   have e:c0+1+c=c0+(c+1):=by omega
   rw [e] at this
   cases q with
   | pv p=>exact this
   | row _ _ _ _=>exact List.mem_cons_of_mem _ this
theorem ZqZ:∀ (us:List (Nat×Option (Gen×VObj))) (f:Nat->Option (Gen×VObj)) (t:Nat),((flips f us) t=f t/\∀ v,(t,v) ∉ us)\/∃ v,(t,v) ∈ us/\(flips f us) t=v
 | [],f,t=>.inl ⟨rfl,fun v h=>by cases h⟩
 | (k,w)::us,f,t=>by
  rcases ZqZ us (Zcv f k w) t with ⟨h1,h2⟩ | ⟨v,h1,h2⟩
  by_cases e:t=k
  refine .inr ⟨w,by rw [e];exact List.mem_cons_self ..,?_⟩
  show (flips (Zcv f k w) us) t=w
  rw [h1]
  unfold Zcv
  rw [if_pos e]
  refine .inl ⟨?_,fun v hv=>?_⟩
  show (flips (Zcv f k w) us) t=f t
  rw [h1]
  unfold Zcv
  rw [if_neg e]
  rcases List.mem_cons.1 hv with h | h
  injection h with h _
  exact e h
  exact h2 v h
  exact .inr ⟨v,List.mem_cons_of_mem _ h1,h2⟩
theorem Rep.flat_mono {x y:Ctx} {p:PV} {v:Value} (h:Rep x p v) (hp:p.flat=true) (hF:∀ b o,x.F b o->y.F b o) (hW:∀ b o v,x.F b o->x.W.cell? ⟨b,o,none⟩=some v->y.W.cell? ⟨b,o,none⟩=some v):Rep y p v:=by{
cases p with
| nil=>cases h;exact .nil
| bool b=>exact h.pure_mono rfl hF hW
| int k n=>exact h.pure_mono rfl hF hW
| str s=>exact h.pure_mono rfl hF hW
| sl els=>exact h.pure_mono rfl hF hW
| _=>simp [PV.flat] at hp}
theorem PV.cell_of_flat {p:PV} (h:p.flat=true):p.cell=true:=by cases p<;>simp_all [PV.flat,PV.cell]
structure ORep (x:Ctx) (B:Nat) (D:Nat->Prop) (g:Gen) (κ:Nat->Nat) (ν:Nat->Gen) (oc:List OC):Prop where
 box:x.G g/\ObRep x B D g (.box (ZaX κ ν 0 oc))
 row:∀ c E k sh els,oc[c]? = some (OC.row E k sh els)->x.G (ν c)/\ObRep x B D (ν c) (.row E k sh els)
 apB:∀ c E k sh els b,oc[c]? = some (OC.row E k sh els)->blk (x.ρ g)=some b->blk (x.ρ (ν c))≠some b
 apR:∀ c c' E k sh els E' k' sh' els' b,c≠c'->oc[c]? = some (OC.row E k sh els)->oc[c']? = some (OC.row E' k' sh' els')->blk (x.ρ (ν c))=some b->blk (x.ρ (ν c'))≠some b
 flat:∀ (c:Nat) (p:PV),oc[c]? = some (OC.pv p)->p.flat=true
def Dp (x:Ctx) (g:Gen) (ν:Nat->Gen) (oc:List OC) (b:Nat):Prop:=blk (x.ρ g)=some b\/∃ c E k sh els,oc[c]? = some (OC.row E k sh els)/\blk (x.ρ (ν c))=some b
def κ0 (c:Nat):Nat:=1000+c
def ν0 (c:Nat):Gen:=(0,1000+c)
structure PreP (x:Ctx) (args:List PV) (j:Nat) (oc:List OC) (vs:Array Value):Prop where
 size:args.length=vs.size
 rep:∀ (i:Nat) (p:PV) (v:Value),args[i]? = some p->vs[i]? = some v->Rep x p v
 ob:ORep x x.W.heap.size (Dp x (0,j) ν0 oc) (0,j) κ0 ν0 oc
 gen:∀ g,x.G g->g.1=0
 flt:∀ b o,x.F b o->b<x.W.heap.size
structure PostP (x y:Ctx) (j:Nat) (oc:List OC) (r:PV) (oc':List OC) (v:Value):Prop where
 step:Step x y
 gr:Gr (Dp x (0,j) ν0 oc) x.W y.W
 fnew:∀ b o,y.F b o->x.F b o\/x.W.heap.size<=b\/Dp x (0,j) ν0 oc b
 flt:∀ b o,y.F b o->b<y.W.heap.size
 rep:Rep y r v
 ob:∃ κ ν,ORep y x.W.heap.size (Dp x (0,j) ν0 oc) (0,j) κ ν oc'
structure ContractP (P:Program) [WInv P] (f:FuncId) (args:List PV) (j:Nat) (oc:List OC) (r:PV) (oc':List OC):Prop where
 isGo:VL.isGo P f=true
 dry:r.dry=true
 calls:∀ (x:Ctx) (vs:Array Value),PreP x args j oc vs->(∀ W',Gr (Dp x (0,j) ν0 oc) x.W W'->WInv.I P W')->Calls P f vs x.W fun e W'=>∃ y v,y.W=W'/\e = .returned v/\PostP x y j oc r oc' v
theorem Zy0 {y:Ctx} {s:FS} {a:Act} {N:Nat} (hs:a.tmps.size=N) {d:Option Tmp} (hd:∀ k,d=some k->k<N) {p:PV} {v:Value} {us:List (Nat×Option (Gen×VObj))} (hp:Rep y p v) (ho:∀ t,Rep y (s.tm t) (a.tmps.getD t undef)) (t':Nat):Rep y ((s.app d ⟨p,us⟩).tm t') ((a.put d v).tmps.getD t' undef):=by{
rw [ZnA hs hd]
cases d with
| none=>exact ho t'
| some q=>
  show Rep y (if t'=q then p else s.tm t') (if t'=q then v else a.tmps.getD t' undef)
  split
  exact hp
  exact ho t'}
section
variable {P:Program} [WInv P] {r:Run} {ops:Array Oper} {o:Oper} {i:Nat} {s s':FS}
theorem Zq0 {f:FuncId} {es:Array Operand} {ts:Array TypeId} {pre post pre' post':List PV} {t:Nat} {g:Gen} {κ:Nat->Nat} {ν:Nat->Gen} {oc oc':List OC} {res:PV} (ho:o.op = .call { callee:=.value (.func f),args:=es,argTypes:=ts })
  (he:es.toList.map (ev s)=pre ++ .ptr t g 0::post) (hob:s.ob t=some (g,.box (ZaX κ ν 0 oc))) (hrow:∀ c E k sh els,oc[c]? = some (OC.row E k sh els)->s.ob (κ c)=some (ν c,.row E k sh els)) (hfl:∀ (c:Nat) (p:PV),oc[c]? = some (OC.pv p)->p.flat=true)
  (hk1:∀ c E k sh els,oc[c]? = some (OC.row E k sh els)->κ c≠t) (hk2:∀ c c' E k sh els E' k' sh' els',c≠c'->oc[c]? = some (OC.row E k sh els)->oc[c']? = some (OC.row E' k' sh' els')->κ c≠κ c')
  (h1:Ze5 s.ob pre=some (pre',[])) (h3:Ze5 s.ob post=some (post',[])) (hn:pre.length<1000) (hc:ContractP P f (pre' ++ .ptr pre.length (0,pre.length) 0::post') pre.length oc res oc') (hI:r.I=WInv.I P) :
  Zsb P r o i s ⟨res,ZjN κ 0 oc++(t,some (g,.box (ZaX (fun c=>1000+100 * t+c) (fun c=>(s.ng,i+1000000 * (c+1))) 0 oc')))::ZeA (fun c=>1000+100 * t+c) (fun c=>(s.ng,i+1000000 * (c+1))) 0 oc'⟩:=by{
intro S a x Q hX hiM hi hi2 hd
have hrep:∀ (j:Nat) (p:PV),(pre ++ .ptr t g 0::post)[j]? = some p->Rep x p ((es.map a.eval).getD j undef):=fun j p hp=>by
 rw [<- he,List.getElem?_map] at hp
 cases he:es.toList[j]? with
 | none=>rw [he] at hp;simp at hp
 | some e=>
   rw [he] at hp
   simp only [Option.map_some,Option.some.injEq] at hp
   subst hp
   have hea:es[j]? = some e:=by simpa using he
   have:(es.map a.eval).getD j undef=a.eval e:=by simp [hea]
   rw [this]
   exact Zae hX e
obtain ⟨F1,st1,hX1,hR1,_⟩:=ZbW _ (Flip.refl s.ob) hX (g:=fun j=>(es.map a.eval).getD j undef) h1 (fun j p hp=>hrep j p (by
 rw [List.getElem?_append_left (List.getElem?_eq_some_iff.1 hp).1];exact hp))
change RstX r S s a { x with F:=F1 } at hX1
obtain ⟨F3,st3,hX3,hR3,_⟩:=ZbW post (Flip.refl s.ob) hX1 (g:=fun j=>(es.map a.eval).getD (pre.length+1+j) undef) h3 (fun j p hp=>((hrep (pre.length+1+j) p (by
 rw [List.getElem?_append_right (by omega)]
 have:pre.length+1+j-pre.length=j+1:=by omega
 rw [this,List.getElem?_cons_succ]
 exact hp)).step st1))
change RstX r S s a { x with F:=F3 } at hX3
obtain ⟨hGg,b,T,vs,hρ,hh,hcl,hcc,hcr,hBb,hnF⟩:=hX3.ob t g _ hob
have hblt:b<x.W.heap.size:=(Array.getElem?_eq_some_iff.1 hh).1
change x.ρ g=_ at hρ
have hF13:∀ b o,F1 b o->F3 b o:=fun b o h=>st3.F b o h
have hpl:pre'.length=pre.length:=ZeQ _ h1
let z:Ctx:=⟨fun g'=>g'=(0,pre.length)\/∃ c E k sh els,oc[c]? = some (OC.row E k sh els)/\g'=(0,1000+c),F3,x.W,fun g'=>if g'=(0,pre.length) then x.ρ g else x.ρ (ν (g'.2-1000))⟩
have zn:z.ρ (0,pre.length)=x.ρ g:=if_pos rfl
have zr:∀ c,z.ρ (ν0 c)=x.ρ (ν c):=fun c=>by
 show (if ((0,1000+c):Gen)=(0,pre.length) then x.ρ g else x.ρ (ν (1000+c-1000)))=_
 rw [if_neg (fun e=>by injection e with _ e;omega)]
 have:1000+c-1000=c:=by omega
 rw [this]
have hD:∀ b2,Dp z (0,pre.length) ν0 oc b2↔(blk (x.ρ g)=some b2\/∃ c E k sh els,oc[c]? = some (OC.row E k sh els)/\blk (x.ρ (ν c))=some b2):=fun b2=>by
 unfold Dp
 rw [zn]
 constructor
 rintro (h | ⟨c,E,k,sh,els,h,h'⟩)
 exact .inl h
 rw [zr] at h'
 exact .inr ⟨c,E,k,sh,els,h,h'⟩
 rintro (h | ⟨c,E,k,sh,els,h,h'⟩)
 exact .inl h
 exact .inr ⟨c,E,k,sh,els,h,by rw [zr];exact h'⟩
have rowR:∀ c E k sh els,oc[c]? = some (OC.row E k sh els)->x.G (ν c)/\ObRep { x with F:=F3 } r.W0.heap.size r.D (ν c) (.row E k sh els):=fun c E k sh els h=>hX3.ob (κ c) (ν c) _ (hrow c E k sh els h)
have hDlt:∀ b2,Dp z (0,pre.length) ν0 oc b2->b2<x.W.heap.size/\(r.W0.heap.size<=b2\/r.D b2):=fun b2 h=>by
 rcases (hD b2).1 h with h | ⟨c,E,k,sh,els,h,h'⟩
 exact (hX3.ob t g _ hob).2.lt b2 h
 exact (rowR c E k sh els h).2.lt b2 h'
have hpre:PreP z (pre' ++ .ptr pre.length (0,pre.length) 0::post') pre.length oc (es.map a.eval):=by
 refine ⟨?_,fun j p v hp hv=>?_,⟨⟨.inl rfl,b,T,vs,zn.trans hρ,hh,?_,fun p hp=>?_,fun j p v hp hv=>?_,.inr ((hD b).2 (.inl (by rw [hρ];rfl))),hnF⟩,fun c E k sh els h=>?_,fun c E k sh els b2 h hb hb2=>?_,fun c c' E k sh els E' k' sh' els' b2 hne h h' hb hb2=>?_,hfl⟩,fun g' hg'=>?_,hX3.flt⟩
 have hl:=congrArg List.length he
 simp at hl
 simp [hpl,ZeQ _ h3,hl]
 rw [List.getElem?_append,hpl] at hp
 split at hp
 obtain ⟨q1,q2⟩:=hR1 j p hp
 rw [Array.getD_eq_getD_getElem?,hv] at q2
 exact q2.clean_mono q1 hF13 (fun _ _ _ _ h=>h)
 rename_i hj
 cases hk:j-pre.length with
 | zero=>
   rw [hk] at hp
   simp only [List.getElem?_cons_zero,Option.some.injEq] at hp
   subst hp
   obtain rfl:j=pre.length:=by omega
   have:=hrep pre.length (.ptr t g 0) (by rw [List.getElem?_append_right (Nat.le_refl _),Nat.sub_self];rfl)
   rw [Array.getD_eq_getD_getElem?,hv] at this
   simp only [Option.getD_some] at this
   cases this with
   | ptr _ _ _ b2 _ hb2=>exact .ptr _ _ _ b2 (.inl rfl) (by rw [zn];exact hb2)
 | succ k=>
   rw [hk,List.getElem?_cons_succ] at hp
   obtain ⟨q1,q2⟩:=hR3 k p hp
   have:pre.length+1+k=j:=by omega
   rw [this,Array.getD_eq_getD_getElem?,hv] at q2
   exact q2.clean_mono q1 (fun _ _ h=>h) (fun _ _ _ _ h=>h)
 rw [ZhS] at hcl ⊢
 exact hcl
 obtain ⟨j,hj⟩:=List.getElem?_of_mem hp
 rw [Zbg,Option.map_eq_some_iff] at hj
 obtain ⟨q,hq,rfl⟩:=hj
 cases q with
 | pv p=>exact PV.cell_of_flat (hfl j p hq)
 | row _ _ _ _=>rfl
 rw [Zbg,Option.map_eq_some_iff] at hp
 obtain ⟨q,hq,rfl⟩:=hp
 have:=hcr j (q.val (κ (0+j)) (ν (0+j))) v (by rw [Zbg,hq];rfl) hv
 rw [Nat.zero_add] at this ⊢
 cases q with
 | pv p=>exact Rep.flat_mono this (hfl j p hq) (fun _ _ h=>h) (fun _ _ _ _ h=>h)
 | row E k sh els=>
   cases this with
   | row _ _ A n c hG hvv=>exact .row _ _ A n c (.inr ⟨j,E,k,sh,els,hq,rfl⟩) ((zr j).trans hvv)
 obtain ⟨_,q1,q2,vs2,q3,q4,q5⟩:=rowR c E k sh els h
 refine ⟨.inr ⟨c,E,k,sh,els,h,rfl⟩,q1,q2,vs2,by rw [zr];exact q3,fun m p v hp hv=>?_,fun b2 hb2=>?_⟩
 obtain ⟨e,he,hpe⟩:=List.mem_flatten.1 (List.mem_of_getElem? hp)
 exact (q4 m p v hp hv).pure_mono (q2 e he p hpe) (fun _ _ h=>h) (fun _ _ _ _ h=>h)
 rw [zr] at hb2
 exact ⟨.inr ((hD b2).2 (.inr ⟨c,E,k,sh,els,h,hb2⟩)),(q5 b2 hb2).2⟩
 rw [zn] at hb
 rw [zr] at hb2
 exact hX3.apart t (κ c) g (ν c) _ _ b2 (fun e=>hk1 c E k sh els h e.symm) hob (hrow c E k sh els h) hb hb2
 rw [zr] at hb hb2
 exact hX3.apart (κ c) (κ c') (ν c) (ν c') _ _ b2 (hk2 c c' E k sh els E' k' sh' els' hne h h') (hrow c E k sh els h) (hrow c' E' k' sh' els' h') hb hb2
 rcases hg' with rfl | ⟨c,E,k,sh,els,_,rfl⟩<;>rfl
have hcalls:=hc.calls z _ hpre fun W' hW=>by
 rw [<- hI]
 exact hX.inv.1 W' (hX.gr.trans' hW.os hW.tape hW.output hW.size fun b' hb' hD'=>hW.block b' (Nat.lt_of_lt_of_le hb' hX.gr.size) fun hDb=>by
  rcases (hDlt b' hDb).2 with h | h
  omega
  exact hD' h)
unfold Oper.wp
rw [Zew ho hc.isGo,Oper.upon_enter]
refine hcalls.mono ?_
rintro e W' ⟨y,v,rfl,rfl,hpost⟩
obtain ⟨κ2,ν2,hO⟩:=hpost.ob
let nm:Nat->Gen:=fun c=>(s.ng,i+1000000 * (c+1))
let y':Ctx:=⟨fun g'=>x.G g'\/∃ c E k sh els,oc'[c]? = some (OC.row E k sh els)/\g'=nm c,y.F,y.W,fun g'=>if g'.1=s.ng/\g'.2 % 1000000=i/\1000000<=g'.2 then y.ρ (ν2 (g'.2 / 1000000-1)) else x.ρ g'⟩
have yn:∀ c,y'.ρ (nm c)=y.ρ (ν2 c):=fun c=>by
 show (if s.ng=s.ng/\(i+1000000 * (c+1)) % 1000000=i/\1000000<=i+1000000 * (c+1) then y.ρ (ν2 ((i+1000000 * (c+1)) / 1000000-1)) else _)=_
 rw [if_pos ⟨rfl,by omega,by omega⟩]
 have:(i+1000000 * (c+1)) / 1000000-1=c:=by omega
 rw [this]
have old:∀ g',x.G g'->y'.ρ g'=x.ρ g':=fun g' hg'=>if_neg fun ⟨e1,e2,e3⟩=>by
 rcases hX.gens g' hg' with e | ⟨_,e⟩
 omega
 refine hi (hi2 (g'.2 / 1000000-1) ?_)
 have:i+1000000 * (g'.2 / 1000000-1+1)=g'.2:=by omega
 rw [this]
 exact e
have k:Step { x with F:=F3 } y':=⟨fun g' hg'=>⟨.inl hg',old g' hg'⟩,fun b o hb=>hpost.step.F b o hb,fun b o v hb hv=>hpost.step.W b o v hb hv⟩
have notD:∀ t2 g2 o2 b2,t2≠t->(∀ c E k sh els,oc[c]? = some (OC.row E k sh els)->κ c≠t2)->s.ob t2=some (g2,o2)->blk (x.ρ g2)=some b2->¬ Dp z (0,pre.length) ν0 oc b2:=fun t2 g2 o2 b2 n1 n2 h hb hDb=>by
 rcases (hD b2).1 hDb with h' | ⟨c,E,k,sh,els,h',h''⟩
 exact hX3.apart t2 t g2 g o2 _ b2 n1 h hob hb h'
 exact hX3.apart t2 (κ c) g2 (ν c) o2 _ b2 (fun e=>n2 c E k sh els h' e.symm) h (hrow c E k sh els h') hb h''
have conv:∀ b2,(x.W.heap.size<=b2\/Dp z (0,pre.length) ν0 oc b2)->(r.W0.heap.size<=b2\/r.D b2):=fun b2 h=>h.elim (fun h=>.inl (Nat.le_trans hX.gr.size h)) fun h=>(hDlt b2 h).2
have oldOb:∀ t2 g2 o2,t2≠t->(∀ c E k sh els,oc[c]? = some (OC.row E k sh els)->κ c≠t2)->s.ob t2=some (g2,o2)->ObRep y' r.W0.heap.size r.D g2 o2:=fun t2 g2 o2 n1 n2 h=>by
 obtain ⟨q1,q2⟩:=hX3.ob t2 g2 o2 h
 refine q2.step q1 k fun b2 hb2=>?_
 have hlt:=(q2.lt b2 hb2).1
 have hnd:=notD t2 g2 o2 b2 n1 n2 h hb2
 refine ⟨hpost.gr.block b2 hlt hnd,fun o3 ho3=>?_⟩
 rcases hpost.fnew b2 o3 ho3 with h | h | h
 exact h
 exact absurd hlt (Nat.not_lt.2 h)
 exact absurd h hnd
have newRow:∀ c E k sh els,oc'[c]? = some (OC.row E k sh els)->ObRep y' r.W0.heap.size r.D (nm c) (.row E k sh els):=fun c E k sh els h=>by
 obtain ⟨_,q1,q2,vs2,q3,q4,q5⟩:=hO.row c E k sh els h
 refine ⟨q1,q2,vs2,by rw [yn];exact q3,fun m p v hp hv=>?_,fun b2 hb2=>?_⟩
 obtain ⟨e,he,hpe⟩:=List.mem_flatten.1 (List.mem_of_getElem? hp)
 exact (q4 m p v hp hv).pure_mono (q2 e he p hpe) (fun _ _ h=>h) (fun _ _ _ _ h=>h)
 rw [yn] at hb2
 exact ⟨conv b2 (q5 b2 hb2).1,(q5 b2 hb2).2⟩
have hρy:y.ρ (0,pre.length)=x.ρ g:=((hpost.step.G (0,pre.length) (.inl rfl)).2).trans zn
have newBox:ObRep y' r.W0.heap.size r.D g (.box (ZaX (fun c=>1000+100 * t+c) nm 0 oc')):=by
 obtain ⟨_,b2,T2,vs2,q1,q2,q3,q4,q5,q6,q7⟩:=hO.box
 have hb2:b=b2:=by
  rw [hρy,hρ] at q1
  injection q1 with q1
  injection q1 with q1
  injection q1
 subst hb2
 refine ⟨b,T2,vs2,(old g hGg).trans hρ,q2,?_,fun p hp=>?_,fun j p v hp hv=>?_,hBb,q7⟩
 rw [ZhS] at q3 ⊢
 exact q3
 obtain ⟨j,hj⟩:=List.getElem?_of_mem hp
 rw [Zbg,Option.map_eq_some_iff] at hj
 obtain ⟨q,hq,rfl⟩:=hj
 cases q with
 | pv p=>exact PV.cell_of_flat (hO.flat j p hq)
 | row _ _ _ _=>rfl
 rw [Zbg,Option.map_eq_some_iff] at hp
 obtain ⟨q,hq,rfl⟩:=hp
 have:=q5 j (q.val (κ2 (0+j)) (ν2 (0+j))) v (by rw [Zbg,hq];rfl) hv
 rw [Nat.zero_add] at this ⊢
 cases q with
 | pv p=>exact Rep.flat_mono this (hO.flat j p hq) (fun _ _ h=>h) (fun _ _ _ _ h=>h)
 | row E k sh els=>
   cases this with
   | row _ _ A n c hG hvv=>exact .row _ _ A n c (.inr ⟨j,E,k,sh,els,hq,rfl⟩) ((yn j).trans hvv)
have cases3:∀ t2 g2 o2,(flips s.ob (ZjN κ 0 oc++(t,some (g,.box (ZaX (fun c=>1000+100 * t+c) nm 0 oc')))::ZeA (fun c=>1000+100 * t+c) nm 0 oc')) t2=some (g2,o2)->
  (t2≠t/\(∀ c E k sh els,oc[c]? = some (OC.row E k sh els)->κ c≠t2)/\s.ob t2=some (g2,o2))\/(t2=t/\g2=g/\o2 = .box (ZaX (fun c=>1000+100 * t+c) nm 0 oc'))\/∃ c E k sh els,oc'[c]? = some (OC.row E k sh els)/\t2=1000+100 * t+c/\g2=nm c/\o2 = .row E k sh els:=fun t2 g2 o2 h=>by
 rcases ZqZ (ZjN κ 0 oc++(t,some (g,.box (ZaX (fun c=>1000+100 * t+c) nm 0 oc')))::ZeA (fun c=>1000+100 * t+c) nm 0 oc') s.ob t2 with ⟨q1,q2⟩ | ⟨w,q1,q2⟩
 rw [q1] at h
 refine .inl ⟨fun e=>q2 (some (g,.box (ZaX (fun c=>1000+100 * t+c) nm 0 oc'))) (by rw [e];exact List.mem_append_right _ (List.mem_cons_self ..)),fun c E k sh els hc e=>q2 none ?_,h⟩
 rw [<- e]
 have:=Zmk (κ:=κ) oc 0 c hc
 rw [Nat.zero_add] at this
 exact List.mem_append_left _ this
 rw [q2] at h
 subst h
 rcases List.mem_append.1 q1 with h | h
 exact absurd (Zjp oc 0 h) (by simp)
 rcases List.mem_cons.1 h with h | h
 injection h with e1 e2
 injection e2 with e2
 injection e2 with e2 e3
 exact .inr (.inl ⟨e1,e2,e3⟩)
 obtain ⟨c,E,k,sh,els,e1,e2,e3⟩:=Zjo oc' 0 h
 rw [Nat.zero_add] at e2 e3
 injection e3 with e3
 injection e3 with e3 e4
 exact .inr (.inr ⟨c,E,k,sh,els,e1,e2,e3,e4⟩)
have oldD:∀ t2 g2 o2 b2,t2≠t->(∀ c E k sh els,oc[c]? = some (OC.row E k sh els)->κ c≠t2)->s.ob t2=some (g2,o2)->blk (y'.ρ g2)=some b2->b2<x.W.heap.size/\¬ Dp z (0,pre.length) ν0 oc b2:=fun t2 g2 o2 b2 n1 n2 h hb=>by
 obtain ⟨q1,q2⟩:=hX3.ob t2 g2 o2 h
 rw [old g2 q1] at hb
 exact ⟨(q2.lt b2 hb).1,notD t2 g2 o2 b2 n1 n2 h hb⟩
have boxD:∀ b2,blk (y'.ρ g)=some b2->Dp z (0,pre.length) ν0 oc b2:=fun b2 hb=>by
 rw [old g hGg] at hb
 exact (hD b2).2 (.inl hb)
have rowD:∀ c E k sh els b2,oc'[c]? = some (OC.row E k sh els)->blk (y'.ρ (nm c))=some b2->x.W.heap.size<=b2\/Dp z (0,pre.length) ν0 oc b2:=fun c E k sh els b2 h hb=>by
 rw [yn] at hb
 exact ((hO.row c E k sh els h).2.lt b2 hb).2
refine ⟨y',rfl,?_⟩
refine ⟨by rw [Zh8];exact hX.defers,by rw [ZnB];exact hX.size,?_,fun g' hg'=>?_,fun t'=>?_,fun t2 g2 o2 h2=>?_,fun t1 t2 g1 g2 o1 o2 b2 hne q1 q2 hb hb2=>?_,hpost.flt,fun b o hb=>k.F b o (hX3.f0 b o hb),fun b2 o2 hb=>?_,fun g' hg'=>⟨(k.G g' (hX3.rho g' hg').1).1,(k.G g' (hX3.rho g' hg').1).2.trans (hX3.rho g' hg').2⟩,hX.inv,fun b o v hF hv=>k.W b o v (hX3.f0 b o hF) (hX.keep b o v hF hv)⟩
refine hX.gr.trans' hpost.gr.os hpost.gr.tape hpost.gr.output hpost.gr.size fun b' hb' hD'=>hpost.gr.block b' (Nat.lt_of_lt_of_le hb' hX.gr.size) fun hDb=>?_
rcases (hDlt b' hDb).2 with h | h
omega
exact hD' h
rcases hg' with hg' | ⟨c,E,k,sh,els,_,rfl⟩
exact (hX.gens g' hg').imp id fun ⟨e1,e2⟩=>⟨e1,.inl e2⟩
exact .inr ⟨rfl,.inr (.inr ⟨by show 1000000<=i+1000000 * (c+1);omega,by show (i+1000000 * (c+1)) % 1000000=i;omega⟩)⟩
exact Zy0 hX.size hd (hpost.rep.dry hc.dry) (fun t=>(hX3.tm t).step k) t'
rcases cases3 t2 g2 o2 h2 with ⟨n1,n2,h⟩ | ⟨rfl,rfl,rfl⟩ | ⟨c,E,k',sh,els,h,rfl,rfl,rfl⟩
exact ⟨.inl (hX3.ob t2 g2 o2 h).1,oldOb t2 g2 o2 n1 n2 h⟩
exact ⟨.inl hGg,newBox⟩
exact ⟨.inr ⟨c,E,k',sh,els,h,rfl⟩,newRow c E k' sh els h⟩
rcases cases3 t1 g1 o1 q1 with ⟨n1,n2,h⟩ | ⟨e1,e2,e3⟩ | ⟨c,E,k',sh,els,h,e1,e2,e3⟩
rcases cases3 t2 g2 o2 q2 with ⟨m1,m2,h'⟩ | ⟨f1,f2,f3⟩ | ⟨c',E',k2,sh',els',h',f1,f2,f3⟩
rw [old g1 (hX3.ob t1 g1 o1 h).1] at hb
rw [old g2 (hX3.ob t2 g2 o2 h').1] at hb2
exact hX3.apart t1 t2 g1 g2 o1 o2 b2 hne h h' hb hb2
subst f2
exact (oldD t1 g1 o1 b2 n1 n2 h hb).2 (boxD b2 hb2)
subst f2
obtain ⟨w1,w2⟩:=oldD t1 g1 o1 b2 n1 n2 h hb
rcases rowD c' E' k2 sh' els' b2 h' hb2 with w | w
omega
exact w2 w
subst e2
rcases cases3 t2 g2 o2 q2 with ⟨m1,m2,h'⟩ | ⟨f1,f2,f3⟩ | ⟨c',E',k2,sh',els',h',f1,f2,f3⟩
exact (oldD t2 g2 o2 b2 m1 m2 h' hb2).2 (boxD b2 hb)
exact hne (e1.trans f1.symm)
subst f2
rw [yn] at hb2
rw [old g1 hGg,<- hρy] at hb
exact hO.apB c' E' k2 sh' els' b2 h' hb hb2
subst e2
rcases cases3 t2 g2 o2 q2 with ⟨m1,m2,h'⟩ | ⟨f1,f2,f3⟩ | ⟨c',E',k2,sh',els',h',f1,f2,f3⟩
obtain ⟨w1,w2⟩:=oldD t2 g2 o2 b2 m1 m2 h' hb2
rcases rowD c E k' sh els b2 h hb with w | w
omega
exact w2 w
subst f2
rw [yn] at hb
rw [old g2 hGg,<- hρy] at hb2
exact hO.apB c E k' sh els b2 h hb2 hb
subst f2
rw [yn] at hb hb2
exact hO.apR c c' E k' sh els E' k2 sh' els' b2 (fun e=>hne (by rw [e1,f1,e])) h h' hb hb2
rcases hpost.fnew b2 o2 hb with h | h | h
exact hX3.fnew b2 o2 h
exact .inr (.inl (Nat.le_trans hX.gr.size h))
exact .inr (hDlt b2 h).2}
end
open Go.RowKit
def oc1 (f:Nat->Option (Gen×VObj)):PV->Option (Nat×Gen×OC)
 | .row t g=>match Zbh f t g with
   | some (.row E k sh els)=>some (t,g,.row E k sh els)
   | _=>none
 | .bool b=>some (0,(0,0),.pv (.bool b))
 | .int k n=>some (0,(0,0),.pv (.int k n))
 | .str b=>some (0,(0,0),.pv (.str b))
 | .sl els=>some (0,(0,0),.pv (.sl els))
 | .nil=>some (0,(0,0),.pv .nil)
 | _=>none
def Zsr (f:Nat->Option (Gen×VObj)):List PV->Option (List (Nat×Gen×OC))
 | []=>some []
 | p::ps=>match oc1 f p,Zsr f ps with
   | some q,some qs=>some (q::qs)
   | _,_=>none
def okK (t:Nat):List (Nat×Gen×OC)->Bool
 | []=>true
 | (_,_,.pv _)::r=>okK t r
 | (k,_,.row _ _ _ _)::r=>k != t&&r.all (fun q=>match q.2.2 with
  | .row _ _ _ _=>q.1 != k
  | .pv _=>true)&&okK t r
def oqκ (oq:List (Nat×Gen×OC)) (c:Nat):Nat:=((oq[c]?).map (·.1)).getD 0
def oqν (oq:List (Nat×Gen×OC)) (c:Nat):Gen:=((oq[c]?).map (·.2.1)).getD (0,0)
theorem Znx {f:Nat->Option (Gen×VObj)} {p:PV} {q:Nat×Gen×OC} (h:oc1 f p=some q):p=q.2.2.val q.1 q.2.1/\(∀ E k sh els,q.2.2=OC.row E k sh els->f q.1=some (q.2.1,.row E k sh els))/\∀ p',q.2.2=OC.pv p'->p'.flat=true:=by{
cases p with
| row t g=>
  simp only [oc1] at h
  split at h
  rename_i E k sh els ho
  injection h with h
  subst h
  refine ⟨rfl,fun E' k' sh' els' e=>?_,fun p' e=>by cases e⟩
  injection e with e1 e2 e3 e4
  subst e1 e2 e3 e4
  exact ZaI ho
  cases h
| bool b=>injection h with h;subst h;exact ⟨rfl,(fun _ _ _ _ e=>by cases e),fun p' e=>by cases e;rfl⟩
| int k n=>injection h with h;subst h;exact ⟨rfl,(fun _ _ _ _ e=>by cases e),fun p' e=>by cases e;rfl⟩
| str b=>injection h with h;subst h;exact ⟨rfl,(fun _ _ _ _ e=>by cases e),fun p' e=>by cases e;rfl⟩
| sl els=>injection h with h;subst h;exact ⟨rfl,(fun _ _ _ _ e=>by cases e),fun p' e=>by cases e;rfl⟩
| nil=>injection h with h;subst h;exact ⟨rfl,(fun _ _ _ _ e=>by cases e),fun p' e=>by cases e;rfl⟩
| _=>simp [oc1] at h}
theorem Zt2 {f:Nat->Option (Gen×VObj)}:∀ {cs:List PV} {oq:List (Nat×Gen×OC)},Zsr f cs=some oq->cs.length=oq.length/\∀ (c:Nat) (q:Nat×Gen×OC),oq[c]? = some q->∃ p,cs[c]? = some p/\oc1 f p=some q
 | [],oq,h=>by
   injection h with h
   subst h
   exact ⟨rfl,fun c q hq=>by simp at hq⟩
 | p::ps,oq,h=>by
   simp only [Zsr] at h
   split at h
   rename_i q qs h1 h2
   injection h with h
   subst h
   obtain ⟨h3,h4⟩:=Zt2 h2
   refine ⟨by simp [h3],fun c q' hq=>?_⟩
   cases c with
   | zero=>simp at hq;subst hq;exact ⟨p,rfl,h1⟩
   | succ c=>simp at hq ⊢;exact h4 c q' hq
   cases h
theorem Zlt {f:Nat->Option (Gen×VObj)} {cs:List PV} {oq:List (Nat×Gen×OC)} (h:Zsr f cs=some oq) :
  cs=ZaX (oqκ oq) (oqν oq) 0 (oq.map (·.2.2))/\(∀ c E k sh els,(oq.map (·.2.2))[c]? = some (OC.row E k sh els)->f (oqκ oq c)=some (oqν oq c,.row E k sh els))/\∀ (c:Nat) (p:PV),(oq.map (·.2.2))[c]? = some (OC.pv p)->p.flat=true:=by{
obtain ⟨h1,h2⟩:=Zt2 h
refine ⟨?_,fun c E k sh els hc=>?_,fun c p hc=>?_⟩
apply List.ext_getElem?
intro c
rw [Zbg,List.getElem?_map,Nat.zero_add]
by_cases hlt:c<oq.length
obtain ⟨q,hq⟩:∃ q,oq[c]? = some q:=⟨_,List.getElem?_eq_getElem hlt⟩
obtain ⟨p,hp,hq2⟩:=h2 c q hq
rw [hp,hq,(Znx hq2).1]
unfold oqκ oqν
rw [hq]
rfl
rw [List.getElem?_eq_none (by omega),List.getElem?_eq_none (by omega)]
rfl
rw [List.getElem?_map,Option.map_eq_some_iff] at hc
obtain ⟨q,hq,e⟩:=hc
obtain ⟨p,hp,hq2⟩:=h2 c q hq
have:=(Znx hq2).2.1 E k sh els e
unfold oqκ oqν
rw [hq]
exact this
rw [List.getElem?_map,Option.map_eq_some_iff] at hc
obtain ⟨q,hq,e⟩:=hc
obtain ⟨p',hp,hq2⟩:=h2 c q hq
exact (Znx hq2).2.2 p e}
theorem Zny {t:Nat}:∀ {oq:List (Nat×Gen×OC)},okK t oq=true->(∀ (c:Nat) (q:Nat×Gen×OC) E k sh els,oq[c]? = some q->q.2.2=OC.row E k sh els->q.1≠t)/\
  ∀ (c c':Nat) (q q':Nat×Gen×OC) E k sh els E' k' sh' els',c<c'->oq[c]? = some q->oq[c']? = some q'->q.2.2=OC.row E k sh els->q'.2.2=OC.row E' k' sh' els'->q.1≠q'.1
 | [],_=>⟨fun c q _ _ _ _ h=>by simp at h,fun c c' q q' _ _ _ _ _ _ _ _ _ h=>by simp at h⟩
 | (k0,g0,.pv p0)::r,h=>by
  obtain ⟨h1,h2⟩:=Zny (oq:=r) h
  refine ⟨fun c q E k sh els hq e=>?_,fun c c' q q' E k sh els E' k' sh' els' hlt hq hq' e e'=>?_⟩
  cases c with
  | zero=>simp at hq;subst hq;cases e
  | succ c=>exact h1 c q E k sh els (by simpa using hq) e
  cases c with
  | zero=>simp at hq;subst hq;cases e
  | succ c=>
    cases c' with
    | zero=>omega
    | succ c'=>exact h2 c c' q q' E k sh els E' k' sh' els' (by omega) (by simpa using hq) (by simpa using hq') e e'
 | (k0,g0,.row E0 kk0 sh0 els0)::r,h=>by
  simp only [okK,Bool.and_eq_true,bne_iff_ne,ne_eq,List.all_eq_true] at h
  obtain ⟨⟨h3,h4⟩,h5⟩:=h
  obtain ⟨h1,h2⟩:=Zny (oq:=r) h5
  refine ⟨fun c q E k sh els hq e=>?_,fun c c' q q' E k sh els E' k' sh' els' hlt hq hq' e e'=>?_⟩
  cases c with
  | zero=>simp at hq;subst hq;exact h3
  | succ c=>exact h1 c q E k sh els (by simpa using hq) e
  cases c' with
  | zero=>omega
  | succ c'=>
    have hq2:r[c']? = some q':=by simpa using hq'
    cases c with
    | zero=>
      simp at hq
      subst hq
      have:=h4 q' (List.mem_of_getElem? hq2)
      rw [e'] at this
      simp only [bne_iff_ne,ne_eq] at this
      exact fun e=>this e.symm
    | succ c=>exact h2 c c' q q' E k sh els E' k' sh' els' (by omega) (by simpa using hq) hq2 e e'
theorem Znz {t:Nat} {oq:List (Nat×Gen×OC)} (h:okK t oq=true):(∀ c E k sh els,(oq.map (·.2.2))[c]? = some (OC.row E k sh els)->oqκ oq c≠t)/\
  ∀ c c' E k sh els E' k' sh' els',c≠c'->(oq.map (·.2.2))[c]? = some (OC.row E k sh els)->(oq.map (·.2.2))[c']? = some (OC.row E' k' sh' els')->oqκ oq c≠oqκ oq c':=by{
obtain ⟨h1,h2⟩:=Zny h
refine ⟨fun c E k sh els hc=>?_,fun c c' E k sh els E' k' sh' els' hne hc hc'=>?_⟩
rw [List.getElem?_map,Option.map_eq_some_iff] at hc
obtain ⟨q,hq,e⟩:=hc
unfold oqκ
rw [hq]
exact h1 c q E k sh els hq e
rw [List.getElem?_map,Option.map_eq_some_iff] at hc hc'
obtain ⟨q,hq,e⟩:=hc
obtain ⟨q',hq',e'⟩:=hc'
unfold oqκ
rw [hq,hq']
rcases Nat.lt_or_gt_of_ne hne with hlt | hlt
exact h2 c c' q q' E k sh els E' k' sh' els' hlt hq hq' e e'
exact fun e0=>h2 c' c q' q E' k' sh' els' E k sh els hlt hq' hq e' e e0.symm}
def usP (t:Nat) (g:Gen) (ng i:Nat) (oq:List (Nat×Gen×OC)) (oc':List OC):List (Nat×Option (Gen×VObj)):=ZjN (oqκ oq) 0 (oq.map (·.2.2))++(t,some (g,.box (ZaX (fun c=>1000+100 * t+c) (fun c=>(ng,i+1000000 * (c+1))) 0 oc')))::ZeA (fun c=>1000+100 * t+c) (fun c=>(ng,i+1000000 * (c+1))) 0 oc'
section
variable {P:Program} [WInv P] {r:Run} {ops:Array Oper} {o:Oper} {i:Nat} {s s':FS}
theorem Zt3 {f:FuncId} {es:Array Operand} {ts:Array TypeId} {post post':List PV} {t:Nat} {g:Gen} {cs:List PV} {oq:List (Nat×Gen×OC)} {oc':List OC} {res:PV} (hw:Zo ops s o=some true) (ho:o.op = .call { callee:=.value (.func f),args:=es,argTypes:=ts })
  (he:es.toList.map (ev s) = .ptr t g 0::post) (hob:s.ob t=some (g,.box cs)) (hoq:Zsr s.ob cs=some oq) (hk:okK t oq=true) (h3:Ze5 s.ob post=some (post',[])) (hc:ContractP P f (.ptr 0 (0,0) 0::post') 0 (oq.map (·.2.2)) res oc') :
  OpR P ops i o s ⟨res,usP t g s.ng i oq oc'⟩:=.anyx hw fun s' r hA hI=>by
 obtain ⟨e1,e2,_⟩:=Zds ho hA
 obtain ⟨q1,q2,q3⟩:=Zlt hoq
 obtain ⟨q4,q5⟩:=Znz hk
 have hmem:(PV.ptr t g 0) ∈ es.toList.map (ev s):=by rw [he];exact List.mem_cons_self ..
 have ht:s.ob t=s'.ob t:=e2 _ hmem t (by simp [ZmJ,ZfI,ZcE,Zbk])
 have hrow:∀ c E k sh els,(oq.map (·.2.2))[c]? = some (OC.row E k sh els)->s.ob (oqκ oq c)=s'.ob (oqκ oq c):=fun c E k sh els h=>by
  refine e2 _ hmem (oqκ oq c) ?_
  have hcell:cs[c]? = some (.row (oqκ oq c) (oqν oq c)):=by
   rw [q1,Zbg,h,Nat.zero_add]
   rfl
  refine List.mem_append_right _ (List.mem_append_left _ (List.mem_flatMap.2 ⟨t,by simp [ZcE,Zbk],?_⟩))
  unfold Zkz
  rw [hob]
  exact List.mem_flatMap.2 ⟨_,List.mem_of_getElem? hcell,by simp [Zbk]⟩
 unfold usP
 rw [hA.ng]
 refine Zq0 (pre:=[]) (pre':=[]) (post:=post) (ν:=oqν oq) ho (by rw [e1,he];rfl) (by rw [<- ht,hob,<- q1]) (fun c E k sh els h=>by rw [<- hrow c E k sh els h];exact q2 c E k sh els h) q3 q4 q5 rfl ?_ (by decide) hc hI
 rw [<- h3]
 exact (ZcC fun p hp t ht=>e2 p (by rw [he];exact List.mem_cons_of_mem _ hp) t (ZeC ht)).symm
end
section
variable {P:Program} [WInv P] {ops:Array Oper} {draw:Bool} {i:Nat} {L:List Oper} {acc:List (List Nat×List Nat)} {K:FS->Prop} {tm:List (Nat×PV)} {ob:List (Nat×Option (Gen×VObj))} {ng:Nat}
 {d:Option Tmp} {ty:TypeId} {pos:String} {after:Array Edge} {gd:Option (Nat×Bool)}
theorem Zd8 {f:FuncId} {es:Array Operand} {ts:Array TypeId} {post post':List PV} {t:Nat} {g:Gen} {cs:List PV} {oq:List (Nat×Gen×OC)} {oc oc':List OC} {res:PV} {us:List (Nat×Option (Gen×VObj))} (hc:ContractP P f (.ptr 0 (0,0) 0::post') 0 oc res oc') (hw:Zo ops (mkS tm ob ng) ⟨d,.call ⟨.value (.func f),es,ts⟩,ty,pos,after,gd⟩=some true)
  (he:es.toList.map (evL tm) = .ptr t g 0::post) (hob:ZI ob t=some (g,.box cs)) (hoq:Zsr (ZI ob) cs=some oq) (hoc:oq.map (·.2.2)=oc) (hk:okK t oq=true) (h3:Ze5 (ZI ob) post=some (post',[])) (hus:usP t g ng i oq oc'=us)
  (k:GoL P ops draw (i+1) L (acc ++ [(ZG (mkS tm ob ng) ⟨d,.call ⟨.value (.func f),es,ts⟩,ty,pos,after,gd⟩,us.map (·.1))]) (mkS (Zbt d res tm) (us.reverse++ob) ng) K):GoL P ops draw i (⟨d,.call ⟨.value (.func f),es,ts⟩,ty,pos,after,gd⟩::L) acc (mkS tm ob ng) K:=by{
subst hoc hus
refine Zgp (Zt3 hw rfl (by rw [Zai];exact he) hob hoq hk h3 hc) ?_
rw [ZbD]
exact k}
end
open Go.RowKit
def Zv9 (args:List PV) (j:Nat) (oc:List OC):FS:=⟨fun t=>args.getD t (.tup []),ZI ((j,some ((0,j),.box (ZaX κ0 ν0 0 oc)))::ZeA κ0 ν0 0 oc),1⟩
theorem ZjD {κ:Nat->Nat} {ν:Nat->Gen} {t:Nat} {g:Gen} {o:VObj}:∀ (l:List OC) (c0:Nat),ZI (ZeA κ ν c0 l) t=some (g,o)->∃ c E k sh els,l[c]? = some (OC.row E k sh els)/\t=κ (c0+c)/\g=ν (c0+c)/\o = .row E k sh els
 | [],c0,h=>by cases h
 | .pv p::r,c0,h=>by
   obtain ⟨c,E,k,sh,els,h1,h2,h3,h4⟩:=ZjD r (c0+1) h
   have e:c0+1+c=c0+(c+1):=by omega
   rw [e] at h2 h3
   exact ⟨c+1,E,k,sh,els,by simpa using h1,h2,h3,h4⟩
 | .row E k sh els::r,c0,h=>by
   change (if t=κ c0 then some (ν c0,VObj.row E k sh els) else ZI (ZeA κ ν (c0+1) r) t)=some (g,o) at h
   split at h
   rename_i e
   injection h with h
   injection h with e1 e2
   exact ⟨0,E,k,sh,els,rfl,e,e1.symm,e2.symm⟩
   obtain ⟨c,E,k,sh,els,h1,h2,h3,h4⟩:=ZjD r (c0+1) h
   have e:c0+1+c=c0+(c+1):=by omega
   rw [e] at h2 h3
   exact ⟨c+1,E,k,sh,els,by simpa using h1,h2,h3,h4⟩
theorem Zku {args:List PV} {j:Nat} {oc:List OC} {t:Nat} {g:Gen} {o:VObj} (h:(Zv9 args j oc).ob t=some (g,o)):(t=j/\g=(0,j)/\o = .box (ZaX κ0 ν0 0 oc))\/∃ c E k sh els,oc[c]? = some (OC.row E k sh els)/\t=1000+c/\g=ν0 c/\o = .row E k sh els:=by{
change (if t=j then some ((0,j),VObj.box (ZaX κ0 ν0 0 oc)) else ZI (ZeA κ0 ν0 0 oc) t)=some (g,o) at h
split at h
rename_i e
injection h with h
injection h with e1 e2
exact .inl ⟨e,e1.symm,e2.symm⟩
obtain ⟨c,E,k,sh,els,h1,h2,h3,h4⟩:=ZjD oc 0 h
rw [Nat.zero_add] at h2 h3
exact .inr ⟨c,E,k,sh,els,h1,h2,h3,h4⟩}
section
variable {P:Program} [WInv P]
theorem Zj2 (hmix:P.follows .mixedOrders=true) {f:FuncId} {fn:Func} {c:Code} {args:List PV} {j:Nat} {oc oc':List OC} {e:Ex} {s1:FS} {ps cs:List PV} {oq:List (Nat×Gen×OC)} {res:PV}
  (hg:isGo P f=true) (hf:P.funcs[f]? = some fn) (hb:fn.body=some c) (hn:args.length<=fn.ntmps) (hok:ZaY fn.ntmps c=true) (hj:j<1000) (hrun:RunC P c (Zv9 args j oc) e s1) (he:e = .normal\/e = .ret)
  (hres:ZfE P s1 fn.results.toList=some ps) (hps:Zfc ps=res) (hdry:res.dry=true) (hob:s1.ob j=some ((0,j),.box cs)) (hoq:Zsr s1.ob cs=some oq) (hk:okK j oq=true) (hoc:oq.map (·.2.2)=oc'):ContractP P f args j oc res oc':=by{
subst hoc hps
refine ⟨hg,hdry,fun x vs hpre hinv=>?_⟩
let r:Run:=⟨x.W,Dp x (0,j) ν0 oc,(vs++Array.replicate (fn.ntmps-vs.size) undef).size,x.F,x.G,x.ρ,WInv.I P⟩
have hNr:r.N=fn.ntmps:=by
 have:=hpre.size
 simp [r]
 omega
have hX:RstX r (fun _=>False) (Zv9 args j oc) { tmps:=vs++Array.replicate (fn.ntmps-vs.size) undef,defers:=[] } x:=by
 refine ⟨rfl,rfl,Gr.refl _ _,fun g hg=>?_,fun t=>?_,fun t g o ho=>?_,fun t t' g g' o o' b hne h1 h2 hb1 hb2=>?_,hpre.flt,fun _ _ h=>h,fun _ _ h=>.inl h,fun _ h=>⟨h,rfl⟩,⟨hinv,hpre.gen⟩,fun _ _ _ _ h=>h⟩
 rw [hpre.gen g hg]
 exact .inl Nat.zero_lt_one
 show Rep x (args.getD t (.tup [])) _
 rw [Array.getD_eq_getD_getElem?,Array.getElem?_append,List.getD_eq_getElem?_getD]
 by_cases ht:t<vs.size
 rw [if_pos ht,List.getElem?_eq_getElem (by rw [hpre.size];exact ht),Array.getElem?_eq_getElem ht]
 exact hpre.rep t _ _ (List.getElem?_eq_getElem (by rw [hpre.size];exact ht)) (Array.getElem?_eq_getElem ht)
 rw [if_neg ht,List.getElem?_eq_none (by rw [hpre.size];omega)]
 have:(Array.replicate (fn.ntmps-vs.size) undef)[t-vs.size]?.getD undef=undef:=by
  rw [Array.getElem?_replicate]
  split<;>rfl
 rw [this]
 exact .tup [] #[] rfl (fun i p v hp=>by simp at hp)
 rcases Zku ho with ⟨rfl,rfl,rfl⟩ | ⟨c,E,k,sh,els,h1,rfl,rfl,rfl⟩
 exact hpre.ob.box
 exact hpre.ob.row c E k sh els h1
 rcases Zku h1 with ⟨rfl,rfl,rfl⟩ | ⟨c,E,k,sh,els,q1,rfl,rfl,rfl⟩
 rcases Zku h2 with ⟨e,_⟩ | ⟨c',E',k',sh',els',w1,rfl,rfl,rfl⟩
 exact hne e.symm
 exact hpre.ob.apB c' E' k' sh' els' b w1 hb1 hb2
 rcases Zku h2 with ⟨rfl,rfl,rfl⟩ | ⟨c',E',k',sh',els',w1,rfl,rfl,rfl⟩
 exact hpre.ob.apB c E k sh els b q1 hb2 hb1
 exact hpre.ob.apR c c' E k sh els E' k' sh' els' b (fun e=>hne (by rw [e])) q1 w1 hb1 hb2
refine calls_of_wp hf hb ?_
refine (Zhk hmix hrun).1 r _ x _ ⟨rfl,by rw [hNr];exact hok⟩ hX fun a' y hY=>?_
obtain ⟨ws,h1,h2,h3⟩:=Zc0 hY fn.results.toList hres
have hstep:Step x y:=⟨fun g hg=>hY.rho g hg,fun b o hb=>hY.f0 b o hb,fun b o v hb hv=>hY.keep b o v hb hv⟩
obtain ⟨q1,q2,q3⟩:=Zlt hoq
obtain ⟨q4,q5⟩:=Znz hk
have hO:ORep y x.W.heap.size (Dp x (0,j) ν0 oc) (0,j) (oqκ oq) (oqν oq) (oq.map (·.2.2)):=by
 refine ⟨?_,fun c E k sh els h=>hY.ob _ _ _ (q2 c E k sh els h),fun c E k sh els b h hb1 hb2=>?_,fun c c' E k sh els E' k' sh' els' b hne h h' hb1 hb2=>?_,q3⟩
 rw [<- q1]
 exact hY.ob j _ _ hob
 exact hY.apart j (oqκ oq c) (0,j) (oqν oq c) _ _ b (fun e=>q4 c E k sh els h e.symm) hob (q2 c E k sh els h) hb1 hb2
 exact hY.apart (oqκ oq c) (oqκ oq c') (oqν oq c) (oqν oq c') _ _ b (q5 c c' E k sh els E' k' sh' els' hne h h') (q2 c E k sh els h) (q2 c' E' k' sh' els' h') hb1 hb2
have hend:(results fn a'.tmps).run P y.W = .ok (if ws.length=1 then ws.getD 0 undef else .tuple ws.toArray) y.W:=by
 have:(fn.results.mapM (Zt0 a')).run P y.W = .ok ws.toArray y.W:=by
  rw [Array.mapM_eq_mapM_toList,map_eq_pure_bind,Sem.run_bind,h1]
  rfl
 have e:results fn a'.tmps=(fn.results.mapM (Zt0 a') >>= fun vs=>pure (if h:vs.size=1 then vs[0] else .tuple vs)):=by
  unfold results
  congr 1
 rw [e,Sem.run_bind,this]
 simp only [Result.andThen_ok,Sem.run_pure]
 congr 1
 by_cases hl:ws.length=1
 simp [hl]
 simp [hl]
have hfin:∃ v,(results fn a'.tmps).run P y.W = .ok v y.W/\(fun e W'=>∃ y v,y.W=W'/\e=Ending.returned v/\PostP x y j oc (Zfc ps) (oq.map (·.2.2)) v) (Ending.returned v) y.W:=by
 refine ⟨_,hend,y,_,rfl,rfl,hstep,hY.gr,hY.fnew,hY.flt,?_,_,_,hO⟩
 have hlq:ps.length=ws.length:=h2.symm
 unfold Zfc
 split
 rename_i p
 rw [if_pos (by simpa using hlq.symm)]
 exact h3 0 p rfl
 rename_i hne
 have hn1:¬ ws.length=1:=fun h=>by
  rw [h] at hlq
  match ps,hlq with
  | [q],_=>exact hne q rfl
 rw [if_neg hn1]
 refine .tup ps ws.toArray (by simpa using hlq) fun j q v hq hv=>?_
 have:=h3 j q hq
 have hv':ws[j]? = some v:=by simpa using hv
 rw [List.getD_eq_getElem?_getD,hv'] at this
 exact this
rcases he with rfl | rfl
exact ⟨hY.defers,hfin⟩
exact ⟨hY.defers,hfin⟩}
def Zzx (P:Program) (rs:List ResultVar) (res:PV) (j:Nat) (oc':List OC):Ex->FS->Prop | .exit _,_=>False | _,s=>∃ ps cs oq,ZfE P s rs=some ps/\Zfc ps=res/\s.ob j=some ((0,j),.box cs)/\Zsr s.ob cs=some oq/\okK j oq=true/\oq.map (·.2.2)=oc'
omit [WInv P] in
theorem Zg3 {s:FS} {rs:List ResultVar} {res:PV} {j:Nat} {oc':List OC} {ps cs:List PV} {oq:List (Nat×Gen×OC)} (h1:ZfE P s rs=some ps) (h2:Zfc ps=res) (h3:s.ob j=some ((0,j),.box cs)) (h4:Zsr s.ob cs=some oq) (h5:okK j oq=true) (h6:oq.map (·.2.2)=oc'):Zzx P rs res j oc' .ret s:=⟨ps,cs,oq,h1,h2,h3,h4,h5,h6⟩
theorem ZlY (hmix:P.follows .mixedOrders=true) {f:FuncId} {fn:Func} {c:Code} {args:List PV} {j:Nat} {oc:List OC} {R:PV->List OC->Prop} (hf:P.funcs[f]? = some fn) (hg:isGo P f=true) (hb:fn.body=some c) (hok:(decide (args.length<=fn.ntmps)&&ZaY fn.ntmps c&&decide (j<1000))=true)
  (h:PWs P [c] (fun e s=>∃ res oc',(R res oc'/\res.dry=true)/\Zzx P fn.results.toList res j oc' e s) (mkS (ZeN 0 args) ((j,some ((0,j),.box (ZaX κ0 ν0 0 oc)))::ZeA κ0 ν0 0 oc) 1)):∃ res oc',R res oc'/\ContractP P f args j oc res oc':=by{
simp only [Bool.and_eq_true,decide_eq_true_eq] at hok
obtain ⟨e,s',h1,res,oc',⟨hR,hd⟩,h2⟩:=Zc3 h
have hsh:Shift (Zv9 args j oc) (mkS (ZeN 0 args) ((j,some ((0,j),.box (ZaX κ0 ν0 0 oc)))::ZeA κ0 ν0 0 oc) 1):=ZfH (fun t=>by
 rcases Zeu args 0 t with h | ⟨_,h⟩
 exact .inl h
 exact .inr h) (fun t=>.inr rfl) (Nat.le_refl _)
refine ⟨res,oc',hR,?_⟩
cases e with
| exit id=>exact h2.elim
| normal=>
  obtain ⟨ps,cs,oq,q1,q2,q3,q4,q5,q6⟩:=h2
  exact Zj2 hmix hg hf hb hok.1.1 hok.1.2 hok.2 (.shift hsh h1) (.inl rfl) q1 q2 hd q3 q4 q5 q6
| ret=>
  obtain ⟨ps,cs,oq,q1,q2,q3,q4,q5,q6⟩:=h2
  exact Zj2 hmix hg hf hb hok.1.1 hok.1.2 hok.2 (.shift hsh h1) (.inr rfl) q1 q2 hd q3 q4 q5 q6}
theorem ZnW (hmix:P.follows .mixedOrders=true) {f:FuncId} {fn:Func} {c:Code} {args:List PV} {j:Nat} {oc oc':List OC} {res:PV} (hf:P.funcs[f]? = some fn) (hg:isGo P f=true) (hb:fn.body=some c) (hok:(decide (args.length<=fn.ntmps)&&ZaY fn.ntmps c&&decide (j<1000))=true) (hd:res.dry=true)
  (h:PWs P [c] (Zzx P fn.results.toList res j oc') (mkS (ZeN 0 args) ((j,some ((0,j),.box (ZaX κ0 ν0 0 oc)))::ZeA κ0 ν0 0 oc) 1)):ContractP P f args j oc res oc':=by{
obtain ⟨res2,oc2,⟨rfl,rfl⟩,hc⟩:=ZlY (R:=fun r o=>r=res/\o=oc') hmix hf hg hb hok (by
 obtain ⟨e,s',h1,h2⟩:=Zc3 h
 refine Zxv h1 ?_
 exact ⟨res,oc',⟨⟨rfl,rfl⟩,hd⟩,h2⟩)
exact hc}
end
open Go.RowKit
section
variable {P:Program} [WInv P] {ops:Array Oper} {draw:Bool} {i:Nat} {L:List Oper} {acc:List (List Nat×List Nat)} {K:FS->Prop} {tm:List (Nat×PV)} {ob:List (Nat×Option (Gen×VObj))} {ng:Nat}
 {d:Option Tmp} {ty T T':TypeId} {pos:String} {after:Array Edge} {gd:Option (Nat×Bool)} {x y:Operand}
theorem ZqC (hw:Zo ops (mkS tm ob ng) ⟨d,.nilCheck x,ty,pos,after,gd⟩=some true) {cs:List PV} (hv:evL tm x = .cel cs)
  (k:GoL P ops draw (i+1) L (acc ++ [(ZG (mkS tm ob ng) ⟨d,.nilCheck x,ty,pos,after,gd⟩,[])]) (mkS (Zbt d (.cel cs) tm) ob ng) K):GoL P ops draw i (⟨d,.nilCheck x,ty,pos,after,gd⟩::L) acc (mkS tm ob ng) K:=
 ZbM (us:=[]) hw (.fn (by simp only [act,Zai,hv])) k
theorem Zpn {len kk:Nat} [h:Ar P T len kk] (hw:Zo ops (mkS tm ob ng) ⟨d,.indexAddr T x y,ty,pos,after,gd⟩=some true) {cs:List PV} {kd:IntKind} {n:Nat} (hx:evL tm x = .cel cs) (hy:evL tm y = .int kd (n:Int)) (hn:n<len)
  (k:GoL P ops draw (i+1) L (acc ++ [(ZG (mkS tm ob ng) ⟨d,.indexAddr T x y,ty,pos,after,gd⟩,[])]) (mkS (Zbt d (.cel (cs.drop (n * kk))) tm) ob ng) K):GoL P ops draw i (⟨d,.indexAddr T x y,ty,pos,after,gd⟩::L) acc (mkS tm ob ng) K:=by{
refine ZbM (us:=[]) hw (.fn ?_) k
have:=h.eq
unfold arI at this
split at this
rename_i len' E' s b zz ht
cases hte:tyI P E' with
| none=>rw [hte] at this;cases this
| some te=>
  rw [hte] at this
  simp only [Option.map_some,Option.some.injEq,Prod.mk.injEq] at this
  obtain ⟨rfl,h2⟩:=this
  simp only [act,ht,Zai,hx,hy,Zg7,hte,if_pos hn,h2]
cases this}
end
theorem Zrj {cs xs:List PV} (h:cs.length=xs.length):ZcP cs 0 xs=xs:=by
 unfold ZcP
 rw [List.take_zero,List.nil_append,Nat.zero_add,<- h,List.drop_length,List.append_nil]
theorem ZnY (f:Nat->Option (Gen×VObj)):∀ (l:List Bool),ZhE (Zqt f) (l.map PV.bool)=some (l.map PV.bool)
 | []=>rfl
 | b::l=>by
   have:=ZnY f l
   simp only [List.map_cons,ZhE,Zqt,this]
open Go.RowKit
def Zaq:Nat:=4611686018427387904
def atI {α:Type} (l:List α) (i:Int):Option α:=if 0<=i then l[i.toNat]? else none
def atS (s:ByteArray) (i:Int):Option Int:=if 0<=i then (s[i.toNat]?).map fun c=>(c.toNat:Int) else none
def Zgj {α:Type} (l:List α) (lo hi:Int):Option (List α):=if 0<=lo/\lo<=hi/\hi<=(l.length:Int) then some ((l.drop lo.toNat).take (hi.toNat-lo.toNat)) else none
def Zff (s:ByteArray) (lo hi:Int):Option ByteArray:=if 0<=lo/\lo<=hi/\hi<=(s.size:Int) then some (s.extract lo.toNat hi.toNat) else none
def Zbo {α:Type} (w:Nat) (a b:List α):Option (List α):=if (a.length+b.length) * w<=140737488355328/\a.length+b.length<=9223372036854775807 then some (a++b) else none
def Zl6 (a b:ByteArray):Option ByteArray:=if a.size+b.size<=9223372036854775807 then some (a++b) else none
def ZbF {α:Type} (l:List α) (i:Int) (x:α):List α:=l.set i.toNat x
def Zyx (k:IntKind) (a b:Int):Option Int:=if b=0 then none else some (k.wrap (Int.tdiv a b))
def Zyi (_:IntKind) (a b:Int):Option Int:=if b=0 then none else some (Int.tmod a b)
def ltS (a b:ByteArray):Bool:=Op.bytesLess a.toList b.toList
abbrev w64 (n:Int):Int:=IntKind.wrap .i64 n
abbrev csS (y:ByteArray):List PV:=[.str y]
abbrev csI (y:Int):List PV:=[.int .i64 y]
abbrev csB (y:Int):List PV:=[.int .u8 y]
def letk {γ β:Type} (k:γ) (f:γ->Option β):Option β:=f k
def ZE {α β:Type}:Nat->((α->Option β)->α->Option β)->α->Option β | 0,_,_=>none | n+1,f,a=>f (ZE n f) a
theorem bnd {α β:Type} {x:Option α} {f:α->Option β} {r:β} (h:x.bind f=some r):∃ v,x=some v/\f v=some r:=by
 cases x with
 | none=>cases h
 | some v=>exact ⟨v,rfl,h⟩
theorem ifT {β:Type} {b:Bool} {x y:Option β} {r:β} (hb:b=true) (h:(if b=true then x else y)=some r):x=some r:=by rw [if_pos hb] at h;exact h
theorem ifF {β:Type} {b:Bool} {x y:Option β} {r:β} (hb:b=false) (h:(if b=true then x else y)=some r):y=some r:=by rw [if_neg (by rw [hb];simp)] at h;exact h
theorem Zag {γ β:Type} {k:γ} {f:γ->Option β} {r:β} {p:Prop} (h:letk k f=some r) (g:∀ q,q=k->f q=some r->p):p:=g k rfl h
theorem Zk {α β:Type} {n:Nat} {f:(α->Option β)->α->Option β} {a:α} {r:β} {p:Prop} (h:ZE n f a=some r) (g:∀ q m,q=f->ZE m q a=some r->p):p:=g f n rfl h
theorem Zl {α β:Type} {n:Nat} {f q:(α->Option β)->α->Option β} {a:α} {r:β} (e:q=f) (h:ZE n q a=some r):∃ m,n=m+1/\f (ZE m q) a=some r:=by
 cases n with
 | zero=>cases h
 | succ m=>exact ⟨m,rfl,by rw [<- e];exact h⟩
theorem ZuQ {α β:Type} {f:(α->Option β)->α->Option β} (J:α->Prop) (m:α->Nat) (spec:α->β) (h:∀ a rec,J a->(∀ a',J a'->m a'<m a->rec a'=some (spec a'))->f rec a=some (spec a)):∀ (n:Nat) (a:α),J a->m a<n->ZE n f a=some (spec a)
 | 0,_,_,hm=>absurd hm (Nat.not_lt_zero _)
 | n+1,a,ha,hm=>h a _ ha fun a' ha' hm'=>ZuQ J m spec h n a' ha' (by omega)
theorem Zpw {α β:Type} {f:(α->Option β)->α->Option β} (J:α->Prop) (m:α->Nat) (R:β->Prop) (h:∀ a rec,J a->(∀ a',J a'->m a'<m a->∃ b,rec a'=some b/\R b)->∃ b,f rec a=some b/\R b):∀ (n:Nat) (a:α),J a->m a<n->∃ b,ZE n f a=some b/\R b
 | 0,_,_,hm=>absurd hm (Nat.not_lt_zero _)
 | n+1,a,ha,hm=>h a _ ha fun a' ha' hm'=>Zpw J m R h n a' ha' (by omega)
theorem Zja {α:Type} {l:List α} {i:Int} {e:α} (h:atI l i=some e):0<=i/\l[i.toNat]? = some e:=by{
unfold atI at h
split at h
exact ⟨by assumption,h⟩
cases h}
theorem Zan {α:Type} (l:List α) (n:Nat):atI l (n:Int)=l[n]?:=by
 unfold atI
 rw [if_pos (by omega)]
 rfl
theorem ZmR {α β:Type} {f:α->β} {l:List α} {n:Nat} {e:α} (h:l[n]? = some e):(l.map f)[n]? = some (f e):=by rw [List.getElem?_map,h];rfl
theorem ZqH {α:Type} {w:Nat} {a b c:List α} (h:Zbo w a b=some c):(a.length+b.length) * w<=140737488355328/\a.length+b.length<=9223372036854775807/\c=a++b:=by{
unfold Zbo at h
split at h
injection h with h
rename_i q
exact ⟨q.1,q.2,h.symm⟩
cases h}
theorem ZuR {α:Type} {l m:List α} {lo hi:Int} (h:Zgj l lo hi=some m):0<=lo/\lo<=hi/\hi<=(l.length:Int)/\m=(l.drop lo.toNat).take (hi.toNat-lo.toNat):=by{
unfold Zgj at h
split at h
injection h with h
rename_i q
exact ⟨q.1,q.2.1,q.2.2,h.symm⟩
cases h}
theorem ZuS {l m:ByteArray} {lo hi:Int} (h:Zff l lo hi=some m):0<=lo/\lo<=hi/\hi<=(l.size:Int)/\l.extract lo.toNat hi.toNat=m:=by{
unfold Zff at h
split at h
injection h with h
rename_i q
exact ⟨q.1,q.2.1,q.2.2,h⟩
cases h}
theorem Zpx {α:Type} {f:α->List PV} {kk:Nat} (hf:∀ x,(f x).length=kk) (l:List α):((l.map f).all fun e=>e.length == kk)=true:=by simp [hf]
def loI (tm:List (Nat×PV)):Option Operand->Option Int
 | none=>some 0
 | some e=>match evL tm e with
   | .int _ n=>some n
   | _=>none
def hiI (tm:List (Nat×PV)) (n:Nat):Option Operand->Option Int
 | none=>some n
 | some e=>match evL tm e with
   | .int _ n=>some n
   | _=>none
theorem Zyy {tm:List (Nat×PV)} {lo:Option Operand} {l:Int} (h:loI tm lo=some l) (h0:0<=l):loV tm lo=some l.toNat:=by{
cases lo with
| none=>injection h with h;subst h;rfl
| some e=>
  simp only [loI] at h
  simp only [loV]
  split at h
  rename_i he
  injection h with h
  subst h
  rw [he]
  simp [toNat?,h0]
  cases h}
theorem Zyz {tm:List (Nat×PV)} {hi:Option Operand} {n:Nat} {l:Int} (h:hiI tm n hi=some l) (h0:0<=l):hiV tm n hi=some l.toNat:=by{
cases hi with
| none=>injection h with h;subst h;rfl
| some e=>
  simp only [hiI] at h
  simp only [hiV]
  split at h
  rename_i he
  injection h with h
  subst h
  rw [he]
  simp [toNat?,h0]
  cases h}
section
variable {P:Program} [WInv P] {ops:Array Oper} {draw:Bool} {i:Nat} {L:List Oper} {acc:List (List Nat×List Nat)} {K:FS->Prop} {tm:List (Nat×PV)} {ob:List (Nat×Option (Gen×VObj))} {ng:Nat}
 {d:Option Tmp} {ty T T':TypeId} {pos:String} {after:Array Edge} {gd:Option (Nat×Bool)} {x y:Operand} {α:Type} {f:α->List PV}
theorem ZqI (t:Nat) {b:Bool} (hx:look tm t = .bool b) (h1:b=true->GoL P ops draw i L acc (mkS ((t,.bool true)::tm) ob ng) K) (h2:b=false->GoL P ops draw i L acc (mkS ((t,.bool false)::tm) ob ng) K):GoL P ops draw i L acc (mkS tm ob ng) K:=by{
have e:mkS ((t,.bool b)::tm) ob ng=mkS tm ob ng:=by
 unfold mkS
 congr 1
 funext t'
 show (if t'=t then PV.bool b else look tm t')=look tm t'
 split
 rename_i h;rw [h,hx]
 rfl
rw [<- e]
cases b
exact h2 rfl
exact h1 rfl}
theorem ZjK {E kk by_:Nat} {z:List PV} [Sl P T E kk by_ z] (hw:Zo ops (mkS tm ob ng) ⟨d,.call ⟨.builtin .len,#[x],#[T]⟩,ty,pos,after,gd⟩=some true) {M:List α} (hx:ZjP (ZI ob) (evL tm x)=some (M.map f))
  (k:GoL P ops draw (i+1) L (acc ++ [(ZG (mkS tm ob ng) ⟨d,.call ⟨.builtin .len,#[x],#[T]⟩,ty,pos,after,gd⟩,[])]) (mkS (Zbt d (.int .i64 (M.length:Int)) tm) ob ng) K):GoL P ops draw i (⟨d,.call ⟨.builtin .len,#[x],#[T]⟩,ty,pos,after,gd⟩::L) acc (mkS tm ob ng) K:=by{
refine ZyR (n:=M.length) hw ?_ k
cases hp:evL tm x<;>rw [hp] at hx<;>simp only [ZjP] at hx<;>try (cases hx;done)
injection hx with hx;simp only [ZuB,hx,List.length_map]
injection hx with hx
have:M.length=0:=by rw [<- List.length_map (f:=f),<- hx];rfl
simp only [ZuB,this]
simp only [ZuB]
split at hx
rename_i ho
injection hx with hx
rw [hx,List.length_map]
cases hx}
theorem ZeR {E kk by_:Nat} {z:List PV} [Sl P T E kk by_ z] (hw:Zo ops (mkS tm ob ng) ⟨d,.indexAddr T x y,ty,pos,after,gd⟩=some true) {M:List α} {e:α} {kd:IntKind} {q:Int} (he:atI M q=some e) (hx:evL tm x = .sl (M.map f)) (hy:evL tm y = .int kd q) (hl:(f e).length=kk)
  (k:GoL P ops draw (i+1) L (acc ++ [(ZG (mkS tm ob ng) ⟨d,.indexAddr T x y,ty,pos,after,gd⟩,[])]) (mkS (Zbt d (.cel (f e)) tm) ob ng) K):GoL P ops draw i (⟨d,.indexAddr T x y,ty,pos,after,gd⟩::L) acc (mkS tm ob ng) K:=by
 obtain ⟨h0,h1⟩:=Zja he
 exact Zdc (n:=q.toNat) hw hx (by rw [hy];congr 1;omega) (ZmR h1) hl k
theorem ZA {E kk by_:Nat} {z:List PV} [Sl P T E kk by_ z] (hw:Zo ops (mkS tm ob ng) ⟨d,.indexAddr T x y,ty,pos,after,gd⟩=some true) {M:List α} {e:α} {kd:IntKind} {q:Int} {t:Nat} {g:Gen} {E':Nat} {sh:Bool} (he:atI M q=some e) (hx:evL tm x = .row t g) (hb:Zbh (ZI ob) t g=some (.row E' kk sh (M.map f))) (hy:evL tm y = .int kd q)
  (k:GoL P ops draw (i+1) L (acc ++ [(ZG (mkS tm ob ng) ⟨d,.indexAddr T x y,ty,pos,after,gd⟩,[])]) (mkS (Zbt d (.elp t g q.toNat kk 0) tm) ob ng) K):GoL P ops draw i (⟨d,.indexAddr T x y,ty,pos,after,gd⟩::L) acc (mkS tm ob ng) K:=by
 obtain ⟨h0,h1⟩:=Zja he
 exact ZpJ (n:=q.toNat) hw hx hb (by rw [hy];congr 1;omega) (by rw [List.length_map];exact (List.getElem?_eq_some_iff.1 h1).1) k
theorem Zaj {agg:Bool} {n:Nat} [h:Ld P T agg n] (hw:Zo ops (mkS tm ob ng) ⟨d,.load T x,ty,pos,after,gd⟩=some true) {M:List α} {e:α} {q:Int} {t:Nat} {g:Gen} {E kk off:Nat} {sh:Bool} {v:PV} (he:atI M q=some e) (hx:evL tm x = .elp t g q.toNat kk off) (hb:Zbh (ZI ob) t g=some (.row E kk sh (M.map f))) (hv:ZpG agg n ((f e).drop off)=some v)
  (k:GoL P ops draw (i+1) L (acc ++ [(ZG (mkS tm ob ng) ⟨d,.load T x,ty,pos,after,gd⟩,[])]) (mkS (Zbt d v tm) ob ng) K):GoL P ops draw i (⟨d,.load T x,ty,pos,after,gd⟩::L) acc (mkS tm ob ng) K:=by{
obtain ⟨h0,h1⟩:=Zja he
refine Zmb (cs:=(f e).drop off) hw ?_ hv k
rw [hx]
simp only [ZgF,hb,if_true,ZmR h1,Option.map_some]}
theorem ZaR {agg:Bool} {n:Nat} [Ld P T agg n] (hw:Zo ops (mkS tm ob ng) ⟨d,.store T x y,ty,pos,after,gd⟩=some true) {M:List α} {e e':α} {q:Int} {t:Nat} {g:Gen} {E kk off:Nat} {p:PV} {ps qs:List PV} {us:List (Nat×Option (Gen×VObj))} (he:atI M q=some e) (hx:evL tm x = .elp t g q.toNat kk off)
  (hb:Zbh (ZI ob) t g=some (.row E kk false (M.map f))) (hy:evL tm y=p) (hps:p.cells=ps) (hl:ps.length=n) (hr:ZeZ (ZI ob) ps=some (qs,us)) (hf:off+n<=kk) (hus:us.all (fun q=>q.1 != t)=true) (hs:ZcP (f e) off qs=f e')
  (k:GoL P ops draw (i+1) L (acc ++ [(ZG (mkS tm ob ng) ⟨d,.store T x y,ty,pos,after,gd⟩,us.map (·.1) ++ [t])]) (mkS (Zbt d .un tm) ((t,some (g,VObj.row E kk false ((ZbF M q e').map f)))::(us.reverse++ob)) ng) K) :
  GoL P ops draw i (⟨d,.store T x y,ty,pos,after,gd⟩::L) acc (mkS tm ob ng) K:=by{
obtain ⟨h0,h1⟩:=Zja he
refine ZpI hw hx hb (ZmR h1) hy hps hl hr hf hus ?_
rw [hs,show (M.map f).set q.toNat (f e')=(ZbF M q e').map f from (List.map_set ..).symm]
simpa using k}
theorem ZmS {E kk by_:Nat} {z:List PV} [Sl P T E kk by_ z] {lo hi:Option Operand} (hw:Zo ops (mkS tm ob ng) ⟨d,.slice T x lo hi none,ty,pos,after,gd⟩=some true) {M R:List α} {l h:Int} {us:List (Nat×Option (Gen×VObj))} (hs:Zgj M l h=some R) (hf:∀ x,(f x).length=kk)
  (hx:ZjP (ZI ob) (evL tm x)=some (M.map f)) (hlo:loI tm lo=some l) (hhi:hiI tm M.length hi=some h) (hus:ZuC (ZI ob) (evL tm x)=us)
  (k:GoL P ops draw (i+1) L (acc ++ [(ZG (mkS tm ob ng) ⟨d,.slice T x lo hi none,ty,pos,after,gd⟩,us.map (·.1))]) (mkS (Zbt d (.sl (R.map f)) tm) (us.reverse++ob) ng) K):GoL P ops draw i (⟨d,.slice T x lo hi none,ty,pos,after,gd⟩::L) acc (mkS tm ob ng) K:=by
 obtain ⟨h0,h1,h2,rfl⟩:=ZuR hs
 refine Zw9 (l:=l.toNat) (h:=h.toNat) hw hx (Zyy hlo h0) (by rw [List.length_map];exact Zyz hhi (by omega)) (by omega) (by rw [List.length_map];omega) (Zpx hf M) hus ?_ k
 rw [List.map_take,List.map_drop]
theorem ZsT (hT:P.underlying T=some .string) {lo hi:Option Operand} (hw:Zo ops (mkS tm ob ng) ⟨d,.slice T x lo hi none,ty,pos,after,gd⟩=some true) {a b:ByteArray} {l h:Int} (hs:Zff a l h=some b) (hx:evL tm x = .str a) (hlo:loI tm lo=some l) (hhi:hiI tm a.size hi=some h)
  (k:GoL P ops draw (i+1) L (acc ++ [(ZG (mkS tm ob ng) ⟨d,.slice T x lo hi none,ty,pos,after,gd⟩,[])]) (mkS (Zbt d (.str b) tm) ob ng) K):GoL P ops draw i (⟨d,.slice T x lo hi none,ty,pos,after,gd⟩::L) acc (mkS tm ob ng) K:=by
 obtain ⟨h0,h1,h2,h3⟩:=ZuS hs
 exact Zm5 hT hw hx (Zyy hlo h0) (Zyz hhi (by omega)) (by omega) (by omega) h3 k
theorem ZsU (hT:P.underlying T=some .string) (hw:Zo ops (mkS tm ob ng) ⟨d,.index T x y,ty,pos,after,gd⟩=some true) {a:ByteArray} {kd:IntKind} {q c:Int} (hn:atS a q=some c) (hx:evL tm x = .str a) (hy:evL tm y = .int kd q)
  (k:GoL P ops draw (i+1) L (acc ++ [(ZG (mkS tm ob ng) ⟨d,.index T x y,ty,pos,after,gd⟩,[])]) (mkS (Zbt d (.int .u8 c) tm) ob ng) K):GoL P ops draw i (⟨d,.index T x y,ty,pos,after,gd⟩::L) acc (mkS tm ob ng) K:=by{
unfold atS at hn
split at hn
cases hc:a[q.toNat]? with
| none=>rw [hc] at hn;cases hn
| some b=>
  rw [hc] at hn
  injection hn with hn
  subst hn
  exact Zm4 hT hw hx (n:=q.toNat) (by rw [hy];congr 1;omega) hc k
cases hn}
theorem ZyA (hw:Zo ops (mkS tm ob ng) ⟨d,.binOp .add T x y T',ty,pos,after,gd⟩=some true) {a b c:ByteArray} (hs:Zl6 a b=some c) (hx:evL tm x = .str a) (hy:evL tm y = .str b)
  (kk:GoL P ops draw (i+1) L (acc ++ [(ZG (mkS tm ob ng) ⟨d,.binOp .add T x y T',ty,pos,after,gd⟩,[])]) (mkS (Zbt d (.str c) tm) ob ng) K):GoL P ops draw i (⟨d,.binOp .add T x y T',ty,pos,after,gd⟩::L) acc (mkS tm ob ng) K:=by{
unfold Zl6 at hs
split at hs
injection hs with hs
subst hs
exact ZzW hw hx hy (by assumption) kk
cases hs}
theorem ZeS {dd:Nat} {E kk by_:Nat} {z:List PV} [Sl P T E kk by_ z] (hw:Zo ops (mkS tm ob ng) ⟨some dd,.call ⟨.builtin .append,#[x,y],#[T,T]⟩,ty,pos,after,gd⟩=some true) {M R:List α} (hs:Zbo by_ [] M=some R) (hf:∀ x,(f x).length=kk) {new:List (List PV)} (hx:evL tm x = .nil) (hy:ZjP (ZI ob) (evL tm y)=some new) (hm:new=M.map f)
  (k:GoL P ops draw (i+1) L (acc ++ [(ZG (mkS tm ob ng) ⟨some dd,.call ⟨.builtin .append,#[x,y],#[T,T]⟩,ty,pos,after,gd⟩,[dd])]) (mkS ((dd,.row dd (ng,i))::tm) ((dd,some ((ng,i),.row E kk false (R.map f)))::ob) ng) K) :
  GoL P ops draw i (⟨some dd,.call ⟨.builtin .append,#[x,y],#[T,T]⟩,ty,pos,after,gd⟩::L) acc (mkS tm ob ng) K:=by
 subst hm
 obtain ⟨h1,h2,rfl⟩:=ZqH hs
 exact Zoj hw hx hy (by simpa using h1) (by simpa using h2) (Zpx hf _) k
theorem Zl7 {dd:Nat} {E kk by_:Nat} {z:List PV} [Sl P T E kk by_ z] (hw:Zo ops (mkS tm ob ng) ⟨some dd,.call ⟨.builtin .append,#[x,y],#[T,T]⟩,ty,pos,after,gd⟩=some true) {M0 M R:List α} (hs:Zbo by_ M0 M=some R) (hf:∀ x,(f x).length=kk) {t:Nat} {g:Gen} {sh:Bool} {new:List (List PV)} (hx:evL tm x = .row t g) (ho:Zbh (ZI ob) t g=some (.row E kk sh (M0.map f))) (hy:ZjP (ZI ob) (evL tm y)=some new) (hm:new=M.map f)
  (k:GoL P ops draw (i+1) L (acc ++ [(ZG (mkS tm ob ng) ⟨some dd,.call ⟨.builtin .append,#[x,y],#[T,T]⟩,ty,pos,after,gd⟩,[t])]) (mkS ((dd,.row t (ng,i))::tm) ((t,some ((ng,i),.row E kk sh (R.map f)))::ob) ng) K) :
  GoL P ops draw i (⟨some dd,.call ⟨.builtin .append,#[x,y],#[T,T]⟩,ty,pos,after,gd⟩::L) acc (mkS tm ob ng) K:=by
 subst hm
 obtain ⟨h1,h2,rfl⟩:=ZqH hs
 exact ZdG hw hx ho hy (by simpa using h1) (by simpa using h2) (Zpx hf M) (by rw [<- List.map_append];exact k)
theorem Zpy {len:Nat} [h:Ix P T len] (hw:Zo ops (mkS tm ob ng) ⟨d,.index T x y,ty,pos,after,gd⟩=some true) {p:α->PV} {M:List α} {e:α} {cs:List PV} {vs:List Value} {kd:IntKind} {q:Int} (he:atI M q=some e)
  (hx:evL tm x = .agg cs) (hm:cs=M.map p) (hps:Zbc cs=some vs) (hy:evL tm y = .int kd q) (hl:cs.length=len)
  (k:GoL P ops draw (i+1) L (acc ++ [(ZG (mkS tm ob ng) ⟨d,.index T x y,ty,pos,after,gd⟩,[])]) (mkS (Zbt d (p e) tm) ob ng) K):GoL P ops draw i (⟨d,.index T x y,ty,pos,after,gd⟩::L) acc (mkS tm ob ng) K:=by
 obtain ⟨h0,h1⟩:=Zja he
 exact ZAh (n:=q.toNat) hw hx hps (by rw [hy];congr 1;omega) hl (by rw [hm];exact ZmR h1) k
theorem Zwe (hw:Zo ops (mkS tm ob ng) ⟨d,.binOp .rem T x y T',ty,pos,after,gd⟩=some true) {k:IntKind} {a b c:Int} (hs:Zyi k a b=some c) (hx:evL tm x = .int k a) (hy:evL tm y = .int k b)
  (kk:GoL P ops draw (i+1) L (acc ++ [(ZG (mkS tm ob ng) ⟨d,.binOp .rem T x y T',ty,pos,after,gd⟩,[])]) (mkS (Zbt d (.int k c) tm) ob ng) K):GoL P ops draw i (⟨d,.binOp .rem T x y T',ty,pos,after,gd⟩::L) acc (mkS tm ob ng) K:=by{
unfold Zyi at hs
split at hs
cases hs
injection hs with hs
subst hs
exact Zz7 hw hx hy (by assumption) kk}
theorem ZyB (hw:Zo ops (mkS tm ob ng) ⟨d,.binOp .quo T x y T',ty,pos,after,gd⟩=some true) {k:IntKind} {a b c:Int} (hs:Zyx k a b=some c) (hx:evL tm x = .int k a) (hy:evL tm y = .int k b)
  (kk:GoL P ops draw (i+1) L (acc ++ [(ZG (mkS tm ob ng) ⟨d,.binOp .quo T x y T',ty,pos,after,gd⟩,[])]) (mkS (Zbt d (.int k c) tm) ob ng) K):GoL P ops draw i (⟨d,.binOp .quo T x y T',ty,pos,after,gd⟩::L) acc (mkS tm ob ng) K:=by{
unfold Zyx at hs
split at hs
cases hs
injection hs with hs
subst hs
exact Zz8 hw hx hy (by assumption) kk}
end
section
variable {P:Program} [WInv P] {α:Type} {St:α->Nat->FS} {J:α->Prop} {Q:Ex->FS->Prop} {s:FS} {id:Nat}
theorem ZsV (h:Q .ret s):Ztq St J Q .ret s:=h
end
class StrT (P:Program) (T:TypeId):Prop where
 eq:P.underlying T=some .string
section
variable {P:Program} [WInv P] {ops:Array Oper} {draw:Bool} {i:Nat} {L:List Oper} {acc:List (List Nat×List Nat)} {K:FS->Prop} {tm:List (Nat×PV)} {ob:List (Nat×Option (Gen×VObj))} {ng:Nat}
 {d:Option Tmp} {ty T T':TypeId} {pos:String} {after:Array Edge} {gd:Option (Nat×Bool)} {x y:Operand} {α:Type} {f:α->List PV}
theorem ZsW [h:StrT P T] (hw:Zo ops (mkS tm ob ng) ⟨d,.call ⟨.builtin .len,#[x],#[T]⟩,ty,pos,after,gd⟩=some true) {a:ByteArray} (hx:evL tm x = .str a)
  (k:GoL P ops draw (i+1) L (acc ++ [(ZG (mkS tm ob ng) ⟨d,.call ⟨.builtin .len,#[x],#[T]⟩,ty,pos,after,gd⟩,[])]) (mkS (Zbt d (.int .i64 (a.size:Int)) tm) ob ng) K):GoL P ops draw i (⟨d,.call ⟨.builtin .len,#[x],#[T]⟩,ty,pos,after,gd⟩::L) acc (mkS tm ob ng) K:=ZK h.eq hw hx k
theorem ZF {dd:Nat} {E kk by_:Nat} {z:List PV} [Sl P T E kk by_ z] {n:Nat} {parts:Array (Nat×Operand)} (M:List α) (hw:Zo ops (mkS tm ob ng) ⟨some dd,.buildSlice T n parts,ty,pos,after,gd⟩=some true) {cs qs:List PV} {us:List (Nat×Option (Gen×VObj))}
  (hf:Zfv (fun i=>some (i * kk,kk)) (List.replicate n z).flatten (evs tm parts.toList)=some cs) (hr:ZeZ (ZI ob) cs=some (qs,us)) (hl:qs.length=n * kk) (hm:n * kk<=16777216) (hc:chunks kk n qs=M.map f)
  (k:GoL P ops draw (i+1) L (acc ++ [(ZG (mkS tm ob ng) ⟨some dd,.buildSlice T n parts,ty,pos,after,gd⟩,us.map (·.1) ++ [dd])]) (mkS ((dd,.row dd (ng,i))::tm) ((dd,some ((ng,i),.row E kk false (M.map f)))::(us.reverse++ob)) ng) K) :
  GoL P ops draw i (⟨some dd,.buildSlice T n parts,ty,pos,after,gd⟩::L) acc (mkS tm ob ng) K:=
 ZjL hw hf hr hl hm hc (by simpa using k)
end
theorem Zf {p q:Prop} (k:q) (h:q->p:=by
 (intro k)
 (repeat (first
  | refine Zmb rfl rfl rfl ?_
  | refine ZqP rfl (by (conv=>lhs;whnf);try rfl) ?_
  | refine Zkg rfl (by (conv=>lhs;whnf);try rfl) ?_
  | refine ZfO rfl rfl ?_
  | refine ZrE rfl rfl rfl rfl (by (conv=>lhs;whnf);try rfl) ?_
  | refine Zu3 rfl rfl rfl rfl (by (conv=>lhs;whnf);try rfl) ?_
  | refine Zin rfl rfl rfl ?_
  | refine ZkS rfl rfl rfl (by (conv=>lhs;whnf);try rfl) (by (conv=>lhs;whnf);try rfl) (by rfl) (by rfl) (Nat.le_of_ble_eq_true rfl) (by (conv=>lhs;whnf);try rfl) ?_
  | refine ZhP rfl rfl ?_
  | refine ZsW rfl rfl ?_
  | refine Zu4 rfl rfl ?_
  | refine ZqQ rfl rfl (by (conv=>lhs;whnf);try rfl) ?_
  | refine Zm0 rfl rfl rfl ?_
  | refine Zu2 rfl (by (conv=>lhs;whnf);try rfl) (by (conv=>lhs;whnf);try rfl) (by rfl) ?_
  | refine ZkR rfl rfl ?_
  | refine Zv1 rfl rfl ?_
  | refine ZqC rfl rfl ?_
  | refine Zjk rfl rfl ?_
  | refine Zrf rfl rfl ?_
  | refine Zre rfl rfl rfl rfl ?_
  | refine Zm1 ?_
  | refine Zm2 (by kernel_rfl) ?_
  | refine ZnP ?_
  | refine Zkq ?_
  | refine ZnQ ?_
  | refine Zkr ?_
  | refine ZnO ?_
  | refine ZnR ?_
  | refine ZiX ?_
  | refine Zrg ?_
  | refine bk_other rfl ?_
  | refine ZnS ?_
  | refine Zrh ?_
  | refine jk_exit ?_
  | refine ZsV ?_
  | refine pws_label ?_))
 (exact k)):p:=h k
theorem Zl8 {P:Program} [WInv P] {β:Type} {F:Option β} {R:β->PV} {f:FuncId} {fn:Func} {c:Code} {args:List PV} {r:β} (hF:F=some r) (hmix:P.follows .mixedOrders=true) (hf:P.funcs[f]? = some fn) (hg:isGo P f=true) (hb:fn.body=some c) (hok:(decide (args.length<=fn.ntmps)&&ZaY fn.ntmps c)=true)
  (h:∀ r,F=some r->PWs P [c] (Zyk P fn.results.toList (R r)) (mkS (ZeN 0 args) [] 1)):Zb P f args (R r):=Zbe hmix hf hg hb hok (h r hF)
open Go.RowKit
def ZsZ (op:BinOp) (k:IntKind) (a b:Int):Int:=match op with | .and=>k.wrap (BitVec.ofInt k.bits a &&& BitVec.ofInt k.bits b).toNat | .or=>k.wrap (BitVec.ofInt k.bits a ||| BitVec.ofInt k.bits b).toNat | .xor=>k.wrap (BitVec.ofInt k.bits a ^^^ BitVec.ofInt k.bits b).toNat | _=>k.wrap (BitVec.ofInt k.bits a &&& ~~~BitVec.ofInt k.bits b).toNat
def ZmW (k:IntKind) (a b:Int):Option Int:=if b<0 then none else some (a.fdiv (2 ^ (min b.toNat k.bits)))
section
variable {P:Program} [WInv P] {ops:Array Oper} {draw:Bool} {i:Nat} {L:List Oper} {acc:List (List Nat×List Nat)} {K:FS->Prop} {tm:List (Nat×PV)} {ob:List (Nat×Option (Gen×VObj))} {ng:Nat}
 {d:Option Tmp} {ty T T':TypeId} {pos:String} {after:Array Edge} {gd:Option (Nat×Bool)} {x y:Operand}
theorem Zil (hw:Zo ops (mkS tm ob ng) ⟨d,.binOp .shr T x y T',ty,pos,after,gd⟩=some true) {k k':IntKind} {a b c:Int} (hs:ZmW k a b=some c) (hx:evL tm x = .int k a) (hy:evL tm y = .int k' b)
  (kk:GoL P ops draw (i+1) L (acc ++ [(ZG (mkS tm ob ng) ⟨d,.binOp .shr T x y T',ty,pos,after,gd⟩,[])]) (mkS (Zbt d (.int k c) tm) ob ng) K):GoL P ops draw i (⟨d,.binOp .shr T x y T',ty,pos,after,gd⟩::L) acc (mkS tm ob ng) K:=by{
unfold ZmW at hs
split at hs
cases hs
injection hs with hs
subst hs
exact Zzv hw hx hy (by assumption) kk}
end
theorem Za4 {P:Program} [WInv P] {β:Type} {F:Option β} {R:β->PV} {O:β->List PV} {f:FuncId} {fn:Func} {c:Code} {args:List PV} {j:Nat} {os:List PV} {r:β} (hF:F=some r) (hmix:P.follows .mixedOrders=true) (hf:P.funcs[f]? = some fn) (hg:isGo P f=true) (hb:fn.body=some c) (hok:(decide (args.length<=fn.ntmps)&&ZaY fn.ntmps c)=true)
  (h:∀ r,F=some r->PWs P [c] (Zz3 P fn.results.toList (R r) j (O r)) (mkS (ZeN 0 args) [(j,some ((0,j),.box os))] 1)):Contract P f args (some (j,os)) (R r) (O r):=Znu hmix hf hg hb hok (h r hF)
open Go.RowKit
theorem Zn {n:Int} (h1 : -9223372036854775808<=n:=by omega) (h2:n<=9223372036854775807:=by omega):w64 n=n:=by
 show IntKind.wrap .i64 n=n
 rw [IntKind.wrap_i64]
 omega
theorem Zed {α:Type} {l:List α} {n:Nat} {e:α} (h:l[n]? = some e):atI l (n:Int)=some e:=by rw [Zan,h]
theorem Zxl {α:Type} {w:Nat} {a b:List α} (h:(a.length+b.length) * w<=140737488355328) (h2:a.length+b.length<=9223372036854775807):Zbo w a b=some (a++b):=by
 unfold Zbo
 rw [if_pos ⟨h,h2⟩]
theorem Zth {α:Type} {w:Nat} {a b:List α} (n:Nat) (h:a.length+b.length<=n) (h2:n * w<=140737488355328) (h3:n<=9223372036854775807):Zbo w a b=some (a++b):=
 Zxl (Nat.le_trans (Nat.mul_le_mul_right w h) h2) (Nat.le_trans h h3)
theorem Zxm {a b:ByteArray} (h:a.size+b.size<=9223372036854775807):Zl6 a b=some (a++b):=by
 unfold Zl6
 rw [if_pos h]
theorem Zti {α:Type} {l:List α} {a b:Nat} (h1:a<=b) (h2:b<=l.length):Zgj l (a:Int) (b:Int)=some ((l.drop a).take (b-a)):=by
 unfold Zgj
 rw [if_pos ⟨by omega,by omega,by omega⟩]
 rfl
theorem Ztj {α:Type} {l:List α} {a:Nat} (h2:a<=l.length):Zgj l (a:Int) (l.length:Int)=some (l.drop a):=by
 rw [Zti h2 (Nat.le_refl _),List.take_of_length_le (by simp)]
theorem Zxn {α:Type} {l:List α} {a:Nat} (h2:a<=l.length):Zgj l 0 (a:Int)=some (l.take a):=by
 rw [show (0:Int)=((0:Nat):Int) from rfl,Zti (Nat.zero_le _) h2]
 simp
theorem Zmj {s:ByteArray} {n:Nat} (h:n<s.size):atS s (n:Int)=some ((s[n]).toNat:Int):=by
 unfold atS
 rw [if_pos (by omega)]
 simp [h]
theorem Zk4 {α:Type} {l:List α} {n:Nat} {e:α} (h:l[n]? = some e):l.drop n=e::l.drop (n+1):=by
 obtain ⟨hlt,he⟩:=List.getElem?_eq_some_iff.1 h
 rw [List.drop_eq_getElem_cons hlt,he]
open Go.RowKit
class GlobT (P:Program) [WInv P] (g:Nat) (cs:outParam (List PV)):Prop where
 eq:∀ W,WInv.I P W->∀ (j:Nat) (q:PV),cs[j]? = some q->∃ u,W.cell? ⟨g,j,none⟩=some u/\∀ x:Ctx,Rep x q u
section
variable {P:Program} [WInv P] {ops:Array Oper} {draw:Bool} {i:Nat} {L:List Oper} {acc:List (List Nat×List Nat)} {K:FS->Prop} {tm:List (Nat×PV)} {ob:List (Nat×Option (Gen×VObj))} {ng:Nat}
 {d:Option Tmp} {ty T:TypeId} {pos:String} {after:Array Edge} {gd:Option (Nat×Bool)}
theorem Zvt {g:Nat} {cs:List PV} [hg:GlobT P g cs] {r:Run} {o:Oper} {s:FS} {ti:TI} {p:PV} (ho:o.op = .load T (.global g)) (ht:tyI P T=some ti) (hp:Zk7 ti cs=some p) (hI:r.I=WInv.I P):OpOK P r o i s ⟨p,[]⟩:=by{
intro S a x Q hX hi hd
have hw:WInv.I P x.W:=by rw [<- hI];exact hX.inv.1 _ hX.gr
obtain ⟨v,h1,h2⟩:=Zd0 (x:=x) (b:=g) (off:=0) ht (fun j q hq=>by
 obtain ⟨u,h3,h4⟩:=hg.eq _ hw j q hq
 exact ⟨u,by rw [Nat.zero_add];exact h3,h4 x⟩) hp
refine ZN (v:=v) (W':=x.W) ?_ (hX.val hd h2)
unfold execOp
rw [ho]
simp [Act.eval,h1]}
theorem Zxr {g:Nat} {cs:List PV} [GlobT P g cs] {agg:Bool} {n:Nat} [h:Ld P T agg n] (hw:Zo ops (mkS tm ob ng) ⟨d,.load T (.global g),ty,pos,after,gd⟩=some true) {v:PV} (hv:ZpG agg n cs=some v)
  (k:GoL P ops draw (i+1) L (acc ++ [(ZG (mkS tm ob ng) ⟨d,.load T (.global g),ty,pos,after,gd⟩,[])]) (mkS (Zbt d v tm) ob ng) K):GoL P ops draw i (⟨d,.load T (.global g),ty,pos,after,gd⟩::L) acc (mkS tm ob ng) K:=by{
obtain ⟨ti,ht,h1,h2⟩:=ZmZ (P:=P) (T:=T) (agg:=agg) (n:=n)
refine Zgp (u:=⟨v,[]⟩) (.any hw fun s' r hA hI=>Zvt (cs:=cs) rfl ht (by rw [ZpH h1 h2];exact hv) hI) ?_
rw [ZbD]
exact k}
end
def Tot {α:Type} (x:Option α) (Q:α->Prop):Prop:=∃ v,x=some v/\Q v
section
variable {α β γ:Type}
theorem Tot.mono {x:Option α} {Q R:α->Prop} (h:Tot x Q) (g:∀ v,Q v->R v):Tot x R:=by
 obtain ⟨v,h1,h2⟩:=h
 exact ⟨v,h1,g v h2⟩
theorem Zc {v:α} {Q:α->Prop} (h:Q v):Tot (some v) Q:=⟨v,rfl,h⟩
theorem Zwl {x:Option α} {v:α} {Q:α->Prop} (e:x=some v) (h:Q v):Tot x Q:=⟨v,e,h⟩
theorem Zh {x:Option α} {f:α->Option β} {Q:α->Prop} {R:β->Prop} (h:Tot x Q) (k:∀ v,Q v->Tot (f v) R):Tot (x.bind f) R:=by
 obtain ⟨v,h1,h2⟩:=h
 obtain ⟨r,h3,h4⟩:=k v h2
 exact ⟨r,by rw [h1];exact h3,h4⟩
theorem Za {x:Option α} {f:α->Option β} {v:α} {R:β->Prop} (h:x=some v) (k:Tot (f v) R):Tot (x.bind f) R:=by
 rw [h];exact k
theorem Zbj {b:Bool} {x y:Option β} {R:β->Prop} (h1:b=true->Tot x R) (h2:b=false->Tot y R):Tot (if b=true then x else y) R:=by
 cases b
 exact h2 rfl
 exact h1 rfl
theorem Zd {p:Prop} [Decidable p] {x y:Option β} {R:β->Prop} (h1:p->Tot x R) (h2:¬ p->Tot y R):Tot (if decide p=true then x else y) R:=by
 by_cases h:p
 rw [if_pos (decide_eq_true h)];exact h1 h
 rw [if_neg (by simpa using h)];exact h2 h
theorem Zak {p:Prop} [Decidable p] {x y:Option β} {R:β->Prop} (h1:¬ p->Tot x R) (h2:p->Tot y R):Tot (if (!decide p)=true then x else y) R:=by
 by_cases h:p
 rw [if_neg (by simpa using h)];exact h2 h
 rw [if_pos (by simpa using h)];exact h1 h
theorem Zw {k:γ} {f:γ->Option β} {R:β->Prop} (S:γ->Prop) (hk:S k) (hf:∀ q,S q->Tot (f q) R):Tot (letk k f) R:=hf k hk
theorem Zap {k:γ} {f:γ->Option β} {R:β->Prop} (h:Tot (f k) R):Tot (letk k f) R:=h
theorem Zr {F:(α->Option β)->α->Option β} {a:α} {R:β->Prop} (J:α->Prop) (m:α->Nat) (h0:J a) (hm:m a<=4611686018427387900) (h:∀ a rec,J a->(∀ a',J a'->m a'<m a->Tot (rec a') R)->Tot (F rec a) R):Tot (ZE Zaq F a) R:=
 Zpw J m R h Zaq a h0 (by unfold Zaq;omega)
theorem Zq {l:List α} {i:Int} {f:α->Option β} {R:β->Prop} (h0:0<=i) (h1:i<(l.length:Int)) (k:∀ e,e ∈ l->l[i.toNat]? = some e->Tot (f e) R):Tot ((atI l i).bind f) R:=by{
obtain ⟨n,rfl⟩:∃ n:Nat,i=(n:Int):=⟨i.toNat,by omega⟩
have hl:n<l.length:=by omega
have e:l[n]? = some l[n]:=List.getElem?_eq_getElem hl
refine Za (v:=l[n]) (Zed e) (k _ (List.getElem_mem hl) (by simp))}
theorem Zxs {s:ByteArray} {i:Int} {f:Int->Option β} {R:β->Prop} (h0:0<=i) (h1:i<(s.size:Int)) (k:∀ c:Int,0<=c->c<256->atS s i=some c->Tot (f c) R):Tot ((atS s i).bind f) R:=by{
obtain ⟨n,rfl⟩:∃ n:Nat,i=(n:Int):=⟨i.toNat,by omega⟩
have hl:n<s.size:=by omega
refine Za (Zmj hl) (k _ (by omega) ?_ (Zmj hl))
have:=(s[n]).toNat_lt
omega}
theorem ZiB {l:List α} {a b:Int} {f:List α->Option β} {R:β->Prop} (h0:0<=a) (h1:a<=b) (h2:b<=(l.length:Int)) (k:∀ m:List α,m=(l.drop a.toNat).take (b.toNat-a.toNat)->(m.length:Int)=b-a->Tot (f m) R):Tot ((Zgj l a b).bind f) R:=by
 refine Za (v:=(l.drop a.toNat).take (b.toNat-a.toNat)) (by unfold Zgj;rw [if_pos ⟨h0,h1,h2⟩]) (k _ rfl ?_)
 simp
 omega
theorem Zq2 {s:ByteArray} {a b:Int} {f:ByteArray->Option β} {R:β->Prop} (h0:0<=a) (h1:a<=b) (h2:b<=(s.size:Int)) (k:∀ m:ByteArray,m=s.extract a.toNat b.toNat->(m.size:Int)=b-a->Tot (f m) R):Tot ((Zff s a b).bind f) R:=by
 refine Za (v:=s.extract a.toNat b.toNat) (by unfold Zff;rw [if_pos ⟨h0,h1,h2⟩]) (k _ rfl ?_)
 rw [ByteArray.size_extract]
 omega
theorem ZC {w:Nat} {a b:List α} {f:List α->Option β} {R:β->Prop} (n:Nat) (h:a.length+b.length<=n) (h2:n * w<=140737488355328) (h3:n<=9223372036854775807) (k:Tot (f (a++b)) R):Tot ((Zbo w a b).bind f) R:=
 Za (Zth n h h2 h3) k
theorem ZfX {a b:ByteArray} {f:ByteArray->Option β} {R:β->Prop} (h:a.size+b.size<=9223372036854775807) (k:(a++b).size=a.size+b.size->Tot (f (a++b)) R):Tot ((Zl6 a b).bind f) R:=
 Za (Zxm h) (k (by rw [ByteArray.size_append]))
theorem Zq3 {k:IntKind} {a b:Int} {f:Int->Option β} {R:β->Prop} (h:b≠0) (g:Tot (f (Int.tmod a b)) R):Tot ((Zyi k a b).bind f) R:=
 Za (by unfold Zyi;rw [if_neg h]) g
theorem Zvu {k:IntKind} {a b:Int} {f:Int->Option β} {R:β->Prop} (h:b≠0) (g:Tot (f (k.wrap (Int.tdiv a b))) R):Tot ((Zyx k a b).bind f) R:=
 Za (by unfold Zyx;rw [if_neg h]) g
theorem Znf {k:IntKind} {a b:Int} {f:Int->Option β} {R:β->Prop} (h:0<=b) (g:Tot (f (a.fdiv (2 ^ (min b.toNat k.bits)))) R):Tot ((ZmW k a b).bind f) R:=
 Za (by unfold ZmW;rw [if_neg (by omega)]) g
end
open Go.RowKit
theorem ZlA {h:PV->Option PV}:∀ {a b a' b':List PV},ZhE h a=some a'->ZhE h b=some b'->ZhE h (a++b)=some (a'++b')
 | [],b,a',b',h1,h2=>by
   injection h1 with h1
   subst h1
   exact h2
 | p::ps,b,a',b',h1,h2=>by
   simp only [ZhE] at h1
   split at h1
   rename_i q qs e1 e2
   injection h1 with h1
   subst h1
   show (match h p,ZhE h (ps++b) with
    | some q,some qs=>some (q::qs)
    | _,_=>none)=_
   rw [e1,ZlA e2 h2]
   rfl
   cases h1
theorem ZlB {f:Nat->Option (Gen×VObj)}:∀ (L:List (List PV)),ZhE (Zph f) (L.map PV.cel)=some (L.map PV.cel)
 | []=>rfl
 | cs::L=>by
   show (match Zph f (.cel cs),ZhE (Zph f) (L.map PV.cel) with
    | some q,some qs=>some (q::qs)
    | _,_=>none)=_
   rw [ZlB L]
   rfl
section
variable {P:Program} [WInv P] {ops:Array Oper} {draw:Bool} {i:Nat} {L:List Oper} {acc:List (List Nat×List Nat)} {K:FS->Prop} {tm:List (Nat×PV)} {ob:List (Nat×Option (Gen×VObj))} {ng:Nat}
 {d:Option Tmp} {ty:TypeId} {pos:String} {after:Array Edge} {gd:Option (Nat×Bool)}
theorem Zgd {e:Operand} {f:FuncId} {Lc:List (List PV)} {es:Array Operand} {ts:Array TypeId} {args1:List PV} {res:PV} (hc:Contract P f (args1++Lc.map .cel) none res []) (hw:Zo ops (mkS tm ob ng) ⟨d,.call ⟨.value e,es,ts⟩,ty,pos,after,gd⟩=some true)
  (hf:evL tm e = .fn f (Lc.map .cel)) (ha:ZhE (frz (ZI ob)) (es.toList.map (evL tm))=some args1) (hp:res.dry=true)
  (k:GoL P ops draw (i+1) L (acc ++ [(ZG (mkS tm ob ng) ⟨d,.call ⟨.value e,es,ts⟩,ty,pos,after,gd⟩,[])]) (mkS (Zbt d res tm) ob ng) K):GoL P ops draw i (⟨d,.call ⟨.value e,es,ts⟩,ty,pos,after,gd⟩::L) acc (mkS tm ob ng) K:=
 Zub hc hw hf ha (ZlB Lc) hp k
theorem Zuq {f g:FuncId} {Lc:List (List PV)} {es:Array Operand} {ts:Array TypeId} {pre pre':List PV} {res:PV} (hc:Contract P f (pre' ++ [.fn g (Lc.map .cel)]) none res []) (hw:Zo ops (mkS tm ob ng) ⟨d,.call ⟨.value (.func f),es,ts⟩,ty,pos,after,gd⟩=some true)
  (he:es.toList.map (evL tm)=pre ++ [.fn g (Lc.map .cel)]) (ha:ZhE (frz (ZI ob)) pre=some pre') (hp:res.dry=true)
  (k:GoL P ops draw (i+1) L (acc ++ [(ZG (mkS tm ob ng) ⟨d,.call ⟨.value (.func f),es,ts⟩,ty,pos,after,gd⟩,[])]) (mkS (Zbt d res tm) ob ng) K):GoL P ops draw i (⟨d,.call ⟨.value (.func f),es,ts⟩,ty,pos,after,gd⟩::L) acc (mkS tm ob ng) K:=by{
refine ZiV hc hw ?_ hp k
rw [he]
refine ZlA ha ?_
show (match (ZhE (Zph (ZI ob)) (Lc.map .cel)).map (PV.fn g),(some []:Option (List PV)) with
 | some q,some qs=>some (q::qs)
 | _,_=>none)=_
rw [ZlB]
rfl}
end
theorem Zid {P:Program} [WInv P] {β:Type} {F:Option β} {O:β->VObj} {f:FuncId} {fn:Func} {c:Code} {args:List PV} {r:β} (hF:F=some r) (hmix:P.follows .mixedOrders=true) (hf:P.funcs[f]? = some fn) (hg:isGo P f=true) (hb:fn.body=some c) (hok:(decide (args.length<=fn.ntmps)&&ZaY fn.ntmps c)=true)
  (h:∀ r,F=some r->PWs P [c] (ZAa P fn.results.toList (O r)) (mkS (ZeN 0 args) [] 1)):ContractN P f args (O r):=ZnN hmix hf hg hb hok (h r hF)
theorem Zbi {P:Program} [WInv P] {β:Type} {F:Option β} {R:β->PV} {O:β->List OC} {f:FuncId} {fn:Func} {c:Code} {args:List PV} {oc:List OC} {r:β} (hF:F=some r) (hmix:P.follows .mixedOrders=true) (hf:P.funcs[f]? = some fn) (hg:isGo P f=true) (hb:fn.body=some c) (hok:(decide (args.length<=fn.ntmps)&&ZaY fn.ntmps c&&decide (0<1000))=true) (hd:(R r).dry=true)
  (h:∀ r,F=some r->PWs P [c] (Zzx P fn.results.toList (R r) 0 (O r)) (mkS (ZeN 0 args) ((0,some ((0,0),.box (ZaX κ0 ν0 0 oc)))::ZeA κ0 ν0 0 oc) 1)):ContractP P f args 0 oc (R r) (O r):=ZnW hmix hf hg hb hok hd (h r hF)
theorem Zcm {P:Program} {s:FS} {rs:List ResultVar} {res:PV} {j:Nat} {oc':List OC} {ps cs:List PV} {oq:List (Nat×Gen×OC)} (h1:ZfE P s rs=some ps) (h2:Zfc ps=res) (h3:s.ob j=some ((0,j),.box cs)) (h4:Zsr s.ob cs=some oq) (h5:okK j oq=true) (h6:oq.map (·.2.2)=oc'):Zzx P rs res j oc' .normal s:=⟨ps,cs,oq,h1,h2,h3,h4,h5,h6⟩
open Go.RowKit
open Go.RowKit Go.ChangeMaps
open Go.RowKit
end VL
section
open VL
instance:VL.StrT Tryz.prog 9:=⟨by kernel_rfl⟩
structure SrcF where
 l:List Int
 pos:Int
 seed:Int
def SrcF.cs (x:SrcF):List PV:=[.sl (List.map csI x.l),.int .i64 x.pos,.int .u64 x.seed]
structure Item where
 title:Title
 number:Int
 user:ByteArray
 note:ByteArray
 minute:Int
 deriving DecidableEq
def Item.cs (x:Item):List PV:=[.int .i64 x.title.space,.str x.title.name,.int .i64 x.number,.str x.user,.str x.note,.int .i64 x.minute]
structure Num where
 item:Item
 seq:Int
def Num.cs (x:Num):List PV:=[.int .i64 x.item.title.space,.str x.item.title.name,.int .i64 x.item.number,.str x.item.user,.str x.item.note,.int .i64 x.item.minute,.int .i64 x.seq]
def Num.pv (x:Num):PV:=.agg x.cs
structure Ent where
 seq:Int
 item:Item
def Ent.cs (x:Ent):List PV:=[.int .i64 x.seq,.int .i64 x.item.title.space,.str x.item.title.name,.int .i64 x.item.number,.str x.item.user,.str x.item.note,.int .i64 x.item.minute]
def Ent.pv (x:Ent):PV:=.agg x.cs
structure Edit where
 kind:Int
 lines:List ByteArray
def Edit.cs (x:Edit):List PV:=[.int .i64 x.kind,.sl (List.map csS x.lines)]
structure Script where
 edits:List Edit
 deleted:List ByteArray
 insert:List ByteArray
 kept:List ByteArray
instance:VL.GlobT Tryz.prog 0 [.int .i64 5,.str ⟨#[80,111,108,105,99,121]⟩]:=⟨fun W h j q hq=>by
 match j,hq with
 | 0,hq=>injection hq with hq;subst hq;exact ⟨_,h.2.1,fun _=>.int _ _⟩
 | 1,hq=>injection hq with hq;subst hq;exact ⟨_,h.2.2,fun _=>.str _⟩
 | j+2,hq=>simp at hq⟩
end
namespace VL
theorem Zn8 (σ:List (Gen×Gen)):∀ (L:List (List PV)),ZoB σ (L.map PV.cel)=some (L.map PV.cel)
 | []=>rfl
 | cs::L=>by
   show (match ZqY σ (.cel cs),ZoB σ (L.map PV.cel) with
    | some q,some qs=>some (q::qs)
    | _,_=>none)=_
   rw [Zn8 σ L]
   rfl
theorem Zij (σ:List (Gen×Gen)) (f:FuncId) (L:List (List PV)):Zyj σ (.fn f (L.map PV.cel))=some (.fn f (L.map PV.cel)):=by
 show (ZoB σ (L.map PV.cel)).map (PV.fn f)=_
 rw [Zn8]
 rfl
open Go.RowKit
def neL {α:Type}:List α->Option Unit | []=>none | _::_=>some ()
section
variable {P:Program} [WInv P] {ops:Array Oper} {o:Oper} {i:Nat} {s:FS} {T T':TypeId}
theorem ZsJ {E:TypeId} {x:Operand} {e:List PV} {els:List (List PV)} (hT:P.underlying T=some (.slice E)) (hw:Zo ops s o=some true) (ho:o.op = .binOp .eql T x (.const (.slice none 0 0)) T') (hx:ev s x = .sl (e::els)):OpR P ops i o s ⟨.bool false,[]⟩:=.any hw fun s' r hA hI=>by
 have e1:ev s x=ev s' x:=hA.ev x (by rw [ho];simp [Op.operands])
 intro S a y Q hX hi hd
 have hr:=Zae hX x
 rw [<- e1,hx] at hr
 generalize hv:a.eval x=v at hr
 cases hr with
 | sl _ A n c k b off f hn hc hm hk hA' hcell hh=>
   have hA2:=hA' (by rw [hn];simp)
   subst hA2
   refine ZN (v:=.bool false) (W':=y.W) ?_ (hX.val hd (.bool false))
   have hq:=Lib.run_eql_slice_nil (P:=P) y.W T E (some ⟨b,off,none⟩) n c 0 0 hT
   unfold execOp
   rw [ho]
   simp only [binOp] at hq ⊢
   simp_all [Act.eval,eqGuard]
   generalize Sem.run P (Op.equal T (Value.slice (some ⟨b,off,none⟩) (els.length+1) c) (Value.slice none 0 0)) y.W=R at hq ⊢
   cases R<;>simp_all [Result.andThen]
end
section
variable {P:Program} [WInv P] {ops:Array Oper} {draw:Bool} {i:Nat} {L:List Oper} {acc:List (List Nat×List Nat)} {K:FS->Prop} {tm:List (Nat×PV)} {ob:List (Nat×Option (Gen×VObj))} {ng:Nat}
 {d:Option Tmp} {ty T T':TypeId} {pos:String} {after:Array Edge} {gd:Option (Nat×Bool)} {x:Operand}
theorem ZsK {E kk by_:Nat} {z:List PV} [h:Sl P T E kk by_ z] {α:Type} {f:α->List PV} {M:List α} {u:Unit} (hw:Zo ops (mkS tm ob ng) ⟨d,.binOp .eql T x (.const (.slice none 0 0)) T',ty,pos,after,gd⟩=some true) (hne:neL M=some u) (hx:evL tm x = .sl (M.map f))
  (k:GoL P ops draw (i+1) L (acc ++ [(ZG (mkS tm ob ng) ⟨d,.binOp .eql T x (.const (.slice none 0 0)) T',ty,pos,after,gd⟩,[])]) (mkS (Zbt d (.bool false) tm) ob ng) K):GoL P ops draw i (⟨d,.binOp .eql T x (.const (.slice none 0 0)) T',ty,pos,after,gd⟩::L) acc (mkS tm ob ng) K:=by{
cases M with
| nil=>cases hne
| cons m M=>
  obtain ⟨ti,h1,h2⟩:∃ E,P.underlying T=some (.slice E)/\True:=by
   have:=h.eq
   unfold slI at this
   split at this
   rename_i ht
   obtain ⟨_,_,q,_⟩:=ZR ht
   exact ⟨_,q,trivial⟩
   simp at this
  refine Zgp (u:=⟨.bool false,[]⟩) (ZsJ h1 hw rfl (by rw [Zai];exact hx)) ?_
  rw [ZbD]
  exact k}
end
theorem Zcy {p q:Prop} (k:q) (h:q->p:=by
 (intro k)
 (repeat (first
  | refine Zmb rfl rfl rfl ?_
  | refine ZqP rfl (by (conv=>lhs;whnf);try rfl) ?_
  | refine Zkg rfl (by (conv=>lhs;whnf);try rfl) ?_
  | refine ZfO rfl rfl ?_
  | refine ZrE rfl rfl rfl rfl (by (conv=>lhs;whnf);try rfl) ?_
  | refine Zu3 rfl rfl rfl rfl (by (conv=>lhs;whnf);try rfl) ?_
  | refine Zin rfl rfl rfl ?_
  | refine ZkS rfl rfl rfl (by (conv=>lhs;whnf);try rfl) (by (conv=>lhs;whnf);try rfl) (by rfl) (by rfl) (Nat.le_of_ble_eq_true rfl) (by (conv=>lhs;whnf);try rfl) ?_
  | refine ZhP rfl rfl ?_
  | refine ZsW rfl rfl ?_
  | refine Zu4 rfl rfl ?_
  | refine ZqQ rfl rfl (by (conv=>lhs;whnf);try rfl) ?_
  | refine Zm0 rfl rfl rfl ?_
  | refine Zu2 rfl (by (conv=>lhs;whnf);try rfl) (by (conv=>lhs;whnf);try rfl) (by rfl) ?_
  | refine ZkR rfl rfl ?_
  | refine Zv1 rfl rfl ?_
  | refine ZqC rfl rfl ?_
  | refine Zrf rfl rfl ?_
  | refine Zre rfl rfl rfl rfl ?_
  | refine Zm1 ?_
  | refine Zm2 (by kernel_rfl) ?_
  | refine ZnP ?_
  | refine Zkq ?_
  | refine ZnQ ?_
  | refine Zkr ?_
  | refine ZnO ?_
  | refine ZnR ?_
  | refine ZiX ?_
  | refine Zrg ?_
  | refine bk_other rfl ?_
  | refine ZnS ?_
  | refine Zrh ?_
  | refine jk_exit ?_
  | refine ZsV ?_
  | refine pws_label ?_))
 (exact k)):p:=h k
open Go.RowKit
section
variable {P:Program} {r:Run} {o:Oper} {i:Nat} {s:FS}
theorem Zvv {S:Nat->Prop} {a:Act} {x:Ctx} (hX:RstX r S s a x) (hi:¬ S i) {d:Nat} (hd:d<r.N) {E k c:Nat} {vs:Array Value} (hl:vs.size=c * k) (hm:c<=9223372036854775807) :
  ∃ y:Ctx,y.W=x.W.alloc (.cells vs E)/\RstX r (fun j=>S j\/j=i) (s.app (some d) ⟨.row d (s.ng,i),[(d,some ((s.ng,i),.row E k false []))]⟩) (a.put (some d) (.slice (some ⟨x.W.heap.size,0,none⟩) 0 c)) y:=by{
have hold:∀ b,b<x.W.heap.size->(x.W.alloc (.cells vs E)).heap[b]? = x.W.heap[b]?:=fun b hb=>heap_alloc_old x.W _ hb
refine hX.newObj hi (fun k hk=>by cases hk;exact hd) rfl rfl rfl (by simp) (fun b hb _=>hold b hb) (fun b o v hF hv=>?_) (v0:=.slice (some ⟨x.W.heap.size,0,none⟩) 0 c) (fun b hb=>.inl ?_) (fun y st hF hW hρ=>?_) (fun y st hW hG hρ=>?_)
rw [World.cell?_of_block (hold b (hX.flt b o hF))];exact hv
have:x.W.heap.size=b:=by simpa [blk] using hb
omega
refine ⟨fun e he=>(by cases he),fun e he=>(by cases he),[],?_,fun m p v hpp hv=>(by simp at hpp),fun b hb=>⟨.inl ?_,fun o ho=>?_⟩⟩
rw [hρ,hW]
exact ⟨by simp,.inr ⟨x.W.heap.size,c,vs,rfl,Nat.zero_le _,heap_alloc_new x.W _,Nat.zero_le _,by unfold maxLen;omega,hl,by simp⟩⟩
rw [hρ] at hb
have e:x.W.heap.size=b:=by simpa [blk] using hb
rw [<- e]
exact hX.gr.size
rw [hρ] at hb
rw [hF] at ho
have e:x.W.heap.size=b:=by simpa [blk] using hb
have:=hX.flt b o ho
change b<x.W.heap.size at this
omega
exact .row d (s.ng,i) _ _ _ hG hρ}
theorem Zvw {T E d:Nat} {e e':Operand} {te:TI} {sz b:Nat} {zz:List PV} {c:Nat} {kl kc:IntKind} (ho:o.op = .makeSlice T e e') (hdst:o.dst=some d) (ht:tyI P T=some ⟨.slice E,sz,b,zz⟩) (hte:tyI P E=some te) (hl:ev s e = .int kl 0) (hc:ev s e' = .int kc (c:Int)) (hb:te.bytes * c<=281474976710656) (hm:c<=9223372036854775807) :
  OpOK P r o i s ⟨.row d (s.ng,i),[(d,some ((s.ng,i),.row E te.size false []))]⟩:=by{
intro S a x Q hX hi hd
obtain ⟨inf,zv,h1,_⟩:=ZR ht
obtain ⟨inf',z',h1',h2',h3',h4',h5',h6'⟩:=ZR hte
have q1:a.eval e = .int kl 0:=by
 have:=Zae hX e
 rw [hl] at this
 generalize a.eval e=v at this
 cases this
 rfl
have q2:a.eval e' = .int kc (c:Int):=by
 have:=Zae hX e'
 rw [hc] at this
 generalize a.eval e'=v at this
 cases this
 rfl
have hrun:=run_make (P:=P) (w:=x.W) T E inf' z' h1 h2' h3' kl kc 0 c (Int.le_refl _) (by omega) (by
 rw [h5',<- Int.natCast_mul];omega) (by omega)
simp only [Int.toNat_natCast,Int.toNat_zero,h4'] at hrun
obtain ⟨y,hy1,hy2⟩:=Zvv hX hi (hd d hdst) (E:=E) (k:=te.size) (c:=c) (vs:=madeCells z'.cells (c * te.size)) (size_madeCells _ _) hm
rw [hdst]
refine ZN (v:=.slice (some ⟨x.W.heap.size,0,none⟩) 0 c) (W':=x.W.alloc (.cells (madeCells z'.cells (c * te.size)) E)) ?_ ⟨y,hy1,by rw [hdst];exact hy2⟩
unfold execOp
rw [ho]
simp [q1,q2,hrun]}
end
def Zxt (w:Nat) (c:Int):Option Unit:=if 0<=c/\c * (w:Int)<=281474976710656/\c<=9223372036854775807 then some () else none
section
variable {P:Program} [WInv P] {ops:Array Oper} {draw:Bool} {i:Nat} {L:List Oper} {acc:List (List Nat×List Nat)} {K:FS->Prop} {tm:List (Nat×PV)} {ob:List (Nat×Option (Gen×VObj))} {ng:Nat}
 {d:Nat} {ty T:TypeId} {pos:String} {after:Array Edge} {gd:Option (Nat×Bool)} {x y:Operand}
theorem Zxu {α:Type} (f:α->List PV) {E kk by_:Nat} {z:List PV} [Sl P T E kk by_ z] {kl:IntKind} {c:Int} {u:Unit} (hw:Zo ops (mkS tm ob ng) ⟨some d,.makeSlice T x y,ty,pos,after,gd⟩=some true) (hx:evL tm x = .int kl 0) {kc:IntKind} (hy:evL tm y = .int kc c) (hs:Zxt by_ c=some u)
  (k:GoL P ops draw (i+1) L (acc ++ [(ZG (mkS tm ob ng) ⟨some d,.makeSlice T x y,ty,pos,after,gd⟩,[d])]) (mkS ((d,.row d (ng,i))::tm) ((d,some ((ng,i),.row E kk false (List.map f [])))::ob) ng) K):GoL P ops draw i (⟨some d,.makeSlice T x y,ty,pos,after,gd⟩::L) acc (mkS tm ob ng) K:=by{
obtain ⟨s1,b,zz,te,q1,q2,q3,q4,q5,q6,q7⟩:=Ze6 (P:=P) (T:=T) (E:=E) (k:=kk) (by_:=by_) (z:=z)
unfold Zxt at hs
split at hs
rename_i hc
refine Zgp (u:=⟨.row d (ng,i),[(d,some ((ng,i),.row E kk false []))]⟩) (.any hw fun s' r hA hI=>?_) ?_
have e1:ev s' x = .int kl 0:=by rw [<- hA.ev x (by simp [Op.operands])];exact (congrFun (Zai tm ob ng) x).trans hx
have e2:ev s' y = .int kc ((c.toNat:Nat):Int):=by rw [<- hA.ev y (by simp [Op.operands]),Int.toNat_of_nonneg hc.1];exact (congrFun (Zai tm ob ng) y).trans hy
have e3:s'.ng=ng:=hA.ng.symm
rw [<- e3,<- q3]
refine Zvw rfl rfl q1 q2 e1 e2 ?_ ?_
rw [q4]
have h1:=hc.2.1
have:((by_ * c.toNat:Nat):Int)<=281474976710656:=by rw [Int.natCast_mul,Int.toNat_of_nonneg hc.1,Int.mul_comm];exact h1
omega
have:=hc.2.2
omega
rw [ZbD]
exact k
cases hs}
end
theorem Ztp {P:Program} {y:Ctx} {l:List Int} {v:Value} (h:Rep y (.sl (l.map fun n=>[PV.int .u8 n])) v) {src E dst:TypeId} (hs:P.underlying src=some (.slice E)) (he:P.underlying E=some (.int .u8)) (hd:P.underlying dst=some .string) :
  (convert src dst v).run P y.W = .ok (.string (strOfNums l)) y.W:=by{
generalize hg:(l.map fun n=>[PV.int .u8 n])=els at h
cases h with
| sl _ A n c k b off f hn hc hm hk hA hcell hh=>
  have hln:n=l.length:=by rw [hn,<- hg,List.length_map]
  have hel:∀ (i:Nat) (m:Int),l[i]? = some m->els[i]? = some [PV.int .u8 m]:=fun i m hi=>by rw [<- hg,List.getElem?_map,hi];rfl
  have key:∀ a:Addr,A=some a->(loadCells a n).run P y.W = .ok (l.map (Value.int .u8)).toArray y.W:=fun a ha=>by
   have:=run_loadCells_list (P:=P) y.W a (l.map (Value.int .u8)) (fun j u hj=>by
    rw [List.getElem?_map,Option.map_eq_some_iff] at hj
    obtain ⟨m,hm1,rfl⟩:=hj
    have hjl:=(List.getElem?_eq_some_iff.1 hm1).1
    rw [hA (by omega)] at ha
    injection ha with ha
    subst ha
    have h1:=hel j m hm1
    have hk1:k=1:=by rw [<- hk _ (List.mem_of_getElem? h1)];rfl
    subst hk1
    obtain ⟨_,_,h2⟩:=hcell j 0 _ _ h1 rfl
    have h3:=hh j 0 _ _ h1 rfl
    have h4:f j 0 = .int .u8 m:=by
     generalize f j 0=w at h3
     cases h3
     rfl
    rw [h4] at h2
    have hadd:(⟨b,off,none⟩:Addr).add j=⟨b,off+j,none⟩:=by unfold Addr.add;split<;>simp_all
    rw [hadd]
    simpa using h2)
   simpa [hln] using this
  cases A with
  | none=>
    have:l = []:=by
     rcases Nat.eq_zero_or_pos n with h0 | h0
     exact List.eq_nil_of_length_eq_zero (by omega)
     have:=hA h0
     cases this
    subst this
    exact run_convert_bytes_nil y.W src E hs he n c dst hd
  | some a=>
    rw [run_convert_bytes_string y.W src dst E (some a) n c hs he hd,run_bytesToString y.W a n c l (key a rfl),foldl_push_bytes]
    simp [strOfNums,ByteArray.empty,ByteArray.emptyWithCapacity]
    rfl}
section
variable {P:Program} [WInv P] {ops:Array Oper} {draw:Bool} {i:Nat} {L:List Oper} {acc:List (List Nat×List Nat)} {K:FS->Prop} {tm:List (Nat×PV)} {ob:List (Nat×Option (Gen×VObj))} {ng:Nat}
 {d:Option Tmp} {ty T T':TypeId} {pos:String} {after:Array Edge} {gd:Option (Nat×Bool)} {x:Operand}
theorem Zng {E kk by_:Nat} {z:List PV} [Sl P T E kk by_ z] [hk:Kd P E .u8] [hs:StrT P T'] {l:List Int} (hw:Zo ops (mkS tm ob ng) ⟨d,.convert T T' x,ty,pos,after,gd⟩=some true) (hx:Zqt (ZI ob) (evL tm x)=some (.sl (l.map fun n=>[PV.int .u8 n])))
  (k:GoL P ops draw (i+1) L (acc ++ [(ZG (mkS tm ob ng) ⟨d,.convert T T' x,ty,pos,after,gd⟩,[])]) (mkS (Zbt d (.str (strOfNums l)) tm) ob ng) K):GoL P ops draw i (⟨d,.convert T T' x,ty,pos,after,gd⟩::L) acc (mkS tm ob ng) K:=by{
obtain ⟨s1,b,zz,te,q1,q2,q3,q4,q5,q6,q7⟩:=Ze6 (P:=P) (T:=T) (E:=E) (k:=kk) (by_:=by_) (z:=z)
obtain ⟨inf,zv,h1,_⟩:=ZR q1
refine Zgp (u:=⟨.str (strOfNums l),[]⟩) (.any hw fun s' r hA hI=>?_) ?_
intro S a c Q hX hi hd
have hm:x ∈ (Op.convert T T' x).operands:=by simp [Op.operands]
have e1:ev s' x=evL tm x:=by rw [<- hA.ev x hm];exact congrFun (Zai tm ob ng) x
have e2:Zqt s'.ob (ev s' x)=some (.sl (l.map fun n=>[PV.int .u8 n])):=by
 rw [<- Zhm (fun t ht=>hA.key1 hm rfl rfl t ht),e1]
 exact hx
have h3:=Zeh hX e2 (Zae hX x)
have hrun:=Ztp (P:=P) h3 (src:=T) (dst:=T') h1 hk.eq hs.eq
refine ZN (v:=.string (strOfNums l)) (W':=c.W) ?_ (hX.val hd (.str _))
unfold execOp
have hrun2:(convert T T' (a.eval x)).run P c.W = .ok (.string (strOfNums l)) c.W:=hrun
simp [hrun2]
rw [ZbD]
exact k}
end
open Go.RowKit
def Zxo:PV->Bool | .bool _ | .int _ _ | .str _=>true | .fn _ []=>true | _=>false
theorem Rep.flat {x y:Ctx} {p:PV} {v:Value} (hp:Zxo p=true) (h:Rep x p v):Rep y p v:=by{
cases h with
| bool b=>exact .bool b
| int k n=>exact .int k n
| str s=>exact .str s
| fn f ps cs hl hh=>
  cases ps with
  | nil=>exact .fn f [] cs hl fun i p v hp=>by simp at hp
  | cons=>cases hp
| _=>cases hp}
section
variable {P:Program} [WInv P] {r:Run} {ops:Array Oper} {o:Oper} {i:Nat} {s s':FS}
theorem Ztk {f:FuncId} {es:Array Operand} {ts:Array TypeId} {args:List PV} {dd:Nat} {ob:VObj} (ho:o.op = .call { callee:=.value (.func f),args:=es,argTypes:=ts })
  (ha:es.toList.map (ev s)=args) (hf:args.all Zxo=true) (hc:ContractN P f args ob) (hI:r.I=WInv.I P):OpOK P r o i s ⟨Zgi ob dd (s.ng,i),[(dd,some ((s.ng,i),ob))]⟩:=by{
intro S a x Q hX hi hd
let z:Ctx:=⟨fun _=>False,x.F,x.W,x.ρ⟩
have hlen:args.length=es.size:=by rw [<- ha];simp
have hpre:Pre z args none (es.map a.eval):=by
 refine ⟨by simpa using hlen,fun j p v hp hv=>?_,fun j os h=>by simp at h,fun g hg=>hg.elim,fun b o hb=>hX.flt b o hb⟩
 have hfl:=List.all_eq_true.1 hf p (List.mem_of_getElem? hp)
 rw [<- ha,List.getElem?_map,Option.map_eq_some_iff] at hp
 obtain ⟨e,he,rfl⟩:=hp
 rw [Array.getElem?_map,Option.map_eq_some_iff] at hv
 obtain ⟨e2,he2,rfl⟩:=hv
 rw [Array.getElem?_toList] at he
 rw [he] at he2
 injection he2 with he2
 subst he2
 exact (Zae hX e).flat hfl
have hcalls:=hc.calls z _ hpre fun W' hW=>by
 rw [<- hI]
 exact hX.inv.1 W' (hX.gr.trans' hW.os hW.tape hW.output hW.size fun b hb _=>hW.block b (Nat.lt_of_lt_of_le hb hX.gr.size) fun h=>h)
unfold Oper.wp
rw [Zew ho hc.isGo,Oper.upon_enter]
refine hcalls.mono ?_
rintro e W' ⟨y,v,rfl,rfl,hst,hgr,hfn,hfl,g0,hv,hob⟩
have hnew:¬ x.G (s.ng,i):=fun hg=>by
 rcases hX.gens _ hg with e | ⟨_,e⟩
 exact absurd e (Nat.lt_irrefl _)
 exact hi e
let y':Ctx:=⟨fun g=>x.G g\/g=(s.ng,i),y.F,y.W,fun g=>if g=(s.ng,i) then v else x.ρ g⟩
have hρ:y'.ρ (s.ng,i)=v:=if_pos rfl
have k:Step x y':=⟨fun g hg=>⟨.inl hg,if_neg (fun (e:g=(s.ng,i))=>hnew (by rw [<- e];exact hg))⟩,fun b o hb=>hst.F b o hb,fun b o v hb hv=>hst.W b o v hb hv⟩
have hob':∀ {B:Nat} {D:Nat->Prop},B<=x.W.heap.size->ObRep y' B D (s.ng,i) ob:=fun hB=>hob.newOf (hρ.trans hv.symm) rfl rfl hB hc.pure
refine ⟨y',rfl,?_⟩
refine hX.change k hd hgr.os hgr.tape hgr.output hgr.size (fun b hb _=>hgr.block b hb (fun e=>e)) hfn hfl (fun g hg=>?_) (.inr rfl) (hob' hX.gr.size) (fun b hb=>.inl ?_) (ZmD (hob' (Nat.le_refl _) (D:=fun _=>False)) (.inr rfl) hρ)
rcases hg with hg | rfl
exact (hX.gens g hg).imp id fun ⟨e,f⟩=>⟨e,.inl f⟩
exact .inr ⟨rfl,.inr rfl⟩
exact (((hob' (Nat.le_refl _) (D:=fun _=>False)).lt b hb).2).resolve_right fun e=>e}
end
section
variable {P:Program} [WInv P] {ops:Array Oper} {draw:Bool} {i:Nat} {L:List Oper} {acc:List (List Nat×List Nat)} {K:FS->Prop} {tm:List (Nat×PV)} {ob:List (Nat×Option (Gen×VObj))} {ng:Nat}
 {ty:TypeId} {pos:String} {after:Array Edge} {gd:Option (Nat×Bool)}
theorem Zvp {dd:Nat} {f:FuncId} {es:Array Operand} {ts:Array TypeId} {args:List PV} {o2:VObj} (hc:ContractN P f args o2) (hw:Zo ops (mkS tm ob ng) ⟨some dd,.call ⟨.value (.func f),es,ts⟩,ty,pos,after,gd⟩=some true)
  (ha:es.toList.map (evL tm)=args) (hf:args.all Zxo=true)
  (k:GoL P ops draw (i+1) L (acc ++ [(ZG (mkS tm ob ng) ⟨some dd,.call ⟨.value (.func f),es,ts⟩,ty,pos,after,gd⟩,[dd])])
   (mkS ((dd,Zgi o2 dd (ng,i))::tm) ((dd,some ((ng,i),o2))::ob) ng) K):GoL P ops draw i (⟨some dd,.call ⟨.value (.func f),es,ts⟩,ty,pos,after,gd⟩::L) acc (mkS tm ob ng) K:=by{
refine Zgp (u:=⟨Zgi o2 dd (ng,i),[(dd,some ((ng,i),o2))]⟩) (.any hw fun s' r hA hI=>?_) ?_
obtain ⟨e1,-⟩:=Zds rfl hA
have e3:s'.ng=ng:=hA.ng.symm
rw [<- e3]
exact Ztk rfl (by rw [e1,Zai];exact ha) hf hc hI
rw [ZbD]
exact k}
end
section
variable {P:Program} [WInv P] {α β:Type} {cs:List Code} {Q:Ex->FS->Prop} {s:FS} {tm:List (Nat×PV)} {ob:List (Nat×Option (Gen×VObj))} {ng:Nat}
theorem rg {draw:Bool} {id:Nat} {l:List Oper} {q:Prop} (k:q) (h:q->GoL P l.toArray draw 0 l [] s fun s'=>PWs P cs Q ⟨s'.tm,s'.ob,s'.ng+1⟩:=by
 (intro k)
 (refine Zf ?_)
 (exact k)):PWs P (.region id l.toArray draw::cs) Q s:=Zm (h k)
theorem bl {id:Nat} {c:Code} {q:Prop} (k:q) (h:q->PWs P [c] (Zpa id (PWs P cs Q) Q) s:=by
 (intro k)
 (refine Zf ?_)
 (exact k)):PWs P (.block id c::cs) Q s:=ZaP (h k)
theorem cS {A B:Option β} {r:β} {c:Operand} {x y:Code} {t:Bool} {q1 q2:Prop} (hF:(if t=true then A else B)=some r) (hc:evL tm c = .bool t) (k1:A=some r->q1) (k2:B=some r->q2)
  (h1:q1->PWs P (x::cs) Q (mkS tm ob ng):=by
 (intro k)
 (refine Zf ?_)
 (exact k)) (h2:q2->PWs P (y::cs) Q (mkS tm ob ng):=by
 (intro k)
 (refine Zf ?_)
 (exact k)):PWs P (.cond c x y::cs) Q (mkS tm ob ng):=
 Zav hc (fun h=>h1 (k1 (ifT h hF))) fun h=>h2 (k2 (ifF h hF))
theorem kS (t:Nat) {A B:Option β} {r:β} {ops:Array Oper} {draw:Bool} {i:Nat} {L:List Oper} {acc:List (List Nat×List Nat)} {K:FS->Prop} {b:Bool} {q1 q2:Prop} (hF:(if b=true then A else B)=some r) (hx:look tm t = .bool b) (k1:A=some r->q1) (k2:B=some r->q2)
  (h1:q1->GoL P ops draw i L acc (mkS ((t,.bool true)::tm) ob ng) K:=by
 (intro k)
 (refine Zf ?_)
 (exact k)) (h2:q2->GoL P ops draw i L acc (mkS ((t,.bool false)::tm) ob ng) K:=by
 (intro k)
 (refine Zf ?_)
 (exact k)):GoL P ops draw i L acc (mkS tm ob ng) K:=
 ZqI t hx (fun h=>h1 (k1 (ifT h hF))) fun h=>h2 (k2 (ifF h hF))
theorem cF {F:Option β} (R:β->PV) {f:FuncId} {fn:Func} {c:Code} {args:List PV} {r:β} (hF:F=some r) (hmix:P.follows .mixedOrders=true) (hf:P.funcs[f]? = some fn)
  (h:∀ r,F=some r->PWs P [c] (Zyk P fn.results.toList (R r)) (mkS (ZeN 0 args) [] 1)) (hg:isGo P f=true:=by kernel_rfl) (hb:fn.body=some c:=by exact rfl) (hok:(decide (args.length<=fn.ntmps)&&ZaY fn.ntmps c)=true:=by kernel_rfl):Zb P f args (R r):=
 Zl8 hF hmix hf hg hb hok h
omit [WInv P] in
theorem rQ {res:PV} {rs:List ResultVar} {ps qs:List PV} {us:List (Nat×Option (Gen×VObj))} (h1:ZfE P s rs=some ps:=by exact rfl) (h2:Ze5 s.ob ps=some (qs,us):=by exact rfl) (h3:Zfc qs=res:=by exact rfl):Zyk P rs res .ret s:=Zb8 h1 h2 h3
def sg (σ:List (Nat×Nat×Nat)):List (Gen×Gen):=σ.map fun q=>((1,q.1),q.2)
theorem sR (σ:List (Nat×Nat×Nat)) {tm':List (Nat×PV)} {ob':List (Nat×Option (Gen×VObj))} {ng':Nat} (h1:Ztg (sg σ) tm tm':=by
 (repeat (refine ⟨rfl,?_⟩))
 (exact trivial)) (h2:ZpU (sg σ) ob ob':=by
 (repeat (refine ⟨⟨rfl,rfl⟩,?_⟩))
 (exact trivial)) (h3:(decide (0<ng')&&(sg σ).all fun q=>decide (q.1.1<ng'))=true:=by exact rfl):Shift (mkS tm ob ng) (mkS tm' ob' ng'):=
 Zu (sg σ) h1 h2 h3
theorem jn {St:α->Nat->FS} {J:α->Prop} (a:α) (h1:J a) (h3:Shift s (St a 2)):Ztq St J Q .normal s:=Zao a 2 h1 h3
theorem rn {St:α->Nat->FS} {J:α->Prop} {m:α->Nat} {a:α} (a':α) (h1:J a') (h3:Shift s (St a' 2)) (h2:m a'<m a:=by exact Nat.lt_succ_self _):Zpb St J m a Q .normal s:=ZY a' 2 h1 h2 h3
theorem jL {K:α->Option β} {f:(α->Option β)->Option β} {r:β} {c c2:Code} {q1:(α->Option β)->Prop} {q2:α->Prop} (hF:letk K f=some r) (St:α->FS) (h1:∀ k,f k=some r->q1 k) (h2:∀ x,K x=some r->q2 x)
  (g1:∀ k:α->Option β,q1 k->PWs P [c] (Ztq (fun a _=>St a) (fun x=>k x=some r) Q) s:=by
 (intro k h)
 (refine Zf ?_)
 (exact h)) (g2:∀ x,q2 x->PWs P (c2::cs) Q (St x):=by
 (intro x h)
 (try dsimp only)
 (refine Zf ?_)
 (exact h)):PWs P (c::c2::cs) Q s:=
 Zax (fun a _=>St a) (fun x=>K x=some r) (g1 K (h1 K hF)) fun a _ hJ=>g2 a (h2 a hJ)
end
open Go.RowKit
def PV.dryF:PV->Bool | .fn _ ps=>ps.isEmpty | p=>p.dry1
theorem Rep.dryF {x y:Ctx} {p:PV} {v:Value} (h:Rep x p v) (hp:p.dryF=true):Rep y p v:=by{
cases h with
| fn f ps cs hl hh=>
  have:ps = []:=List.isEmpty_iff.1 hp
  subst this
  exact .fn f [] cs hl fun i p v hq=>by simp at hq
| bool b=>exact .bool b
| int k n=>exact .int k n
| str s=>exact .str s
| _=>simp [PV.dryF,PV.dry1] at hp}
def Dr (x:Ctx) (b:Nat):Prop:=blk (x.ρ (0,0))=some b
structure PreR (x:Ctx) (args:List PV) (E k:Nat) (els:List (List PV)) (vs:Array Value):Prop where
 size:args.length+1=vs.size
 rep:∀ (i:Nat) (p:PV) (v:Value),(PV.row 0 (0,0)::args)[i]? = some p->vs[i]? = some v->Rep x p v
 ob:x.G (0,0)/\ObRep x x.W.heap.size (Dr x) (0,0) (.row E k false els)
 gen:∀ g,x.G g->g.1=0
 flt:∀ b o,x.F b o->b<x.W.heap.size
structure PostR (x y:Ctx) (E k:Nat) (r:PV) (els':List (List PV)) (v:Value):Prop where
 step:Step x y
 gr:Gr (Dr x) x.W y.W
 fnew:∀ b o,y.F b o->x.F b o\/x.W.heap.size<=b\/Dr x b
 flt:∀ b o,y.F b o->b<y.W.heap.size
 rep:Rep y r v
 ob:ObRep y x.W.heap.size (Dr x) (0,0) (.row E k false els')
structure ContractR (P:Program) [WInv P] (f:FuncId) (args:List PV) (E k:Nat) (els:List (List PV)) (r:PV) (els':List (List PV)):Prop where
 isGo:VL.isGo P f=true
 calls:∀ (x:Ctx) (vs:Array Value),PreR x args E k els vs->(∀ W',Gr (Dr x) x.W W'->WInv.I P W')->Calls P f vs x.W fun e W'=>∃ y v,y.W=W'/\e = .returned v/\PostR x y E k r els' v
section
variable {P:Program} [WInv P] {r:Run} {ops:Array Oper} {o:Oper} {i:Nat} {s s':FS}
theorem ZvX {f:FuncId} {es:Array Operand} {ts:Array TypeId} {post:List PV} {t:Nat} {g:Gen} {E k:Nat} {els els':List (List PV)} {res res':PV} (ho:o.op = .call { callee:=.value (.func f),args:=es,argTypes:=ts })
  (he:es.toList.map (ev s) = .row t g::post) (hob:s.ob t=some (g,.row E k false els)) (hp:post.all PV.dryF=true) (hc:ContractR P f post E k els res els') (hres:res.dry=true/\res'=res\/res = .row 0 (0,0)/\res' = .row t g) (hI:r.I=WInv.I P):OpOK P r o i s ⟨res',[(t,some (g,.row E k false els'))]⟩:=by{
intro S a x Q hX hi hd
have hrep:∀ (j:Nat) (p:PV),(PV.row t g::post)[j]? = some p->Rep x p ((es.map a.eval).getD j undef):=fun j p hp=>by
 rw [<- he,List.getElem?_map] at hp
 cases he:es.toList[j]? with
 | none=>rw [he] at hp;simp at hp
 | some e=>
   rw [he] at hp
   simp only [Option.map_some,Option.some.injEq] at hp
   subst hp
   have hea:es[j]? = some e:=by simpa using he
   have:(es.map a.eval).getD j undef=a.eval e:=by simp [hea]
   rw [this]
   exact Zae hX e
obtain ⟨hG,hO⟩:=hX.ob t g _ hob
have hlt:=fun b hb=>hO.lt b hb
obtain ⟨q1,q2,vs2,q3,q4,q5⟩:=hO
let z:Ctx:=⟨fun g'=>g'=(0,0),x.F,x.W,fun _=>x.ρ g⟩
have hpre:PreR z post E k els (es.map a.eval):=by
 refine ⟨?_,fun j p v hj hv=>?_,⟨rfl,q1,q2,vs2,q3,fun m p v hm hv=>?_,fun b hb=>⟨.inr hb,(q5 b hb).2⟩⟩,fun g' e=>?_,hX.flt⟩
 have:=congrArg List.length he
 simp at this
 simp [this]
 cases j with
 | zero=>
   simp only [List.getElem?_cons_zero,Option.some.injEq] at hj
   subst hj
   have:=hrep 0 (.row t g) rfl
   rw [Array.getD_eq_getD_getElem?,hv] at this
   simp only [Option.getD_some] at this
   cases this with
   | row _ _ A n c _ hvv=>exact .row _ _ A n c rfl hvv
 | succ j=>
   have hj':post[j]? = some p:=by simpa using hj
   have:=hrep (j+1) p hj
   rw [Array.getD_eq_getD_getElem?,hv] at this
   exact Rep.dryF this (List.all_eq_true.1 hp p (List.mem_of_getElem? hj'))
 obtain ⟨e,he,hpe⟩:=List.mem_flatten.1 (List.mem_of_getElem? hm)
 exact (q4 m p v hm hv).pure_mono (q2 e he p hpe) (fun _ _ h=>h) (fun _ _ _ _ h=>h)
 rw [show g'=(0,0) from e]
have hbig:r.W0.heap.size<=x.W.heap.size:=hX.gr.size
have hcalls:=hc.calls z _ hpre fun W' hW=>by
 rw [<- hI]
 exact hX.inv.1 W' (hX.gr.trans' hW.os hW.tape hW.output hW.size fun b hb hD=>hW.block b (Nat.lt_of_lt_of_le hb hbig) fun e=>by
  rcases (hlt b e).2 with h | h
  omega
  exact hD h)
unfold Oper.wp
rw [Zew ho hc.isGo,Oper.upon_enter]
refine hcalls.mono ?_
rintro e' W' ⟨y,v,rfl,rfl,hpost⟩
obtain ⟨w1,w2,vs3,w3,w4,w5⟩:=hpost.ob
have hρ:y.ρ (0,0)=x.ρ g:=(hpost.step.G (0,0) rfl).2
rw [hρ] at w3 w5
let y':Ctx:=⟨x.G,y.F,y.W,x.ρ⟩
have k2:Step x y':=⟨fun _ h=>⟨h,rfl⟩,fun b o h=>hpost.step.F b o h,fun b o w hF hw=>hpost.step.W b o w hF hw⟩
refine ⟨y',rfl,hX.change k2 hd hpost.gr.os hpost.gr.tape hpost.gr.output hpost.gr.size (fun b hb hne=>hpost.gr.block b hb fun e=>hne g _ hob e) (fun b o h=>?_) hpost.flt
 (fun g' hg'=>(hX.gens g' hg').imp id fun ⟨e1,e2⟩=>⟨e1,.inl e2⟩) hG ⟨w1,w2,vs3,w3,fun m p v hm hv=>?_,fun b hb=>⟨(hlt b hb).2,(w5 b hb).2⟩⟩ (fun b hb=>.inr ⟨g,_,hob,hb⟩) ?_⟩
rcases hpost.fnew b o h with h1 | h1 | h1
exact .inl h1
exact .inr h1
have:=((w5 b h1).2 o h).1
cases this
obtain ⟨e,he,hpe⟩:=List.mem_flatten.1 (List.mem_of_getElem? hm)
exact (w4 m p v hm hv).pure_mono (w2 e he p hpe) (fun _ _ h=>h) (fun _ _ _ _ h=>h)
have hr:=hpost.rep
rcases hres with ⟨h1,rfl⟩ | ⟨rfl,rfl⟩
exact hr.dry h1
cases hr with
| row _ _ A n c _ hvv=>exact .row _ _ A n c hG (hρ.symm.trans hvv)}
theorem Zo3 {f:FuncId} {es:Array Operand} {ts:Array TypeId} {post:List PV} {t:Nat} {g:Gen} {E k:Nat} {els els':List (List PV)} {res res':PV} (hw:Zo ops s o=some true) (ho:o.op = .call { callee:=.value (.func f),args:=es,argTypes:=ts })
  (he:es.toList.map (ev s) = .row t g::post) (hob:s.ob t=some (g,.row E k false els)) (hp:post.all PV.dryF=true) (hc:ContractR P f post E k els res els') (hres:res.dry=true/\res'=res\/res = .row 0 (0,0)/\res' = .row t g):OpR P ops i o s ⟨res',[(t,some (g,.row E k false els'))]⟩:=.any hw fun s' r hA hI=>by
 obtain ⟨e1,e2,_⟩:=Zds ho hA
 refine ZvX ho (by rw [e1,he]) ?_ hp hc hres hI
 rw [<- e2 (.row t g) (by rw [he];simp) t (by simp [ZmJ,ZfI,ZcE,Zbk])]
 exact hob
end
section
variable {P:Program} [WInv P] {ops:Array Oper} {draw:Bool} {i:Nat} {L:List Oper} {acc:List (List Nat×List Nat)} {K:FS->Prop} {tm:List (Nat×PV)} {ob:List (Nat×Option (Gen×VObj))} {ng:Nat}
 {d:Option Tmp} {ty:TypeId} {pos:String} {after:Array Edge} {gd:Option (Nat×Bool)}
theorem Zcd {f:FuncId} {es:Array Operand} {ts:Array TypeId} {post:List PV} {t:Nat} {g:Gen} {E k:Nat} {els els':List (List PV)} {res:PV} (hc:ContractR P f post E k els res els') (hw:Zo ops (mkS tm ob ng) ⟨d,.call ⟨.value (.func f),es,ts⟩,ty,pos,after,gd⟩=some true)
  (he:es.toList.map (evL tm) = .row t g::post) (hob:ZI ob t=some (g,.row E k false els)) (hp:post.all PV.dryF=true) (hd:res.dry=true)
  (kk:GoL P ops draw (i+1) L (acc ++ [(ZG (mkS tm ob ng) ⟨d,.call ⟨.value (.func f),es,ts⟩,ty,pos,after,gd⟩,[t])]) (mkS (Zbt d res tm) ((t,some (g,.row E k false els'))::ob) ng) K) :
  GoL P ops draw i (⟨d,.call ⟨.value (.func f),es,ts⟩,ty,pos,after,gd⟩::L) acc (mkS tm ob ng) K:=by
 refine Zgp (Zo3 hw rfl (by rw [Zai];exact he) hob hp hc (.inl ⟨hd,rfl⟩)) ?_
 rw [ZbD]
 exact kk
theorem ZnJ {f:FuncId} {es:Array Operand} {ts:Array TypeId} {post:List PV} {t:Nat} {g:Gen} {E k:Nat} {els els':List (List PV)} (hc:ContractR P f post E k els (.row 0 (0,0)) els') (hw:Zo ops (mkS tm ob ng) ⟨d,.call ⟨.value (.func f),es,ts⟩,ty,pos,after,gd⟩=some true)
  (he:es.toList.map (evL tm) = .row t g::post) (hob:ZI ob t=some (g,.row E k false els)) (hp:post.all PV.dryF=true)
  (kk:GoL P ops draw (i+1) L (acc ++ [(ZG (mkS tm ob ng) ⟨d,.call ⟨.value (.func f),es,ts⟩,ty,pos,after,gd⟩,[t])]) (mkS (Zbt d (.row t g) tm) ((t,some (g,.row E k false els'))::ob) ng) K) :
  GoL P ops draw i (⟨d,.call ⟨.value (.func f),es,ts⟩,ty,pos,after,gd⟩::L) acc (mkS tm ob ng) K:=by
 refine Zgp (Zo3 hw rfl (by rw [Zai];exact he) hob hp hc (.inr ⟨rfl,rfl⟩)) ?_
 rw [ZbD]
 exact kk
end
def ZvY (args:List PV) (E k:Nat) (els:List (List PV)):FS:=⟨fun t=>(PV.row 0 (0,0)::args).getD t (.tup []),ZI [(0,some ((0,0),.row E k false els))],1⟩
theorem ZnK {args:List PV} {E k:Nat} {els:List (List PV)} {t:Nat} {g:Gen} {o:VObj} (h:(ZvY args E k els).ob t=some (g,o)):t=0/\g=(0,0)/\o = .row E k false els:=by{
change (if t=0 then some ((0,0),VObj.row E k false els) else none)=some (g,o) at h
split at h
rename_i e
injection h with h
injection h with e1 e2
exact ⟨e,e1.symm,e2.symm⟩
cases h}
def ZzI (P:Program) (rs:List ResultVar) (res:PV) (E k:Nat) (els':List (List PV)):Ex->FS->Prop | .exit _,_=>False | _,s=>∃ ps,ZfE P s rs=some ps/\Zfc ps=res/\s.ob 0=some ((0,0),.row E k false els')
theorem ZmA {P:Program} {s:FS} {rs:List ResultVar} {res:PV} {E k:Nat} {els':List (List PV)} {ps:List PV} (h1:ZfE P s rs=some ps) (h2:Zfc ps=res) (h3:s.ob 0=some ((0,0),.row E k false els')):ZzI P rs res E k els' .ret s:=⟨ps,h1,h2,h3⟩
theorem Zcl {P:Program} {s:FS} {rs:List ResultVar} {res:PV} {E k:Nat} {els':List (List PV)} {ps:List PV} (h1:ZfE P s rs=some ps) (h2:Zfc ps=res) (h3:s.ob 0=some ((0,0),.row E k false els')):ZzI P rs res E k els' .normal s:=⟨ps,h1,h2,h3⟩
section
variable {P:Program} [WInv P]
theorem ZjX (hmix:P.follows .mixedOrders=true) {f:FuncId} {fn:Func} {c:Code} {args:List PV} {E k:Nat} {els els':List (List PV)} {e:Ex} {s1:FS} {ps:List PV} {res:PV}
  (hg:isGo P f=true) (hf:P.funcs[f]? = some fn) (hb:fn.body=some c) (hn:args.length+1<=fn.ntmps) (hok:ZaY fn.ntmps c=true) (hrun:RunC P c (ZvY args E k els) e s1) (he:e = .normal\/e = .ret)
  (hres:ZfE P s1 fn.results.toList=some ps) (hps:Zfc ps=res) (hob:s1.ob 0=some ((0,0),.row E k false els')):ContractR P f args E k els res els':=by{
subst hps
refine ⟨hg,fun x vs hpre hinv=>?_⟩
let r:Run:=⟨x.W,Dr x,(vs++Array.replicate (fn.ntmps-vs.size) undef).size,x.F,x.G,x.ρ,WInv.I P⟩
have hNr:r.N=fn.ntmps:=by
 have:=hpre.size
 simp [r]
 omega
have hX:RstX r (fun _=>False) (ZvY args E k els) { tmps:=vs++Array.replicate (fn.ntmps-vs.size) undef,defers:=[] } x:=by
 refine ⟨rfl,rfl,Gr.refl _ _,fun g hg=>?_,fun t=>?_,fun t g o ho=>?_,fun t t' g g' o o' b hne h1 h2 hb1 hb2=>?_,hpre.flt,fun _ _ h=>h,fun _ _ h=>.inl h,fun _ h=>⟨h,rfl⟩,⟨hinv,hpre.gen⟩,fun _ _ _ _ h=>h⟩
 rw [hpre.gen g hg]
 exact .inl Nat.zero_lt_one
 show Rep x ((PV.row 0 (0,0)::args).getD t (.tup [])) _
 rw [Array.getD_eq_getD_getElem?,Array.getElem?_append,List.getD_eq_getElem?_getD]
 by_cases ht:t<vs.size
 have hl:t<(PV.row 0 (0,0)::args).length:=by
  rw [List.length_cons,hpre.size]
  exact ht
 rw [if_pos ht,List.getElem?_eq_getElem hl,Array.getElem?_eq_getElem ht]
 exact hpre.rep t _ _ (List.getElem?_eq_getElem hl) (Array.getElem?_eq_getElem ht)
 rw [if_neg ht,List.getElem?_eq_none (by rw [List.length_cons,hpre.size];omega)]
 have:(Array.replicate (fn.ntmps-vs.size) undef)[t-vs.size]?.getD undef=undef:=by
  rw [Array.getElem?_replicate]
  split<;>rfl
 rw [this]
 exact .tup [] #[] rfl (fun i p v hp=>by simp at hp)
 obtain ⟨rfl,rfl,rfl⟩:=ZnK ho
 exact hpre.ob
 exact absurd ((ZnK h1).1.trans (ZnK h2).1.symm) hne
refine calls_of_wp hf hb ?_
refine (Zhk hmix hrun).1 r _ x _ ⟨rfl,by rw [hNr];exact hok⟩ hX fun a' y hY=>?_
obtain ⟨ws,h1,h2,h3⟩:=Zc0 hY fn.results.toList hres
have hstep:Step x y:=⟨fun g hg=>hY.rho g hg,fun b o hb=>hY.f0 b o hb,fun b o v hb hv=>hY.keep b o v hb hv⟩
have hend:(results fn a'.tmps).run P y.W = .ok (if ws.length=1 then ws.getD 0 undef else .tuple ws.toArray) y.W:=by
 have:(fn.results.mapM (Zt0 a')).run P y.W = .ok ws.toArray y.W:=by
  rw [Array.mapM_eq_mapM_toList,map_eq_pure_bind,Sem.run_bind,h1]
  rfl
 have e:results fn a'.tmps=(fn.results.mapM (Zt0 a') >>= fun vs=>pure (if h:vs.size=1 then vs[0] else .tuple vs)):=by
  unfold results
  congr 1
 rw [e,Sem.run_bind,this]
 simp only [Result.andThen_ok,Sem.run_pure]
 congr 1
 by_cases hl:ws.length=1
 simp [hl]
 simp [hl]
have hfin:∃ v,(results fn a'.tmps).run P y.W = .ok v y.W/\(fun e W'=>∃ y v,y.W=W'/\e=Ending.returned v/\PostR x y E k (Zfc ps) els' v) (Ending.returned v) y.W:=by
 refine ⟨_,hend,y,_,rfl,rfl,hstep,hY.gr,hY.fnew,hY.flt,?_,(hY.ob 0 _ _ hob).2⟩
 have hlq:ps.length=ws.length:=h2.symm
 unfold Zfc
 split
 rename_i p
 rw [if_pos (by simpa using hlq.symm)]
 exact h3 0 p rfl
 rename_i hne
 have hn1:¬ ws.length=1:=fun h=>by
  rw [h] at hlq
  match ps,hlq with
  | [q],_=>exact hne q rfl
 rw [if_neg hn1]
 refine .tup ps ws.toArray (by simpa using hlq) fun j q v hq hv=>?_
 have:=h3 j q hq
 have hv':ws[j]? = some v:=by simpa using hv
 rw [List.getD_eq_getElem?_getD,hv'] at this
 exact this
rcases he with rfl | rfl
exact ⟨hY.defers,hfin⟩
exact ⟨hY.defers,hfin⟩}
theorem ZnL (hmix:P.follows .mixedOrders=true) {f:FuncId} {fn:Func} {c:Code} {args:List PV} {E k:Nat} {els els':List (List PV)} {res:PV} (hf:P.funcs[f]? = some fn) (hg:isGo P f=true) (hb:fn.body=some c) (hok:(decide (args.length+1<=fn.ntmps)&&ZaY fn.ntmps c)=true)
  (h:PWs P [c] (ZzI P fn.results.toList res E k els') (mkS (ZeN 0 (.row 0 (0,0)::args)) [(0,some ((0,0),.row E k false els))] 1)):ContractR P f args E k els res els':=by{
simp only [Bool.and_eq_true,decide_eq_true_eq] at hok
obtain ⟨e,s',h1,h2⟩:=Zc3 h
have hsh:Shift (ZvY args E k els) (mkS (ZeN 0 (.row 0 (0,0)::args)) [(0,some ((0,0),.row E k false els))] 1):=ZfH (fun t=>by
 rcases Zeu (PV.row 0 (0,0)::args) 0 t with h | ⟨_,h⟩
 exact .inl h
 exact .inr h) (fun t=>.inr rfl) (Nat.le_refl _)
cases e with
| exit id=>exact h2.elim
| normal=>
  obtain ⟨ps,q1,q2,q3⟩:=h2
  exact ZjX hmix hg hf hb hok.1 hok.2 (.shift hsh h1) (.inl rfl) q1 q2 q3
| ret=>
  obtain ⟨ps,q1,q2,q3⟩:=h2
  exact ZjX hmix hg hf hb hok.1 hok.2 (.shift hsh h1) (.inr rfl) q1 q2 q3}
end
open Go.RowKit
theorem Zcp {α:Type} (l:List α) (q:Int) (x:α):(ZbF l q x).length=l.length:=List.length_set ..
theorem ZaT {P:Program} [WInv P] {β:Type} {F:Option β} {R:β->PV} {O:β->List (List PV)} {f:FuncId} {fn:Func} {c:Code} {args:List PV} {E k:Nat} {els:List (List PV)} {r:β} (hF:F=some r) (hmix:P.follows .mixedOrders=true) (hf:P.funcs[f]? = some fn) (hg:isGo P f=true) (hb:fn.body=some c) (hok:(decide (args.length+1<=fn.ntmps)&&ZaY fn.ntmps c)=true)
  (h:∀ r,F=some r->PWs P [c] (ZzI P fn.results.toList (R r) E k (O r)) (mkS (ZeN 0 (.row 0 (0,0)::args)) [(0,some ((0,0),.row E k false els))] 1)):ContractR P f args E k els (R r) (O r):=ZnL hmix hf hg hb hok (h r hF)
open Go.RowKit
def dn:PV->PV | .nil=>.sl [] | p=>p
theorem Zys {x:Ctx} {p:PV} {v:Value} (h:Rep x p v):Rep x (dn p) v:=by{
cases h with
| nil=>exact .sl [] none 0 0 0 0 0 (fun _ _=>.int .i64 0) rfl (Nat.le_refl _) (by omega) (by simp) (by omega) (by simp) (by simp)
| bool b=>exact .bool b
| int k n=>exact .int k n
| str s=>exact .str s
| un v=>exact .un v
| agg ps cs hl h=>exact .agg ps cs hl h
| tup ps cs hl h=>exact .tup ps cs hl h
| sl els A n c k b off f h1 h2 h3 h4 h5 h6 h7=>exact .sl els A n c k b off f h1 h2 h3 h4 h5 h6 h7
| ptr t g off b h1 h2=>exact .ptr t g off b h1 h2
| elp t g i k off b h1 h2=>exact .elp t g i k off b h1 h2
| row t g A n c h1 h2=>exact .row t g A n c h1 h2
| suf t g i k A A' n c c' h1 h2 h3 h4 h5=>exact .suf t g i k A A' n c c' h1 h2 h3 h4 h5
| mp t g b h1 h2=>exact .mp t g b h1 h2
| cel cs b off f h1 h2=>exact .cel cs b off f h1 h2
| fn f ps cs hl h=>exact .fn f ps cs hl h}
def ZeL (n:Int):List PV:=[.int .i32 n]
section
variable {P:Program} {r:Run} {o:Oper} {i:Nat} {s:FS}
theorem ZuK {T E d n:Nat} {e e':Operand} {te:TI} {sz b:Nat} {zz zc:List PV} {kl kc:IntKind} (ho:o.op = .makeSlice T e e') (hdst:o.dst=some d) (ht:tyI P T=some ⟨.slice E,sz,b,zz⟩) (hte:tyI P E=some te) (hl:ev s e = .int kl (n:Int)) (hc:ev s e' = .int kc (n:Int)) (hb:te.bytes * n<=140737488355328) (hm:n<=9223372036854775807)
  (hz:te.zero.map dn=zc) (hp:∀ p ∈ zc,p.pure=true) (hlen:te.zero.length=te.size) (hpos:0<te.size) :
  OpOK P r o i s ⟨.row d (s.ng,i),[(d,some ((s.ng,i),.row E te.size false (List.replicate n zc)))]⟩:=by{
intro S a x Q hX hi hd
obtain ⟨inf,zv,h1,_⟩:=ZR ht
obtain ⟨inf',z',h1',h2',h3',h4',h5',h6'⟩:=ZR hte
have q1:a.eval e = .int kl (n:Int):=by
 have:=Zae hX e
 rw [hl] at this
 generalize a.eval e=v at this
 cases this
 rfl
have q2:a.eval e' = .int kc (n:Int):=by
 have:=Zae hX e'
 rw [hc] at this
 generalize a.eval e'=v at this
 cases this
 rfl
have hzs:z'.cells.size=te.size:=by rw [<- hlen,h6'];simp
have hzl:zc.length=te.size:=by rw [<- hz,List.length_map,hlen]
have hrun:=run_make (P:=P) (w:=x.W) T E inf' z' h1 h2' h3' kl kc n n (by omega) (Int.le_refl _) (by
 rw [h5',<- Int.natCast_mul];omega) (by omega)
simp only [Int.toNat_natCast,h4'] at hrun
have hk:∀ e ∈ List.replicate n zc,e.length=te.size:=fun e he=>by rw [List.eq_of_mem_replicate he,hzl]
have hreps:ZuI x (List.replicate n zc).flatten (madeCells z'.cells (n * te.size)):=by
 refine ⟨by rw [Zb3 _ hk];simp [madeCells],fun j p v hp hv=>?_⟩
 have hjl:j<n * te.size:=by
  have:=(List.getElem?_eq_some_iff.1 hp).1
  rw [Zb3 _ hk] at this
  simpa using this
 have hi':j / te.size<n:=Nat.div_lt_of_lt_mul (by rw [Nat.mul_comm];exact hjl)
 have hj':j % te.size<te.size:=Nat.mod_lt _ hpos
 have hem:j / te.size * te.size+j % te.size=j:=by rw [Nat.mul_comm];exact Nat.div_add_mod j _
 have he:(List.replicate n zc)[j / te.size]? = some zc:=by rw [List.getElem?_replicate,if_pos hi']
 have hj2:j % te.size<z'.cells.size:=by rw [hzs];exact hj'
 have hq:zc[j % te.size]? = some (dn (Zbv z'.cells[j % te.size])):=by rw [<- hz,h6'];simp [hj2]
 have:=Zjy (k:=te.size) (List.replicate n zc) hk _ _ _ _ he hq
 rw [hem,hp] at this
 injection this with this
 subst this
 simp only [madeCells] at hv
 rw [Array.getElem?_map,Array.getElem?_range,if_pos hjl,hzs] at hv
 simp only [Option.map_some,Option.some.injEq] at hv
 rw [getElem!_pos z'.cells (j % te.size) hj2] at hv
 subst hv
 exact Zys (Zdp x _)
obtain ⟨y,hy1,hy2⟩:=Zpp hX hi (hd d hdst) (E:=E) (k:=te.size) (n:=n) (els:=List.replicate n zc) (vs:=madeCells z'.cells (n * te.size)) (by simp) hk
 (fun e he p hpp=>by rw [List.eq_of_mem_replicate he] at hpp;exact hp p hpp) hm hreps
rw [hdst]
refine ZN (v:=.slice (some ⟨x.W.heap.size,0,none⟩) n n) (W':=x.W.alloc (.cells (madeCells z'.cells (n * te.size)) E)) ?_ ⟨y,hy1,by rw [hdst];exact hy2⟩
unfold execOp
rw [ho]
simp [q1,q2,hrun]}
end
def Zpq (w:Nat) (n:Int):Option Unit:=if 0<=n/\n * (w:Int)<=140737488355328/\n<=9223372036854775807 then some () else none
section
variable {P:Program} [WInv P] {ops:Array Oper} {draw:Bool} {i:Nat} {L:List Oper} {acc:List (List Nat×List Nat)} {K:FS->Prop} {tm:List (Nat×PV)} {ob:List (Nat×Option (Gen×VObj))} {ng:Nat}
 {d:Nat} {ty T:TypeId} {pos:String} {after:Array Edge} {gd:Option (Nat×Bool)} {x y:Operand}
theorem Zpr {α:Type} (f:α->List PV) (z0:α) {E kk by_:Nat} {z:List PV} [Sl P T E kk by_ z] {kl:IntKind} {n:Int} {u:Unit} (hw:Zo ops (mkS tm ob ng) ⟨some d,.makeSlice T x y,ty,pos,after,gd⟩=some true) (hx:evL tm x = .int kl n) {kc:IntKind} (hy:evL tm y = .int kc n) (hs:Zpq by_ n=some u) (hz:z.map dn=f z0) (hp:(f z0).all PV.pure=true)
  (k:GoL P ops draw (i+1) L (acc ++ [(ZG (mkS tm ob ng) ⟨some d,.makeSlice T x y,ty,pos,after,gd⟩,[d])]) (mkS ((d,.row d (ng,i))::tm) ((d,some ((ng,i),.row E kk false (List.map f (List.replicate n.toNat z0))))::ob) ng) K):GoL P ops draw i (⟨some d,.makeSlice T x y,ty,pos,after,gd⟩::L) acc (mkS tm ob ng) K:=by{
obtain ⟨s1,b,zz,te,q1,q2,q3,q4,q5,q6,q7⟩:=Ze6 (P:=P) (T:=T) (E:=E) (k:=kk) (by_:=by_) (z:=z)
unfold Zpq at hs
split at hs
rename_i hc
rw [List.map_replicate] at k
refine Zgp (u:=⟨.row d (ng,i),[(d,some ((ng,i),.row E kk false (List.replicate n.toNat (f z0))))]⟩) (.any hw fun s' r hA hI=>?_) ?_
have e1:ev s' x = .int kl ((n.toNat:Nat):Int):=by rw [<- hA.ev x (by simp [Op.operands]),Int.toNat_of_nonneg hc.1];exact (congrFun (Zai tm ob ng) x).trans hx
have e2:ev s' y = .int kc ((n.toNat:Nat):Int):=by rw [<- hA.ev y (by simp [Op.operands]),Int.toNat_of_nonneg hc.1];exact (congrFun (Zai tm ob ng) y).trans hy
have e3:s'.ng=ng:=hA.ng.symm
rw [<- e3,<- q3]
refine ZuK rfl rfl q1 q2 e1 e2 ?_ ?_ (by rw [q5];exact hz) (fun p hpp=>List.all_eq_true.1 hp p hpp) (by rw [q5,q7,q3]) (by rw [q3];exact q6)
rw [q4]
have h1:=hc.2.1
have:((by_ * n.toNat:Nat):Int)<=140737488355328:=by rw [Int.natCast_mul,Int.toNat_of_nonneg hc.1,Int.mul_comm];exact h1
omega
have:=hc.2.2
omega
rw [ZbD]
exact k
cases hs}
end
theorem Zal {p q:Prop} (k:q) (h:q->p:=by
 (intro k)
 (repeat (first
  | refine Zmb rfl rfl rfl ?_
  | refine ZqP rfl (by (conv=>lhs;whnf);try rfl) ?_
  | refine Zkg rfl (by (conv=>lhs;whnf);try rfl) ?_
  | refine ZfO rfl rfl ?_
  | refine ZrE rfl rfl rfl rfl (by (conv=>lhs;whnf);try rfl) ?_
  | refine Zu3 rfl rfl rfl rfl (by (conv=>lhs;whnf);try rfl) ?_
  | refine Zin rfl rfl rfl ?_
  | refine ZkS rfl rfl rfl (by (conv=>lhs;whnf);try rfl) (by (conv=>lhs;whnf);try rfl) (by rfl) (by rfl) (Nat.le_of_ble_eq_true rfl) (by (conv=>lhs;whnf);try rfl) ?_
  | refine ZsW rfl rfl ?_
  | refine Zu4 rfl rfl ?_
  | refine ZqQ rfl rfl (by (conv=>lhs;whnf);try rfl) ?_
  | refine Zm0 rfl rfl rfl ?_
  | refine Zu2 rfl (by (conv=>lhs;whnf);try rfl) (by (conv=>lhs;whnf);try rfl) (by rfl) ?_
  | refine ZkR rfl rfl ?_
  | refine Zv1 rfl rfl ?_
  | refine ZqC rfl rfl ?_
  | refine Zrf rfl rfl ?_
  | refine Zre rfl rfl rfl rfl ?_
  | refine Zm1 ?_
  | refine Zm2 (by kernel_rfl) ?_
  | refine ZnP ?_
  | refine Zkq ?_
  | refine ZnQ ?_
  | refine Zkr ?_
  | refine ZnO ?_
  | refine ZnR ?_
  | refine ZiX ?_
  | refine Zrg ?_
  | refine bk_other rfl ?_
  | refine ZnS ?_
  | refine Zrh ?_
  | refine jk_exit ?_
  | refine ZsV ?_
  | refine pws_label ?_))
 (exact k)):p:=h k
open Go.RowKit
theorem ZfV:∀ (us:List (Nat×Option (Gen×VObj))) {f f':Nat->Option (Gen×VObj)} {t:Nat},f t=f' t->flips f us t=flips f' us t
 | [],_,_,_,h=>h
 | u::us,f,f',t,h=>ZfV us (by
   show (if t=u.1 then u.2 else f t)=if t=u.1 then u.2 else f' t
   rw [h])
theorem ZzY (s:FS) (f:Nat->Option (Gen×VObj)) (e:Operand):ev ⟨s.tm,f,s.ng⟩ e=ev s e:=by cases e<;>rfl
section
variable {P:Program} [WInv P] {r:Run} {ops:Array Oper} {o:Oper} {i:Nat} {s s':FS}
omit [WInv P] in
theorem ZyY {f:FuncId} {es:Array Operand} {ts:Array TypeId} {p0:PV} {ps ps':List PV} {us:List (Nat×Option (Gen×VObj))} {u:Upd} (_:o.op = .call { callee:=.value (.func f),args:=es,argTypes:=ts }) (he:es.toList.map (ev s)=p0::ps) (h:Ze5 s.ob ps=some (ps',us))
  (k:Zsb P r o i ⟨s.tm,flips s.ob us,s.ng⟩ u):Zsb P r o i s ⟨u.val,us++u.obs⟩:=by{
intro S a x Q hX hiM hi hi2 hd
obtain ⟨F1,st1,hX1,_,_⟩:=ZbW ps (Flip.refl s.ob) hX (g:=fun j=>(es.map a.eval).getD (j+1) undef) h fun j p hp=>by
 have hp':(p0::ps)[j+1]? = some p:=by simpa using hp
 rw [<- he,List.getElem?_map] at hp'
 cases he:es.toList[j+1]? with
 | none=>rw [he] at hp';simp at hp'
 | some e=>
   rw [he] at hp'
   simp only [Option.map_some,Option.some.injEq] at hp'
   subst hp'
   have hea:es[j+1]? = some e:=by simpa using he
   have:(es.map a.eval).getD (j+1) undef=a.eval e:=by simp [hea]
   rw [this]
   exact Zae hX e
have:=k S a { x with F:=F1 } Q hX1 hiM hi hi2 hd
have e:(⟨s.tm,flips s.ob us,s.ng⟩:FS).app o.dst u=s.app o.dst ⟨u.val,us++u.obs⟩:=by
 unfold FS.app flips
 simp only [List.foldl_append]
rw [e] at this
exact this}
theorem ZrU {f:FuncId} {es:Array Operand} {ts:Array TypeId} {post post':List PV} {t:Nat} {g:Gen} {cs:List PV} {oq:List (Nat×Gen×OC)} {oc':List OC} {res:PV} {us3:List (Nat×Option (Gen×VObj))} (hw:Zo ops s o=some true) (ho:o.op = .call { callee:=.value (.func f),args:=es,argTypes:=ts })
  (he:es.toList.map (ev s) = .ptr t g 0::post) (hob:s.ob t=some (g,.box cs)) (h3:Ze5 s.ob post=some (post',us3)) (hobF:flips s.ob us3 t=some (g,.box cs)) (hoq:Zsr (flips s.ob us3) cs=some oq) (hk:okK t oq=true) (h4:Ze5 (flips s.ob us3) post=some (post',[])) (hc:ContractP P f (.ptr 0 (0,0) 0::post') 0 (oq.map (·.2.2)) res oc') :
  OpR P ops i o s ⟨res,us3++usP t g s.ng i oq oc'⟩:=.anyx hw fun s' r hA hI=>by
 obtain ⟨e1,e2,_⟩:=Zds ho hA
 obtain ⟨q1,q2,q3⟩:=Zlt hoq
 obtain ⟨q4,q5⟩:=Znz hk
 have hmem:(PV.ptr t g 0) ∈ es.toList.map (ev s):=by rw [he];exact List.mem_cons_self ..
 have ht:s.ob t=s'.ob t:=e2 _ hmem t (by simp [ZmJ,ZfI,ZcE,Zbk])
 have hrow:∀ c E k sh els,(oq.map (·.2.2))[c]? = some (OC.row E k sh els)->s.ob (oqκ oq c)=s'.ob (oqκ oq c):=fun c E k sh els h=>by
  refine e2 _ hmem (oqκ oq c) ?_
  have hcell:cs[c]? = some (.row (oqκ oq c) (oqν oq c)):=by
   rw [q1,Zbg,h,Nat.zero_add]
   rfl
  refine List.mem_append_right _ (List.mem_append_left _ (List.mem_flatMap.2 ⟨t,by simp [ZcE,Zbk],?_⟩))
  unfold Zkz
  rw [hob]
  exact List.mem_flatMap.2 ⟨_,List.mem_of_getElem? hcell,by simp [Zbk]⟩
 have hpost:∀ p ∈ post,∀ t ∈ ZcE p,s.ob t=s'.ob t:=fun p hp t ht=>e2 p (by rw [he];exact List.mem_cons_of_mem _ hp) t (ZeC ht)
 have hevs:es.toList.map (ev ⟨s'.tm,flips s'.ob us3,s'.ng⟩)=es.toList.map (ev s'):=List.map_congr_left fun e _=>ZzY s' _ e
 refine ZyY (u:=⟨res,usP t g s.ng i oq oc'⟩) ho (by rw [e1,he]) (by rw [<- h3];exact (ZcC hpost).symm) ?_
 unfold usP
 rw [hA.ng]
 refine Zq0 (s:=⟨s'.tm,flips s'.ob us3,s'.ng⟩) (pre:=[]) (pre':=[]) (post:=post) (ν:=oqν oq) ho (by rw [hevs,e1,he];rfl) (by rw [<- q1,<- hobF];exact ZfV us3 ht.symm) (fun c E k sh els h=>by rw [<- q2 c E k sh els h];exact ZfV us3 (hrow c E k sh els h).symm) q3 q4 q5 rfl ?_ (by decide) hc hI
 rw [<- h4]
 exact ZcC fun p hp t ht=>ZfV us3 (hpost p hp t ht).symm
end
section
variable {P:Program} [WInv P] {ops:Array Oper} {draw:Bool} {i:Nat} {L:List Oper} {acc:List (List Nat×List Nat)} {K:FS->Prop} {tm:List (Nat×PV)} {ob:List (Nat×Option (Gen×VObj))} {ng:Nat}
 {d:Option Tmp} {ty:TypeId} {pos:String} {after:Array Edge} {gd:Option (Nat×Bool)}
theorem Znc {f:FuncId} {es:Array Operand} {ts:Array TypeId} {post post':List PV} {t:Nat} {g:Gen} {cs:List PV} {oq:List (Nat×Gen×OC)} {oc oc':List OC} {res:PV} {us us3:List (Nat×Option (Gen×VObj))} (hc:ContractP P f (.ptr 0 (0,0) 0::post') 0 oc res oc') (hw:Zo ops (mkS tm ob ng) ⟨d,.call ⟨.value (.func f),es,ts⟩,ty,pos,after,gd⟩=some true)
  (he:es.toList.map (evL tm) = .ptr t g 0::post) (hob:ZI ob t=some (g,.box cs)) (h3:Ze5 (ZI ob) post=some (post',us3)) (hobF:ZI (us3.reverse++ob) t=some (g,.box cs)) (hoq:Zsr (ZI (us3.reverse++ob)) cs=some oq) (hoc:oq.map (·.2.2)=oc) (hk:okK t oq=true) (h4:Ze5 (ZI (us3.reverse++ob)) post=some (post',[])) (hus:us3++usP t g ng i oq oc'=us)
  (k:GoL P ops draw (i+1) L (acc ++ [(ZG (mkS tm ob ng) ⟨d,.call ⟨.value (.func f),es,ts⟩,ty,pos,after,gd⟩,us.map (·.1))]) (mkS (Zbt d res tm) (us.reverse++ob) ng) K):GoL P ops draw i (⟨d,.call ⟨.value (.func f),es,ts⟩,ty,pos,after,gd⟩::L) acc (mkS tm ob ng) K:=by{
subst hoc hus
have hfl:flips (mkS tm ob ng).ob us3=ZI (us3.reverse++ob):=by
 have:=ZbD (d:=none) (v:=.un) (us:=us3) (tm:=tm) (ob:=ob) (ng:=ng)
 exact congrArg FS.ob this
refine Zgp (ZrU hw rfl (by rw [Zai];exact he) hob h3 (by rw [hfl];exact hobF) (by rw [hfl];exact hoq) hk (by rw [hfl];exact h4) hc) ?_
rw [ZbD]
exact k}
end
section
variable {P:Program} [WInv P] {α β γ:Type} {ops:Array Oper} {draw:Bool} {i:Nat} {L:List Oper} {acc:List (List Nat×List Nat)} {K:FS->Prop} {tm:List (Nat×PV)} {ob:List (Nat×Option (Gen×VObj))} {ng:Nat}
 {d:Option Tmp} {ty T:TypeId} {pos:String} {after:Array Edge} {gd:Option (Nat×Bool)} {x y:Operand} {r:γ} {q:β->Prop}
theorem aC {F:Option β} {G:β->Option γ} {R:β->PV} {f:FuncId} {es:Array Operand} {ts:Array TypeId} {args:List PV} {us:List (Nat×Option (Gen×VObj))} (hF:F.bind G=some r) (hc:∀ v,F=some v->Zb P f args (R v)) (k:∀ v,G v=some r->q v)
  (hw:Zo ops (mkS tm ob ng) ⟨d,.call ⟨.value (.func f),es,ts⟩,ty,pos,after,gd⟩=some true:=by exact rfl) (ha:Ze5 (ZI ob) (es.toList.map (evL tm))=some (args,us):=by exact rfl)
  (h:∀ v,q v->GoL P ops draw (i+1) L (acc ++ [(ZG (mkS tm ob ng) ⟨d,.call ⟨.value (.func f),es,ts⟩,ty,pos,after,gd⟩,us.map (·.1))]) (mkS (Zbt d (R v) tm) (us.reverse++ob) ng) K:=by
 (intro v k)
 (refine Zf ?_)
 (exact k)):GoL P ops draw i (⟨d,.call ⟨.value (.func f),es,ts⟩,ty,pos,after,gd⟩::L) acc (mkS tm ob ng) K:=by
 obtain ⟨v,hv,hG⟩:=bnd hF
 exact Zc8 (hc v hv) hw ha (h v (k v hG))
theorem aL {F:Option β} {G:β->Option γ} {R:β->PV} {f:FuncId} {es:Array Operand} {ts:Array TypeId} {args:List PV} (hF:F.bind G=some r) (hc:∀ v,F=some v->Zb P f args (R v)) (k:∀ v,G v=some r->q v)
  (hw:Zo ops (mkS tm ob ng) ⟨d,.call ⟨.value (.func f),es,ts⟩,ty,pos,after,gd⟩=some true:=by exact rfl) (ha:ZhE (frz (ZI ob)) (es.toList.map (evL tm))=some args:=by exact rfl) (hp:∀ v,(R v).dry=true:=by exact fun _=>rfl)
  (h:∀ v,q v->GoL P ops draw (i+1) L (acc ++ [(ZG (mkS tm ob ng) ⟨d,.call ⟨.value (.func f),es,ts⟩,ty,pos,after,gd⟩,[])]) (mkS (Zbt d (R v) tm) ob ng) K:=by
 (intro v k)
 (refine Zf ?_)
 (exact k)):GoL P ops draw i (⟨d,.call ⟨.value (.func f),es,ts⟩,ty,pos,after,gd⟩::L) acc (mkS tm ob ng) K:=by
 obtain ⟨v,hv,hG⟩:=bnd hF
 exact ZiV (hc v hv) hw ha (hp v) (h v (k v hG))
theorem aN {dd:Nat} {F:Option β} {G:β->Option γ} {O:β->VObj} {f:FuncId} {es:Array Operand} {ts:Array TypeId} {args:List PV} {us:List (Nat×Option (Gen×VObj))} (hF:F.bind G=some r) (hc:∀ v,F=some v->ContractN P f args (O v)) (k:∀ v,G v=some r->q v)
  (hw:Zo ops (mkS tm ob ng) ⟨some dd,.call ⟨.value (.func f),es,ts⟩,ty,pos,after,gd⟩=some true:=by exact rfl) (ha:Ze5 (ZI ob) (es.toList.map (evL tm))=some (args,us):=by exact rfl)
  (h:∀ v,q v->GoL P ops draw (i+1) L (acc ++ [(ZG (mkS tm ob ng) ⟨some dd,.call ⟨.value (.func f),es,ts⟩,ty,pos,after,gd⟩,(us ++ [(dd,some ((ng,i),O v))]).map (·.1))])
   (mkS ((dd,Zgi (O v) dd (ng,i))::tm) ((us ++ [(dd,some ((ng,i),O v))]).reverse++ob) ng) K:=by
 (intro v k)
 (refine Zf ?_)
 (exact k)):GoL P ops draw i (⟨some dd,.call ⟨.value (.func f),es,ts⟩,ty,pos,after,gd⟩::L) acc (mkS tm ob ng) K:=by
 obtain ⟨v,hv,hG⟩:=bnd hF
 exact Zqw (hc v hv) hw ha (h v (k v hG))
theorem aO {F:Option β} {G:β->Option γ} {R:β->PV} {O:β->List PV} {f:FuncId} {es:Array Operand} {ts:Array TypeId} {post post':List PV} {t:Nat} {g:Gen} {cs qs:List PV} {us2 us3:List (Nat×Option (Gen×VObj))} (hF:F.bind G=some r)
  (hc:∀ v,F=some v->Contract P f (.ptr 0 (0,0) 0::post') (some (0,qs)) (R v) (O v)) (k:∀ v,G v=some r->q v) (hw:Zo ops (mkS tm ob ng) ⟨d,.call ⟨.value (.func f),es,ts⟩,ty,pos,after,gd⟩=some true:=by exact rfl)
  (he:es.toList.map (evL tm) = .ptr t g 0::post:=by exact rfl) (hob:Zbh (ZI ob) t g=some (.box cs):=by exact rfl) (h2:ZeZ (ZI ob) cs=some (qs,us2):=by exact rfl) (h3:Ze5 (ZI ob) post=some (post',us3):=by exact rfl)
  (h:∀ v,q v->GoL P ops draw (i+1) L (acc ++ [(ZG (mkS tm ob ng) ⟨d,.call ⟨.value (.func f),es,ts⟩,ty,pos,after,gd⟩,(us2++us3 ++ [(t,some (g,VObj.box (O v)))]).map (·.1))])
   (mkS (Zbt d (R v) tm) ((us2++us3 ++ [(t,some (g,VObj.box (O v)))]).reverse++ob) ng) K:=by
 (intro v k)
 (refine Zf ?_)
 (exact k)):GoL P ops draw i (⟨d,.call ⟨.value (.func f),es,ts⟩,ty,pos,after,gd⟩::L) acc (mkS tm ob ng) K:=by
 obtain ⟨v,hv,hG⟩:=bnd hF
 exact Zd7 (hc v hv) hw he hob h2 h3 (h v (k v hG))
theorem aI (f:β->List PV) {M:List β} {n:Int} {G:β->Option γ} {E kk by_:Nat} {z:List PV} [Sl P T E kk by_ z] {kd:IntKind} (hF:(atI M n).bind G=some r) (k:∀ v,G v=some r->q v)
  (hw:Zo ops (mkS tm ob ng) ⟨d,.indexAddr T x y,ty,pos,after,gd⟩=some true:=by exact rfl) (hx:evL tm x = .sl (M.map f):=by exact rfl) (hy:evL tm y = .int kd n:=by exact rfl) (hl:∀ e,(f e).length=kk:=by exact fun _=>rfl)
  (h:∀ e,q e->GoL P ops draw (i+1) L (acc ++ [(ZG (mkS tm ob ng) ⟨d,.indexAddr T x y,ty,pos,after,gd⟩,[])]) (mkS (Zbt d (.cel (f e)) tm) ob ng) K:=by
 (intro v k)
 (refine Zf ?_)
 (exact k)):GoL P ops draw i (⟨d,.indexAddr T x y,ty,pos,after,gd⟩::L) acc (mkS tm ob ng) K:=by
 obtain ⟨v,hv,hG⟩:=bnd hF
 exact ZeR hw hv hx hy (hl v) (h v (k v hG))
theorem aS {a:ByteArray} {n:Int} {G:Int->Option γ} {q:Int->Prop} {kd:IntKind} (hF:(atS a n).bind G=some r) (k:∀ v,G v=some r->q v) [hT:StrT P T]
  (hw:Zo ops (mkS tm ob ng) ⟨d,.index T x y,ty,pos,after,gd⟩=some true:=by exact rfl) (hx:evL tm x = .str a:=by exact rfl) (hy:evL tm y = .int kd n:=by exact rfl)
  (h:∀ c,q c->GoL P ops draw (i+1) L (acc ++ [(ZG (mkS tm ob ng) ⟨d,.index T x y,ty,pos,after,gd⟩,[])]) (mkS (Zbt d (.int .u8 c) tm) ob ng) K:=by
 (intro v k)
 (refine Zf ?_)
 (exact k)):GoL P ops draw i (⟨d,.index T x y,ty,pos,after,gd⟩::L) acc (mkS tm ob ng) K:=by
 obtain ⟨v,hv,hG⟩:=bnd hF
 exact ZsU StrT.eq hw hv hx hy (h v (k v hG))
theorem sS {a:ByteArray} {l m:Int} {G:ByteArray->Option γ} {q:ByteArray->Prop} {lo hi:Option Operand} (hF:(Zff a l m).bind G=some r) (k:∀ v,G v=some r->q v) [hT:StrT P T]
  (hw:Zo ops (mkS tm ob ng) ⟨d,.slice T x lo hi none,ty,pos,after,gd⟩=some true:=by exact rfl) (hx:evL tm x = .str a:=by exact rfl) (hlo:loI tm lo=some l:=by exact rfl) (hhi:hiI tm a.size hi=some m:=by exact rfl)
  (h:∀ b,q b->GoL P ops draw (i+1) L (acc ++ [(ZG (mkS tm ob ng) ⟨d,.slice T x lo hi none,ty,pos,after,gd⟩,[])]) (mkS (Zbt d (.str b) tm) ob ng) K:=by
 (intro v k)
 (refine Zf ?_)
 (exact k)):GoL P ops draw i (⟨d,.slice T x lo hi none,ty,pos,after,gd⟩::L) acc (mkS tm ob ng) K:=by
 obtain ⟨v,hv,hG⟩:=bnd hF
 exact ZsT StrT.eq hw hv hx hlo hhi (h v (k v hG))
theorem sT {a b:ByteArray} {G:ByteArray->Option γ} {q:ByteArray->Prop} {T':TypeId} (hF:(Zl6 a b).bind G=some r) (k:∀ v,G v=some r->q v)
  (hw:Zo ops (mkS tm ob ng) ⟨d,.binOp .add T x y T',ty,pos,after,gd⟩=some true:=by exact rfl) (hx:evL tm x = .str a:=by exact rfl) (hy:evL tm y = .str b:=by exact rfl)
  (h:∀ c,q c->GoL P ops draw (i+1) L (acc ++ [(ZG (mkS tm ob ng) ⟨d,.binOp .add T x y T',ty,pos,after,gd⟩,[])]) (mkS (Zbt d (.str c) tm) ob ng) K:=by
 (intro v k)
 (refine Zf ?_)
 (exact k)):GoL P ops draw i (⟨d,.binOp .add T x y T',ty,pos,after,gd⟩::L) acc (mkS tm ob ng) K:=by
 obtain ⟨v,hv,hG⟩:=bnd hF
 exact ZyA hw hv hx hy (h v (k v hG))
theorem pR (f:β->List PV) {dd:Nat} {E kk by_:Nat} {z:List PV} [Sl P T E kk by_ z] {M0 M:List β} {G:List β->Option γ} {q:List β->Prop} {t:Nat} {g:Gen} {sh:Bool} {new:List (List PV)} (hF:(Zbo by_ M0 M).bind G=some r) (k:∀ v,G v=some r->q v)
  (hw:Zo ops (mkS tm ob ng) ⟨some dd,.call ⟨.builtin .append,#[x,y],#[T,T]⟩,ty,pos,after,gd⟩=some true:=by exact rfl) (hf:∀ x,(f x).length=kk:=by exact fun _=>rfl) (hx:evL tm x = .row t g:=by exact rfl) (ho:Zbh (ZI ob) t g=some (.row E kk sh (M0.map f)):=by exact rfl) (hy:ZjP (ZI ob) (evL tm y)=some new:=by exact rfl) (hm:new=M.map f:=by exact rfl)
  (h:∀ R,q R->GoL P ops draw (i+1) L (acc ++ [(ZG (mkS tm ob ng) ⟨some dd,.call ⟨.builtin .append,#[x,y],#[T,T]⟩,ty,pos,after,gd⟩,[t])]) (mkS ((dd,.row t (ng,i))::tm) ((t,some ((ng,i),.row E kk sh (R.map f)))::ob) ng) K:=by
 (intro v k)
 (refine Zf ?_)
 (exact k)):GoL P ops draw i (⟨some dd,.call ⟨.builtin .append,#[x,y],#[T,T]⟩,ty,pos,after,gd⟩::L) acc (mkS tm ob ng) K:=by
 obtain ⟨v,hv,hG⟩:=bnd hF
 exact Zl7 hw hv hf hx ho hy hm (h v (k v hG))
theorem sM (f:β->List PV) {E kk by_:Nat} {z:List PV} [Sl P T E kk by_ z] {lo hi:Option Operand} {M:List β} {l m:Int} {G:List β->Option γ} {q:List β->Prop} {us:List (Nat×Option (Gen×VObj))} (hF:(Zgj M l m).bind G=some r) (k:∀ v,G v=some r->q v)
  (hw:Zo ops (mkS tm ob ng) ⟨d,.slice T x lo hi none,ty,pos,after,gd⟩=some true:=by exact rfl) (hf:∀ x,(f x).length=kk:=by exact fun _=>rfl) (hx:ZjP (ZI ob) (evL tm x)=some (M.map f):=by exact rfl) (hlo:loI tm lo=some l:=by exact rfl) (hhi:hiI tm M.length hi=some m:=by exact rfl) (hus:ZuC (ZI ob) (evL tm x)=us:=by exact rfl)
  (h:∀ R,q R->GoL P ops draw (i+1) L (acc ++ [(ZG (mkS tm ob ng) ⟨d,.slice T x lo hi none,ty,pos,after,gd⟩,us.map (·.1))]) (mkS (Zbt d (.sl (R.map f)) tm) (us.reverse++ob) ng) K:=by
 (intro v k)
 (refine Zf ?_)
 (exact k)):GoL P ops draw i (⟨d,.slice T x lo hi none,ty,pos,after,gd⟩::L) acc (mkS tm ob ng) K:=by
 obtain ⟨v,hv,hG⟩:=bnd hF
 exact ZmS hw hv hf hx hlo hhi hus (h v (k v hG))
theorem lM (f:β->List PV) (M:List β) {E kk by_:Nat} {z:List PV} [Sl P T E kk by_ z] {q:Prop} (k:q)
  (hw:Zo ops (mkS tm ob ng) ⟨d,.call ⟨.builtin .len,#[x],#[T]⟩,ty,pos,after,gd⟩=some true:=by exact rfl) (hx:ZjP (ZI ob) (evL tm x)=some (M.map f):=by exact rfl)
  (h:q->GoL P ops draw (i+1) L (acc ++ [(ZG (mkS tm ob ng) ⟨d,.call ⟨.builtin .len,#[x],#[T]⟩,ty,pos,after,gd⟩,[])]) (mkS (Zbt d (.int .i64 (M.length:Int)) tm) ob ng) K:=by
 (intro k)
 (refine Zf ?_)
 (exact k)):GoL P ops draw i (⟨d,.call ⟨.builtin .len,#[x],#[T]⟩,ty,pos,after,gd⟩::L) acc (mkS tm ob ng) K:=ZjK hw hx (h k)
theorem bM (f:β->List PV) (M:List β) {dd:Nat} {E kk by_:Nat} {z:List PV} [Sl P T E kk by_ z] {n:Nat} {parts:Array (Nat×Operand)} {q:Prop} {cs qs:List PV} {us:List (Nat×Option (Gen×VObj))} (k:q)
  (hw:Zo ops (mkS tm ob ng) ⟨some dd,.buildSlice T n parts,ty,pos,after,gd⟩=some true:=by exact rfl) (hf:Zfv (fun i=>some (i * kk,kk)) (List.replicate n z).flatten (evs tm parts.toList)=some cs:=by exact rfl) (hr:ZeZ (ZI ob) cs=some (qs,us):=by exact rfl) (hl:qs.length=n * kk:=by exact rfl) (hm:n * kk<=16777216:=by exact (Nat.le_of_ble_eq_true rfl)) (hc:chunks kk n qs=M.map f:=by exact rfl)
  (h:q->GoL P ops draw (i+1) L (acc ++ [(ZG (mkS tm ob ng) ⟨some dd,.buildSlice T n parts,ty,pos,after,gd⟩,us.map (·.1) ++ [dd])]) (mkS ((dd,.row dd (ng,i))::tm) ((dd,some ((ng,i),.row E kk false (M.map f)))::(us.reverse++ob)) ng) K:=by
 (intro k)
 (refine Zf ?_)
 (exact k)):GoL P ops draw i (⟨some dd,.buildSlice T n parts,ty,pos,after,gd⟩::L) acc (mkS tm ob ng) K:=ZF M hw hf hr hl hm hc (h k)
end
open Go.RowKit
end VL
end Go.Proofs.YtpdaeclbndpabaaGreatDoor
