/- Small words for the walks of this seat: a slice that reads -/
import Derived.WalkSpells
import Derived.WalkLawsBesides
import Derived.BigQuiet
import Derived.Deep.RegionHeld3
import Derived.Lib.Hide
import Derived.Deep.AppendLies
import Derived.Laws.AppendOwnNone
set_option linter.unusedSimpArgs false
namespace Go.Proofs.YtpdaeclbndpabaaGreatDoor
section
open Go.RowKit
theorem re1 {B b o:Nat} {v:Value} {W w1:World} (hb:Below B W w1) (h:b<B) (e:W.cell? ⟨b,o,none⟩=some v):w1.cell? ⟨b,o,none⟩=some v:=
 (hb.cell (p:=⟨b,o,none⟩) h).trans e
theorem Za3 {w:World} {b o:Nat} {v:Value} (h:w.cell? ⟨b,o,none⟩=some v):b<w.heap.size:=by
 rcases Nat.lt_or_ge b w.heap.size with hlt | hge
 exact hlt
 simp [World.cell?,Array.getElem?_eq_none hge] at h
theorem Below.al {a w:World} (h:Below a.heap.size a w) (o:Obj):Below a.heap.size a (w.alloc o):=h.alloc h.size o
theorem Below.dn {B:Nat} {a w:World} (h:Below B a w) (n:Nat):Below B a (w.drewN n):=⟨h.os,h.tape,h.output,h.size,h.block⟩
theorem Below.tr {a b c:World} (h:Below a.heap.size a b) (k:Below b.heap.size b c):Below a.heap.size a c:=h.trans (k.mono h.size)
class Enc (α:Type) where
 k:Nat
 R:(Nat->Prop)->World->α->List Value->Prop
 len:∀ {S w x cs},R S w x cs->cs.length=k
 one:∀ {S w x cs},R S w x cs->∀ u ∈ cs,u.oneCell'=true
 keep:∀ {S w w' x cs},(∀ b,S b->b<w.heap.size->w'.heap[b]? = w.heap[b]?)->w.heap.size<=w'.heap.size->R S w x cs->R S w' x cs
 weak:∀ {S S' w x cs},(∀ b,S b->b<w.heap.size->S' b)->R S w x cs->R S' w x cs
abbrev Enc.RT {α:Type} [Enc α] (w:World) (x:α) (cs:List Value):Prop:=Enc.R (fun _=>True) w x cs
def SlS {α:Type} [Enc α] (S:Nat->Prop) (w:World) (A:Option Addr) (n c:Nat) (xs:List α):Prop:=n=xs.length/\n<=c/\c<=9223372036854775807/\(0<n->∃ (b off:Nat) (css:Nat->List Value),A=some ⟨b,off,none⟩/\S b/\b<w.heap.size/\ ∀ i x,xs[i]? = some x->Enc.R S w x (css i)/\∀ j v,(css i)[j]? = some v->w.cell? ⟨b,off+i * Enc.k α+j,none⟩=some v)
abbrev SlR {α:Type} [Enc α] (w:World) (A:Option Addr) (n c:Nat) (xs:List α):Prop:=SlS (fun _=>True) w A n c xs
theorem Zoa {w w':World} {b o:Nat} (h:w'.heap[b]? = w.heap[b]?):w'.cell? ⟨b,o,none⟩=w.cell? ⟨b,o,none⟩:=
 World.cell?_of_block (a:=⟨b,o,none⟩) h
theorem SlS.keep {α:Type} [Enc α] {S:Nat->Prop} {w w':World} {A:Option Addr} {n c:Nat} {xs:List α} (hk:∀ b,S b->b<w.heap.size->w'.heap[b]? = w.heap[b]?) (hz:w.heap.size<=w'.heap.size) (h:SlS S w A n c xs):SlS S w' A n c xs:=by{
obtain ⟨h1,h2,h3,h4⟩:=h
refine ⟨h1,h2,h3,fun h0=>?_⟩
obtain ⟨b,off,css,hA,hS,hlt,hx⟩:=h4 h0
refine ⟨b,off,css,hA,hS,Nat.lt_of_lt_of_le hlt hz,fun i x hi=>?_⟩
obtain ⟨hr,hc⟩:=hx i x hi
exact ⟨Enc.keep hk hz hr,fun j v hj=>(Zoa (hk b hS hlt)).trans (hc j v hj)⟩}
theorem SlS.weak {α:Type} [Enc α] {S S':Nat->Prop} {w:World} {A:Option Addr} {n c:Nat} {xs:List α} (hs:∀ b,S b->b<w.heap.size->S' b) (h:SlS S w A n c xs):SlS S' w A n c xs:=by{
obtain ⟨h1,h2,h3,h4⟩:=h
refine ⟨h1,h2,h3,fun h0=>?_⟩
obtain ⟨b,off,css,hA,hS,hlt,hx⟩:=h4 h0
refine ⟨b,off,css,hA,hs b hS hlt,hlt,fun i x hi=>?_⟩
obtain ⟨hr,hc⟩:=hx i x hi
exact ⟨Enc.weak hs hr,hc⟩}
theorem SlR.mono {α:Type} [Enc α] {w w':World} {A:Option Addr} {n c:Nat} {xs:List α} (hb:Below w.heap.size w w') (h:SlR w A n c xs):SlR w' A n c xs:=
 SlS.keep (fun b _ hl=>hb.block b hl) hb.size h
theorem Enc.mono {α:Type} [Enc α] {S:Nat->Prop} {w w':World} {x:α} {cs:List Value} (hb:Below w.heap.size w w') (h:Enc.R S w x cs):Enc.R S w' x cs:=
 Enc.keep (fun b _ hl=>hb.block b hl) hb.size h
theorem SlS.nil {α:Type} [Enc α] (S:Nat->Prop) (w:World):SlS S w none 0 0 ([]:List α):=⟨rfl,Nat.le_refl _,by omega,fun h=>absurd h (by omega)⟩
theorem SlR.nil {α:Type} [Enc α] (w:World):SlR w none 0 0 ([]:List α):=SlS.nil _ w
theorem SlS.le {α:Type} [Enc α] {S:Nat->Prop} {w:World} {A:Option Addr} {n c:Nat} {xs:List α} (h:SlS S w A n c xs):n<=c/\c<=9223372036854775807:=⟨h.2.1,h.2.2.1⟩
theorem SlS.elem {α:Type} [Enc α] {S:Nat->Prop} {w:World} {A:Option Addr} {n c q:Nat} {xs:List α} (h:SlS S w A n c xs) (hq:q<n) :
  ∃ (b off:Nat) (x:α) (cs:List Value),A=some ⟨b,off,none⟩/\b<w.heap.size/\xs[q]? = some x/\xs.drop q=x::xs.drop (q+1)/\Enc.R S w x cs/\
   ∀ j v,cs[j]? = some v->w.cell? ⟨b,off+q * Enc.k α+j,none⟩=some v:=by{
obtain ⟨h1,h2,h3,h4⟩:=h
obtain ⟨b,off,css,hA,hS,hlt,hx⟩:=h4 (by omega)
have hql:q<xs.length:=by omega
obtain ⟨hr,hc⟩:=hx q _ (List.getElem?_eq_getElem hql)
exact ⟨b,off,xs[q],css q,hA,hlt,List.getElem?_eq_getElem hql,List.drop_eq_getElem_cons hql,hr,hc⟩}
@[reducible] def Enc.plain {α:Type} (k:Nat) (enc:α->List Value) (h:∀ x,(enc x).length=k) (h1:∀ x,∀ u ∈ enc x,u.oneCell'=true):Enc α where
 k:=k
 R:=fun _ _ x cs=>cs=enc x
 len:=fun e=>by subst e;exact h _
 one:=fun e=>by subst e;exact h1 _
 keep:=fun _ _ e=>e
 weak:=fun _ e=>e
instance:Enc Int:=Enc.plain 1 (fun x=>[.int .i64 x]) (fun _=>rfl) (by simp [Value.oneCell'])
instance:Enc ByteArray:=Enc.plain 1 (fun x=>[.string x]) (fun _=>rfl) (by simp [Value.oneCell'])
@[simp] theorem ZAe:Enc.k Int=1:=rfl
@[simp] theorem ZzP:Enc.k ByteArray=1:=rfl
instance {α:Type} [Enc α]:Enc (List α) where
 k:=1
 R:=fun S w xs cs=>∃ A n c,cs = [.slice A n c]/\SlS S w A n c xs
 len:=fun ⟨_,_,_,e,_⟩=>by subst e;rfl
 one:=fun ⟨_,_,_,e,_⟩=>by subst e;simp [Value.oneCell']
 keep:=fun hk hz ⟨A,n,c,e,h⟩=>⟨A,n,c,e,h.keep hk hz⟩
 weak:=fun hs ⟨A,n,c,e,h⟩=>⟨A,n,c,e,h.weak hs⟩
theorem ZmT {α:Type} (enc:α->List Value) (k:Nat) (hk:∀ x,(enc x).length=k):∀ (xs:List α) (i:Nat) (x:α) (j:Nat) (v:Value),xs[i]? = some x->(enc x)[j]? = some v->(xs.flatMap enc)[i * k+j]? = some v
 | [],i,x,j,v,h,_=>by simp at h
 | y::ys,0,x,j,v,h,hv=>by
   simp at h
   subst h
   have hj:j<(enc y).length:=(List.getElem?_eq_some_iff.1 hv).1
   rw [List.flatMap_cons,Nat.zero_mul,Nat.zero_add,List.getElem?_append_left hj]
   exact hv
 | y::ys,i+1,x,j,v,h,hv=>by
   simp at h
   have:=ZmT enc k hk ys i x j v h hv
   rw [List.flatMap_cons,List.getElem?_append_right (by rw [hk,Nat.succ_mul];omega),hk,<- this]
   congr 1
   rw [Nat.succ_mul];omega
theorem SlR.of_cells {α:Type} [Enc α] (enc:α->List Value) (hR:∀ (S:Nat->Prop) (w:World) (x:α),Enc.R S w x (enc x)) {w:World} {b off n c:Nat} {xs:List α} (hbl:b<w.heap.size)
  (hn:n=xs.length) (hnc:n<=c) (hc:c<=9223372036854775807)
  (h:∀ i v,(xs.flatMap enc)[i]? = some v->w.cell? ⟨b,off+i,none⟩=some v):SlR w (some ⟨b,off,none⟩) n c xs:=
 ⟨hn,hnc,hc,fun _=>⟨b,off,fun i=>match xs[i]? with | some x=>enc x | none=>[],rfl,trivial,hbl,fun i x hx=>by
  simp only [hx]
  refine ⟨hR _ w x,fun j v hv=>?_⟩
  rw [Nat.add_assoc]
  exact h _ _ (ZmT enc (Enc.k α) (fun y=>Enc.len (hR (fun _=>True) w y)) xs i x j v hx hv)⟩⟩
theorem ZuT (w:World) (cs:Array Value) (t:TypeId) (i:Nat):(w.alloc (.cells cs t)).cell? ⟨w.heap.size,i,none⟩=cs[i]?:=by
 show (match (w.heap.push (.cells cs t))[w.heap.size]? with | some (.cells c _ _)=>if (none:Option Nat).isSome then none else c[i]? | _=>none)=_
 simp
theorem SlR.built {α:Type} [Enc α] (enc:α->List Value) (hR:∀ (S:Nat->Prop) (w:World) (x:α),Enc.R S w x (enc x)) (w:World) (t:TypeId) {n:Nat} {xs:List α} {cs:List Value} (hn:n=xs.length) (hb:n<=9223372036854775807)
  (e:xs.flatMap enc=cs):SlR (w.alloc (.cells cs.toArray t)) (some ⟨w.heap.size,0,none⟩) n n xs:=
 SlR.of_cells enc hR (by simp) hn (Nat.le_refl _) hb fun i v hv=>by
  rw [Nat.zero_add,ZuT]
  rw [e] at hv
  simpa using hv
structure Title where
 space:Int
 name:ByteArray
 deriving DecidableEq
instance:Enc Title:=Enc.plain 2 (fun x=>[.int .i64 x.space,.string x.name]) (fun _=>rfl) (by simp [Value.oneCell'])
theorem ZzQ {α:Type} (f:α->Value) (xs:List α):xs.flatMap (fun x=>[f x])=xs.map f:=by
 induction xs with
 | nil=>rfl
 | cons x xs ih=>simp [ih]
theorem SlR.made {α:Type} [Enc α] (enc:α->List Value) (hR:∀ (S:Nat->Prop) (w:World) (x:α),Enc.R S w x (enc x)) (w:World) (t:TypeId) {g n:Nat} {xs:List α} {cs:List Value} (hg:w.heap.size=g) (hn:n=xs.length) (hb:n<=9223372036854775807)
  (e:xs.flatMap enc=cs):SlR (w.alloc (.cells cs.toArray t)) (some ⟨g,0,none⟩) n n xs:=by
 subst hg
 exact SlR.built enc hR w t hn hb e
theorem SlR.strs (w:World) (t:TypeId) {n:Nat} (xs:List ByteArray) (hn:n=xs.length) (hb:n<=9223372036854775807):SlR (w.alloc (.cells (xs.map Value.string).toArray t)) (some ⟨w.heap.size,0,none⟩) n n xs:=
 SlR.built (fun x:ByteArray=>[Value.string x]) (fun _ _ _=>rfl) w t hn hb (ZzQ _ _)
theorem ZmU {k:IntKind} {a b:Int} (h:a=b):Ending.returned (.int k a) = .returned (.int k b):=by rw [h]
theorem ZaD {a b:Bool} (h:a=b):Ending.returned (.bool a) = .returned (.bool b):=by rw [h]
theorem ZbX (a b:ByteArray):a.toList=b.toList↔a=b:=by
 rw [ByteArray.toList_eq,ByteArray.toList_eq]
 exact ⟨fun h=>ByteArray.ext (Array.toList_inj.1 h),fun h=>by rw [h]⟩
theorem ZsX (a b:ByteArray):(a.toList == b.toList)=decide (a=b):=by
 rw [Bool.eq_iff_iff]
 simp [ZbX]
theorem toList_inj {a b:ByteArray} (h:a.toList=b.toList):a=b:=(ZbX a b).1 h
def ZkL (P:Program) (t e:TypeId) (k bytes:Nat):Prop:=P.underlying t=some (.slice e)/\∃ i z,P.info? e=some i/\i.zero=some z/\i.size=k/\i.bytes=bytes/\z.cells.size=k
theorem Zwh {P:Program} {t e:TypeId} {k bytes:Nat} (ht:P.underlying t=some (.slice e)) (h:(P.info? e).map (fun i=>(i.zero.map (·.cells.size),i.size,i.bytes))=some (some k,k,bytes)):ZkL P t e k bytes:=by{
refine ⟨ht,?_⟩
cases hi:P.info? e with
| none=>rw [hi] at h;cases h
| some i=>
  rw [hi] at h
  simp only [Option.map_some,Option.some.injEq,Prod.mk.injEq] at h
  obtain ⟨h1,h2,h3⟩:=h
  cases hz:i.zero with
  | none=>rw [hz] at h1;cases h1
  | some z=>
    rw [hz] at h1
    exact ⟨i,z,rfl,hz,h2,h3,by simpa using h1⟩}
def OwnL {α:Type} [Enc α] (w:World) (B:Nat) (E:TypeId) (v:Value) (xs:List α):Prop:=∃ css:List (List Value),css.length=xs.length/\w.ownsRow B E (Enc.k α) v xs.length css.flatten/\ ∀ (i:Nat) (x:α) (cs:List Value),xs[i]? = some x->css[i]? = some cs->Enc.R (fun b=>v.ownBlock≠some b) w x cs
theorem ZhN {k:Nat}:∀ (css:List (List Value)) (_:∀ cs ∈ css,cs.length=k) (i:Nat) (cs:List Value) (j:Nat) (v:Value),css[i]? = some cs->cs[j]? = some v->css.flatten[i * k+j]? = some v
 | [],_,i,cs,j,v,h,_=>by simp at h
 | c::css,hk,0,cs,j,v,h,hv=>by
   simp at h
   subst h
   have hj:j<c.length:=(List.getElem?_eq_some_iff.1 hv).1
   rw [List.flatten_cons,Nat.zero_mul,Nat.zero_add,List.getElem?_append_left hj]
   exact hv
 | c::css,hk,i+1,cs,j,v,h,hv=>by
   simp at h
   have:=ZhN css (fun x hx=>hk x (List.mem_cons_of_mem _ hx)) i cs j v h hv
   have hc:=hk c (List.mem_cons_self ..)
   rw [List.flatten_cons,List.getElem?_append_right (by rw [hc,Nat.succ_mul];omega),hc,<- this]
   congr 1
   rw [Nat.succ_mul];omega
theorem ZfM {k:Nat}:∀ (css:List (List Value)) (_:∀ cs ∈ css,cs.length=k),css.flatten.length=css.length * k
 | [],_=>by simp
 | c::css,hk=>by
   rw [List.flatten_cons,List.length_append,ZfM css (fun x hx=>hk x (List.mem_cons_of_mem _ hx)),hk c (List.mem_cons_self ..),List.length_cons,Nat.succ_mul]
   omega
theorem SlS.lists {α:Type} [Enc α] {S:Nat->Prop} {w:World} {A:Option Addr} {n c:Nat} {xs:List α} (h:SlS S w A n c xs) :
  ∃ css:List (List Value),css.length=xs.length/\(∀ (i:Nat) (x:α) (cs:List Value),xs[i]? = some x->css[i]? = some cs->Enc.R S w x cs)/\
   (0<n->∃ b off,A=some ⟨b,off,none⟩/\S b/\b<w.heap.size/\∀ j v,css.flatten[j]? = some v->w.cell? ⟨b,off+j,none⟩=some v):=by{
obtain ⟨h1,h2,h3,h4⟩:=h
rcases Nat.eq_zero_or_pos n with h0 | h0
have hx:xs = []:=List.eq_nil_of_length_eq_zero (by omega)
subst hx
exact ⟨[],rfl,fun i x cs hi=>by simp at hi,fun h=>absurd h (by omega)⟩
obtain ⟨b,off,css,hA,hS,hlt,hx⟩:=h4 h0
have hlen:∀ i,i<xs.length->(css i).length=Enc.k α:=fun i hi=>Enc.len (hx i xs[i] (List.getElem?_eq_getElem hi)).1
have hget:∀ i,i<xs.length->((List.range xs.length).map css)[i]? = some (css i):=fun i hi=>by simp [hi]
have hall:∀ cs ∈ (List.range xs.length).map css,cs.length=Enc.k α:=fun cs hcs=>by
 obtain ⟨i,hi,rfl⟩:=List.mem_map.1 hcs
 exact hlen i (by simpa using hi)
refine ⟨(List.range xs.length).map css,by simp,fun i x cs hi hcs=>?_,fun _=>⟨b,off,hA,hS,hlt,fun j v hj=>?_⟩⟩
have hil:i<xs.length:=(List.getElem?_eq_some_iff.1 hi).1
rw [hget i hil] at hcs
obtain rfl:css i=cs:=by simpa using hcs
exact (hx i x hi).1
have hjl:=(List.getElem?_eq_some_iff.1 hj).1
rw [ZfM _ hall,List.length_map,List.length_range] at hjl
have hk:0<Enc.k α:=by
 rcases Nat.eq_zero_or_pos (Enc.k α) with e | e
 rw [e] at hjl;simp at hjl
 exact e
have hi:j / Enc.k α<xs.length:=Nat.div_lt_of_lt_mul (by rw [Nat.mul_comm];exact hjl)
have hm:j % Enc.k α<Enc.k α:=Nat.mod_lt _ hk
have hd:j / Enc.k α * Enc.k α+j % Enc.k α=j:=Nat.div_add_mod' j _
obtain ⟨u,hu⟩:∃ u,(css (j / Enc.k α))[j % Enc.k α]? = some u:=⟨_,List.getElem?_eq_getElem (by rw [hlen _ hi];exact hm)⟩
have hf:=ZhN _ hall (j / Enc.k α) _ (j % Enc.k α) u (hget _ hi) hu
rw [hd,hj] at hf
obtain rfl:v=u:=by simpa using hf
have:=(hx _ _ (List.getElem?_eq_getElem hi)).2 _ _ hu
rw [Nat.add_assoc,hd] at this
exact this}
section
variable {P:Program} {α:Type} [Enc α]
theorem OwnL.nil (w:World) (B:Nat) (E:TypeId):OwnL w B E (.slice none 0 0) ([]:List α):=
 ⟨[],rfl,⟨by simp,.inl ⟨rfl,rfl⟩⟩,fun i x cs hi=>by simp at hi⟩
theorem OwnL.sl {w:World} {B:Nat} {E:TypeId} {v:Value} {xs:List α} (h:OwnL w B E v xs):∃ A c,v = .slice A xs.length c/\SlR w A xs.length c xs/\(0<xs.length->∃ g,A=some ⟨g,0,none⟩/\B<=g/\g<w.heap.size):=by{
obtain ⟨css,hl,⟨hlen,hv⟩,hR⟩:=h
rcases hv with ⟨rfl,hn⟩ | ⟨g,cap,cur,rfl,hB,hh,hc,hm,hs,ht⟩
have hx:xs = []:=List.eq_nil_of_length_eq_zero hn
subst hx
exact ⟨_,_,rfl,SlR.nil w,fun h=>absurd h (by simp)⟩
have hg:g<w.heap.size:=by
 rcases Nat.lt_or_ge g w.heap.size with h | h
 exact h
 rw [Array.getElem?_eq_none h] at hh;cases hh
have hall:∀ cs ∈ css,cs.length=Enc.k α:=fun cs hcs=>by
 obtain ⟨i,hi,rfl⟩:=List.getElem_of_mem hcs
 exact Enc.len (hR i xs[i] css[i] (List.getElem?_eq_getElem (by omega)) (List.getElem?_eq_getElem hi))
refine ⟨_,_,rfl,⟨rfl,hc,by unfold maxLen at hm;exact hm,fun _=>⟨g,0,fun i=>css.getD i [],rfl,trivial,hg,fun i x hi=>?_⟩⟩,fun _=>⟨g,rfl,hB,hg⟩⟩
have hil:i<css.length:=by rw [hl];exact (List.getElem?_eq_some_iff.1 hi).1
have hci:css[i]? = some (css.getD i []):=by rw [List.getD_eq_getElem?_getD,List.getElem?_eq_getElem hil];rfl
refine ⟨Enc.weak (fun _ _ _=>trivial) (hR i x _ hi hci),fun j v hj=>?_⟩
have hf:=ZhN css hall i _ j v hci hj
have hcell:w.cell? ⟨g,i * Enc.k α+j,none⟩=cur[i * Enc.k α+j]?:=cell_of_row w g _ cur E (0,0) hh
rw [Nat.zero_add,hcell,<- Array.getElem?_toList,<- hf,<- ht,List.getElem?_take]
have hfl:=(List.getElem?_eq_some_iff.1 hf).1
rw [<- ht,List.length_take] at hfl
rw [if_pos (by omega)]}
theorem OwnL.keep {w w':World} {B:Nat} {E:TypeId} {v:Value} {xs:List α} (hb:Below w.heap.size w w') (h:OwnL w B E v xs):OwnL w' B E v xs:=by{
obtain ⟨css,hl,⟨hlen,hv⟩,hR⟩:=h
refine ⟨css,hl,⟨hlen,?_⟩,fun i x cs hi hcs=>Enc.mono hb (hR i x cs hi hcs)⟩
rcases hv with h | ⟨g,cap,cur,rfl,hB,hh,r⟩
exact .inl h
have hg:g<w.heap.size:=by
 rcases Nat.lt_or_ge g w.heap.size with h | h
 exact h
 rw [Array.getElem?_eq_none h] at hh;cases hh
exact .inr ⟨g,cap,cur,rfl,hB,(hb.block g hg).trans hh,r⟩}
theorem Zfm {P:Program} (w:World) (base:Nat) (t ty e:TypeId) (i:TypeInfo) (size:Nat) (ht:P.underlying t=some (.slice e)) (hi:P.info? e=some i)
  (v:Value) (n:Nat) (xs:List Value) (hown:w.ownsRow base e size v n xs) (c:Nat):(Builtin.append_ #[t,t] ty #[v,.slice none 0 c]).run P w = .ok v w:=by
 rcases hown.2 with ⟨rfl,rfl⟩ | ⟨g,cap,cur,rfl,_,_,hnc,_⟩
 simp [Builtin.append_,run_underlying ht,sizeOf,typeInfo,hi,Builtin.lenOf,Builtin.firstCells]
 simp [Builtin.append_,run_underlying ht,sizeOf,typeInfo,hi,Builtin.lenOf,Builtin.firstCells,hnc,storeCells]
theorem OwnL.base {w:World} {B B':Nat} {E:TypeId} {v:Value} {xs:List α} (h:OwnL w B E v xs) (hB:B'<=B):OwnL w B' E v xs:=by
 obtain ⟨css,hl,⟨hlen,hv⟩,hR⟩:=h
 exact ⟨css,hl,⟨hlen,hv.imp id fun ⟨g,cap,cur,h1,h2,h3⟩=>⟨g,cap,cur,h1,Nat.le_trans hB h2,h3⟩⟩,hR⟩
theorem OwnL.ge {w:World} {B b:Nat} {E:TypeId} {v:Value} {xs:List α} (h:OwnL w B E v xs) (hv:v.ownBlock=some b):B<=b:=by{
obtain ⟨css,hl,⟨hlen,h'⟩,hR⟩:=h
rcases h' with ⟨rfl,_⟩ | ⟨g,cap,cur,rfl,hB,_⟩
simp [Value.ownBlock] at hv
have:g=b:=by simpa [Value.ownBlock] using hv
omega}
theorem OwnL.built {w:World} {B:Nat} {E:TypeId} {n:Nat} {xs:List α} (css:List (List Value)) (cs:Array Value) (hB:B<=w.heap.size) (hn:n=xs.length) (hl:css.length=xs.length) (hm:n<=maxLen)
  (hR:∀ (i:Nat) (x:α) (cs:List Value),xs[i]? = some x->css[i]? = some cs->Enc.RT w x cs) (hc:css.flatten=cs.toList):OwnL (w.alloc (.cells cs E)) B E (.slice (some ⟨w.heap.size,0,none⟩) n n) xs:=by{
subst hn
have hb:Below w.heap.size w (w.alloc (.cells cs E)):=Below.al (Below.refl _ _) _
have hall:∀ c ∈ css,c.length=Enc.k α:=fun c hcs=>by
 obtain ⟨i,hi,rfl⟩:=List.getElem_of_mem hcs
 exact Enc.len (hR i xs[i] css[i] (List.getElem?_eq_getElem (by omega)) (List.getElem?_eq_getElem hi))
have hfl:=ZfM css hall
refine ⟨css,hl,⟨by rw [hfl,hl],.inr ⟨w.heap.size,xs.length,cs,rfl,hB,heap_alloc_new w _,Nat.le_refl _,hm,?_,?_⟩⟩,fun i x c hi hcs=>?_⟩
rw [<- Array.length_toList,<- hc,hfl,hl]
rw [hc,List.take_of_length_le]
rw [<- hc,hfl,hl];exact Nat.le_refl _
refine Enc.mono hb (Enc.weak (fun b _ hlt e=>?_) (hR i x c hi hcs))
have e':w.heap.size=b:=by simpa [Value.ownBlock] using e
omega}
theorem Zof {t E:TypeId} {ty:TypeId} {bytes:Nat} (ok:ZkL P t E (Enc.k α) bytes) (hk0:0<Enc.k α) {w:World} {B:Nat} {v:Value} {xs:List α} (hown:OwnL w B E v xs)
  {A:Option Addr} {m c:Nat} {ys:List α} {S:Nat->Prop} (hr:SlS S w A m c ys) (hE:∀ (y:α) (cs:List Value),y ∈ ys->Enc.R S w y cs->Enc.R (fun b=>v.ownBlock≠some b) w y cs)
  (h63:xs.length+m<=maxLen) (hbytes:(xs.length+m) * bytes<=140737488355328) (hbase:B<=w.heap.size) :
  ∃ v' w',(Builtin.append_ #[t,t] ty #[v,.slice A m c]).run P w = .ok v' w'/\OwnL w' B E v' (xs++ys)/\w.grownBy w' v.ownBlock/\(v'.ownBlock=v.ownBlock\/v'.ownBlock=some w.heap.size):=by{
obtain ⟨ht,i,z,hi,hz,hsize,hby,hzs⟩:=ok
obtain ⟨css,hl,hw,hR⟩:=hown
obtain ⟨css2,hl2,hR2,hc2⟩:=hr.lists
have hm:=hr.1
have hall:∀ cs ∈ css2,cs.length=Enc.k α:=fun cs hcs=>by
 obtain ⟨j,hj,rfl⟩:=List.getElem_of_mem hcs
 exact Enc.len (hR2 j ys[j] css2[j] (List.getElem?_eq_getElem (by omega)) (List.getElem?_eq_getElem hj))
have hfl:=ZfM css2 hall
have hone:∀ u ∈ css2.flatten,u.oneCell'=true:=fun u hu=>by
 obtain ⟨cs,hcs,hu⟩:=List.mem_flatten.1 hu
 obtain ⟨j,hj,rfl⟩:=List.getElem_of_mem hcs
 exact Enc.one (hR2 j ys[j] css2[j] (List.getElem?_eq_getElem (by omega)) (List.getElem?_eq_getElem hj)) u hu
have hfin:∀ (v':Value) (w':World),w.grownBy w' v.ownBlock->(v'.ownBlock=v.ownBlock\/v'.ownBlock=some w.heap.size)->w'.ownsRow B E (Enc.k α) v' (xs.length+m) (css.flatten++css2.flatten)->OwnL w' B E v' (xs++ys):=fun v' w' hg hv' hw'=>by
 refine ⟨css++css2,by simp [hl,hl2],by rw [List.flatten_append,List.length_append,<- hm];exact hw',fun j x cs hj hcs=>?_⟩
 have hx:Enc.R (fun b=>v.ownBlock≠some b) w x cs:=by
  rcases Nat.lt_or_ge j xs.length with hjl | hjl
  rw [List.getElem?_append_left hjl] at hj
  rw [List.getElem?_append_left (by omega)] at hcs
  exact hR j x cs hj hcs
  rw [List.getElem?_append_right hjl] at hj
  rw [List.getElem?_append_right (by omega),hl] at hcs
  exact hE x cs (List.mem_of_getElem? hj) (hR2 _ x cs hj hcs)
 have hx':Enc.R (fun b=>v.ownBlock≠some b/\b<w.heap.size) w x cs:=Enc.weak (fun _ h1 h2=>⟨h1,h2⟩) hx
 have hx2:=Enc.keep (w':=w') (fun b hb _=>hg.block b hb.2 (fun e=>hb.1 e.symm)) hg.size hx'
 refine Enc.weak (fun b hb _=>?_) hx2
 rcases hv' with e | e
 rw [e];exact hb.1
 rw [e];intro e2;injection e2 with e2;omega
rcases A with _ | ad
have hm0:m=0:=by
 rcases Nat.eq_zero_or_pos m with h0 | h0
 exact h0
 obtain ⟨b,off,h,_⟩:=hc2 h0
 cases h
subst hm0
have hys:ys = []:=List.eq_nil_of_length_eq_zero hm.symm
subst hys
have hcs:css2 = []:=List.eq_nil_of_length_eq_zero (by rw [hl2];rfl)
subst hcs
refine ⟨v,w,Zfm w B t ty E i (Enc.k α) ht hi v _ _ hw c,?_,World.grownBy.refl w _,.inl rfl⟩
exact hfin v w (World.grownBy.refl w _) (.inl rfl) (by simpa using hw)
have hcells:∀ j u,css2.flatten[j]? = some u->w.cell? (ad.add j)=some u:=fun j u hu=>by
 rcases Nat.eq_zero_or_pos m with h0 | h0
 have hj:=(List.getElem?_eq_some_iff.1 hu).1
 rw [hfl,hl2,<- hm,h0] at hj
 simp at hj
 obtain ⟨b,off,h,_,_,hcell⟩:=hc2 h0
 injection h with h
 subst h
 have:=hcell j u hu
 unfold Addr.add
 split
 rename_i hj0;rw [hj0] at this;exact this
 exact this
obtain ⟨v',w',hrun,h2,h3,_,h5⟩:=run_append_own_at (P:=P) w B t ty E i z (Enc.k α) bytes ht hi hz hsize hby hzs hk0 v _ _ hw ad m c css2.flatten (by rw [hfl,hl2,<- hm]) hcells hone h63 hbytes hbase
exact ⟨v',w',hrun,hfin v' w' h3 h5 h2,h3,h5⟩}
theorem ZkM {o:Oper} {a:Act} {K:Act->World->Prop} {Q:Exit->Act->World->Prop} (s x:Operand) (t:TypeId)
  (ho:o.op = .call { callee:=.builtin .append,args:=#[s,x],argTypes:=#[t,t] })
  {E:TypeId} {bytes:Nat} (ok:ZkL P t E (Enc.k α) bytes) (hk0:0<Enc.k α) {w:World} {B:Nat} {v:Value} {xs:List α} (hs:a.eval s=v) (hown:OwnL w B E v xs)
  {A:Option Addr} {m c:Nat} {ys:List α} {S:Nat->Prop} (hx:a.eval x = .slice A m c) (hr:SlS S w A m c ys) (hE:∀ (y:α) (cs:List Value),y ∈ ys->Enc.R S w y cs->Enc.R (fun b=>v.ownBlock≠some b) w y cs)
  (h63:xs.length+m<=maxLen) (hbytes:(xs.length+m) * bytes<=140737488355328) (hbase:B<=w.heap.size)
  (h:∀ v' w',OwnL w' B E v' (xs++ys)->w.grownBy w' v.ownBlock->(v'.ownBlock=v.ownBlock\/v'.ownBlock=some w.heap.size)->K (a.put o.dst v') w'):o.wp P a w K Q:=by{
obtain ⟨v',w',hrun,h2,h3,h4⟩:=Zof (ty:=o.type) ok hk0 hown hr hE h63 hbytes hbase
unfold Oper.wp execOp
simp only [ho,resolve,invoke,builtin,Sem.run_bind,Sem.run_pure,Result.andThen_ok,List.map_toArray,List.map_cons,List.map_nil,hs,hx,hrun]
exact h v' w' h2 h3 h4}
theorem ZkN {ops:Array Oper} {rest:List Oper} {o:Oper} {a:Act} {Q:Exit->Act->World->Prop} (hgd:o.guard=none) (s x:Operand) (t:TypeId)
  (ho:o.op = .call { callee:=.builtin .append,args:=#[s,x],argTypes:=#[t,t] })
  {E:TypeId} {bytes:Nat} (ok:ZkL P t E (Enc.k α) bytes) (hk0:0<Enc.k α) {w:World} {B:Nat} {v:Value} {xs:List α} (hs:a.eval s=v) (hown:OwnL w B E v xs)
  {A:Option Addr} {m c:Nat} {ys:List α} {S:Nat->Prop} (hx:a.eval x = .slice A m c) (hr:SlS S w A m c ys) (hE:∀ (y:α) (cs:List Value),y ∈ ys->Enc.R S w y cs->Enc.R (fun b=>v.ownBlock≠some b) w y cs)
  (h63:xs.length+m<=maxLen) (hbytes:(xs.length+m) * bytes<=140737488355328) (hbase:B<=w.heap.size)
  (h:∀ v' w',OwnL w' B E v' (xs++ys)->w.grownBy w' v.ownBlock->(v'.ownBlock=v.ownBlock\/v'.ownBlock=some w.heap.size)->wpList P ops Q rest (a.put o.dst v') w'):wpList P ops Q (o::rest) a w:=
 wpList_plain hgd fun _ hK=>ZkM s x t ho ok hk0 hs hown hx hr hE h63 hbytes hbase fun v' w' h2 h3 h4=>hK _ _ (h v' w' h2 h3 h4)
end
end
namespace VL
open Go.RowKit
abbrev Gen:=Nat×Nat
inductive PV where
 | bool (b:Bool)
 | int (k:IntKind) (n:Int)
 | str (s:ByteArray)
 | agg (cs:List PV)
 | sl (els:List (List PV))
 | nil
 | tup (vs:List PV)
 | ptr (t:Nat) (g:Gen) (off:Nat)
 | elp (t:Nat) (g:Gen) (i k off:Nat)
 | row (t:Nat) (g:Gen)
 | suf (t:Nat) (g:Gen) (i k:Nat)
 | mp (t:Nat) (g:Gen)
 | cel (cs:List PV)
 | fn (f:Nat) (caps:List PV)
 | un
 deriving Inhabited
def PV.cell:PV->Bool | .bool _ | .int _ _ | .str _ | .sl _ | .nil | .ptr _ _ _ | .row _ _=>true | _=>false
def PV.pure:PV->Bool | .bool _ | .int _ _ | .str _ | .sl _=>true | _=>false
theorem PV.cell_of_pure {p:PV} (h:p.pure=true):p.cell=true:=by cases p<;>simp_all [PV.pure,PV.cell]
def blk:Value->Option Nat | .pointer (some ⟨b,_,_⟩)=>some b | .slice (some ⟨b,_,_⟩) _ _=>some b | .map (some b)=>some b | _=>none
structure Ctx where
 G:Gen->Prop
 F:Nat->Nat->Prop
 W:World
 ρ:Gen->Value
inductive Rep (x:Ctx):PV->Value->Prop
 | un (v:Value):Rep x .un v
 | bool (b:Bool):Rep x (.bool b) (.bool b)
 | int (k:IntKind) (n:Int):Rep x (.int k n) (.int k n)
 | str (s:ByteArray):Rep x (.str s) (.string s)
 | nil:Rep x .nil (.slice none 0 0)
 | agg (ps:List PV) (cs:Array Value) (hl:ps.length=cs.size) (h:∀ (i:Nat) (p:PV) (v:Value),ps[i]? = some p->cs[i]? = some v->Rep x p v):Rep x (.agg ps) (.agg cs)
 | tup (ps:List PV) (cs:Array Value) (hl:ps.length=cs.size) (h:∀ (i:Nat) (p:PV) (v:Value),ps[i]? = some p->cs[i]? = some v->Rep x p v):Rep x (.tup ps) (.tuple cs)
 | sl (els:List (List PV)) (A:Option Addr) (n c k b off:Nat) (f:Nat->Nat->Value) (hn:n=els.length) (hc:n<=c) (hm:c<=9223372036854775807) (hk:∀ e ∈ els,e.length=k)
   (hA:0<n->A=some ⟨b,off,none⟩) (hcell:∀ (i j:Nat) (e:List PV) (p:PV),els[i]? = some e->e[j]? = some p->p.pure=true/\x.F b (off+i * k+j)/\x.W.cell? ⟨b,off+i * k+j,none⟩=some (f i j))
   (h:∀ (i j:Nat) (e:List PV) (p:PV),els[i]? = some e->e[j]? = some p->Rep x p (f i j)):Rep x (.sl els) (.slice A n c)
 | ptr (t:Nat) (g:Gen) (off b:Nat) (hG:x.G g) (hb:blk (x.ρ g)=some b):Rep x (.ptr t g off) (.pointer (some ⟨b,off,none⟩))
 | elp (t:Nat) (g:Gen) (i k off b:Nat) (hG:x.G g) (hb:blk (x.ρ g)=some b):Rep x (.elp t g i k off) (.pointer (some ⟨b,i * k+off,none⟩))
 | row (t:Nat) (g:Gen) (A:Option Addr) (n c:Nat) (hG:x.G g) (hv:x.ρ g = .slice A n c):Rep x (.row t g) (.slice A n c)
 | suf (t:Nat) (g:Gen) (i k:Nat) (A A':Option Addr) (n c c':Nat) (hG:x.G g) (hv:x.ρ g = .slice A n c) (hi:i<=n) (hc:n<=c/\c<=9223372036854775807) (hA:i<n->∃ b,A=some ⟨b,0,none⟩/\A'=some ⟨b,i * k,none⟩):Rep x (.suf t g i k) (.slice A' (n-i) c')
 | mp (t:Nat) (g:Gen) (b:Nat) (hG:x.G g) (hv:x.ρ g = .map (some b)):Rep x (.mp t g) (.map (some b))
 | cel (cs:List PV) (b off:Nat) (f:Nat->Value) (hcell:∀ (j:Nat) (p:PV),cs[j]? = some p->p.pure=true/\x.F b (off+j)/\x.W.cell? ⟨b,off+j,none⟩=some (f j))
   (h:∀ (j:Nat) (p:PV),cs[j]? = some p->Rep x p (f j)):Rep x (.cel cs) (.pointer (some ⟨b,off,none⟩))
 | fn (f:Nat) (ps:List PV) (cs:Array Value) (hl:ps.length=cs.size) (h:∀ (i:Nat) (p:PV) (v:Value),ps[i]? = some p->cs[i]? = some v->Rep x p v):Rep x (.fn f ps) (.func (.func f) #[] cs)
theorem Rep.mono {x y:Ctx} {p:PV} {v:Value} (h:Rep x p v) (hG:∀ g,x.G g->y.G g/\y.ρ g=x.ρ g) (hF:∀ b o,x.F b o->y.F b o)
  (hW:∀ b o v,x.F b o->x.W.cell? ⟨b,o,none⟩=some v->y.W.cell? ⟨b,o,none⟩=some v):Rep y p v:=by{
induction h with
| un v=>exact .un v
| bool b=>exact .bool b
| int k n=>exact .int k n
| str s=>exact .str s
| nil=>exact .nil
| agg ps cs hl _ ih=>exact .agg ps cs hl ih
| tup ps cs hl _ ih=>exact .tup ps cs hl ih
| sl els A n c k b off f hn hc hm hk hA hcell _ ih=>
  exact .sl els A n c k b off f hn hc hm hk hA (fun i j e p he hp=>by
   obtain ⟨h1,h2,h3⟩:=hcell i j e p he hp
   exact ⟨h1,hF _ _ h2,hW _ _ _ h2 h3⟩) ih
| ptr t g off b h1 h2=>
  obtain ⟨a1,a2⟩:=hG g h1
  exact .ptr t g off b a1 (by rw [a2];exact h2)
| elp t g i k off b h1 h2=>
  obtain ⟨a1,a2⟩:=hG g h1
  exact .elp t g i k off b a1 (by rw [a2];exact h2)
| row t g A n c h1 h2=>
  obtain ⟨a1,a2⟩:=hG g h1
  exact .row t g A n c a1 (by rw [a2];exact h2)
| suf t g i k A A' n c c' h1 h2 h3 h4 h5=>
  obtain ⟨a1,a2⟩:=hG g h1
  exact .suf t g i k A A' n c c' a1 (by rw [a2];exact h2) h3 h4 h5
| mp t g b h1 h2=>
  obtain ⟨a1,a2⟩:=hG g h1
  exact .mp t g b a1 (by rw [a2];exact h2)
| cel cs b off f hcell _ ih=>
  exact .cel cs b off f (fun j p hp=>by
   obtain ⟨h1,h2,h3⟩:=hcell j p hp
   exact ⟨h1,hF _ _ h2,hW _ _ _ h2 h3⟩) ih
| fn f ps cs hl _ ih=>exact .fn f ps cs hl ih}
theorem Rep.one {x:Ctx} {p:PV} {v:Value} (h:Rep x p v) (hp:p.cell=true):v.oneCell'=true:=by
 cases h<;>simp_all [PV.cell,Value.oneCell']
theorem Rep.pure_mono {x y:Ctx} {p:PV} {v:Value} (h:Rep x p v) (hp:p.pure=true) (hF:∀ b o,x.F b o->y.F b o)
  (hW:∀ b o v,x.F b o->x.W.cell? ⟨b,o,none⟩=some v->y.W.cell? ⟨b,o,none⟩=some v):Rep y p v:=by{
induction h with
| un v=>simp [PV.pure] at hp
| bool b=>exact .bool b
| int k n=>exact .int k n
| str s=>exact .str s
| nil=>simp [PV.pure] at hp
| agg ps cs hl _ ih=>simp [PV.pure] at hp
| tup ps cs hl _ ih=>simp [PV.pure] at hp
| sl els A n c k b off f hn hc hm hk hA hcell _ ih=>
  exact .sl els A n c k b off f hn hc hm hk hA (fun i j e p he hp=>by
   obtain ⟨h1,h2,h3⟩:=hcell i j e p he hp
   exact ⟨h1,hF _ _ h2,hW _ _ _ h2 h3⟩) (fun i j e p he hq=>ih i j e p he hq (hcell i j e p he hq).1)
| ptr t g off b h1 h2=>simp [PV.pure] at hp
| elp t g i k off b h1 h2=>simp [PV.pure] at hp
| row t g A n c h1 h2=>simp [PV.pure] at hp
| suf t g i k A A' n c c' h1 h2 h3 h4 h5=>simp [PV.pure] at hp
| mp t g b h1 h2=>simp [PV.pure] at hp
| cel cs b off f hcell _ ih=>simp [PV.pure] at hp
| fn f ps cs hl _ ih=>simp [PV.pure] at hp}
def ZiM:PV->Option Value | .bool b=>some (.bool b) | .int k n=>some (.int k n) | .str s=>some (.string s) | _=>none
def Zbc:List PV->Option (List Value)
 | []=>some []
 | p::ps=>match ZiM p,Zbc ps with
   | some v,some vs=>some (v::vs)
   | _,_=>none
def plain:PV->Option Value | .agg ps=>(Zbc ps).map fun vs=>.agg vs.toArray | p=>ZiM p
inductive VObj where
 | box (cs:List PV)
 | row (E k:Nat) (sh:Bool) (els:List (List PV))
 | prow (E k:Nat) (els:List (List PV))
 | mp (ents:List (PV×PV))
 | qrow (E k:Nat) (els:List (List PV))
def ObRep (x:Ctx) (B:Nat) (D:Nat->Prop) (g:Gen):VObj->Prop | .box cs=>∃ b T vs,x.ρ g = .pointer (some ⟨b,0,none⟩)/\x.W.heap[b]? = some (.cells vs T (0,0))/\cs.length=vs.size/\(∀ p ∈ cs,p.cell=true)/\ (∀ (j:Nat) (p:PV) (v:Value),cs[j]? = some p->vs[j]? = some v->Rep x p v)/\(B<=b\/D b)/\∀ o,¬ x.F b o | .row E k sh els=>(∀ e ∈ els,e.length=k)/\(∀ e ∈ els,∀ p ∈ e,p.pure=true)/\∃ vs,x.W.ownsRow 0 E k (x.ρ g) els.length vs/\ (∀ (m:Nat) (p:PV) (v:Value),els.flatten[m]? = some p->vs[m]? = some v->Rep x p v)/\∀ b,blk (x.ρ g)=some b->(B<=b\/D b)/\∀ o,x.F b o->sh=true/\o<els.length * k | .prow E k els=>(∀ e ∈ els,e.length=k)/\(∀ e ∈ els,∀ p ∈ e,p.cell=true)/\∃ vs,x.W.ownsRow 0 E k (x.ρ g) els.length vs/\ (∀ (m:Nat) (p:PV) (v:Value),els.flatten[m]? = some p->vs[m]? = some v->Rep x p v)/\∀ b,blk (x.ρ g)=some b->(B<=b\/D b)/\∀ o,¬ x.F b o | .mp ents=>∃ b es clock,x.ρ g = .map (some b)/\x.W.heap[b]? = some (.map es clock)/\ents.map (fun e=>(plain e.1,plain e.2))=es.toList.map (fun e=>(some e.key,some e.val))/\MapKept.Stamped es clock/\(B<=b\/D b)/\∀ o,¬ x.F b o | .qrow E k els=>(∀ e ∈ els,e.length=k)/\(∀ e ∈ els,∀ p ∈ e,p.pure=true)/\∃ b off cap cur,x.ρ g = .slice (some ⟨b,off,none⟩) els.length cap/\x.W.heap[b]? = some (.cells cur E (0,0))/\els.length<=cap/\cap<=maxLen/\off+cap * k<=cur.size/\ (∀ (i j:Nat) (e:List PV) (p:PV),els[i]? = some e->e[j]? = some p->x.F b (off+(i * k+j))/\∃ v,x.W.cell? ⟨b,off+(i * k+j),none⟩=some v/\Rep x p v)/\(B<=b\/D b)/\(els.length<cap->∀ o,x.F b o->o<off+els.length * k)
structure FS where
 tm:Nat->PV
 ob:Nat->Option (Gen×VObj)
 ng:Nat
structure Gr (D:Nat->Prop) (w w':World):Prop where
 os:w'.os=w.os
 tape:w'.tape=w.tape
 output:w'.output=w.output
 size:w.heap.size<=w'.heap.size
 block:∀ b,b<w.heap.size->¬ D b->w'.heap[b]? = w.heap[b]?
theorem Gr.refl (D:Nat->Prop) (w:World):Gr D w w:=⟨rfl,rfl,rfl,Nat.le_refl _,fun _ _ _=>rfl⟩
structure Run where
 W0:World
 D:Nat->Prop
 N:Nat
 F0:Nat->Nat->Prop
 G0:Gen->Prop
 ρ0:Gen->Value
 I:World->Prop
structure RstX (r:Run) (S:Nat->Prop) (s:FS) (a:Act) (x:Ctx):Prop where
 defers:a.defers = []
 size:a.tmps.size=r.N
 gr:Gr r.D r.W0 x.W
 gens:∀ g,x.G g->g.1<s.ng\/(g.1=s.ng/\S g.2)
 tm:∀ t,Rep x (s.tm t) (a.tmps.getD t undef)
 ob:∀ t g o,s.ob t=some (g,o)->x.G g/\ObRep x r.W0.heap.size r.D g o
 apart:∀ t t' g g' o o' b,t≠t'->s.ob t=some (g,o)->s.ob t'=some (g',o')->blk (x.ρ g)=some b->blk (x.ρ g')≠some b
 flt:∀ b o,x.F b o->b<x.W.heap.size
 f0:∀ b o,r.F0 b o->x.F b o
 fnew:∀ b o,x.F b o->r.F0 b o\/r.W0.heap.size<=b\/r.D b
 rho:∀ g,r.G0 g->x.G g/\x.ρ g=r.ρ0 g
 inv:(∀ W',Gr r.D r.W0 W'->r.I W')/\∀ g,r.G0 g->g.1=0
 keep:∀ b o v,r.F0 b o->r.W0.cell? ⟨b,o,none⟩=some v->x.W.cell? ⟨b,o,none⟩=some v
structure TI where
 desc:TypeDesc
 size:Nat
 bytes:Nat
 zero:List PV
def Zbv:Value->PV | .bool b=>.bool b | .int k n=>.int k n | .string s=>.str s | .slice none 0 0=>.nil | _=>.un
def Zd3:Value->PV | .agg cs=>.agg (cs.toList.map Zbv) | v=>Zbv v
def tyI (P:Program) (T:TypeId):Option TI:=
 match P.underlying T,P.info? T with
 | some d,some i=>match i.zero with
   | some z=>some ⟨d,i.size,i.bytes,z.cells.toList.map Zbv⟩
   | none=>none
 | _,_=>none
def TypeDesc.isAgg:TypeDesc->Bool | .struct _ | .array _ _=>true | _=>false
def ev (s:FS):Operand->PV | .tmp t=>s.tm t | .const v=>Zd3 v | .func f=>.fn f [] | .global _=>.un
structure Upd where
 val:PV
 obs:List (Nat×Option (Gen×VObj))
def Zcv (f:Nat->Option (Gen×VObj)) (t:Nat) (o:Option (Gen×VObj)):Nat->Option (Gen×VObj):=fun t'=>if t'=t then o else f t'
def ZrV (f:Nat->PV) (d:Option Nat) (v:PV):Nat->PV:=match d with | some d=>fun t=>if t=d then v else f t | none=>f
def FS.app (s:FS) (d:Option Nat) (u:Upd):FS:=⟨ZrV s.tm d u.val,u.obs.foldl (fun f o=>Zcv f o.1 o.2) s.ob,s.ng⟩
def Zbh (f:Nat->Option (Gen×VObj)) (t:Nat) (g:Gen):Option VObj:=match f t with | some (g',o)=>if g'=g then some o else none | none=>none
def PV.cells:PV->List PV | .agg cs=>cs | p=>[p]
def Zpg (f:Nat->Option (Gen×VObj)):PV->Option (PV×List (Nat×Option (Gen×VObj)))
 | .bool b=>some (.bool b,[])
 | .int k n=>some (.int k n,[])
 | .str s=>some (.str s,[])
 | .sl els=>some (.sl els,[])
 | .nil=>some (.sl [],[])
 | .row t g=>match Zbh f t g with
   | some (.row E k sh els)=>some (.sl els,if sh then [] else [(t,some (g,.row E k true els))])
   | _=>none
 | _=>none
def ZeZ (f:Nat->Option (Gen×VObj)):List PV->Option (List PV×List (Nat×Option (Gen×VObj)))
 | []=>some ([],[])
 | p::ps=>match Zpg f p,ZeZ f ps with
   | some (q,us),some (qs,vs)=>some (q::qs,us++vs)
   | _,_=>none
def res (f:Nat->Option (Gen×VObj)):PV->Option (PV×List (Nat×Option (Gen×VObj))) | .agg ps=>(ZeZ f ps).map fun (qs,us)=>(.agg qs,us) | p=>Zpg f p
def ZcP (cs:List PV) (off:Nat) (xs:List PV):List PV:=cs.take off++xs++cs.drop (off+xs.length)
def ZgF (f:Nat->Option (Gen×VObj)):PV->Option (List PV)
 | .ptr t g off=>match Zbh f t g with
   | some (.box cs)=>some (cs.drop off)
   | _=>none
 | .elp t g i k off=>match Zbh f t g with
   | some (.row _ k' _ els)=>if k'=k then (els[i]?).map (·.drop off) else none
   | _=>none
 | .cel cs=>some cs
 | _=>none
def Zk7 (ti:TI) (cs:List PV):Option PV:=if TypeDesc.isAgg ti.desc then (if ti.size<=cs.length then some (.agg (cs.take ti.size)) else none) else cs[0]?
def Zfv (place:Nat->Option (Nat×Nat)) (cells:List PV):List (Nat×PV)->Option (List PV)
 | []=>some cells
 | (i,v)::rest=>match place i with
  | none=>none
  | some (off,size)=>if v.cells.length≠size\/off+v.cells.length > cells.length\/v.cells.all PV.cell=false then none else Zfv place (ZcP cells off v.cells) rest
def ZjO (P:Program) (fs:Array Field) (i:Nat):Option (Nat×Nat):=match fs[i]? with | some f=>(tyI P f.type).map fun ti=>(f.offset,ti.size) | none=>none
def chunks (k:Nat):Nat->List PV->List (List PV) | 0,_=>[] | n+1,cs=>cs.take k::chunks k n (cs.drop k)
def fieldAt (P:Program) (T:TypeId) (f:Nat):Option (Nat×TI):=
 match tyI P T with
 | some ⟨.struct fs,_,_,_⟩=>match fs[f]? with
   | some f=>(tyI P f.type).map fun ti=>(f.offset,ti)
   | none=>none
 | _=>none
def toNat? : PV->Option Nat | .int _ n=>if 0<=n then some n.toNat else none | _=>none
def ZuB (f:Nat->Option (Gen×VObj)):PV->Option Nat
 | .sl els=>some els.length
 | .nil=>some 0
 | .row t g=>match Zbh f t g with
   | some (.row _ _ _ els)=>some els.length
   | _=>none
 | _=>none
def ZjP (f:Nat->Option (Gen×VObj)):PV->Option (List (List PV))
 | .sl els=>some els
 | .nil=>some []
 | .row t g=>match Zbh f t g with
   | some (.row _ _ _ els)=>some els
   | _=>none
 | _=>none
def ZuC (f:Nat->Option (Gen×VObj)):PV->List (Nat×Option (Gen×VObj))
 | .row t g=>match Zbh f t g with
   | some (.row E k sh els)=>if sh then [] else [(t,some (g,.row E k true els))]
   | _=>[]
 | _=>[]
def Zq1 (P:Program) (s:FS) (x:Operand) (T:TypeId):Option Upd:=match tyI P T,ZuB s.ob (ev s x) with | some ⟨.slice _,_,_,_⟩,some n=>some ⟨.int .i64 n,[]⟩ | _,_=>none
def ZgG (P:Program) (i:Nat) (dst:Option Tmp) (s:FS) (x y:Operand) (T:TypeId):Option Upd:=match tyI P T,ZjP s.ob (ev s y),dst with
 | some ⟨.slice E,_,_,_⟩,some new,some d=>match tyI P E with
   | some te=>match ev s x with
     | .nil=>if new.length * te.bytes<=140737488355328/\new.length<=9223372036854775807/\0<te.size/\te.zero.length=te.size/\(new.all fun e=>e.length == te.size) then some ⟨.row d (s.ng,i),[(d,some ((s.ng,i),.row E te.size false new))]⟩ else none
     | .row t g=>match Zbh s.ob t g with
       | some (.row E' k sh els)=>if E'=E/\k=te.size/\(els.length+new.length) * te.bytes<=140737488355328/\els.length+new.length<=9223372036854775807/\0<te.size/\te.zero.length=te.size/\(new.all fun e=>e.length == te.size) then
         some ⟨.row t (s.ng,i),[(t,some ((s.ng,i),.row E k sh (els++new)))]⟩ else none
       | _=>none
     | _=>none
   | none=>none
 | _,_,_=>none
def act (P:Program) (i:Nat) (o:Oper) (s:FS):Option Upd:=
 match o.op with
 | .move x | .assign x=>some ⟨ev s x,[]⟩
 | .nilCheck x=>match ev s x with
   | .ptr t g o=>some ⟨.ptr t g o,[]⟩
   | .elp t g i k o=>some ⟨.elp t g i k o,[]⟩
   | .cel cs=>some ⟨.cel cs,[]⟩
   | _=>none
 | .pick c a b=>match ev s c with
   | .bool t=>some ⟨if t then ev s a else ev s b,[]⟩
   | _=>none
 | .alloc T=>match tyI P T,o.dst with
   | some ti,some d=>if ti.zero.all PV.cell then some ⟨.ptr d (s.ng,i) 0,[(d,some ((s.ng,i),.box ti.zero))]⟩ else none
   | _,_=>none
 | .box _ x=>match o.dst with
   | some d=>if (ev s x).cells.all PV.cell then some ⟨.ptr d (s.ng,i) 0,[(d,some ((s.ng,i),.box (ev s x).cells))]⟩ else none
   | none=>none
 | .build T parts=>match tyI P T with
   | some ⟨.struct fs,_,_,z⟩=>if fs.toList.all fun f=>(tyI P f.type).isSome then (Zfv (ZjO P fs) z (parts.toList.map fun q=>(q.1,ev s q.2))).map fun cs=>⟨.agg cs,[]⟩ else none
   | some ⟨.array _ E,_,_,z⟩=>match tyI P E with
     | some te=>(Zfv (fun i=>some (i * te.size,te.size)) z (parts.toList.map fun q=>(q.1,ev s q.2))).map fun cs=>⟨.agg cs,[]⟩
     | none=>none
   | _=>none
 | .buildSlice T n parts=>match tyI P T,o.dst with
   | some ⟨.slice E,_,_,_⟩,some d=>match tyI P E with
     | some te=>match Zfv (fun i=>some (i * te.size,te.size)) (List.replicate n te.zero).flatten (parts.toList.map fun q=>(q.1,ev s q.2)) with
       | some cs=>match ZeZ s.ob cs with
         | some (qs,us)=>if qs.length=n * te.size/\n * te.size<=16777216/\0<te.size then some ⟨.row d (s.ng,i),us ++ [(d,some ((s.ng,i),.row E te.size false (chunks te.size n qs)))]⟩ else none
         | none=>none
       | none=>none
     | none=>none
   | _,_=>none
 | .load T x=>match tyI P T,ZgF s.ob (ev s x) with
   | some ti,some cs=>(Zk7 ti cs).map fun v=>⟨v,[]⟩
   | _,_=>none
 | .store T x y=>match tyI P T with
   | some ti=>if (ev s y).cells.length=ti.size then (match ev s x with
     | .ptr t g off=>match Zbh s.ob t g with
       | some (.box cs)=>if (ev s y).cells.all PV.cell/\off+ti.size<=cs.length then some ⟨.un,[(t,some (g,.box (ZcP cs off (ev s y).cells)))]⟩ else none
       | _=>none
     | .elp t g i k off=>match Zbh s.ob t g,ZeZ s.ob (ev s y).cells with
       | some (.row E k' false els),some (qs,us)=>match els[i]? with
         | some e=>if k'=k/\off+ti.size<=k/\us.all (fun q=>q.1 != t) then some ⟨.un,us ++ [(t,some (g,.row E k false (els.set i (ZcP e off qs))))]⟩ else none
         | none=>none
       | _,_=>none
     | _=>none) else none
   | none=>none
 | .fieldAddr T x f=>match fieldAt P T f with
   | some (off,ti)=>if ti.size=0 then none else (match ev s x with
     | .ptr t g o=>some ⟨.ptr t g (o+off),[]⟩
     | .elp t g i k o=>some ⟨.elp t g i k (o+off),[]⟩
     | .cel cs=>some ⟨.cel (cs.drop off),[]⟩
     | _=>none)
   | none=>none
 | .field T x f=>match fieldAt P T f,ev s x with
   | some (off,ti),.agg cs=>(Zk7 ti (cs.drop off)).map fun v=>⟨v,[]⟩
   | _,_=>none
 | .indexAddr T x y=>match tyI P T,toNat? (ev s y) with
   | some ⟨.slice E,_,_,_⟩,some n=>match tyI P E with
     | some te=>match ev s x with
       | .sl els=>match els[n]? with
         | some e=>if e.length=te.size then some ⟨.cel e,[]⟩ else none
         | none=>none
       | .row t g=>match Zbh s.ob t g with
         | some (.row _ k _ els)=>if n<els.length/\k=te.size then some ⟨.elp t g n k 0,[]⟩ else none
         | _=>none
       | _=>none
     | none=>none
   | some ⟨.array len E,_,_,_⟩,some n=>match tyI P E with
     | some te=>if n<len then (match ev s x with
       | .ptr t g o=>some ⟨.ptr t g (o+n * te.size),[]⟩
       | .cel cs=>some ⟨.cel (cs.drop (n * te.size)),[]⟩
       | _=>none) else none
     | none=>none
   | _,_=>none
 | .slice T x lo hi none=>match tyI P T,ZjP s.ob (ev s x) with
   | some ⟨.slice E,_,_,_⟩,some els=>match (match lo with | none=>some 0 | some l=>toNat? (ev s l)),(match hi with | none=>some els.length | some h=>toNat? (ev s h)) with
     | some l,some h=>if l<=h/\h<=els.length/\(tyI P E).any (fun te=>els.all fun e=>e.length == te.size) then some ⟨.sl ((els.drop l).take (h-l)),ZuC s.ob (ev s x)⟩ else none
     | _,_=>none
   | _,_=>none
 | .makeSlice T l c=>match tyI P T,toNat? (ev s l),toNat? (ev s c),o.dst with
   | some ⟨.slice E,_,_,_⟩,some n,some m,some d=>match tyI P E with
     | some te=>if n=m/\n * te.bytes<=140737488355328/\n<=9223372036854775807/\te.zero.all PV.pure/\te.zero.length=te.size/\0<te.size then some ⟨.row d (s.ng,i),[(d,some ((s.ng,i),.row E te.size false (List.replicate n te.zero)))]⟩ else none
     | none=>none
   | _,_,_,_=>none
 | .extract x k=>match ev s x with
   | .tup vs=>(vs[k]?).map fun v=>⟨v,[]⟩
   | _=>none
 | .call c=>match c.callee with
   | .builtin .len=>match c.args.toList,c.argTypes.toList with
     | [x],[T]=>Zq1 P s x T
     | _,_=>none
   | .builtin .append=>match c.args.toList,c.argTypes.toList with
     | [x,y],[T,T']=>if T=T' then ZgG P i o.dst s x y T else none
     | _,_=>none
   | _=>none
 | _=>none
def cv (s:FS) (o:Operand):Value:=(plain (ev s o)).getD undef
open Go.RowKit
theorem ZR {P:Program} {T:TypeId} {ti:TI} (h:tyI P T=some ti):∃ i z,P.underlying T=some ti.desc/\P.info? T=some i/\i.zero=some z/\i.size=ti.size/\i.bytes=ti.bytes/\ti.zero=z.cells.toList.map Zbv:=by{
unfold tyI at h
split at h
rename_i d i h1 h2
split at h
rename_i z hz
injection h with h
subst h
exact ⟨i,z,h1,h2,hz,rfl,rfl,rfl⟩
cases h
cases h}
theorem Zdp (x:Ctx) (v:Value):Rep x (Zbv v) v:=by
 unfold Zbv
 split<;>constructor
theorem ZiU (x:Ctx) (v:Value):Rep x (Zd3 v) v:=by{
unfold Zd3
split
rename_i cs
refine .agg _ _ (by simp) fun i p v hp hv=>?_
rw [List.getElem?_map,Array.getElem?_toList,hv] at hp
obtain rfl:Zbv v=p:=by simpa using hp
exact Zdp x v
exact Zdp x v}
section
variable {r:Run} {S:Nat->Prop} {s:FS} {a:Act} {x:Ctx}
theorem Zae (h:RstX r S s a x) (o:Operand):Rep x (ev s o) (a.eval o):=by{
cases o with
| tmp t=>exact h.tm t
| const v=>exact ZiU x v
| global g=>exact .un _
| func f=>exact .fn f [] #[] rfl (fun i p v hp=>by simp at hp)}
theorem ZaI {f:Nat->Option (Gen×VObj)} {t:Nat} {g:Gen} {o:VObj} (h:Zbh f t g=some o):f t=some (g,o):=by{
unfold Zbh at h
split at h
rename_i g' o' hf
split at h
rename_i hg
injection h with h
rw [hf,hg,h]
cases h
cases h}
theorem ZnA {a:Act} {d:Option Tmp} {v:Value} {N:Nat} (hs:a.tmps.size=N) (hd:∀ k,d=some k->k<N) (t:Nat) :
  (a.put d v).tmps.getD t undef=match d with | some k=>if t=k then v else a.tmps.getD t undef | none=>a.tmps.getD t undef:=by{
cases d with
| none=>rfl
| some k=>
  have hk:=hd k rfl
  simp only [Act.put,Array.getD_eq_getD_getElem?]
  by_cases e:t=k
  subst e
  rw [if_pos rfl,Array.getElem?_setIfInBounds_self_of_lt (show t<a.tmps.size by rw [hs];exact hk)]
  rfl
  rw [if_neg e,Array.getElem?_setIfInBounds_ne (fun h=>e h.symm)]}
theorem ZnB (a:Act) (d:Option Tmp) (v:Value):(a.put d v).tmps.size=a.tmps.size:=by cases d<;>simp [Act.put]
theorem Zh8 (a:Act) (d:Option Tmp) (v:Value):(a.put d v).defers=a.defers:=by cases d<;>simp [Act.put]
structure Step (x y:Ctx):Prop where
 G:∀ g,x.G g->y.G g/\y.ρ g=x.ρ g
 F:∀ b o,x.F b o->y.F b o
 W:∀ b o v,x.F b o->x.W.cell? ⟨b,o,none⟩=some v->y.W.cell? ⟨b,o,none⟩=some v
theorem Step.refl (x:Ctx):Step x x:=⟨fun _ h=>⟨h,rfl⟩,fun _ _ h=>h,fun _ _ _ _ h=>h⟩
theorem Rep.step {x y:Ctx} {p:PV} {v:Value} (h:Rep x p v) (k:Step x y):Rep y p v:=h.mono k.G k.F k.W
theorem ObRep.step {x y:Ctx} {B:Nat} {D:Nat->Prop} {g:Gen} {o:VObj} (h:ObRep x B D g o) (hg:x.G g) (k:Step x y)
  (hb:∀ b,blk (x.ρ g)=some b->y.W.heap[b]? = x.W.heap[b]?/\∀ o,y.F b o->x.F b o):ObRep y B D g o:=by{
obtain ⟨_,e⟩:=k.G g hg
cases o with
| box cs=>
  obtain ⟨b,T,vs,h1,h2,h3,h4,h5,h6,h7⟩:=h
  obtain ⟨e1,e2⟩:=hb b (by rw [h1];rfl)
  exact ⟨b,T,vs,by rw [e,h1],by rw [e1,h2],h3,h4,fun j p v hp hv=>(h5 j p v hp hv).step k,h6,fun o ho=>h7 o (e2 o ho)⟩
| row E n sh els=>
  obtain ⟨h1,h2,vs,h3,h4,h5⟩:=h
  refine ⟨h1,h2,vs,?_,fun m p v hp hv=>(h4 m p v hp hv).step k,fun b hbb=>?_⟩
  rw [e]
  refine ⟨h3.1,?_⟩
  rcases h3.2 with hn | ⟨b,cap,cur,hv,hB,hh,rest⟩
  exact .inl hn
  exact .inr ⟨b,cap,cur,hv,hB,by rw [(hb b (by rw [hv];rfl)).1,hh],rest⟩
  rw [e] at hbb
  exact ⟨(h5 b hbb).1,fun o ho=>(h5 b hbb).2 o ((hb b hbb).2 o ho)⟩
| prow E n els=>
  obtain ⟨h1,h2,vs,h3,h4,h5⟩:=h
  refine ⟨h1,h2,vs,?_,fun m p v hp hv=>(h4 m p v hp hv).step k,fun b hbb=>?_⟩
  rw [e]
  refine ⟨h3.1,?_⟩
  rcases h3.2 with hn | ⟨b,cap,cur,hv,hB,hh,rest⟩
  exact .inl hn
  exact .inr ⟨b,cap,cur,hv,hB,by rw [(hb b (by rw [hv];rfl)).1,hh],rest⟩
  rw [e] at hbb
  exact ⟨(h5 b hbb).1,fun o ho=>(h5 b hbb).2 o ((hb b hbb).2 o ho)⟩
| mp ents=>
  obtain ⟨b,es,clock,h1,h2,h3,h4,h5,h6⟩:=h
  obtain ⟨e1,e2⟩:=hb b (by rw [h1];rfl)
  exact ⟨b,es,clock,by rw [e,h1],by rw [e1,h2],h3,h4,h5,fun o ho=>h6 o (e2 o ho)⟩
| qrow E n els=>
  obtain ⟨h1,h2,b,off,cap,cur,h3,h4,h5,h6,h7,h8,h9,h10⟩:=h
  obtain ⟨e1,e2⟩:=hb b (by rw [h3];rfl)
  refine ⟨h1,h2,b,off,cap,cur,by rw [e,h3],by rw [e1,h4],h5,h6,h7,fun i j e p he hp=>?_,h9,fun hc o ho=>h10 hc o (e2 o ho)⟩
  obtain ⟨f1,v,f2,f3⟩:=h8 i j e p he hp
  exact ⟨k.F _ _ f1,v,k.W _ _ _ f1 f2,f3.step k⟩}
theorem Gr.trans' {D:Nat->Prop} {w w1 w2:World} (h:Gr D w w1) (os:w2.os=w1.os) (tape:w2.tape=w1.tape) (out:w2.output=w1.output) (size:w1.heap.size<=w2.heap.size)
  (bl:∀ b,b<w.heap.size->¬ D b->w2.heap[b]? = w1.heap[b]?):Gr D w w2:=
 ⟨os.trans h.os,tape.trans h.tape,out.trans h.output,Nat.le_trans h.size size,fun b hb hD=>(bl b hb hD).trans (h.block b hb hD)⟩
theorem ObRep.lt {B:Nat} {D:Nat->Prop} {g:Gen} {o:VObj} (h:ObRep x B D g o):∀ b,blk (x.ρ g)=some b->b<x.W.heap.size/\(B<=b\/D b):=by{
intro b hb
cases o with
| box cs=>
  obtain ⟨b',T,vs,h1,h2,h3,h4,h5,h6,h7⟩:=h
  rw [h1] at hb
  obtain rfl:b'=b:=by simpa [blk] using hb
  exact ⟨(Array.getElem?_eq_some_iff.1 h2).1,h6⟩
| row E n sh els=>
  obtain ⟨h1,h2,vs,h3,h4,h5⟩:=h
  rcases h3.2 with ⟨hn,_⟩ | ⟨b',cap,cur,hv,hB,hh,rest⟩
  rw [hn] at hb;simp [blk] at hb
  rw [hv] at hb
  obtain rfl:b'=b:=by simpa [blk] using hb
  exact ⟨(Array.getElem?_eq_some_iff.1 hh).1,(h5 b' (by rw [hv];rfl)).1⟩
| prow E n els=>
  obtain ⟨h1,h2,vs,h3,h4,h5⟩:=h
  rcases h3.2 with ⟨hn,_⟩ | ⟨b',cap,cur,hv,hB,hh,rest⟩
  rw [hn] at hb;simp [blk] at hb
  rw [hv] at hb
  obtain rfl:b'=b:=by simpa [blk] using hb
  exact ⟨(Array.getElem?_eq_some_iff.1 hh).1,(h5 b' (by rw [hv];rfl)).1⟩
| mp ents=>
  obtain ⟨b',es,clock,h1,h2,h3,h4,h5,h6⟩:=h
  rw [h1] at hb
  obtain rfl:b'=b:=by simpa [blk] using hb
  exact ⟨(Array.getElem?_eq_some_iff.1 h2).1,h5⟩
| qrow E n els=>
  obtain ⟨h1,h2,b',off,cap,cur,h3,h4,h5,h6,h7,h8,h9,h10⟩:=h
  rw [h3] at hb
  obtain rfl:b'=b:=by simpa [blk] using hb
  exact ⟨(Array.getElem?_eq_some_iff.1 h4).1,h9⟩}
theorem RstX.pureVal (h:RstX r S s a x) {d:Option Tmp} {p:PV} {v:Value} (hd:∀ k,d=some k->k<r.N) (hp:Rep x p v):RstX r S (s.app d ⟨p,[]⟩) (a.put d v) x:=by{
refine ⟨by rw [Zh8];exact h.defers,by rw [ZnB];exact h.size,h.gr,h.gens,fun t=>?_,h.ob,h.apart,h.flt,h.f0,h.fnew,h.rho,h.inv,h.keep⟩
rw [ZnA h.size hd]
cases d with
| none=>exact h.tm t
| some k=>
  show Rep x (if t=k then p else s.tm t) (if t=k then v else a.tmps.getD t undef)
  split
  exact hp
  exact h.tm t}
theorem RstX.moreS {S':Nat->Prop} (h:RstX r S s a x) (hS:∀ i,S i->S' i):RstX r S' s a x:=
 ⟨h.defers,h.size,h.gr,fun g hg=>(h.gens g hg).imp id (fun ⟨e,k⟩=>⟨e,hS _ k⟩),h.tm,h.ob,h.apart,h.flt,h.f0,h.fnew,h.rho,h.inv,h.keep⟩
theorem RstX.world (h:RstX r S s a x) {W':World} (os:W'.os=x.W.os) (tape:W'.tape=x.W.tape) (out:W'.output=x.W.output) (heap:W'.heap=x.W.heap):RstX r S s a { x with W:=W' }:=by{
have hc:∀ q,W'.cell? q=x.W.cell? q:=fun q=>World.cell?_of_block (by rw [heap])
have k:Step x { x with W:=W' }:=⟨fun _ h=>⟨h,rfl⟩,fun _ _ h=>h,fun b o v _ hv=>(hc _).trans hv⟩
exact ⟨h.defers,h.size,h.gr.trans' os tape out (by rw [heap];exact Nat.le_refl _) (fun b _ _=>by rw [heap]),h.gens,fun t=>(h.tm t).step k,
 fun t g o ho=>⟨(h.ob t g o ho).1,(h.ob t g o ho).2.step (h.ob t g o ho).1 k (fun b _=>⟨by show W'.heap[b]? = _;rw [heap],fun _ h=>h⟩)⟩,h.apart,fun b o hb=>by show b<W'.heap.size;rw [heap];exact h.flt b o hb,h.f0,h.fnew,h.rho,h.inv,fun b o v hF hv=>(hc _).trans (h.keep b o v hF hv)⟩}
end
theorem Zjy {α:Type} {k:Nat}:∀ (css:List (List α)) (_:∀ cs ∈ css,cs.length=k) (i:Nat) (cs:List α) (j:Nat) (v:α),css[i]? = some cs->cs[j]? = some v->css.flatten[i * k+j]? = some v
 | [],_,i,cs,j,v,h,_=>by simp at h
 | c::css,hk,0,cs,j,v,h,hv=>by
   simp at h
   subst h
   have hj:j<c.length:=(List.getElem?_eq_some_iff.1 hv).1
   rw [List.flatten_cons,Nat.zero_mul,Nat.zero_add,List.getElem?_append_left hj]
   exact hv
 | c::css,hk,i+1,cs,j,v,h,hv=>by
   simp at h
   have:=Zjy css (fun x hx=>hk x (List.mem_cons_of_mem _ hx)) i cs j v h hv
   have hc:=hk c (List.mem_cons_self ..)
   rw [List.flatten_cons,List.getElem?_append_right (by rw [hc,Nat.succ_mul];omega),hc,<- this]
   congr 1
   rw [Nat.succ_mul];omega
theorem Zb3 {α:Type} {k:Nat}:∀ (css:List (List α)) (_:∀ cs ∈ css,cs.length=k),css.flatten.length=css.length * k
 | [],_=>by simp
 | c::css,hk=>by
   rw [List.flatten_cons,List.length_append,Zb3 css (fun x hx=>hk x (List.mem_cons_of_mem _ hx)),hk c (List.mem_cons_self ..),List.length_cons,Nat.succ_mul]
   omega
theorem ZfF {x:Ctx} {B:Nat} {D:Nat->Prop} {g:Gen} {E k:Nat} {sh:Bool} {els:List (List PV)} (h:ObRep x B D g (.row E k sh els)) {i:Nat} {e:List PV} (hi:els[i]? = some e) :
  ∃ b n c,x.ρ g = .slice (some ⟨b,0,none⟩) n c/\n=els.length/\n<=c/\c<=maxLen/\(B<=b\/D b)/\∀ j p,e[j]? = some p->∃ v,x.W.cell? ⟨b,i * k+j,none⟩=some v/\Rep x p v:=by{
obtain ⟨h1,h2,vs,⟨hl,h3⟩,h4,h5⟩:=h
have hlt:i<els.length:=(List.getElem?_eq_some_iff.1 hi).1
rcases h3 with ⟨_,hn⟩ | ⟨b,cap,cur,hv,hB,hh,hc,hm,hs,ht⟩
omega
refine ⟨b,_,cap,hv,rfl,hc,hm,(h5 b (by rw [hv];rfl)).1,fun j p hp=>?_⟩
have hf:=Zjy els h1 i e j p hi hp
have hlen:(els.flatten).length=els.length * k:=Zb3 els h1
have hlt2:i * k+j<vs.length:=by rw [hl,<- hlen];exact (List.getElem?_eq_some_iff.1 hf).1
obtain ⟨v,hvv⟩:∃ v,vs[i * k+j]? = some v:=⟨_,List.getElem?_eq_getElem hlt2⟩
refine ⟨v,?_,h4 _ p v hf hvv⟩
have hvv':=hvv
rw [<- ht,List.getElem?_take] at hvv'
split at hvv'
rw [cell_of_row x.W b _ cur E (0,0) hh]
simpa using hvv'
cases hvv'}
open Go.RowKit
section
variable {r:Run} {S:Nat->Prop} {s:FS} {a:Act} {x:Ctx}
theorem RstX.change (h:RstX r S s a x) {S':Nat->Prop} {y:Ctx} (k:Step x y) {d:Option Tmp} {v:Value} {val:PV} (hd:∀ k,d=some k->k<r.N) {t:Nat} {g':Gen} {o:VObj}
  (os:y.W.os=x.W.os) (tape:y.W.tape=x.W.tape) (out:y.W.output=x.W.output) (size:x.W.heap.size<=y.W.heap.size)
  (hblock:∀ b,b<x.W.heap.size->(∀ g o,s.ob t=some (g,o)->blk (x.ρ g)≠some b)->y.W.heap[b]? = x.W.heap[b]?)
  (hF:∀ b o,y.F b o->x.F b o\/x.W.heap.size<=b) (hflt:∀ b o,y.F b o->b<y.W.heap.size) (gens:∀ g,y.G g->g.1<s.ng\/(g.1=s.ng/\S' g.2)) (hG:y.G g') (hob:ObRep y r.W0.heap.size r.D g' o)
  (hfresh:∀ b,blk (y.ρ g')=some b->x.W.heap.size<=b\/∃ g o,s.ob t=some (g,o)/\blk (x.ρ g)=some b) (hval:Rep y val v) :
  RstX r S' (s.app d ⟨val,[(t,some (g',o))]⟩) (a.put d v) y:=by{
have far:∀ t' g2 o2 b,t'≠t->s.ob t'=some (g2,o2)->blk (x.ρ g2)=some b->b<x.W.heap.size/\∀ g o,s.ob t=some (g,o)->blk (x.ρ g)≠some b:=fun t' g2 o2 b ht h2 hb=>
 ⟨((h.ob t' g2 o2 h2).2.lt b hb).1,fun g o ho=>h.apart t' t g2 g o2 o b ht h2 ho hb⟩
have hobs:∀ t',(s.app d ⟨val,[(t,some (g',o))]⟩).ob t'=if t'=t then some (g',o) else s.ob t':=fun t'=>rfl
have hnew:∀ t' g2 o2 b,t'≠t->s.ob t'=some (g2,o2)->blk (x.ρ g2)=some b->blk (y.ρ g')≠some b:=fun t' g2 o2 b ht h2 hb e=>by
 obtain ⟨h3,h4⟩:=far t' g2 o2 b ht h2 hb
 rcases hfresh b e with h5 | ⟨g,o,h5,h6⟩
 omega
 exact h4 g o h5 h6
refine ⟨by rw [Zh8];exact h.defers,by rw [ZnB];exact h.size,?_,gens,fun t'=>?_,fun t' g2 o2 h2=>?_,fun t1 t2 g1 g2 o1 o2 b hne h1 h2 hb=>?_,
 hflt,fun b o hb=>k.F b o (h.f0 b o hb),fun b o hb=>?_,fun g hg=>⟨(k.G g (h.rho g hg).1).1,(k.G g (h.rho g hg).1).2.trans (h.rho g hg).2⟩,h.inv,fun b o v hF hv=>k.W b o v (h.f0 b o hF) (h.keep b o v hF hv)⟩
refine h.gr.trans' os tape out size fun b hb hD=>hblock b (Nat.lt_of_lt_of_le hb h.gr.size) fun g o ho e=>?_
rcases ((h.ob t g o ho).2.lt b e).2 with h3 | h3
omega
exact hD h3
rw [ZnA h.size hd]
cases d with
| none=>exact (h.tm t').step k
| some q=>
  show Rep y (if t'=q then val else s.tm t') (if t'=q then v else a.tmps.getD t' undef)
  split
  exact hval
  exact (h.tm t').step k
rw [hobs] at h2
split at h2
injection h2 with h2
injection h2 with e1 e2
subst e1 e2
exact ⟨hG,hob⟩
rename_i hne
obtain ⟨h3,h4⟩:=h.ob t' g2 o2 h2
exact ⟨(k.G g2 h3).1,h4.step h3 k fun b hb=>⟨hblock b (far t' g2 o2 b hne h2 hb).1 (far t' g2 o2 b hne h2 hb).2,fun o ho=>(hF b o ho).resolve_right (by have:=(far t' g2 o2 b hne h2 hb).1;omega)⟩⟩
rw [hobs] at h1 h2
split at h1<;>split at h2
rename_i e1 e2;exact absurd (e1.trans e2.symm) hne
rename_i e1 e2
injection h1 with h1
injection h1 with e3 e4
subst e3 e4
rw [(k.G g2 (h.ob t2 g2 o2 h2).1).2]
exact fun e=>hnew t2 g2 o2 b e2 h2 e hb
rename_i e1 e2
injection h2 with h2
injection h2 with e3 e4
subst e3 e4
rw [(k.G g1 (h.ob t1 g1 o1 h1).1).2] at hb
exact hnew t1 g1 o1 b e1 h1 hb
rw [(k.G g1 (h.ob t1 g1 o1 h1).1).2] at hb
rw [(k.G g2 (h.ob t2 g2 o2 h2).1).2]
exact h.apart t1 t2 g1 g2 o1 o2 b hne h1 h2 hb
rcases hF b o hb with h3 | h3
exact h.fnew b o h3
exact .inr (.inl (Nat.le_trans h.gr.size h3))}
theorem RstX.grow (h:RstX r S s a x) {y:Ctx} (k:Step x y) (hG:∀ g,y.G g->x.G g) (gr:Gr (fun _=>False) x.W y.W) (hF:∀ b o,y.F b o->x.F b o\/x.W.heap.size<=b) (hflt:∀ b o,y.F b o->b<y.W.heap.size):RstX r S s a y:=by{
refine ⟨h.defers,h.size,h.gr.trans' gr.os gr.tape gr.output gr.size (fun b hb _=>gr.block b (Nat.lt_of_lt_of_le hb h.gr.size) (fun e=>e)),fun g hg=>h.gens g (hG g hg),fun t=>(h.tm t).step k,fun t g o ho=>?_,
 fun t t' g g' o o' b hne h1 h2 hb=>?_,hflt,fun b o hb=>k.F b o (h.f0 b o hb),fun b o hb=>?_,fun g hg=>⟨(k.G g (h.rho g hg).1).1,(k.G g (h.rho g hg).1).2.trans (h.rho g hg).2⟩,h.inv,fun b o v hF hv=>k.W b o v (h.f0 b o hF) (h.keep b o v hF hv)⟩
obtain ⟨h1,h2⟩:=h.ob t g o ho
refine ⟨(k.G g h1).1,h2.step h1 k fun b hb=>?_⟩
have hlt:=(h2.lt b hb).1
exact ⟨gr.block b hlt (fun e=>e),fun o ho=>(hF b o ho).resolve_right (by omega)⟩
rw [(k.G g (h.ob t g o h1).1).2] at hb
rw [(k.G g' (h.ob t' g' o' h2).1).2]
exact h.apart t t' g g' o o' b hne h1 h2 hb
rcases hF b o hb with h3 | h3
exact h.fnew b o h3
exact .inr (.inl (Nat.le_trans h.gr.size h3))}
theorem RstX.newObj (h:RstX r S s a x) {i:Nat} (hi:¬ S i) {d:Option Tmp} (hd:∀ k,d=some k->k<r.N) {t:Nat} {v0 v:Value} {val:PV} {o:VObj} {W':World}
  (os:W'.os=x.W.os) (tape:W'.tape=x.W.tape) (out:W'.output=x.W.output) (size:x.W.heap.size<=W'.heap.size)
  (hblock:∀ b,b<x.W.heap.size->(∀ g o,s.ob t=some (g,o)->blk (x.ρ g)≠some b)->W'.heap[b]? = x.W.heap[b]?)
  (hcell:∀ b o v,x.F b o->x.W.cell? ⟨b,o,none⟩=some v->W'.cell? ⟨b,o,none⟩=some v)
  (hfresh:∀ b,blk v0=some b->x.W.heap.size<=b\/∃ g o,s.ob t=some (g,o)/\blk (x.ρ g)=some b)
  (hob:∀ y:Ctx,Step x y->y.F=x.F->y.W=W'->y.ρ (s.ng,i)=v0->ObRep y r.W0.heap.size r.D (s.ng,i) o)
  (hval:∀ y:Ctx,Step x y->y.W=W'->y.G (s.ng,i)->y.ρ (s.ng,i)=v0->Rep y val v) :
  ∃ y:Ctx,y.W=W'/\RstX r (fun j=>S j\/j=i) (s.app d ⟨val,[(t,some ((s.ng,i),o))]⟩) (a.put d v) y:=by{
have hnew:¬ x.G (s.ng,i):=fun hg=>by
 rcases h.gens _ hg with e | ⟨_,e⟩
 exact absurd e (Nat.lt_irrefl _)
 exact hi e
let y:Ctx:=⟨fun g=>x.G g\/g=(s.ng,i),x.F,W',fun g=>if g=(s.ng,i) then v0 else x.ρ g⟩
have k:Step x y:=⟨fun g hg=>⟨.inl hg,if_neg (fun (e:g=(s.ng,i))=>hnew (by rw [<- e];exact hg))⟩,fun _ _ h=>h,fun b o v hb hv=>hcell b o v hb hv⟩
have hρ:y.ρ (s.ng,i)=v0:=if_pos rfl
refine ⟨y,rfl,h.change k hd os tape out size hblock (fun _ _ h=>.inl h) (fun b o hb=>Nat.lt_of_lt_of_le (h.flt b o hb) size) (fun g hg=>?_) (.inr rfl) (hob y k rfl rfl hρ) (by rw [hρ];exact hfresh) (hval y k rfl (.inr rfl) hρ)⟩
rcases hg with hg | rfl
exact (h.gens g hg).imp id fun ⟨e,f⟩=>⟨e,.inl f⟩
exact .inr ⟨rfl,.inr rfl⟩}
theorem RstX.pub (h:RstX r S s a x) {t:Nat} {g:Gen} {E k:Nat} {sh:Bool} {els:List (List PV)} (ho:s.ob t=some (g,.row E k sh els)) :
  ∃ F':Nat->Nat->Prop,Step x { x with F:=F' }/\RstX r S ⟨s.tm,Zcv s.ob t (some (g,.row E k true els)),s.ng⟩ a { x with F:=F' }/\Rep { x with F:=F' } (.sl els) (x.ρ g):=by{
obtain ⟨hg,hO⟩:=h.ob t g _ ho
have hO':=hO
obtain ⟨h1,h2,vs,h3,h4,h5⟩:=hO
let F':Nat->Nat->Prop:=fun b o=>x.F b o\/(blk (x.ρ g)=some b/\o<els.length * k)
have st:Step x { x with F:=F' }:=⟨fun _ h=>⟨h,rfl⟩,fun _ _ h=>.inl h,fun _ _ _ _ h=>h⟩
refine ⟨F',st,⟨h.defers,h.size,h.gr,h.gens,fun t=>(h.tm t).step st,fun t' g2 o2 h6=>?_,fun t1 t2 g1 g2 o1 o2 b hne e1 e2 hb=>?_,fun b o hb=>?_,fun b o hb=>.inl (h.f0 b o hb),fun b o hb=>?_,h.rho,h.inv,h.keep⟩,?_⟩
change (if t'=t then some (g,VObj.row E k true els) else s.ob t')=some (g2,o2) at h6
split at h6
injection h6 with h6
injection h6 with e1 e2
subst e1 e2
refine ⟨hg,h1,h2,vs,h3,fun m p v hp hv=>(h4 m p v hp hv).step st,fun b hb=>⟨(h5 b hb).1,fun o hF=>⟨rfl,?_⟩⟩⟩
rcases hF with hF | ⟨_,hF⟩
exact ((h5 b hb).2 o hF).2
exact hF
rename_i hne
obtain ⟨h7,h8⟩:=h.ob t' g2 o2 h6
refine ⟨h7,h8.step h7 st fun b hb=>⟨rfl,fun o hF=>?_⟩⟩
rcases hF with hF | ⟨hF,_⟩
exact hF
exact absurd hF (h.apart t' t g2 g o2 _ b hne h6 ho hb)
change (if t1=t then some (g,VObj.row E k true els) else s.ob t1)=some (g1,o1) at e1
change (if t2=t then some (g,VObj.row E k true els) else s.ob t2)=some (g2,o2) at e2
have f1:∃ o1',s.ob t1=some (g1,o1'):=by
 split at e1
 rename_i e;subst e;injection e1 with e1;injection e1 with e3 e4;subst e3;exact ⟨_,ho⟩
 exact ⟨_,e1⟩
have f2:∃ o2',s.ob t2=some (g2,o2'):=by
 split at e2
 rename_i e;subst e;injection e2 with e2;injection e2 with e3 e4;subst e3;exact ⟨_,ho⟩
 exact ⟨_,e2⟩
obtain ⟨o1',f1⟩:=f1
obtain ⟨o2',f2⟩:=f2
exact h.apart t1 t2 g1 g2 o1' o2' b hne f1 f2 hb
rcases hb with hb | ⟨hb,_⟩
exact h.flt b o hb
exact (hO'.lt b hb).1
rcases hb with hb | ⟨hb,_⟩
exact h.fnew b o hb
exact .inr (h5 b hb).1
rcases h3.2 with ⟨hn,hl⟩ | ⟨b,cap,cur,hv,hB,hh,hc,hm,hs,ht⟩
rw [hn]
have:els = []:=List.eq_nil_of_length_eq_zero hl
subst this
exact .sl [] none 0 0 k 0 0 (fun _ _=>undef) rfl (Nat.le_refl _) (by omega) (by simp) (by omega) (fun i j e p he=>by simp at he) (fun i j e p he=>by simp at he)
rw [hv]
have key:∀ (i j:Nat) (e:List PV) (p:PV),els[i]? = some e->e[j]? = some p->∃ v,x.W.cell? ⟨b,i * k+j,none⟩=some v/\Rep x p v:=fun i j e p hi hj=>by
 obtain ⟨b',n,c,e1,_,_,_,_,hc⟩:=ZfF hO' hi
 rw [hv] at e1
 injection e1 with e1
 injection e1 with e1
 injection e1 with e1
 subst e1
 exact hc j p hj
refine .sl els _ _ _ k b 0 (fun i j=>(x.W.cell? ⟨b,i * k+j,none⟩).getD undef) rfl hc (by unfold maxLen at hm;omega) h1 (fun _=>rfl) (fun i j e p hi hj=>?_) (fun i j e p hi hj=>?_)
obtain ⟨v,hv2,_⟩:=key i j e p hi hj
have hlt:i<els.length:=(List.getElem?_eq_some_iff.1 hi).1
have hjl:j<e.length:=(List.getElem?_eq_some_iff.1 hj).1
have hek:=h1 e (List.mem_of_getElem? hi)
refine ⟨h2 e (List.mem_of_getElem? hi) p (List.mem_of_getElem? hj),.inr ⟨by rw [hv];rfl,?_⟩,?_⟩
rw [Nat.zero_add]
calc i * k+j<i * k+k:=by omega
 _=(i+1) * k:=by rw [Nat.succ_mul]
 _<=els.length * k:=Nat.mul_le_mul_right _ hlt
rw [Nat.zero_add]
show x.W.cell? _=_
rw [hv2];rfl
obtain ⟨v,hv2,hr⟩:=key i j e p hi hj
rw [hv2]
exact hr.step st}
end
open Go.RowKit
def Flip (f f':Nat->Option (Gen×VObj)):Prop:=∀ t,f' t=f t\/∃ g E k sh els,f t=some (g,.row E k sh els)/\f' t=some (g,.row E k true els)
theorem Flip.refl (f:Nat->Option (Gen×VObj)):Flip f f:=fun _=>.inl rfl
theorem Flip.set {f f':Nat->Option (Gen×VObj)} (h:Flip f f') {t:Nat} {g:Gen} {E k:Nat} {sh:Bool} {els:List (List PV)} (ho:f t=some (g,.row E k sh els)):Flip f (Zcv f' t (some (g,.row E k true els))):=by{
intro t'
unfold Zcv
split
rename_i e;subst e;exact .inr ⟨g,E,k,sh,els,ho,rfl⟩
exact h t'}
theorem Flip.row {f f':Nat->Option (Gen×VObj)} (h:Flip f f') {t:Nat} {g:Gen} {E k:Nat} {sh:Bool} {els:List (List PV)} (ho:f t=some (g,.row E k sh els)):∃ sh',f' t=some (g,.row E k sh' els)/\(sh=true->sh'=true):=by{
rcases h t with e | ⟨g2,E2,k2,sh2,els2,e1,e2⟩
exact ⟨sh,by rw [e,ho],fun h=>h⟩
rw [ho] at e1
injection e1 with e1
injection e1 with e3 e4
injection e4 with e5 e6 e7 e8
subst e3 e5 e6 e8
exact ⟨true,e2,fun _=>rfl⟩}
theorem Zsd {f:Nat->Option (Gen×VObj)} {t:Nat} {o:Option (Gen×VObj)} (h:f t=o):Zcv f t o=f:=by{
funext t'
unfold Zcv
split
rename_i e;rw [e,h]
rfl}
def flips (f:Nat->Option (Gen×VObj)) (us:List (Nat×Option (Gen×VObj))):Nat->Option (Gen×VObj):=us.foldl (fun f o=>Zcv f o.1 o.2) f
section
variable {r:Run} {S:Nat->Prop} {s:FS} {a:Act} {x:Ctx}
theorem ZfB {f:Nat->Option (Gen×VObj)} (hf:Flip f s.ob) (h:RstX r S s a x) {p q:PV} {v:Value} {us:List (Nat×Option (Gen×VObj))} (hres:Zpg f p=some (q,us)) (hr:Rep x p v) :
  ∃ F',Step x { x with F:=F' }/\RstX r S ⟨s.tm,flips s.ob us,s.ng⟩ a { x with F:=F' }/\Rep { x with F:=F' } q v/\q.pure=true/\Flip f (flips s.ob us):=by{
have same:∀ q',p=q'->q'.pure=true->some (q',[])=some (q,us)->∃ F',Step x { x with F:=F' }/\RstX r S ⟨s.tm,flips s.ob us,s.ng⟩ a { x with F:=F' }/\Rep { x with F:=F' } q v/\q.pure=true/\Flip f (flips s.ob us):=by
 rintro q' rfl hp he
 injection he with he
 injection he with e1 e2
 subst e1 e2
 exact ⟨x.F,Step.refl x,h,hr,hp,hf⟩
cases p with
| bool b=>exact same _ rfl rfl hres
| int k n=>exact same _ rfl rfl hres
| str b=>exact same _ rfl rfl hres
| sl els=>exact same _ rfl rfl hres
| nil=>
  simp only [Zpg,Option.some.injEq,Prod.mk.injEq] at hres
  obtain ⟨rfl,rfl⟩:=hres
  cases hr
  exact ⟨x.F,Step.refl x,h,.sl [] none 0 0 0 0 0 (fun _ _=>undef) rfl (Nat.le_refl _) (by omega) (by simp) (by omega) (fun i j e p he=>by simp at he) (fun i j e p he=>by simp at he),rfl,hf⟩
| row t g=>
  simp only [Zpg] at hres
  split at hres
  rename_i E k sh els ho
  have ho':=ZaI ho
  obtain ⟨sh',h1,h2⟩:=hf.row ho'
  obtain ⟨F',st,hX,hR⟩:=h.pub h1
  injection hres with hres
  injection hres with e1 e2
  subst e1
  cases hr with
  | row _ _ A n c hG hv=>
    rw [hv] at hR
    refine ⟨F',st,?_,hR,rfl,?_⟩
    subst e2
    by_cases hs:sh=true
    subst hs
    have e:Zcv s.ob t (some (g,.row E k true els))=s.ob:=Zsd (by rw [h1,h2 rfl])
    rw [e] at hX
    exact hX
    have:sh=false:=by simpa using hs
    subst this
    exact hX
    subst e2
    by_cases hs:sh=true
    subst hs;exact hf
    have:sh=false:=by simpa using hs
    subst this
    exact hf.set ho'
  cases hres
| _=>simp [Zpg] at hres}
theorem ZcD:∀ (ps:List PV) {f:Nat->Option (Gen×VObj)} {s:FS} {x:Ctx} (_:Flip f s.ob) (_:RstX r S s a x) {qs:List PV} {g:Nat->Value} {us:List (Nat×Option (Gen×VObj))} (_:ZeZ f ps=some (qs,us))
  (_:∀ (j:Nat) (p:PV),ps[j]? = some p->Rep x p (g j)),
  ∃ F',Step x { x with F:=F' }/\RstX r S ⟨s.tm,flips s.ob us,s.ng⟩ a { x with F:=F' }/\(∀ (j:Nat) (q:PV),qs[j]? = some q->q.pure=true/\Rep { x with F:=F' } q (g j))/\qs.length=ps.length/\Flip f (flips s.ob us)
 | [],f,s,x,hf,h,qs,g,us,hres,_=>by
   simp only [ZeZ,Option.some.injEq,Prod.mk.injEq] at hres
   obtain ⟨rfl,rfl⟩:=hres
   exact ⟨x.F,Step.refl x,h,fun j q hq=>by simp at hq,rfl,hf⟩
 | p::ps,f,s,x,hf,h,qs,g,us,hres,hr=>by
   simp only [ZeZ] at hres
   split at hres
   rename_i q us1 qs2 us2 h1 h2
   injection hres with hres
   injection hres with e1 e2
   subst e1 e2
   obtain ⟨F1,st1,hX1,hR1,hp1,hf1⟩:=ZfB hf h h1 (hr 0 p rfl)
   obtain ⟨F2,st2,hX2,hR2,hl2,hf2⟩:=ZcD ps hf1 hX1 (g:=fun j=>g (j+1)) h2 (fun j p' hj=>(hr (j+1) p' (by simpa using hj)).step st1)
   refine ⟨F2,⟨st2.G,fun b o hb=>st2.F b o (st1.F b o hb),fun _ _ _ _ h=>h⟩,?_,fun j q' hj=>?_,by simp [hl2],?_⟩
   have e:flips (flips s.ob us1) us2=flips s.ob (us1++us2):=by unfold flips;rw [List.foldl_append]
   rw [<- e]
   exact hX2
   cases j with
   | zero=>
     simp at hj
     subst hj
     exact ⟨hp1,hR1.step st2⟩
   | succ j=>exact hR2 j q' (by simpa using hj)
   have e:flips (flips s.ob us1) us2=flips s.ob (us1++us2):=by unfold flips;rw [List.foldl_append]
   rw [<- e]
   exact hf2
   cases hres
theorem ZgL (h:RstX r S s a x) {p:PV} {v:Value} {cs:List PV} (hr:ZgF s.ob p=some cs) (hp:Rep x p v) :
  ∃ b off,v = .pointer (some ⟨b,off,none⟩)/\∀ (j:Nat) (q:PV),cs[j]? = some q->∃ u,x.W.cell? ⟨b,off+j,none⟩=some u/\Rep x q u:=by{
unfold ZgF at hr
split at hr
rename_i t g off
split at hr
rename_i cs' ho
injection hr with hr
subst hr
obtain ⟨hg,b,T,vs,h1,h2,h3,h4,h5,h6,h7⟩:=h.ob t g _ (ZaI ho)
cases hp with
| ptr _ _ _ b' hG hb=>
  rw [h1] at hb
  obtain rfl:b=b':=by simpa [blk] using hb
  refine ⟨b,off,rfl,fun j q hq=>?_⟩
  rw [List.getElem?_drop] at hq
  have hlt:off+j<vs.size:=by rw [<- h3];exact (List.getElem?_eq_some_iff.1 hq).1
  refine ⟨vs[off+j],?_,h5 (off+j) q _ hq (Array.getElem?_eq_getElem hlt)⟩
  rw [cell_of_row x.W b _ vs T (0,0) h2]
  exact Array.getElem?_eq_getElem hlt
cases hr
rename_i t g i k off
split at hr
rename_i E k' sh els ho
split at hr
rename_i hk
subst hk
cases he:els[i]? with
| none=>rw [he] at hr;simp at hr
| some e=>
  rw [he] at hr
  simp only [Option.map_some,Option.some.injEq] at hr
  subst hr
  obtain ⟨hg,hO⟩:=h.ob t g _ (ZaI ho)
  obtain ⟨b,n,c,h1,_,_,_,_,hc⟩:=ZfF hO he
  cases hp with
  | elp _ _ _ _ _ b' hG hb=>
    rw [h1] at hb
    obtain rfl:b=b':=by simpa [blk] using hb
    refine ⟨b,i * k'+off,rfl,fun j q hq=>?_⟩
    rw [List.getElem?_drop] at hq
    rw [Nat.add_assoc]
    exact hc (off+j) q hq
cases hr
cases hr
rename_i cs'
injection hr with hr
subst hr
cases hp with
| cel _ b off f hcell hrep=>exact ⟨b,off,rfl,fun j q hq=>⟨f j,(hcell j q hq).2.2,hrep j q hq⟩⟩
cases hr}
end
open Go.RowKit
def OpOK (P:Program) (r:Run) (o:Oper) (i:Nat) (s:FS) (u:Upd):Prop:=∀ (S:Nat->Prop) (a:Act) (x:Ctx) (Q:Exit->Act->World->Prop),RstX r S s a x->¬ S i->(∀ k,o.dst=some k->k<r.N)-> o.wp P a x.W (fun a' W'=>∃ y:Ctx,y.W=W'/\RstX r (fun j=>S j\/j=i) (s.app o.dst u) a' y) Q
def Zsb (P:Program) (r:Run) (o:Oper) (i:Nat) (s:FS) (u:Upd):Prop:=∀ (S:Nat->Prop) (a:Act) (x:Ctx) (Q:Exit->Act->World->Prop),RstX r S s a x->i<1000000->¬ S i->(∀ j,S (i+1000000 * (j+1))->S i)->(∀ k,o.dst=some k->k<r.N)-> o.wp P a x.W (fun a' W'=>∃ y:Ctx,y.W=W'/\RstX r (fun j=>S j\/j=i\/1000000<=j/\j % 1000000=i) (s.app o.dst u) a' y) Q
section
variable {P:Program} {o:Oper} {a:Act} {W:World} {next:Act->World->Prop} {Q:Exit->Act->World->Prop}
theorem ZN {v:Value} {W':World} (h:(execOp a.eval o).run P W = .ok (.value v) W') (hn:next (a.put o.dst v) W'):o.wp P a W next Q:=by
 unfold Oper.wp
 rw [h]
 exact hn
theorem Zms {W':World} (h:(execOp a.eval o).run P W = .ok .skip W') (hn:next (a.put o.dst undef) W'):o.wp P a W next Q:=by
 unfold Oper.wp
 rw [h]
 exact hn
end
section
variable {P:Program} {r:Run} {o:Oper} {i:Nat} {s:FS} {u:Upd}
theorem OpOK.x (h:OpOK P r o i s u):Zsb P r o i s u:=fun S a x Q hX _ hi _ hd=>Oper.wp_mono (fun _ _ ⟨y,hy,hR⟩=>⟨y,hy,hR.moreS fun _ h=>h.imp id .inl⟩) (h S a x Q hX hi hd)
theorem RstX.val {S:Nat->Prop} {a:Act} {x:Ctx} (h:RstX r S s a x) {d:Option Tmp} {p:PV} {v:Value} (hd:∀ k,d=some k->k<r.N) (hp:Rep x p v) :
  ∃ y:Ctx,y.W=x.W/\RstX r (fun j=>S j\/j=i) (s.app d ⟨p,[]⟩) (a.put d v) y:=⟨x,rfl,(h.pureVal hd hp).moreS fun _ h=>.inl h⟩
theorem ZtB {e:Operand} (ho:o.op = .move e\/o.op = .assign e) (h:act P i o s=some u):OpOK P r o i s u:=by{
intro S a x Q hX hi hd
have hu:u=⟨ev s e,[]⟩:=by
 unfold act at h
 rcases ho with ho | ho<;>rw [ho] at h<;>exact (Option.some.inj h).symm
subst hu
exact ZN (v:=a.eval e) (W':=x.W) (by unfold execOp;rcases ho with ho | ho<;>rw [ho]<;>rfl) (hX.val hd (Zae hX e))}
theorem Zp6 {e:Operand} (ho:o.op = .nilCheck e) (h:act P i o s=some u):OpOK P r o i s u:=by{
intro S a x Q hX hi hd
have hr:=Zae hX e
unfold act at h
rw [ho] at h
simp only at h
have key:∀ b,a.eval e = .pointer (some b)->(execOp a.eval o).run P x.W = .ok (.value (a.eval e)) x.W:=fun b hb=>by
 unfold execOp
 rw [ho]
 simp only [hb]
 rfl
split at h
rename_i t g off he
injection h with h
subst h
rw [he] at hr
generalize hv:a.eval e=v at hr key
cases hr with
| ptr _ _ _ b hG hb=>exact ZN (key _ rfl) (hX.val hd (.ptr _ _ _ b hG hb))
rename_i t g i k off he
injection h with h
subst h
rw [he] at hr
generalize hv:a.eval e=v at hr key
cases hr with
| elp _ _ _ _ _ b hG hb=>exact ZN (key _ rfl) (hX.val hd (.elp _ _ _ _ _ b hG hb))
rename_i cs he
injection h with h
subst h
rw [he] at hr
generalize hv:a.eval e=v at hr key
cases hr with
| cel _ b off f h1 h2=>exact ZN (key _ rfl) (hX.val hd (.cel _ b off f h1 h2))
cases h}
theorem Zxz {c e e':Operand} (ho:o.op = .pick c e e') (h:act P i o s=some u):OpOK P r o i s u:=by{
intro S a x Q hX hi hd
have hr:=Zae hX c
unfold act at h
rw [ho] at h
simp only at h
split at h
rename_i t he
injection h with h
subst h
rw [he] at hr
generalize hv:a.eval c=v at hr
cases hr
refine ZN (v:=if t then a.eval e else a.eval e') (W':=x.W) ?_ (hX.val hd ?_)
unfold execOp
rw [ho]
simp only [hv]
rfl
split
exact Zae hX e
exact Zae hX e'
cases h}
theorem ZtC {S:Nat->Prop} {a:Act} {x:Ctx} (hX:RstX r S s a x) (hi:¬ S i) {d:Nat} (hd:d<r.N) {cs:List PV} {vs:Array Value} {T:TypeId} (hl:cs.length=vs.size) (hc:∀ p ∈ cs,p.cell=true)
  (hr:∀ (j:Nat) (p:PV) (v:Value),cs[j]? = some p->vs[j]? = some v->Rep x p v) :
  ∃ y:Ctx,y.W=x.W.alloc (.cells vs T)/\RstX r (fun j=>S j\/j=i) (s.app (some d) ⟨.ptr d (s.ng,i) 0,[(d,some ((s.ng,i),.box cs))]⟩) (a.put (some d) (.pointer (some ⟨x.W.heap.size,0,none⟩))) y:=by{
have hold:∀ b,b<x.W.heap.size->(x.W.alloc (.cells vs T)).heap[b]? = x.W.heap[b]?:=fun b hb=>heap_alloc_old x.W _ hb
refine hX.newObj hi (fun k hk=>by cases hk;exact hd) rfl rfl rfl (by simp) (fun b hb _=>hold b hb) (fun b o v hF hv=>?_) (v0:=.pointer (some ⟨x.W.heap.size,0,none⟩)) (fun b hb=>.inl ?_) (fun y k hF hW hρ=>?_) (fun y k hW hG hρ=>?_)
rw [World.cell?_of_block (hold b (hX.flt b o hF))];exact hv
have:x.W.heap.size=b:=by simpa [blk] using hb
omega
refine ⟨x.W.heap.size,T,vs,hρ,by rw [hW];exact heap_alloc_new x.W _,hl,hc,fun j p v hp hv=>(hr j p v hp hv).step k,.inl hX.gr.size,fun o ho=>?_⟩
rw [hF] at ho
exact absurd (hX.flt _ _ ho) (Nat.lt_irrefl _)
exact .ptr d (s.ng,i) 0 _ hG (by rw [hρ];rfl)}
theorem ZfA {x:Ctx} {p:PV} {v:Value} (h:Rep x p v) (hc:p.cells.all PV.cell=true):p.cells.length=v.cells.size/\∀ (j:Nat) (q:PV) (u:Value),p.cells[j]? = some q->v.cells[j]? = some u->Rep x q u:=by{
cases h with
| agg ps cs hl hh=>exact ⟨hl,hh⟩
| tup ps cs hl hh=>simp [PV.cells,PV.cell] at hc
| un v=>simp [PV.cells,PV.cell] at hc
| bool b=>exact ⟨rfl,fun j q u hq hu=>by
  cases j with
  | zero=>simp [PV.cells,Value.cells] at hq hu;subst hq hu;exact .bool b
  | succ j=>simp [PV.cells] at hq⟩
| int k n=>exact ⟨rfl,fun j q u hq hu=>by
  cases j with
  | zero=>simp [PV.cells,Value.cells] at hq hu;subst hq hu;exact .int k n
  | succ j=>simp [PV.cells] at hq⟩
| str b=>exact ⟨rfl,fun j q u hq hu=>by
  cases j with
  | zero=>simp [PV.cells,Value.cells] at hq hu;subst hq hu;exact .str b
  | succ j=>simp [PV.cells] at hq⟩
| nil=>exact ⟨rfl,fun j q u hq hu=>by
  cases j with
  | zero=>simp [PV.cells,Value.cells] at hq hu;subst hq hu;exact .nil
  | succ j=>simp [PV.cells] at hq⟩
| sl els A n c k b off f hn hc' hm hk hA hcell hh=>exact ⟨rfl,fun j q u hq hu=>by
  cases j with
  | zero=>simp [PV.cells,Value.cells] at hq hu;subst hq hu;exact .sl els A n c k b off f hn hc' hm hk hA hcell hh
  | succ j=>simp [PV.cells] at hq⟩
| ptr t g off b hG hb=>exact ⟨rfl,fun j q u hq hu=>by
  cases j with
  | zero=>simp [PV.cells,Value.cells] at hq hu;subst hq hu;exact .ptr t g off b hG hb
  | succ j=>simp [PV.cells] at hq⟩
| elp t g i k off b hG hb=>simp [PV.cells,PV.cell] at hc
| row t g A n c hG hv=>exact ⟨rfl,fun j q u hq hu=>by
  cases j with
  | zero=>simp [PV.cells,Value.cells] at hq hu;subst hq hu;exact .row t g A n c hG hv
  | succ j=>simp [PV.cells] at hq⟩
| suf t g i k A A' n c c' h1 h2 h3 h4 h5=>simp [PV.cells,PV.cell] at hc
| mp t g b h1 h2=>simp [PV.cells,PV.cell] at hc
| cel cs b off f h1 h2=>simp [PV.cells,PV.cell] at hc
| fn f ps cs hl hh=>simp [PV.cells,PV.cell] at hc}
theorem Zy6 {T:TypeId} {e:Operand} (ho:o.op = .box T e) (h:act P i o s=some u):OpOK P r o i s u:=by{
intro S a x Q hX hi hd
unfold act at h
rw [ho] at h
simp only at h
split at h
rename_i d hdst
split at h
rename_i hc
injection h with h
subst h
obtain ⟨h1,h2⟩:=ZfA (Zae hX e) hc
have:=ZtC hX hi (hd d hdst) (T:=T) h1 (fun p hp=>List.all_eq_true.1 hc p hp) h2
rw [hdst]
refine ZN (v:=.pointer (some ⟨x.W.heap.size,0,none⟩)) (W':=x.W.alloc (.cells (a.eval e).cells T)) ?_ (by rw [hdst];exact this)
unfold execOp
rw [ho]
rfl
cases h
cases h}
theorem ZvB {T:TypeId} (ho:o.op = .alloc T) (h:act P i o s=some u):OpOK P r o i s u:=by{
intro S a x Q hX hi hd
unfold act at h
rw [ho] at h
simp only at h
split at h
rename_i ti d ht hdst
split at h
·rename_i hc
 injection h with h
 subst h
 obtain ⟨inf,z,h1,h2,h3,h4,h5,h6⟩:=ZR ht
 have:=ZtC hX hi (hd d hdst) (T:=T) (cs:=ti.zero) (vs:=z.cells) (by rw [h6];simp) (fun p hp=>List.all_eq_true.1 hc p hp) (fun j p v hp hv=>by
  rw [h6,List.getElem?_map,Array.getElem?_toList,hv] at hp
  obtain rfl:Zbv v=p:=by simpa using hp
  exact Zdp x v)
 rw [hdst]
 refine ZN (v:=.pointer (some ⟨x.W.heap.size,0,none⟩)) (W':=x.W.alloc (.cells z.cells T)) ?_ (by rw [hdst];exact this)
 unfold execOp
 rw [ho]
 simp [Instr.alloc,zeroValue,typeInfo,h2,h3,newVar,newRow,go_sem]
cases h
cases h}
end
open Go.RowKit
section
variable {P:Program} {r:Run} {o:Oper} {i:Nat} {s:FS} {u:Upd}
theorem Zdx (b o n:Nat):(⟨b,o,none⟩:Addr).add n=⟨b,o+n,none⟩:=Addr.add_lit b o n
theorem Zd0 {x:Ctx} {T:TypeId} {ti:TI} {b off:Nat} {cs:List PV} {p:PV} (ht:tyI P T=some ti) (hc:∀ (j:Nat) (q:PV),cs[j]? = some q->∃ u,x.W.cell? ⟨b,off+j,none⟩=some u/\Rep x q u)
  (hp:Zk7 ti cs=some p):∃ v,(Instr.loadAt T (.pointer (some ⟨b,off,none⟩))).run P x.W = .ok v x.W/\Rep x p v:=by{
obtain ⟨inf,z,h1,h2,h3,h4,h5,h6⟩:=ZR ht
unfold Zk7 at hp
split at hp
rename_i hag
split at hp
rename_i hle
injection hp with hp
subst hp
have hcell:∀ j,j<ti.size->∃ q u,cs[j]? = some q/\x.W.cell? ⟨b,off+j,none⟩=some u/\Rep x q u:=fun j hj=>by
 obtain ⟨u,h7,h8⟩:=hc j _ (List.getElem?_eq_getElem (show j<cs.length by omega))
 exact ⟨_,u,List.getElem?_eq_getElem (show j<cs.length by omega),h7,h8⟩
let vs:List Value:=(List.range ti.size).map fun j=>(x.W.cell? ⟨b,off+j,none⟩).getD undef
have hlen:vs.length=ti.size:=by simp [vs]
have hget:∀ j v,vs[j]? = some v->j<ti.size/\v=(x.W.cell? ⟨b,off+j,none⟩).getD undef:=fun j v hv=>by
 simp only [vs,List.getElem?_map] at hv
 cases hj:(List.range ti.size)[j]? with
 | none=>rw [hj] at hv;simp at hv
 | some k=>
   have hjl:j<ti.size:=by simpa using (List.getElem?_eq_some_iff.1 hj).1
   rw [hj] at hv
   obtain rfl:j=k:=by
    have:=(List.getElem?_eq_some_iff.1 hj).2
    simpa using this
   exact ⟨hjl,by simpa using hv.symm⟩
have hrun:=run_loadCells_list (P:=P) x.W ⟨b,off,none⟩ vs (fun j v hv=>by
 obtain ⟨hj,rfl⟩:=hget j v hv
 obtain ⟨q,u,_,h8,_⟩:=hcell j hj
 rw [Zdx,h8];rfl)
rw [hlen] at hrun
refine ⟨.agg vs.toArray,?_,.agg _ _ (by simp [hlen,hle]) fun j q v hq hv=>?_⟩
·have hagg:(isAgg T).run P x.W = .ok true x.W:=by
  unfold TypeDesc.isAgg at hag
  unfold isAgg
  split at hag<;>first | (cases hag;done) | simp_all [run_underlying h1]
 simp [Instr.loadAt,loadVar,Instr.sureAddr,hagg,sizeOf,typeInfo,h2,h4,hrun]
have hv':vs[j]? = some v:=by simpa using hv
obtain ⟨hj,rfl⟩:=hget j v hv'
obtain ⟨q',u,h7,h8,h9⟩:=hcell j hj
rw [List.getElem?_take,if_pos hj,h7] at hq
injection hq with hq
subst hq
rw [h8]
exact h9
cases hp
rename_i hag
obtain ⟨v,h7,h8⟩:=hc 0 p hp
refine ⟨v,?_,h8⟩
have hagg:(isAgg T).run P x.W = .ok false x.W:=by
 unfold isAgg
 cases hd:ti.desc<;>rw [hd] at h1 hag<;>first | (exact absurd rfl hag) | simp [run_underlying h1]
rw [Nat.add_zero] at h7
simp [Instr.loadAt,loadVar,Instr.sureAddr,hagg,h7]}
theorem ZwS {T:TypeId} {e:Operand} (ho:o.op = .load T e) (h:act P i o s=some u):OpOK P r o i s u:=by{
intro S a x Q hX hi hd
unfold act at h
rw [ho] at h
simp only at h
split at h
rename_i ti cs ht hr
cases hp:Zk7 ti cs with
| none=>rw [hp] at h;cases h
| some p=>
  rw [hp] at h
  simp only [Option.map_some,Option.some.injEq] at h
  subst h
  obtain ⟨b,off,hv,hc⟩:=ZgL hX hr (Zae hX e)
  obtain ⟨v,h1,h2⟩:=Zd0 ht hc hp
  refine ZN (v:=v) (W':=x.W) ?_ (hX.val hd h2)
  unfold execOp
  rw [ho]
  simp [hv,h1]
cases h}
theorem ZjJ {T:TypeId} {f off:Nat} {ti:TI} (h:fieldAt P T f=some (off,ti)):∃ fs fd inf,P.underlying T=some (.struct fs)/\fs[f]? = some fd/\fd.offset=off/\tyI P fd.type=some ti/\P.info? fd.type=some inf/\inf.size=ti.size:=by{
unfold fieldAt at h
split at h
rename_i fs _ _ _ ht
obtain ⟨_,_,h1,_⟩:=ZR ht
split at h
rename_i fd hfd
cases hti:tyI P fd.type with
| none=>rw [hti] at h;cases h
| some ti'=>
  rw [hti] at h
  simp only [Option.map_some,Option.some.injEq,Prod.mk.injEq] at h
  obtain ⟨h2,h3⟩:=h
  subst h3
  obtain ⟨inf,_,_,h5,_,h6,_⟩:=ZR hti
  exact ⟨fs,fd,inf,h1,hfd,h2,hti,h5,h6⟩
cases h
cases h}
theorem Zn9 {T:TypeId} {e:Operand} {f:Nat} (ho:o.op = .fieldAddr T e f) (h:act P i o s=some u):OpOK P r o i s u:=by{
intro S a x Q hX hi hd
unfold act at h
rw [ho] at h
simp only at h
split at h
rename_i off ti hf
split at h
cases h
rename_i hz
obtain ⟨fs,fd,inf,h1,h2,h3,h4,h5,h6⟩:=ZjJ hf
have key:∀ b o',a.eval e = .pointer (some ⟨b,o',none⟩)->(execOp a.eval o).run P x.W = .ok (.value (.pointer (some ⟨b,o'+off,none⟩))) x.W:=fun b o' hv=>by
 unfold execOp
 rw [ho]
 simp [hv,Instr.fieldAt,run_underlying h1,h2,Instr.sureAddr,fieldPlace,sizeOf,typeInfo,h5,h6,hz,h3,Zdx]
have hr:=Zae hX e
split at h
rename_i t g off' he
injection h with h
subst h
rw [he] at hr
generalize hv:a.eval e=v at hr key
cases hr with
| ptr _ _ _ b hG hb=>exact ZN (key _ _ rfl) (hX.val hd (.ptr _ _ _ b hG hb))
rename_i t g i' k off' he
injection h with h
subst h
rw [he] at hr
generalize hv:a.eval e=v at hr key
cases hr with
| elp _ _ _ _ _ b hG hb=>exact ZN (key _ _ rfl) (hX.val hd (by rw [Nat.add_assoc];exact .elp _ _ _ _ _ b hG hb))
rename_i cs he
injection h with h
subst h
rw [he] at hr
generalize hv:a.eval e=v at hr key
cases hr with
| cel _ b off' f' h7 h8=>
  refine ZN (key _ _ rfl) (hX.val hd (.cel _ b _ (fun j=>f' (off+j)) (fun j p hp=>?_) fun j p hp=>?_))
  rw [List.getElem?_drop] at hp
  have:=h7 _ p hp
  rw [<- Nat.add_assoc] at this
  exact this
  rw [List.getElem?_drop] at hp
  exact h8 _ p hp
cases h
cases h}
theorem ZuN {T:TypeId} {e:Operand} {f:Nat} (ho:o.op = .field T e f) (h:act P i o s=some u):OpOK P r o i s u:=by{
intro S a x Q hX hi hd
unfold act at h
rw [ho] at h
simp only at h
split at h
rename_i off ti cs hf he
obtain ⟨fs,fd,inf,h1,h2,h3,h4,h5,h6⟩:=ZjJ hf
obtain ⟨inf',_,h7,h8,_,h9,_⟩:=ZR h4
have hr:=Zae hX e
rw [he] at hr
cases hp:Zk7 ti (cs.drop off) with
| none=>rw [hp] at h;cases h
| some p=>
  rw [hp] at h
  simp only [Option.map_some,Option.some.injEq] at h
  subst h
  generalize hv:a.eval e=v at hr
  cases hr with
  | agg _ vs hl hh=>
    have hrun:∃ u,(part fd.type vs off).run P x.W = .ok u x.W/\Rep x p u:=by
     unfold Zk7 at hp
     split at hp
     rename_i hag
     split at hp
     ·rename_i hle
      injection hp with hp
      subst hp
      have hagg:(isAgg fd.type).run P x.W = .ok true x.W:=by
       unfold TypeDesc.isAgg at hag
       unfold isAgg
       split at hag<;>first | (cases hag;done) | simp_all [run_underlying h7]
      rw [List.length_drop] at hle
      refine ⟨.agg (vs.extract off (off+ti.size)),?_,.agg _ _ (by simp;omega) fun j q v hq hv=>?_⟩
      simp [part,hagg,sizeOf,typeInfo,h8,h9]
      rw [List.getElem?_take] at hq
      split at hq
      rename_i hj
      rw [List.getElem?_drop] at hq
      rw [Array.getElem?_extract] at hv
      split at hv
      exact hh _ q v hq hv
      cases hv
      cases hq
     cases hp
     rename_i hag
     have hagg:(isAgg fd.type).run P x.W = .ok false x.W:=by
      unfold isAgg
      cases hd:ti.desc<;>rw [hd] at h7 hag<;>first | (exact absurd rfl hag) | simp [run_underlying h7]
     rw [List.getElem?_drop,Nat.add_zero] at hp
     have hlt:off<vs.size:=by rw [<- hl];exact (List.getElem?_eq_some_iff.1 hp).1
     refine ⟨vs[off],?_,hh off p _ hp (Array.getElem?_eq_getElem hlt)⟩
     simp [part,hagg,Array.getElem?_eq_getElem hlt]
    obtain ⟨u,h10,h11⟩:=hrun
    refine ZN (v:=u) (W':=x.W) ?_ (hX.val hd h11)
    unfold execOp
    rw [ho]
    simp [hv,Instr.field,run_underlying h1,h2,asAgg,h3,h10]
cases h}
theorem Zrs {e:Operand} {k:Nat} (ho:o.op = .extract e k) (h:act P i o s=some u):OpOK P r o i s u:=by{
intro S a x Q hX hi hd
unfold act at h
rw [ho] at h
simp only at h
have hr:=Zae hX e
split at h
rename_i vs he
rw [he] at hr
cases hp:vs[k]? with
| none=>rw [hp] at h;cases h
| some p=>
  rw [hp] at h
  simp only [Option.map_some,Option.some.injEq] at h
  subst h
  generalize hv:a.eval e=v at hr
  cases hr with
  | tup _ ws hl hh=>
    have hlt:k<ws.size:=by rw [<- hl];exact (List.getElem?_eq_some_iff.1 hp).1
    refine ZN (v:=ws[k]) (W':=x.W) ?_ (hX.val hd (hh k p _ hp (Array.getElem?_eq_getElem hlt)))
    unfold execOp
    rw [ho]
    simp only [hv,Instr.extract,Array.getElem?_eq_getElem hlt]
    rfl
cases h}
end
open Go.RowKit
section
variable {P:Program} {r:Run} {o:Oper} {i:Nat} {s:FS} {u:Upd}
theorem Zhe (cs:List PV) (off:Nat) (xs:List PV) (h:off+xs.length<=cs.length):(ZcP cs off xs).length=cs.length:=by
 simp [ZcP];omega
theorem written {α β:Type} {cs:List α} {vs:List β} {off:Nat} {xs:List α} {ys:List β} (hl:cs.length=vs.length) (hx:xs.length=ys.length) (h:off+xs.length<=cs.length) {j:Nat} {p:α} {v:β}
  (hp:(cs.take off++xs++cs.drop (off+xs.length))[j]? = some p) (hv:(vs.take off++ys++vs.drop (off+ys.length))[j]? = some v) :
  (cs[j]? = some p/\vs[j]? = some v)\/∃ k:Nat,xs[k]? = some p/\ys[k]? = some v:=by{
rw [List.append_assoc,List.getElem?_append,List.length_take] at hp hv
have e1:min off cs.length=off:=by omega
have e2:min off vs.length=off:=by omega
rw [e1] at hp
rw [e2] at hv
split at hp
rename_i hj
rw [if_pos hj] at hv
rw [List.getElem?_take,if_pos hj] at hp hv
exact .inl ⟨hp,hv⟩
rename_i hj
rw [if_neg hj] at hv
rw [List.getElem?_append] at hp hv
split at hp
rename_i hk
rw [if_pos (by omega)] at hv
exact .inr ⟨_,hp,hv⟩
rename_i hk
rw [if_neg (by omega)] at hv
rw [List.getElem?_drop] at hp hv
have e3:off+xs.length+(j-off-xs.length)=j:=by omega
have e4:off+ys.length+(j-off-ys.length)=j:=by omega
rw [e3] at hp
rw [e4] at hv
exact .inl ⟨hp,hv⟩}
theorem Ztd {x:Ctx} {p:PV} {v:Value} (h:Rep x p v) (hc:p.cells.all PV.cell=true):∀ w ∈ v.cells.toList,w.oneCell'=true:=by{
intro w hw
obtain ⟨h1,h2⟩:=ZfA h hc
obtain ⟨j,hj,rfl⟩:=List.mem_iff_getElem.1 hw
have hlt:j<p.cells.length:=by rw [h1];simpa using hj
have hj2:j<v.cells.size:=by simpa using hj
have:=h2 j _ _ (List.getElem?_eq_getElem hlt) (Array.getElem?_eq_getElem hj2)
have h3:=this.one (List.all_eq_true.1 hc _ (List.getElem_mem hlt))
simpa using h3}
theorem ZgB {T:TypeId} {ti:TI} {x:Ctx} {b off:Nat} {cur:Array Value} {E:TypeId} {v:Value} {p:PV} (ht:tyI P T=some ti) (hh:x.W.heap[b]? = some (.cells cur E (0,0))) (hp:Rep x p v) (hc:p.cells.all PV.cell=true)
  (hl:p.cells.length=ti.size) (hfit:off+ti.size<=cur.size) :
  (Instr.storeAt T (.pointer (some ⟨b,off,none⟩)) v).run P x.W = .ok () (x.W.setRow b (cur.toList.take off++v.cells.toList++cur.toList.drop (off+v.cells.toList.length)).toArray):=by{
obtain ⟨inf,z,h1,h2,h3,h4,h5,h6⟩:=ZR ht
obtain ⟨h7,h8⟩:=ZfA hp hc
have hrun:=run_storeCells_at P b off E v.cells.toList 0 cur x.W hh (by simp;omega) (Ztd hp hc)
simp only [Nat.add_zero] at hrun
have hsz:v.cells.size=inf.size:=by omega
unfold Instr.storeAt storeVar
simp only [Instr.sureAddr,sizeOf,typeInfo,Sem.run_bind,Sem.run_pure,Result.andThen_ok]
simp [h2,hsz]
rw [<- hsz]
simpa using hrun}
theorem Zft (w:World) (g:Nat) (cs:Array Value) {b o:Nat} (h:b≠g):(w.setRow g cs).cell? ⟨b,o,none⟩=w.cell? ⟨b,o,none⟩:=
 World.cell?_of_block (setRow_other w g b cs h)
theorem Zoy {T:TypeId} {e e':Operand} {t:Nat} {g:Gen} {off:Nat} {cs:List PV} {ti:TI} (ho:o.op = .store T e e') (ht:tyI P T=some ti) (hl:(ev s e').cells.length=ti.size) (hp:ev s e = .ptr t g off)
  (hob:Zbh s.ob t g=some (.box cs)) (hc:(ev s e').cells.all PV.cell=true) (hfit:off+ti.size<=cs.length):OpOK P r o i s ⟨.un,[(t,some (g,.box (ZcP cs off (ev s e').cells)))]⟩:=by{
intro S a x Q hX hi hd
have hob':=ZaI hob
obtain ⟨hg,b,E,vs,h1,h2,h3,h4,h5,h6,h7⟩:=hX.ob t g _ hob'
have hr:=Zae hX e
have hr':=Zae hX e'
obtain ⟨h8,h9⟩:=ZfA hr' hc
rw [hp] at hr
generalize hv:a.eval e=v at hr
cases hr with
| ptr _ _ _ b' hG hb=>
  rw [h1] at hb
  obtain rfl:b=b':=by simpa [blk] using hb
  have hrun:=ZgB (P:=P) (off:=off) ht h2 hr' hc hl (by omega)
  have hF:∀ b' o',x.F b' o'->b'≠b:=fun b' o' hF e=>h7 o' (e ▸ hF)
  let W':=x.W.setRow b (vs.toList.take off++(a.eval e').cells.toList++vs.toList.drop (off+(a.eval e').cells.toList.length)).toArray
  have k:Step x { x with W:=W' }:=⟨fun _ h=>⟨h,rfl⟩,fun _ _ h=>h,fun b' o' v' hFF hv'=>(Zft x.W b _ (hF b' o' hFF)).trans hv'⟩
  have hsz:W'.heap.size=x.W.heap.size:=by simp [W',World.setRow]
  refine Zms (W':=W') ?_ ⟨{ x with W:=W' },rfl,?_⟩
  unfold execOp
  rw [ho]
  simp [hv,hrun,W']
  refine hX.change k hd rfl rfl rfl (by rw [hsz];exact Nat.le_refl _) (fun b' hb' hne=>setRow_other x.W b b' _ (fun e=>hne g _ hob' (by rw [h1,e];rfl))) (fun _ _ h=>.inl h) (fun b' o' hb'=>by show b'<W'.heap.size;rw [hsz];exact hX.flt b' o' hb') (fun g' hg'=>(hX.gens g' hg').imp id fun ⟨e1,e2⟩=>⟨e1,.inl e2⟩)
   hg ?_ (fun b' hb'=>.inr ⟨g,_,hob',hb'⟩) (.un _)
  refine ⟨b,E,_,h1,setRow_heap x.W b vs _ E (0,0) h2,?_,?_,fun j q v' hq hv'=>?_,h6,h7⟩
  rw [Zhe _ _ _ (by omega)]
  simp
  omega
  intro q hq
  unfold ZcP at hq
  rcases List.mem_append.1 hq with hq | hq
  rcases List.mem_append.1 hq with hq | hq
  exact h4 q (List.mem_of_mem_take hq)
  exact List.all_eq_true.1 hc q hq
  exact h4 q (List.mem_of_mem_drop hq)
  have hv2:(vs.toList.take off++(a.eval e').cells.toList++vs.toList.drop (off+(a.eval e').cells.toList.length))[j]? = some v':=by simpa using hv'
  rcases written (by simpa using h3) (by simpa using h8) (by omega) hq hv2 with ⟨e1,e2⟩ | ⟨k',e1,e2⟩
  exact (h5 j q v' e1 (by simpa using e2)).step k
  exact (h9 k' q v' e1 (by simpa using e2)).step k}
end
open Go.RowKit
section
variable {P:Program} {r:Run} {o:Oper} {i:Nat} {s:FS} {u:Upd}
theorem Zep {x:Ctx} {p:PV} {v:Value} {n:Nat} (h:toNat? p=some n) (hr:Rep x p v):∃ k,v = .int k (n:Int):=by{
unfold toNat? at h
split at h
rename_i k m
split at h
rename_i h0
injection h with h
cases hr
exact ⟨k,by congr 1;omega⟩
cases h
cases h}
theorem ZoN {T:TypeId} {e e':Operand} (ho:o.op = .indexAddr T e e') (h:act P i o s=some u):OpOK P r o i s u:=by{
intro S a x Q hX hi hd
unfold act at h
rw [ho] at h
simp only at h
have hr:=Zae hX e
have hr':=Zae hX e'
split at h
rename_i E _ _ _ n ht hn
obtain ⟨inf,z,h1,_⟩:=ZR ht
obtain ⟨kd,hidx⟩:=Zep hn hr'
split at h
rename_i te hte
obtain ⟨inf',z',h1',h2',_,h4',_,_⟩:=ZR hte
have key:∀ (ad:Addr) (len cap:Nat),a.eval e = .slice (some ad) len cap->n<len->(execOp a.eval o).run P x.W = .ok (.value (.pointer (some (ad.add (n * te.size))))) x.W:=fun ad len cap hv hlt=>by
 unfold execOp
 rw [ho]
 have:(0:Int)<=n/\(n:Int)<len:=by omega
 simp [hv,hidx,Instr.indexAt,asIntOf,run_underlying h1,sizeOf,typeInfo,h2',h4',hlt]
split at h
rename_i els he
split at h
rename_i el hel
split at h
rename_i hlen
injection h with h
subst h
rw [he] at hr
have hnl:n<els.length:=(List.getElem?_eq_some_iff.1 hel).1
generalize hv:a.eval e=v at hr key
cases hr with
| sl _ A m c k b off f hm hc hmx hk hA hcell hrep=>
  have hkk:k=te.size:=by rw [<- hk el (List.mem_of_getElem? hel)];exact hlen
  subst hkk
  have hA':=hA (by omega)
  subst hA'
  refine ZN (key _ m c rfl (by omega)) (hX.val hd ?_)
  rw [Zdx]
  exact .cel el b _ (f n) (fun j p hp=>by
   obtain ⟨q1,q2,q3⟩:=hcell n j el p hel hp
   exact ⟨q1,q2,q3⟩) (fun j p hp=>hrep n j el p hel hp)
cases h
cases h
rename_i t g he
split at h
rename_i E' k sh els hob
split at h
rename_i hc
obtain ⟨hnl,rfl⟩:=hc
injection h with h
subst h
rw [he] at hr
have hob':=ZaI hob
obtain ⟨hg,hO⟩:=hX.ob t g _ hob'
obtain ⟨b,m,c,h5,h6,_⟩:=ZfF hO (List.getElem?_eq_getElem hnl)
generalize hv:a.eval e=v at hr key
cases hr with
| row _ _ A m' c' hG hvv=>
  rw [h5] at hvv
  injection hvv with q1 q2 q3
  subst q1 q2 q3
  refine ZN (key _ m c rfl (by omega)) (hX.val hd ?_)
  rw [Zdx,Nat.zero_add]
  have:=Rep.elp (x:=x) t g n te.size 0 b hG (by rw [h5];rfl)
  rw [Nat.add_zero] at this
  exact this
cases h
cases h
cases h
cases h
rename_i len E _ _ _ n ht hn
obtain ⟨inf,z,h1,_⟩:=ZR ht
obtain ⟨kd,hidx⟩:=Zep hn hr'
split at h
rename_i te hte
obtain ⟨inf',z',h1',h2',_,h4',_,_⟩:=ZR hte
split at h
rename_i hlt
have key:∀ (ad:Addr),a.eval e = .pointer (some ad)->(execOp a.eval o).run P x.W = .ok (.value (.pointer (some (ad.add (n * te.size))))) x.W:=fun ad hv=>by
 unfold execOp
 rw [ho]
 simp [hv,hidx,Instr.indexAt,Instr.sureAddr,asIntOf,run_underlying h1,sizeOf,typeInfo,h2',h4',hlt]
split at h
rename_i t g off he
injection h with h
subst h
rw [he] at hr
generalize hv:a.eval e=v at hr key
cases hr with
| ptr _ _ _ b hG hb=>exact ZN (key _ rfl) (hX.val hd (by rw [Zdx];exact .ptr _ _ _ b hG hb))
rename_i cs he
injection h with h
subst h
rw [he] at hr
generalize hv:a.eval e=v at hr key
cases hr with
| cel _ b off' f' h7 h8=>
  refine ZN (key _ rfl) (hX.val hd ?_)
  rw [Zdx]
  refine .cel _ b _ (fun j=>f' (n * te.size+j)) (fun j p hp=>?_) fun j p hp=>?_
  rw [List.getElem?_drop] at hp
  have:=h7 _ p hp
  rw [<- Nat.add_assoc] at this
  exact this
  rw [List.getElem?_drop] at hp
  exact h8 _ p hp
cases h
cases h
cases h
cases h}
theorem Zkm {S:Nat->Prop} {a:Act} {x:Ctx} (hX:RstX r S s a x) {p:PV} {v:Value} {els:List (List PV)} (h:ZjP s.ob p=some els) (hr:Rep x p v) :
  ∃ A c k,v = .slice A els.length c/\els.length<=c/\c<=9223372036854775807/\(∀ e ∈ els,e.length=k)/\(∀ e ∈ els,∀ q ∈ e,q.pure=true)/\
   ∃ b off,(0<els.length->A=some ⟨b,off,none⟩/\∀ (i j:Nat) (e:List PV) (q:PV),els[i]? = some e->e[j]? = some q->∃ w,x.W.cell? ⟨b,off+i * k+j,none⟩=some w/\Rep x q w):=by{
unfold ZjP at h
split at h
rename_i els'
injection h with h
subst h
cases hr with
| sl _ A n c k b off f hn hc hm hk hA hcell hrep=>
  subst hn
  refine ⟨A,c,k,rfl,hc,hm,hk,fun e he q hq=>?_,b,off,fun h0=>⟨hA h0,fun i j e q he hq=>⟨_,(hcell i j e q he hq).2.2,hrep i j e q he hq⟩⟩⟩
  obtain ⟨i,hi⟩:=List.getElem?_of_mem he
  obtain ⟨j,hj⟩:=List.getElem?_of_mem hq
  exact (hcell i j e q hi hj).1
injection h with h
subst h
cases hr
exact ⟨none,0,0,rfl,Nat.le_refl _,by omega,by simp,by simp,0,0,fun h0=>absurd h0 (by simp)⟩
rename_i t g
split at h
rename_i E k sh els' hob
injection h with h
subst h
obtain ⟨hg,hO⟩:=hX.ob t g _ (ZaI hob)
have hO':=hO
obtain ⟨h1,h2,vs,h3,h4,h5⟩:=hO
cases hr with
| row _ _ A n c hG hv=>
  rcases h3.2 with ⟨hn,hl⟩ | ⟨b,cap,cur,hv2,hB,hh,hc,hm,hs,ht⟩
  rw [hv] at hn
  injection hn with q1 q2 q3
  subst q1 q2 q3
  refine ⟨none,0,k,by rw [hl],by omega,by omega,h1,h2,0,0,fun h0=>absurd h0 (by omega)⟩
  rw [hv] at hv2
  injection hv2 with q1 q2 q3
  subst q1 q2 q3
  refine ⟨_,c,k,rfl,hc,by unfold maxLen at hm;omega,h1,h2,b,0,fun h0=>⟨rfl,fun i j e q he hq=>?_⟩⟩
  obtain ⟨b',n',c',h6,_,_,_,_,h7⟩:=ZfF hO' he
  rw [hv] at h6
  injection h6 with h6
  injection h6 with h6
  injection h6 with h6
  subst h6
  rw [Nat.zero_add]
  exact h7 j q hq
cases h
cases h}
theorem Zy7 {T:TypeId} {e:Operand} (ho:o.op = .call { callee:=.builtin .len,args:=#[e],argTypes:=#[T] }) (h:act P i o s=some u):OpOK P r o i s u:=by{
intro S a x Q hX hi hd
unfold act at h
rw [ho] at h
simp only [Zq1] at h
have hr:=Zae hX e
split at h
rename_i E _ _ _ n ht hn
injection h with h
subst h
obtain ⟨inf,z,h1,_⟩:=ZR ht
obtain ⟨els,hels,hnl⟩:∃ els,ZjP s.ob (ev s e)=some els/\n=els.length:=by
 unfold ZuB at hn
 unfold ZjP
 split at hn
 injection hn with hn;exact ⟨_,rfl,hn.symm⟩
 injection hn with hn;exact ⟨_,rfl,by simpa using hn.symm⟩
 split at hn
 injection hn with hn;exact ⟨_,rfl,hn.symm⟩
 cases hn
 cases hn
obtain ⟨A,c,k,hv,_⟩:=Zkm hX hels hr
subst hnl
refine ZN (v:=.int .i64 els.length) (W':=x.W) ?_ (hX.val hd (.int _ _))
unfold execOp
rw [ho]
simp [resolve,invoke,builtin,Builtin.len_,hv,run_underlying h1,goInt]
cases h}
theorem ZvE {T:TypeId} {e:Operand} {lo hi:Option Operand} (ho:o.op = .slice T e lo hi none) (h:act P i o s=some u):OpOK P r o i s u:=by{
intro S a x Q hX hi' hd
unfold act at h
rw [ho] at h
simp only at h
have hr:=Zae hX e
split at h
rename_i E _ _ _ els ht hels
obtain ⟨inf,z,h1,_⟩:=ZR ht
split at h
rename_i l hh hlo hhi
split at h
rename_i hc
obtain ⟨hc1,hc2,hc3⟩:=hc
cases hte:tyI P E with
| none=>rw [hte] at hc3;simp at hc3
| some te=>
  rw [hte] at hc3
  have hk:∀ el ∈ els,el.length=te.size:=fun el hel=>by
   simp only [Option.any_some] at hc3
   simpa using List.all_eq_true.1 hc3 el hel
  obtain ⟨inf',z',h1',h2',_,h4',_,_⟩:=ZR hte
  injection h with h
  subst h
  obtain ⟨F',st,hX',hR⟩:∃ F',Step x { x with F:=F' }/\RstX r S ⟨s.tm,flips s.ob (ZuC s.ob (ev s e)),s.ng⟩ a { x with F:=F' }/\Rep { x with F:=F' } (.sl els) (a.eval e):=by
   generalize hp:ev s e=p at hels hr
   cases p with
   | sl els'=>
     injection hels with hels
     subst hels
     exact ⟨x.F,Step.refl x,hX,hr⟩
   | nil=>
     have h2:=ZfB (Flip.refl s.ob) hX (p:=.nil) (q:=.sl []) (us:=[]) rfl hr
     injection hels with hels
     subst hels
     obtain ⟨F',st,h3,h4,_,_⟩:=h2
     exact ⟨F',st,h3,h4⟩
   | row t g=>
     simp only [ZjP] at hels
     split at hels
     rename_i E' k sh els' hob
     injection hels with hels
     subst hels
     have h2:=ZfB (Flip.refl s.ob) hX (p:=.row t g) (q:=.sl els') (us:=if sh then [] else [(t,some (g,.row E' k true els'))]) (by simp only [Zpg,hob]) hr
     obtain ⟨F',st,h3,h4,_,_⟩:=h2
     refine ⟨F',st,?_,h4⟩
     simp only [ZuC,hob]
     exact h3
     cases hels
   | _=>simp [ZjP] at hels
  generalize hv:a.eval e=v at hR
  cases hR with
  | sl _ A n c k b off f hn hcc hm hkk hA hcell hrep=>
    subst hn
    have hlv:∀ w:Operand,toNat? (ev s w)=some l->∃ kd,a.eval w = .int kd (l:Int):=fun w hw=>Zep hw (Zae hX w)
    have hhv:∀ w:Operand,toNat? (ev s w)=some hh->∃ kd,a.eval w = .int kd (hh:Int):=fun w hw=>Zep hw (Zae hX w)
    have hb:(Instr.sliceBounds true els.length c (lo.map a.eval) (hi.map a.eval) none).run P x.W = .ok (l,hh,c) x.W:=by
     have hlc:(0:Int)<=l/\(l:Int)<=hh:=by omega
     have hhc:(0:Int)<=hh/\(hh:Int)<=c:=by omega
     have hlc2:l<=hh:=hc1
     have hhc2:hh<=c:=by omega
     cases lo with
     | none=>
       obtain rfl:0=l:=by simpa using hlo
       cases hi with
       | none=>
         obtain rfl:els.length=hh:=by simpa using hhi
         simp [Instr.sliceBounds]
       | some w=>
         obtain ⟨kd,hw⟩:=hhv w hhi
         simp [Instr.sliceBounds,Instr.sliceBound,asIntOf,hw,hhc2]
     | some w'=>
       obtain ⟨kd',hw'⟩:=hlv w' hlo
       cases hi with
       | none=>
         obtain rfl:els.length=hh:=by simpa using hhi
         simp [Instr.sliceBounds,Instr.sliceBound,asIntOf,hw',hlc2]
       | some w=>
         obtain ⟨kd,hw⟩:=hhv w hhi
         simp [Instr.sliceBounds,Instr.sliceBound,asIntOf,hw,hw',hhc2,hlc2]
    refine ZN (v:=.slice (if c=l then A else A.map (·.add (l * te.size))) (hh-l) (c-l)) (W':=x.W) ?_ ⟨{ x with F:=F' },rfl,?_⟩
    unfold execOp
    rw [ho]
    simp [hv,Instr.sliceAt,Instr.slice,run_underlying h1,hb,sizeOf,typeInfo,h2',h4']
    have hval:Rep { x with F:=F' } (.sl ((els.drop l).take (hh-l))) (.slice (if c=l then A else A.map (·.add (l * te.size))) (hh-l) (c-l)):=by
     have hget:∀ (j:Nat) (el:List PV),((els.drop l).take (hh-l))[j]? = some el->els[l+j]? = some el:=fun j el hj=>by
      rw [List.getElem?_take] at hj
      split at hj
      rw [List.getElem?_drop] at hj;exact hj
      cases hj
     refine .sl _ _ _ _ te.size b (off+l * k) (fun i j=>f (l+i) j) (by simp;omega) (by omega) (by omega) (fun el hel=>hk el (List.mem_of_mem_drop (List.mem_of_mem_take hel))) (fun h0=>?_) (fun i' j' el p hel hp=>?_) (fun i' j' el p hel hp=>hrep _ j' el p (hget i' el hel) hp)
     have hne:els≠[]:=fun h=>by rw [h] at hc2;simp at hc2;omega
     obtain ⟨el,hel⟩:=List.exists_mem_of_ne_nil els hne
     have hkt:k=te.size:=by rw [<- hkk el hel];exact hk el hel
     have hA':=hA (by omega)
     subst hA'
     rw [if_neg (by omega),hkt]
     simp only [Option.map_some,Zdx]
     have hel':=hget i' el hel
     obtain ⟨q1,q2,q3⟩:=hcell _ j' el p hel' hp
     have hkt:k=te.size:=by rw [<- hkk el (List.mem_of_getElem? hel')];exact hk el (List.mem_of_getElem? hel')
     subst hkt
     have e1:off+(l+i') * te.size+j'=off+l * te.size+i' * te.size+j':=by rw [Nat.add_mul];omega
     rw [e1] at q2 q3
     exact ⟨q1,q2,q3⟩
    have h9:=(hX'.pureVal (d:=o.dst) hd hval).moreS (S':=fun j=>S j\/j=i) fun _ h=>.inl h
    exact h9
cases h
cases h
cases h}
end
open Go.RowKit
theorem ZoJ {P:Program} (w:World) (base:Nat) (t ty e:TypeId) (i:TypeInfo) (z:Value) (size bytes:Nat) (ht:P.underlying t=some (.slice e)) (hi:P.info? e=some i) (hz:i.zero=some z)
  (hsize:i.size=size) (hby:i.bytes=bytes) (hzs:z.cells.size=size) (hsz:0<size) (v:Value) (n:Nat) (xs:List Value) (hown:w.ownsRow base e size v n xs)
  (a:Addr) (m c:Nat) (news:List Value) (hl:news.length=m * size) (hnews:∀ j u,news[j]? = some u->w.cell? (a.add j)=some u) (h1:∀ u ∈ news,u.oneCell'=true)
  (h63:n+m<=maxLen) (hbytes:(n+m) * bytes<=140737488355328) (hbase:base<=w.heap.size) :
  ∃ v' w',(Builtin.append_ #[t,t] ty #[v,.slice (some a) m c]).run P w = .ok v' w'/\w'.ownsRow base e size v' (n+m) (xs++news)/\w.grownBy w' v.ownBlock/\
   (v'.ownBlock=v.ownBlock\/(v'.ownBlock=some w.heap.size/\w.grownBy w' none)):=by{
obtain ⟨v',w',hrun,h2,h3,_,h5⟩:=run_append_own_at (P:=P) w base t ty e i z size bytes ht hi hz hsize hby hzs hsz v n xs hown a m c news hl hnews h1 h63 hbytes hbase
refine ⟨v',w',hrun,h2,h3,h5.imp id fun h6=>⟨h6,?_⟩⟩
rcases hown.2 with ⟨rfl,rfl⟩ | ⟨g,cap,cur,rfl,hbg,hg,hnc,hcm,hcs,htake⟩
exact h3
have h63':n+m<=9223372036854775807:=by unfold maxLen at h63;omega
by_cases hroom:n+m<=cap
have hr:=run_append_room (P:=P) w t ty e i ht hi g n cap cur hg a m c news (by rw [hl,hsize]) hnews h1 hroom (by rw [hl,hcs,hsize,<- Nat.add_mul];exact Nat.mul_le_mul_right _ hroom)
rw [hr] at hrun
injection hrun with e1 e2
rw [<- e1] at h6
simp only [Value.ownBlock,Option.some.injEq] at h6
exact absurd h6 (Nat.ne_of_lt (Array.getElem?_eq_some_iff.1 hg).1)
have hr:=run_append_grow (P:=P) w t ty e i z ht hi hz ⟨g,0,none⟩ n cap xs (by rw [hown.1,hsize]) (hown.cells (g:=g) rfl) a m c news (by rw [hl,hsize]) hnews (by omega) (by omega) (growslice_fits (by omega) (by rw [hby];exact hbytes))
rw [hr] at hrun
injection hrun with e1 e2
subst e2
exact ⟨rfl,rfl,rfl,by simp,fun k hk _=>heap_alloc_old w.drew _ hk⟩}
section
variable {P:Program} {r:Run} {o:Oper} {i:Nat} {s:FS} {u:Upd}
theorem ZhC {S:Nat->Prop} {a:Act} {x:Ctx} (hX:RstX r S s a x) {T E:TypeId} {ty:TypeId} {ti te:TI} (ht:tyI P T=some ti) (hE:ti.desc = .slice E) (hte:tyI P E=some te) (hk0:0<te.size) (hz:te.zero.length=te.size)
  {v0:Value} {n:Nat} {xs:List Value} (hown:x.W.ownsRow 0 E te.size v0 n xs) {p:PV} {v:Value} {new:List (List PV)} (hnew:ZjP s.ob p=some new) (hr:Rep x p v) (hk:∀ e ∈ new,e.length=te.size)
  (h63:n+new.length<=9223372036854775807) (hbytes:(n+new.length) * te.bytes<=140737488355328) :
  ∃ v' W' ys,(Builtin.append_ #[T,T] ty #[v0,v]).run P x.W = .ok v' W'/\W'.ownsRow 0 E te.size v' (n+new.length) (xs++ys)/\x.W.grownBy W' v0.ownBlock/\(v'.ownBlock=v0.ownBlock\/(v'.ownBlock=some x.W.heap.size/\x.W.grownBy W' none))/\
   ys.length=new.length * te.size/\∀ (m:Nat) (q:PV) (w:Value),new.flatten[m]? = some q->ys[m]? = some w->Rep x q w:=by{
obtain ⟨inf,z,h1,_⟩:=ZR ht
rw [hE] at h1
obtain ⟨inf',z',h1',h2',h3',h4',h5',h6'⟩:=ZR hte
obtain ⟨A,c,k,rfl,hc,hm,hkk,hpure,b,off,hcell⟩:=Zkm hX hnew hr
have hbase:0<=x.W.heap.size:=Nat.zero_le _
rcases Nat.eq_zero_or_pos new.length with h0 | h0
have hn0:new = []:=List.eq_nil_of_length_eq_zero h0
subst hn0
cases A with
| none=>
  refine ⟨v0,x.W,[],Zfm x.W 0 T ty E inf' te.size h1 h2' v0 n xs hown c,by simpa using hown,World.grownBy.refl _ _,.inl rfl,by simp,fun m q w hq=>by simp at hq⟩
| some ad=>
  obtain ⟨v',W',hrun,g1,g2,g3⟩:=ZoJ (P:=P) x.W 0 T ty E inf' z' te.size te.bytes h1 h2' h3' h4' h5' (by rw [<- hz,h6'];simp) hk0 v0 n xs hown ad 0 c [] (by simp) (fun j u hu=>by simp at hu) (fun u hu=>by simp at hu) (by unfold maxLen;simp at h63;omega) (by simpa using hbytes) hbase
  exact ⟨v',W',[],by simpa using hrun,by simpa using g1,g2,g3,by simp,fun m q w hq=>by simp at hq⟩
obtain ⟨hA,hcell2⟩:=hcell h0
subst hA
have hks:k=te.size:=by
 obtain ⟨e,he⟩:=List.exists_mem_of_length_pos h0
 rw [<- hkk e he];exact hk e he
subst hks
have hlen:new.flatten.length=new.length * te.size:=Zb3 new hkk
have hat:∀ m,m<new.flatten.length->∃ q w,new.flatten[m]? = some q/\x.W.cell? ⟨b,off+m,none⟩=some w/\Rep x q w/\q.pure=true:=fun m hml=>by
 rw [hlen] at hml
 have hi:m / te.size<new.length:=Nat.div_lt_of_lt_mul (by rw [Nat.mul_comm];exact hml)
 have hj:m % te.size<te.size:=Nat.mod_lt _ hk0
 have hem:m / te.size * te.size+m % te.size=m:=by rw [Nat.mul_comm];exact Nat.div_add_mod m te.size
 have he:new[m / te.size]? = some new[m / te.size]:=List.getElem?_eq_getElem hi
 have hel:(new[m / te.size]).length=te.size:=hkk _ (List.getElem_mem hi)
 have hq:(new[m / te.size])[m % te.size]? = some ((new[m / te.size])[m % te.size]'(by omega)):=List.getElem?_eq_getElem (by omega)
 obtain ⟨w,hw1,hw2⟩:=hcell2 _ _ _ _ he hq
 refine ⟨_,w,?_,?_,hw2,hpure _ (List.getElem_mem hi) _ (List.getElem_mem _)⟩
 rw [<- Zjy new hkk _ _ _ _ he hq,hem]
 rw [<- hw1,Nat.add_assoc,hem]
let ys:List Value:=(List.range new.flatten.length).map fun m=>(x.W.cell? ⟨b,off+m,none⟩).getD undef
have hyl:ys.length=new.flatten.length:=by simp [ys]
have hyg:∀ m w,ys[m]? = some w->m<new.flatten.length/\x.W.cell? ⟨b,off+m,none⟩=some w:=fun m w hw=>by
 have hml:m<new.flatten.length:=by rw [<- hyl];exact (List.getElem?_eq_some_iff.1 hw).1
 obtain ⟨q,w',_,hw',_⟩:=hat m hml
 refine ⟨hml,?_⟩
 simp only [ys,List.getElem?_map,List.getElem?_range hml,Option.map_some,Option.some.injEq] at hw
 rw [hw'] at hw ⊢
 rw [<- hw];rfl
obtain ⟨v',W',hrun,g1,g2,g3⟩:=ZoJ (P:=P) x.W 0 T ty E inf' z' te.size te.bytes h1 h2' h3' h4' h5' (by rw [<- hz,h6'];simp) hk0 v0 n xs hown ⟨b,off,none⟩ new.length c ys (by rw [hyl,hlen])
 (fun j u hu=>by rw [Zdx];exact (hyg j u hu).2) (fun u hu=>by
  obtain ⟨m,hm'⟩:=List.getElem?_of_mem hu
  obtain ⟨hml,hw⟩:=hyg m u hm'
  obtain ⟨q,w',_,hw',hq,hp⟩:=hat m hml
  rw [hw'] at hw
  injection hw with hw
  subst hw
  exact hq.one (PV.cell_of_pure hp)) (by unfold maxLen;omega) hbytes hbase
refine ⟨v',W',ys,hrun,g1,g2,g3,by rw [hyl,hlen],fun m q w hq hw=>?_⟩
obtain ⟨hml,hw1⟩:=hyg m w hw
obtain ⟨q',w',hq',hw',hq2,_⟩:=hat m hml
rw [hq'] at hq
injection hq with hq
rw [hw'] at hw1
injection hw1 with hw1
subst hq hw1
exact hq2}
theorem ZdN {w:World} {base:Nat} {E:TypeId} {k n:Nat} {v:Value} {xs:List Value} (h:w.ownsRow base E k v n xs):∃ A c,v = .slice A n c/\(v.ownBlock=blk v):=by
 rcases h.2 with ⟨rfl,rfl⟩ | ⟨g,cap,cur,rfl,_⟩
 exact ⟨none,0,rfl,rfl⟩
 exact ⟨_,cap,rfl,rfl⟩
theorem Ztv {T:TypeId} {e e':Operand} (ho:o.op = .call { callee:=.builtin .append,args:=#[e,e'],argTypes:=#[T,T] }) (h:act P i o s=some u):OpOK P r o i s u:=by{
intro S a x Q hX hi hd
unfold act at h
rw [ho] at h
simp only [ZgG,if_true] at h
have hr:=Zae hX e
have hr':=Zae hX e'
have run:∀ (v':Value) (W':World),(Builtin.append_ #[T,T] o.type #[a.eval e,a.eval e']).run P x.W = .ok v' W'->(execOp a.eval o).run P x.W = .ok (.value v') W':=fun v' W' hrun=>by
 unfold execOp
 rw [ho]
 simp [resolve,invoke,builtin,hrun]
split at h
rename_i E sz by_ zr new d ht hnew hdst
split at h
rename_i te hte
split at h
rename_i he
split at h
rename_i hc
obtain ⟨hc1,hc2,hc3,hc4,hc5⟩:=hc
injection h with h
subst h
have hk:∀ el ∈ new,el.length=te.size:=fun el hel=>by simpa using List.all_eq_true.1 hc5 el hel
rw [he] at hr
generalize hv:a.eval e=v at hr run
cases hr
obtain ⟨v',W',ys,hrun,g1,g2,g3,g4,g5⟩:=ZhC hX (ty:=o.type) ht rfl hte hc3 hc4 (World.ownsRow_nil x.W 0 E te.size) hnew hr' hk (by omega) (by rw [Nat.zero_add];exact hc1)
rw [Nat.zero_add,List.nil_append] at g1
obtain ⟨A,c,hv',hbk⟩:=ZdN g1
have hblk:∀ b,blk v'=some b->b=x.W.heap.size:=fun b hb=>by
 rw [<- hbk] at hb
 rcases g3 with e1 | ⟨e1,_⟩
 rw [e1] at hb;simp [Value.ownBlock] at hb
 rw [e1] at hb;injection hb with hb;exact hb.symm
have hold:∀ b,b<x.W.heap.size->W'.heap[b]? = x.W.heap[b]?:=fun b hb=>g2.block b hb (by simp [Value.ownBlock])
rw [hdst]
refine ZN (run v' W' hrun) ?_
rw [hdst]
refine hX.newObj hi (fun k hk=>hd k (by rw [hdst];exact hk)) g2.os g2.tape g2.output g2.size (fun b hb _=>hold b hb) (fun b o v hF hv=>(World.cell?_of_block (hold b (hX.flt b o hF))).trans hv) (v0:=v') (fun b hb=>.inl (Nat.le_of_eq (hblk b hb).symm))
 (fun y k hF hW hρ=>⟨hk,?_,ys,by rw [hW,hρ];exact g1,fun m q w hq hw=>(g5 m q w hq hw).step k,fun b hb=>⟨.inl ?_,fun o ho=>?_⟩⟩) (fun y k hW hG hρ=>?_)
obtain ⟨_,_,_,_,_,_,_,hp,_⟩:=Zkm hX hnew hr'
exact hp
rw [hρ] at hb
rw [hblk b hb]
exact hX.gr.size
rw [hF] at ho
rw [hρ] at hb
have:=hX.flt b o ho
have:=hblk b hb
omega
subst hv'
exact .row _ _ _ _ _ hG hρ
cases h
rename_i t g he
split at h
rename_i E' k sh els hob
split at h
rename_i hc
obtain ⟨rfl,rfl,hc1,hc2,hc3,hc4,hc5⟩:=hc
injection h with h
subst h
have hk:∀ el ∈ new,el.length=te.size:=fun el hel=>by simpa using List.all_eq_true.1 hc5 el hel
have hob':=ZaI hob
obtain ⟨hg,hO⟩:=hX.ob t g _ hob'
have hO':=hO
obtain ⟨h1,h2,vs,h3,h4,h5⟩:=hO
rw [he] at hr
generalize hv:a.eval e=v at hr run
cases hr with
| row _ _ A n c hG hvv=>
  rw [hvv] at h3
  obtain ⟨v',W',ys,hrun,g1,g2,g3,g4,g5⟩:=ZhC hX (ty:=o.type) ht rfl hte hc3 hc4 h3 hnew hr' hk hc2 hc1
  obtain ⟨A',c',hv',hbk⟩:=ZdN g1
  obtain ⟨A0,c0,hv0,hbk0⟩:=ZdN h3
  have hold:∀ b,b<x.W.heap.size->(∀ g o,s.ob t=some (g,o)->blk (x.ρ g)≠some b)->W'.heap[b]? = x.W.heap[b]?:=fun b hb hne=>g2.block b hb (fun e1=>hne g _ hob' (by rw [hvv,<- hbk0];exact e1.symm))
  have hxs:vs.length=els.length * te.size:=h3.1
  have hcells:∀ b o v,x.F b o->x.W.cell? ⟨b,o,none⟩=some v->W'.cell? ⟨b,o,none⟩=some v:=fun b o w hF hw=>by
   by_cases hbb:blk (x.ρ g)=some b
   obtain ⟨hsh,holt⟩:=(h5 b hbb).2 o hF
   have hown:(Value.slice A n c).ownBlock=some b:=by rw [hbk0,<- hvv];exact hbb
   have e0:o<vs.length:=by rw [hxs];exact holt
   have e1:x.W.cell? ⟨b,o,none⟩=some vs[o]:=by
    have:=h3.cells hown o _ (List.getElem?_eq_getElem e0)
    rwa [Zdx,Nat.zero_add] at this
   rw [e1] at hw
   injection hw with hw
   subst hw
   rcases g3 with e2 | ⟨e2,e3⟩
   have:=g1.cells (e2.trans hown) o vs[o] (by rw [List.getElem?_append_left e0];exact List.getElem?_eq_getElem e0)
   rwa [Zdx,Nat.zero_add] at this
   exact (World.cell?_of_block (e3.block b (hX.flt b o hF) (by simp))).trans e1
   exact (World.cell?_of_block (g2.block b (hX.flt b o hF) (fun e1=>hbb (by rw [hvv,<- hbk0];exact e1.symm)))).trans hw
  refine ZN (run v' W' hrun) ?_
  refine hX.newObj hi hd g2.os g2.tape g2.output g2.size hold hcells (v0:=v') (fun b hb=>?_)
   (fun y k hF hW hρ=>⟨?_,?_,vs++ys,by rw [hW,hρ,List.length_append];exact g1,fun m q w hq hw=>?_,fun b hb=>⟨?_,fun o ho=>?_⟩⟩) (fun y k hW hG hρ=>?_)
  rw [<- hbk] at hb
  rcases g3 with e1 | ⟨e1,_⟩
  rw [e1,hbk0] at hb
  exact .inr ⟨g,_,hob',by rw [hvv];exact hb⟩
  rw [e1] at hb
  injection hb with hb
  exact .inl (Nat.le_of_eq hb)
  intro el hel
  rcases List.mem_append.1 hel with hel | hel
  exact h1 el hel
  exact hk el hel
  intro el hel
  obtain ⟨_,_,_,_,_,_,_,hp,_⟩:=Zkm hX hnew hr'
  rcases List.mem_append.1 hel with hel | hel
  exact h2 el hel
  exact hp el hel
  rw [List.flatten_append] at hq
  have hfl:els.flatten.length=vs.length:=by rw [hxs,Zb3 els h1]
  rw [List.getElem?_append] at hq hw
  rw [hfl] at hq
  split at hq
  rename_i hm
  rw [if_pos hm] at hw
  exact (h4 m q w hq hw).step k
  rename_i hm
  rw [if_neg hm] at hw
  exact (g5 _ q w hq hw).step k
  rw [hρ,<- hbk] at hb
  rcases g3 with e1 | ⟨e1,_⟩
  rw [e1,hbk0] at hb
  exact (h5 b (by rw [hvv];exact hb)).1
  rw [e1] at hb
  injection hb with hb
  rw [<- hb]
  exact .inl hX.gr.size
  rw [hF] at ho
  rw [hρ,<- hbk] at hb
  rw [List.length_append,Nat.add_mul]
  rcases g3 with e1 | ⟨e1,_⟩
  rw [e1,hbk0] at hb
  obtain ⟨q1,q2⟩:=(h5 b (by rw [hvv];exact hb)).2 o ho
  exact ⟨q1,by omega⟩
  rw [e1] at hb
  injection hb with hb
  have:=hX.flt b o ho
  change b<x.W.heap.size at this
  omega
  subst hv'
  rw [<- List.length_append] at hρ ⊢
  exact .row _ _ _ _ _ hG hρ
cases h
cases h
cases h
cases h
cases h}
end
open Go.RowKit
theorem ZqD {α β:Type} {P:Program} {w:World} {f:α->Sem β} {g:α->β}:∀ (l:List α) (_:∀ y ∈ l,(f y).run P w = .ok (g y) w),(l.mapM f).run P w = .ok (l.map g) w
 | [],_=>by simp
 | y::l,h=>by
   rw [List.mapM_cons]
   simp only [Sem.run_bind,h y (List.mem_cons_self ..),Result.andThen_ok,ZqD l fun z hz=>h z (List.mem_cons_of_mem _ hz),Sem.run_pure,List.map_cons]
theorem ZsF {α β:Type} {P:Program} {w:World} {f:α->Sem β} {g:α->β} (l:Array α) (h:∀ y ∈ l.toList,(f y).run P w = .ok (g y) w):(l.mapM f).run P w = .ok (l.map g) w:=by
 rw [Array.mapM_eq_mapM_toList,map_eq_pure_bind,Sem.run_bind,ZqD l.toList h]
 simp only [Result.andThen_ok,Sem.run_pure]
 rw [<- Array.toList_map,Array.toArray_toList]
theorem ZsG:∀ (vs:List Value) (k off:Nat) (cells:Array Value) (_:off+k+vs.length<=cells.size),
  ((vs.zipIdx k).foldl (fun cs (q:Value×Nat)=>cs.setIfInBounds (off+q.2) q.1) cells).toList=cells.toList.take (off+k)++vs++cells.toList.drop (off+k+vs.length)
 | [],k,off,cells,_=>by simp
 | v::vs,k,off,cells,h=>by
   rw [List.length_cons] at h
   rw [List.zipIdx_cons,List.foldl_cons,ZsG vs (k+1) off _ (by rw [Array.size_setIfInBounds];omega),Array.toList_setIfInBounds]
   have e1:off+(k+1)=off+k+1:=by omega
   have e2:(cells.toList.set (off+k) v).take (off+k+1)=cells.toList.take (off+k) ++ [v]:=by
    apply List.ext_getElem?
    intro j
    rw [List.getElem?_take,List.getElem?_append,List.length_take,Array.length_toList,List.getElem?_set]
    have:min (off+k) cells.size=off+k:=by omega
    rw [this]
    by_cases hj:j<off+k
    ·rw [if_pos (by omega),if_neg (by omega),if_pos hj,List.getElem?_take,if_pos hj]
    ·rw [if_neg hj]
     by_cases hj2:j=off+k
     ·subst hj2
      rw [if_pos (by omega),if_pos rfl,if_pos (by rw [Array.length_toList];omega)]
      simp
     ·rw [if_neg (by omega)]
      rw [List.getElem?_eq_none (by simp;omega)]
   have e3:(cells.toList.set (off+k) v).drop (off+k+1+vs.length)=cells.toList.drop (off+k+(v::vs).length):=by
    rw [List.drop_set_of_lt (by omega),List.length_cons]
    congr 1
    omega
   rw [e1,e2,e3]
   simp
def ZuI (x:Ctx) (cs:List PV) (vs:Array Value):Prop:=cs.length=vs.size/\∀ (j:Nat) (p:PV) (v:Value),cs[j]? = some p->vs[j]? = some v->Rep x p v
theorem ZsH {off:Nat} {v:Value} {cells:Array Value} (h:off+v.cells.size<=cells.size) :
  v.cells.zipIdx.foldl (fun cs (q:Value×Nat)=>cs.setIfInBounds (off+q.2) q.1) cells=(cells.toList.take off++v.cells.toList++cells.toList.drop (off+v.cells.toList.length)).toArray:=by{
rw [<- Array.foldl_toList,Array.toList_zipIdx]
have:=ZsG v.cells.toList 0 off cells (by simpa using h)
rw [Nat.add_zero] at this
rw [<- this,Array.toArray_toList]}
theorem Zg4 {x:Ctx} {f:Operand->PV} {g:Operand->Value} (hfg:∀ e,Rep x (f e) (g e)) {place:Nat->Option (Nat×Nat)} {place':Nat->Option (Nat×Nat)} (hpl:∀ i q,place i=some q->place' i=some q) :
  ∀ (parts:List (Nat×Operand)) {cs out:List PV} {vs:Array Value} (_:ZuI x cs vs) (_:Zfv place cs (parts.map fun q=>(q.1,f q.2))=some out),
   ∃ ws,Instr.fill place' vs (parts.map fun q=>(q.1,g q.2))=some ws/\ZuI x out ws
 | [],cs,out,vs,hr,h=>by
   simp only [List.map_nil,Zfv,Option.some.injEq] at h
   subst h
   exact ⟨vs,rfl,hr⟩
 | (i,e)::parts,cs,out,vs,hr,h=>by
  simp only [List.map_cons,Zfv] at h
  split at h
  ·cases h
  ·rename_i off size hp
   split at h
   ·cases h
   ·rename_i hc
    simp only [not_or,Nat.not_lt,ne_eq,Decidable.not_not,Bool.not_eq_false] at hc
    obtain ⟨hc1,hc2,hc3⟩:=hc
    obtain ⟨h1,h2⟩:=ZfA (hfg e) hc3
    have hsz:off+(g e).cells.size<=vs.size:=by rw [<- h1,<- hr.1];exact hc2
    have hr':ZuI x (ZcP cs off (f e).cells) ((vs.toList.take off++(g e).cells.toList++vs.toList.drop (off+(g e).cells.toList.length)).toArray):=by
     refine ⟨?_,fun j p v hj hv=>?_⟩
     ·rw [Zhe _ _ _ hc2,hr.1]
      simp;omega
     ·have hv2:(vs.toList.take off++(g e).cells.toList++vs.toList.drop (off+(g e).cells.toList.length))[j]? = some v:=by simpa using hv
      rcases written (by simpa using hr.1) (by simpa using h1) hc2 hj hv2 with ⟨e1,e2⟩ | ⟨k,e1,e2⟩
      ·exact hr.2 j p v e1 (by simpa using e2)
      ·exact h2 k p v e1 (by simpa using e2)
    obtain ⟨ws,h3,h4⟩:=Zg4 hfg hpl parts hr' h
    refine ⟨ws,?_,h4⟩
    simp only [List.map_cons,Instr.fill,hpl i _ hp]
    rw [if_neg (by simp;omega)]
    rw [ZsH hsz]
    exact h3
section
variable {P:Program} {r:Run} {o:Oper} {i:Nat} {s:FS} {u:Upd}
theorem Zn0 (x:Ctx) {z:Value} {l:List PV} (h:l=z.cells.toList.map Zbv):ZuI x l z.cells:=by{
subst h
refine ⟨by simp,fun j p v hp hv=>?_⟩
rw [List.getElem?_map,Array.getElem?_toList,hv] at hp
obtain rfl:Zbv v=p:=by simpa using hp
exact Zdp x v}
theorem ZuJ {T:TypeId} {parts:Array (Nat×Operand)} (ho:o.op = .build T parts) (h:act P i o s=some u):OpOK P r o i s u:=by{
intro S a x Q hX hi hd
unfold act at h
rw [ho] at h
simp only at h
have hm:(parts.map fun (q:Nat×Operand)=>(q.1,a.eval q.2)).toList=parts.toList.map fun q=>(q.1,a.eval q.2):=by simp
split at h
rename_i fs _ _ z ht
obtain ⟨inf,zv,h1,h2,h3,h4,h5,h6⟩:=ZR ht
split at h
rename_i hall
cases hf:Zfv (ZjO P fs) z (parts.toList.map fun q=>(q.1,ev s q.2)) with
| none=>rw [hf] at h;simp at h
| some cs=>
  rw [hf] at h
  simp only [Option.map_some,Option.some.injEq] at h
  subst h
  let g:Field->Nat×Nat:=fun f=>(f.offset,((tyI P f.type).map (·.size)).getD 0)
  have hpl:∀ i q,ZjO P fs i=some q->(fs[i]?).map g=some q:=fun i q hq=>by
   unfold ZjO at hq
   split at hq
   rename_i f hfi
   cases hti:tyI P f.type with
   | none=>rw [hti] at hq;simp at hq
   | some ti=>
     rw [hti] at hq
     simp only [Option.map_some,Option.some.injEq] at hq
     subst hq
     simp [g,hfi,hti]
   cases hq
  obtain ⟨ws,h7,h8⟩:=Zg4 (place':=fun i=>(fs[i]?).map g) (fun e=>Zae hX e) hpl parts.toList (Zn0 x h6) hf
  refine ZN (v:=.agg ws) (W':=x.W) ?_ (hX.val hd (.agg _ _ h8.1 h8.2))
  unfold execOp
  rw [ho]
  have hmap:(fs.mapM fun f=>Prod.mk f.offset <$> sizeOf f.type).run P x.W = .ok (fs.map g) x.W:=ZsF fs fun f hf'=>by
   have:=List.all_eq_true.1 hall f hf'
   obtain ⟨ti,hti⟩:=Option.isSome_iff_exists.1 this
   obtain ⟨inf',_,_,q2,_,q4,_⟩:=ZR hti
   have hs:(sizeOf f.type).run P x.W = .ok ti.size x.W:=by simp [sizeOf,typeInfo,q2,q4]
   rw [map_eq_pure_bind,Sem.run_bind,hs]
   simp [g,hti]
  simp [Instr.build,zeroValue,typeInfo,h2,h3,run_underlying h1,hmap]
  simp [h7]
cases h
rename_i len E _ _ z ht
obtain ⟨inf,zv,h1,h2,h3,h4,h5,h6⟩:=ZR ht
split at h
rename_i te hte
obtain ⟨inf',_,_,q2,_,q4,_⟩:=ZR hte
cases hf:Zfv (fun i=>some (i * te.size,te.size)) z (parts.toList.map fun q=>(q.1,ev s q.2)) with
| none=>rw [hf] at h;simp at h
| some cs=>
  rw [hf] at h
  simp only [Option.map_some,Option.some.injEq] at h
  subst h
  obtain ⟨ws,h7,h8⟩:=Zg4 (place':=fun i=>some (i * te.size,te.size)) (fun e=>Zae hX e) (fun _ _ h=>h) parts.toList (Zn0 x h6) hf
  refine ZN (v:=.agg ws) (W':=x.W) ?_ (hX.val hd (.agg _ _ h8.1 h8.2))
  unfold execOp
  rw [ho]
  simp [Instr.build,zeroValue,typeInfo,h2,h3,run_underlying h1,sizeOf,q2,q4,h7]
cases h
cases h}
theorem ZkB (k:Nat):∀ (n:Nat) (cs:List PV) (_:cs.length=n * k),(chunks k n cs).flatten=cs/\(∀ e ∈ chunks k n cs,e.length=k)/\(chunks k n cs).length=n
 | 0,cs,h=>by
   have:cs = []:=List.eq_nil_of_length_eq_zero (by simpa using h)
   subst this
   simp [chunks]
 | n+1,cs,h=>by
   rw [Nat.succ_mul] at h
   obtain ⟨h1,h2,h3⟩:=ZkB k n (cs.drop k) (by simp;omega)
   refine ⟨by simp [chunks,h1],fun e he=>?_,by simp [chunks,h3]⟩
   simp only [chunks,List.mem_cons] at he
   rcases he with rfl | he
   simp;omega
   exact h2 e he
theorem Zpp {S:Nat->Prop} {a:Act} {x:Ctx} (hX:RstX r S s a x) (hi:¬ S i) {d:Nat} (hd:d<r.N) {E k n:Nat} {els:List (List PV)} {vs:Array Value} (hn:els.length=n) (hk:∀ e ∈ els,e.length=k) (hp:∀ e ∈ els,∀ p ∈ e,p.pure=true)
  (hm:n<=9223372036854775807) (hr:ZuI x els.flatten vs) :
  ∃ y:Ctx,y.W=x.W.alloc (.cells vs E)/\RstX r (fun j=>S j\/j=i) (s.app (some d) ⟨.row d (s.ng,i),[(d,some ((s.ng,i),.row E k false els))]⟩) (a.put (some d) (.slice (some ⟨x.W.heap.size,0,none⟩) n n)) y:=by{
have hold:∀ b,b<x.W.heap.size->(x.W.alloc (.cells vs E)).heap[b]? = x.W.heap[b]?:=fun b hb=>heap_alloc_old x.W _ hb
have hl:vs.size=n * k:=by rw [<- hr.1,Zb3 els hk,hn]
refine hX.newObj hi (fun k hk=>by cases hk;exact hd) rfl rfl rfl (by simp) (fun b hb _=>hold b hb) (fun b o v hF hv=>?_) (v0:=.slice (some ⟨x.W.heap.size,0,none⟩) n n) (fun b hb=>.inl ?_) (fun y st hF hW hρ=>?_) (fun y st hW hG hρ=>?_)
rw [World.cell?_of_block (hold b (hX.flt b o hF))];exact hv
have:x.W.heap.size=b:=by simpa [blk] using hb
omega
refine ⟨hk,hp,vs.toList,?_,fun m p v hpp hv=>((hr.2 m p v hpp (by simpa using hv)).step st),fun b hb=>⟨.inl ?_,fun o ho=>?_⟩⟩
rw [hρ,hW,hn]
exact ⟨by simp [hl],.inr ⟨x.W.heap.size,n,vs,rfl,Nat.zero_le _,heap_alloc_new x.W _,Nat.le_refl _,by unfold maxLen;omega,hl,by rw [List.take_of_length_le (by simp [hl])]⟩⟩
rw [hρ] at hb
have e:x.W.heap.size=b:=by simpa [blk] using hb
rw [<- e]
exact hX.gr.size
rw [hρ] at hb
rw [hF] at ho
have e:x.W.heap.size=b:=by simpa [blk] using hb
have:=hX.flt b o ho
change b<x.W.heap.size at this
omega
exact .row d (s.ng,i) _ _ _ hG hρ}
theorem ZsI (f:Nat->Option (Gen×VObj)) (us:List (Nat×Option (Gen×VObj))) (d:Nat) (q:Option (Gen×VObj)):flips f (us ++ [(d,q)])=Zcv (flips f us) d q:=by
 unfold flips
 rw [List.foldl_append]
 rfl
theorem Zih (s:FS) (d:Option Nat) (v:PV) (us:List (Nat×Option (Gen×VObj))) (t:Nat) (q:Option (Gen×VObj)) :
  s.app d ⟨v,us ++ [(t,q)]⟩=FS.app ⟨s.tm,flips s.ob us,s.ng⟩ d ⟨v,[(t,q)]⟩:=by{
have:(us ++ [(t,q)]).foldl (fun f o=>Zcv f o.1 o.2) s.ob=Zcv (flips s.ob us) t q:=ZsI s.ob us t q
unfold FS.app
simp only [this]
rfl}
theorem Zn1 {place:Nat->Option (Nat×Nat)}:∀ (parts:List (Nat×PV)) {cs out:List PV} (_:Zfv place cs parts=some out),out.length=cs.length
 | [],cs,out,h=>by
   simp only [Zfv,Option.some.injEq] at h
   rw [h]
 | (i,v)::parts,cs,out,h=>by
  simp only [Zfv] at h
  split at h
  cases h
  split at h
  cases h
  rename_i hc
  simp only [not_or,Nat.not_lt] at hc
  rw [Zn1 parts h,Zhe _ _ _ hc.2.1]
theorem Zkb {f:Nat->Option (Gen×VObj)}:∀ (ps:List PV) {qs:List PV} {us:List (Nat×Option (Gen×VObj))} (_:ZeZ f ps=some (qs,us)),qs.length=ps.length
 | [],qs,us,h=>by
   simp only [ZeZ,Option.some.injEq,Prod.mk.injEq] at h
   rw [<- h.1]
 | p::ps,qs,us,h=>by
   simp only [ZeZ] at h
   split at h
   rename_i q us1 qs2 us2 h1 h2
   injection h with h
   injection h with e1 e2
   subst e1
   simp [Zkb ps h2]
   cases h
theorem ZmL {T:TypeId} {n:Nat} {parts:Array (Nat×Operand)} (ho:o.op = .buildSlice T n parts) (h:act P i o s=some u):OpOK P r o i s u:=by{
intro S a x Q hX hi hd
unfold act at h
rw [ho] at h
simp only at h
split at h
rename_i E _ _ _ d ht hdst
obtain ⟨inf,zv,h1,_⟩:=ZR ht
split at h
rename_i te hte
obtain ⟨inf',z',h1',h2',h3',h4',_,h6'⟩:=ZR hte
split at h
rename_i cs hf
split at h
rename_i qs us hres
split at h
rename_i hc
obtain ⟨hc1,hc2,hc3⟩:=hc
injection h with h
subst h
have hqc:=Zkb cs hres
have hcl:=Zn1 _ hf
have hzl:te.zero.length=z'.cells.size:=by rw [h6'];simp
have hrl:(List.replicate n te.zero).flatten.length=n * z'.cells.size:=by
 rw [Zb3 (k:=te.zero.length) _ (fun e he=>by rw [List.eq_of_mem_replicate he]),List.length_replicate,hzl]
let z0:Array Value:=(Array.range (n * te.size)).map fun j=>(if n * te.size=0 then #[] else z'.cells)[j % (if n * te.size=0 then #[] else z'.cells).size]!
have hz0:ZuI x (List.replicate n te.zero).flatten z0:=by
 refine ⟨by rw [hrl];simp only [z0,Array.size_map,Array.size_range];omega,fun j p v hp hv=>?_⟩
 have hjl:j<n * z'.cells.size:=by rw [<- hrl];exact (List.getElem?_eq_some_iff.1 hp).1
 have hzs:0<z'.cells.size:=by
  rcases Nat.eq_zero_or_pos z'.cells.size with h0 | h0
  rw [h0] at hjl;omega
  exact h0
 have hi':j / z'.cells.size<n:=Nat.div_lt_of_lt_mul (by rw [Nat.mul_comm];exact hjl)
 have hj':j % z'.cells.size<z'.cells.size:=Nat.mod_lt _ hzs
 have hem:j / z'.cells.size * z'.cells.size+j % z'.cells.size=j:=by rw [Nat.mul_comm];exact Nat.div_add_mod j _
 have he:(List.replicate n te.zero)[j / z'.cells.size]? = some te.zero:=by rw [List.getElem?_replicate,if_pos hi']
 have hq:te.zero[j % z'.cells.size]? = some (Zbv z'.cells[j % z'.cells.size]):=by rw [h6'];simp [hj']
 have:=Zjy (k:=z'.cells.size) (List.replicate n te.zero) (fun e he=>by rw [List.eq_of_mem_replicate he,hzl]) _ _ _ _ he hq
 rw [hem,hp] at this
 injection this with this
 subst this
 have hnz:n * te.size≠0:=by omega
 have hjt:j<n * te.size:=by rw [<- hc1,hqc,hcl,hrl];exact hjl
 simp only [z0,if_neg hnz] at hv
 rw [Array.getElem?_map,Array.getElem?_range,if_pos hjt] at hv
 simp only [Option.map_some,Option.some.injEq] at hv
 rw [getElem!_pos z'.cells (j % z'.cells.size) hj'] at hv
 subst hv
 exact Zdp x _
obtain ⟨ws,h7,h8⟩:=Zg4 (place':=fun i=>some (i * te.size,te.size)) (fun e=>Zae hX e) (fun _ _ h=>h) parts.toList hz0 hf
obtain ⟨F',st,hX',hq',_,_⟩:=ZcD cs (Flip.refl s.ob) hX (g:=fun j=>ws.getD j undef) hres (fun j p hp=>by
 have hlt:j<ws.size:=by rw [<- h8.1];exact (List.getElem?_eq_some_iff.1 hp).1
 have:ws.getD j undef=ws[j]:=by simp [hlt]
 rw [this]
 exact h8.2 j p _ hp (Array.getElem?_eq_getElem hlt))
obtain ⟨c1,c2,c3⟩:=ZkB te.size n qs hc1
have hpure:∀ e ∈ chunks te.size n qs,∀ p ∈ e,p.pure=true:=fun e he p hp=>by
 have hmem:p ∈ qs:=by rw [<- c1];exact List.mem_flatten.2 ⟨e,he,hp⟩
 obtain ⟨j,hj⟩:=List.getElem?_of_mem hmem
 exact (hq' j p hj).1
have hreps:ZuI { x with F:=F' } (chunks te.size n qs).flatten ws:=by
 rw [c1]
 refine ⟨by rw [hqc];exact h8.1,fun j p v hp hv=>?_⟩
 have:=(hq' j p hp).2
 rw [Array.getD_eq_getD_getElem?,hv] at this
 exact this
obtain ⟨y,hy1,hy2⟩:=Zpp (s:=⟨s.tm,flips s.ob us,s.ng⟩) hX' hi (hd d hdst) (E:=E) (n:=n) c3 c2 hpure (by have:=Nat.le_mul_of_pos_right n hc3;omega) hreps
rw [hdst]
refine ZN (v:=.slice (some ⟨x.W.heap.size,0,none⟩) n n) (W':=x.W.alloc (.cells ws E)) ?_ ⟨y,hy1,?_⟩
unfold execOp
rw [ho]
have hle:¬ (16777216<n * te.size):=by omega
have hm:(parts.map fun (q:Nat×Operand)=>(q.1,a.eval q.2)).toList=parts.toList.map fun q=>(q.1,a.eval q.2):=by simp
have hzr:(if n * te.size=0 then (pure #[]:Sem (Array Value)) else (do pure (<- zeroValue E).cells)).run P x.W = .ok (if n * te.size=0 then #[] else z'.cells) x.W:=by
 split
 rfl
 simp [zeroValue,typeInfo,h2',h3']
simp [Instr.buildSlice,run_underlying h1,sizeOf,typeInfo,h2',h4',hle]
by_cases hz:n * te.size=0
have ez:z0=Array.map (fun _=>default) (Array.range (n * te.size)):=by simp [z0,hz]
rw [if_pos hz,<- ez,h7]
simp [newRow,newObj]
rfl
have ez:z0=Array.map (fun j=>z'.cells[j % z'.cells.size]!) (Array.range (n * te.size)):=by simp [z0,hz]
rw [if_neg hz]
simp only [zeroValue,typeInfo,Sem.run_bind,h2',h3',Sem.run_pure,Result.andThen_ok,run_program]
rw [<- ez,h7]
simp [newRow,newObj]
rfl
rw [Zih,hdst]
exact hy2
cases h
cases h
cases h
cases h
cases h}
end
open Go.RowKit
section
variable {P:Program} {r:Run} {o:Oper} {i:Nat} {s:FS} {u:Upd}
theorem Zot {T:TypeId} {e e':Operand} (ho:o.op = .makeSlice T e e') (h:act P i o s=some u):OpOK P r o i s u:=by{
intro S a x Q hX hi hd
unfold act at h
rw [ho] at h
simp only at h
split at h
rename_i E _ _ _ n m d ht hn hm hdst
obtain ⟨inf,zv,h1,_⟩:=ZR ht
split at h
rename_i te hte
obtain ⟨inf',z',h1',h2',h3',h4',h5',h6'⟩:=ZR hte
split at h
rename_i hc
obtain ⟨rfl,hc1,hc2,hc3,hc4,hc5⟩:=hc
injection h with h
subst h
obtain ⟨kl,hl⟩:=Zep hn (Zae hX e)
obtain ⟨kc,hcv⟩:=Zep hm (Zae hX e')
have hzs:z'.cells.size=te.size:=by rw [<- hc4,h6'];simp
have hrun:=run_make (P:=P) (w:=x.W) T E inf' z' h1 h2' h3' kl kc n n (by omega) (Int.le_refl _) (by
 rw [h5']
 have:(te.bytes:Int) * (n:Int)=((n * te.bytes:Nat):Int):=by rw [Int.natCast_mul,Int.mul_comm]
 omega) (by omega)
simp only [Int.toNat_natCast,h4'] at hrun
have hk:∀ e ∈ List.replicate n te.zero,e.length=te.size:=fun e he=>by rw [List.eq_of_mem_replicate he,hc4]
have hreps:ZuI x (List.replicate n te.zero).flatten (madeCells z'.cells (n * te.size)):=by
 refine ⟨by rw [Zb3 _ hk];simp [madeCells],fun j p v hp hv=>?_⟩
 have hjl:j<n * te.size:=by
  have:=(List.getElem?_eq_some_iff.1 hp).1
  rw [Zb3 _ hk] at this
  simpa using this
 have hi':j / te.size<n:=Nat.div_lt_of_lt_mul (by rw [Nat.mul_comm];exact hjl)
 have hj':j % te.size<te.size:=Nat.mod_lt _ hc5
 have hem:j / te.size * te.size+j % te.size=j:=by rw [Nat.mul_comm];exact Nat.div_add_mod j _
 have he:(List.replicate n te.zero)[j / te.size]? = some te.zero:=by rw [List.getElem?_replicate,if_pos hi']
 have hj2:j % te.size<z'.cells.size:=by rw [hzs];exact hj'
 have hq:te.zero[j % te.size]? = some (Zbv z'.cells[j % te.size]):=by rw [h6'];simp [hj2]
 have:=Zjy (k:=te.size) (List.replicate n te.zero) hk _ _ _ _ he hq
 rw [hem,hp] at this
 injection this with this
 subst this
 simp only [madeCells] at hv
 rw [Array.getElem?_map,Array.getElem?_range,if_pos hjl,hzs] at hv
 simp only [Option.map_some,Option.some.injEq] at hv
 rw [getElem!_pos z'.cells (j % te.size) hj2] at hv
 subst hv
 exact Zdp x _
obtain ⟨y,hy1,hy2⟩:=Zpp hX hi (hd d hdst) (E:=E) (k:=te.size) (n:=n) (els:=List.replicate n te.zero) (vs:=madeCells z'.cells (n * te.size)) (by simp) hk
 (fun e he p hp=>by rw [List.eq_of_mem_replicate he] at hp;exact List.all_eq_true.1 hc3 p hp) hc2 hreps
rw [hdst]
refine ZN (v:=.slice (some ⟨x.W.heap.size,0,none⟩) n n) (W':=x.W.alloc (.cells (madeCells z'.cells (n * te.size)) E)) ?_ ⟨y,hy1,by rw [hdst];exact hy2⟩
unfold execOp
rw [ho]
simp [hl,hcv,hrun]
cases h
cases h
cases h}
theorem Zou {f:Nat->Option (Gen×VObj)}:∀ (ps:List PV) {qs:List PV} {us:List (Nat×Option (Gen×VObj))} (_:ZeZ f ps=some (qs,us)),∀ p ∈ ps,p.cell=true
 | [],_,_,_,p,hp=>by simp at hp
 | q::ps,qs,us,h,p,hp=>by
   simp only [ZeZ] at h
   split at h
   rename_i q' us1 qs2 us2 h1 h2
   rcases List.mem_cons.1 hp with rfl | hp
   cases p<;>simp_all [Zpg,PV.cell]
   exact Zou ps h2 p hp
   cases h
theorem Ziu:∀ (us:List (Nat×Option (Gen×VObj))) (f:Nat->Option (Gen×VObj)) (t:Nat) (_:us.all (fun q=>q.1 != t)=true),flips f us t=f t
 | [],_,_,_=>rfl
 | q::us,f,t,h=>by
   simp only [List.all_cons,Bool.and_eq_true,bne_iff_ne,ne_eq] at h
   show flips (Zcv f q.1 q.2) us t=f t
   rw [Ziu us _ t h.2]
   unfold Zcv
   rw [if_neg (fun e=>h.1 e.symm)]
theorem ZpQ {α:Type} (cur ys:List α) (o n:Nat) (h:o+ys.length<=n) (hn:n<=cur.length) :
  (cur.take o++ys++cur.drop (o+ys.length)).take n=(cur.take n).take o++ys++(cur.take n).drop (o+ys.length):=by{
have e1:(cur.take n).take o=cur.take o:=by rw [List.take_take];congr 1;omega
have e2:(cur.take n).drop (o+ys.length)=(cur.drop (o+ys.length)).take (n-(o+ys.length)):=by rw [List.drop_take]
rw [e1,e2,List.take_append,List.take_of_length_le (by simp;omega)]
congr 2
simp
omega}
theorem ZqW {α:Type} {k:Nat}:∀ (els:List (List α)) (_:∀ e ∈ els,e.length=k) (i:Nat) (e:List α) (off:Nat) (xs:List α) (_:els[i]? = some e) (_:off+xs.length<=k),
  (els.set i (e.take off++xs++e.drop (off+xs.length))).flatten=els.flatten.take (i * k+off)++xs++els.flatten.drop (i * k+off+xs.length)
 | [],_,i,e,off,xs,h,_=>by simp at h
 | c::els,hk,0,e,off,xs,h,hx=>by
   simp at h
   subst h
   have hc:=hk c (List.mem_cons_self ..)
   simp only [List.set_cons_zero,List.flatten_cons,Nat.zero_mul,Nat.zero_add]
   rw [List.take_append_of_le_length (by omega),List.drop_append_of_le_length (by omega)]
   simp
 | c::els,hk,i+1,e,off,xs,h,hx=>by
   simp at h
   have hc:=hk c (List.mem_cons_self ..)
   have ih:=ZqW els (fun y hy=>hk y (List.mem_cons_of_mem _ hy)) i e off xs h hx
   simp only [List.set_cons_succ,List.flatten_cons,ih]
   have e1:(i+1) * k+off=c.length+(i * k+off):=by rw [Nat.succ_mul,hc];omega
   rw [e1,List.take_length_add_append]
   have e2:c.length+(i * k+off)+xs.length=c.length+(i * k+off+xs.length):=by omega
   rw [e2,List.drop_length_add_append]
   simp
theorem Zov {T:TypeId} {e e':Operand} {t:Nat} {g:Gen} {n k off E:Nat} {els:List (List PV)} {el:List PV} {qs:List PV} {us:List (Nat×Option (Gen×VObj))} {ti:TI} (ho:o.op = .store T e e') (ht:tyI P T=some ti) (hl:(ev s e').cells.length=ti.size) (hp:ev s e = .elp t g n k off)
  (hob:Zbh s.ob t g=some (.row E k false els)) (hres:ZeZ s.ob (ev s e').cells=some (qs,us)) (hel:els[n]? = some el) (hfit:off+ti.size<=k) (hus:us.all (fun q=>q.1 != t)=true):OpOK P r o i s ⟨.un,us ++ [(t,some (g,.row E k false (els.set n (ZcP el off qs))))]⟩:=by{
intro S a x Q hX hi hd
have hr:=Zae hX e
have hr':=Zae hX e'
have hcell:(ev s e').cells.all PV.cell=true:=by
 refine List.all_eq_true.2 fun p hp=>?_
 exact Zou _ hres p hp
obtain ⟨h8,h9⟩:=ZfA hr' hcell
have hqc:=Zkb _ hres
obtain ⟨F',st,hX',hq',_,hf'⟩:=ZcD _ (Flip.refl s.ob) hX (g:=fun j=>(a.eval e').cells.getD j undef) hres (fun j p hp=>by
 have hlt:j<(a.eval e').cells.size:=by rw [<- h8];exact (List.getElem?_eq_some_iff.1 hp).1
 have:(a.eval e').cells.getD j undef=(a.eval e').cells[j]:=by simp [hlt]
 rw [this]
 exact h9 j p _ hp (Array.getElem?_eq_getElem hlt))
have hob':=ZaI hob
rcases (show (flips s.ob us) t=some (g,.row E k false els)\/False from .inl (by rw [Ziu us s.ob t hus];exact hob')) with hob2 | hno
skip
obtain ⟨hg,hO⟩:=hX'.ob t g _ hob2
have hO':=hO
obtain ⟨h1,h2,vs,h3,h4,h5⟩:=hO
obtain ⟨b,m,c,hρ,hm,hmc,hcm,hB,_⟩:=ZfF hO' hel
change x.ρ g=_ at hρ
rw [hp] at hr
generalize hv:a.eval e=v at hr
cases hr with
| elp _ _ _ _ _ b' hG hb=>
  rw [hρ] at hb
  obtain rfl:b=b':=by simpa [blk] using hb
  have hnl:n<els.length:=(List.getElem?_eq_some_iff.1 hel).1
  have hk1:=h1 el (List.mem_of_getElem? hel)
  rcases h3.2 with ⟨_,hl0⟩ | ⟨b2,cap,cur,hv2,hB2,hh,hnc,hcm2,hcs,htake⟩
  omega
  change x.ρ g=_ at hv2
  rw [hρ] at hv2
  injection hv2 with q1 q2 q3
  injection q1 with q1
  injection q1 with q1
  subst q1 q2 q3
  change x.W.heap[b]? = _ at hh
  have hvl:vs.length=els.length * k:=h3.1
  have hroom:n * k+off+ti.size<=els.length * k:=by
   calc n * k+off+ti.size<=n * k+k:=by omega
    _=(n+1) * k:=by rw [Nat.succ_mul]
    _<=els.length * k:=Nat.mul_le_mul_right _ hnl
  have hcap:els.length * k<=c * k:=Nat.mul_le_mul_right _ hnc
  have hrun:=ZgB (P:=P) (off:=n * k+off) ht hh hr' hcell hl (by omega)
  have hF:∀ b' o',F' b' o'->b'≠b:=fun b' o' hFF e=>by
   subst e
   have:=((h5 b' (by change blk (x.ρ g)=_;rw [hρ];rfl)).2 o' hFF).1
   cases this
  let W':=x.W.setRow b (cur.toList.take (n * k+off)++(a.eval e').cells.toList++cur.toList.drop (n * k+off+(a.eval e').cells.toList.length)).toArray
  have k2:Step { x with F:=F' } ⟨x.G,F',W',x.ρ⟩:=⟨fun _ h=>⟨h,rfl⟩,fun _ _ h=>h,fun b' o' v' hFF hv'=>(Zft x.W b _ (hF b' o' hFF)).trans hv'⟩
  have hsz:W'.heap.size=x.W.heap.size:=by simp [W',World.setRow]
  rw [Zih]
  refine Zms (W':=W') ?_ ⟨⟨x.G,F',W',x.ρ⟩,rfl,?_⟩
  unfold execOp
  rw [ho]
  simp [hv,hrun,W']
  refine hX'.change k2 hd rfl rfl rfl (by rw [hsz];exact Nat.le_refl _) (fun b' hb' hne=>setRow_other x.W b b' _ (fun e=>hne g _ hob2 (by change blk (x.ρ g)=_;rw [hρ,e];rfl))) (fun _ _ h=>.inl h) (fun b' o' hb'=>by show b'<W'.heap.size;rw [hsz];exact hX'.flt b' o' hb')
   (fun g' hg'=>(hX'.gens g' hg').imp id fun ⟨e1,e2⟩=>⟨e1,.inl e2⟩) hg ?_ (fun b' hb'=>.inr ⟨g,_,hob2,hb'⟩) (.un _)
  have hlen2:(ZcP el off qs).length=k:=by rw [Zhe _ _ _ (by omega),hk1]
  have hwl:∀ e2 ∈ els.set n (ZcP el off qs),e2.length=k:=fun e2 he2=>by
   rcases List.mem_or_eq_of_mem_set he2 with h | h
   exact h1 e2 h
   rw [h,hlen2]
  have hcl:(a.eval e').cells.toList.length=ti.size:=by rw [Array.length_toList];omega
  refine ⟨hwl,fun e2 he2 p hp=>?_,vs.take (n * k+off)++(a.eval e').cells.toList++vs.drop (n * k+off+(a.eval e').cells.toList.length),?_,fun m' p v' hpp hvv=>?_,fun b' hb'=>⟨(h5 b' hb').1,fun o' hFF=>?_⟩⟩
  rcases List.mem_or_eq_of_mem_set he2 with h | h
  exact h2 e2 h p hp
  subst h
  unfold ZcP at hp
  rcases List.mem_append.1 hp with hp | hp
  rcases List.mem_append.1 hp with hp | hp
  exact h2 el (List.mem_of_getElem? hel) p (List.mem_of_mem_take hp)
  obtain ⟨j,hj⟩:=List.getElem?_of_mem hp
  exact (hq' j p hj).1
  exact h2 el (List.mem_of_getElem? hel) p (List.mem_of_mem_drop hp)
  refine ⟨?_,.inr ⟨b,c,_,by change x.ρ g=_;rw [hρ,List.length_set],hB2,setRow_heap x.W b cur _ E (0,0) hh,by rw [List.length_set];exact hnc,hcm2,?_,?_⟩⟩
  simp;omega
  simp;omega
  rw [List.length_set,<- htake]
  exact ZpQ cur.toList (a.eval e').cells.toList (n * k+off) (els.length * k) (by rw [hcl];omega) (by have e:cur.toList.length=cur.size:=(by simp);omega)
  have hpp':(els.flatten.take (n * k+off)++qs++els.flatten.drop (n * k+off+qs.length))[m']? = some p:=by
   rw [<- ZqW els h1 n el off qs hel (by rw [hqc,hl];exact hfit)]
   exact hpp
  rcases written (by rw [Zb3 els h1,hvl]) (by rw [hqc,hl,hcl]) (by rw [Zb3 els h1,hqc,hl];exact hroom) hpp' hvv with ⟨e1,e2⟩ | ⟨j,e1,e2⟩
  exact (h4 m' p v' e1 e2).step k2
  have:=(hq' j p e1).2
  have e3:(a.eval e').cells[j]? = some v':=by simpa using e2
  rw [Array.getD_eq_getD_getElem?,e3] at this
  exact this.step k2
  rw [List.length_set]
  exact (h5 b' hb').2 o' hFF
exact hno.elim}
theorem Zmf {x:Ctx} {p:PV} {v w:Value} (h:ZiM p=some v) (hr:Rep x p w):w=v:=by
 cases hr<;>simp_all [ZiM]
theorem Zjl {x:Ctx}:∀ (ps:List PV) {vs:List Value} (_:Zbc ps=some vs) (ws:List Value) (_:ps.length=ws.length) (_:∀ (i:Nat) (p:PV) (v:Value),ps[i]? = some p->ws[i]? = some v->Rep x p v),ws=vs
 | [],vs,h,ws,hl,_=>by
   simp only [Zbc,Option.some.injEq] at h
   subst h
   exact List.eq_nil_of_length_eq_zero hl.symm
 | p::ps,vs,h,[],hl,_=>by simp at hl
 | p::ps,vs,h,w::ws,hl,hr=>by
   simp only [Zbc] at h
   split at h
   rename_i v vs' h1 h2
   injection h with h
   subst h
   rw [Zmf h1 (hr 0 p w rfl rfl),Zjl ps h2 ws (by simpa using hl) fun i p v hp hv=>hr (i+1) p v (by simpa using hp) (by simpa using hv)]
   cases h
theorem Zow {x:Ctx} {p:PV} {v w:Value} (h:plain p=some v) (hr:Rep x p w):w=v:=by{
cases p with
| agg ps=>
  simp only [plain] at h
  cases h1:Zbc ps with
  | none=>rw [h1] at h;simp at h
  | some vs=>
    rw [h1] at h
    simp only [Option.map_some,Option.some.injEq] at h
    subst h
    cases hr with
    | agg _ cs hl hh=>
      have:=Zjl ps h1 cs.toList (by simpa using hl) (fun i p v hp hv=>hh i p v hp (by simpa using hv))
      rw [<- this,Array.toArray_toList]
| _=>simp only [plain] at h;exact Zmf h hr}
inductive ActR (P:Program) (i:Nat) (o:Oper) (s:FS):Upd->Prop
 | fn {u:Upd} (h:act P i o s=some u):ActR P i o s u
 | plain {v:Value} (hp:∀ e ∈ o.op.operands,(VL.plain (ev s e)).isSome=true) (hs:∀ cs b,o.op≠.select cs b) (h:∀ w,(execOp (cv s) o).run P w = .ok (.value v) w):ActR P i o s ⟨Zd3 v,[]⟩
theorem Zvb {v:Value} (hp:∀ e ∈ o.op.operands,(plain (ev s e)).isSome=true) (hs:∀ cs b,o.op≠.select cs b) (h:∀ w,(execOp (cv s) o).run P w = .ok (.value v) w):OpOK P r o i s ⟨Zd3 v,[]⟩:=by{
intro S a x Q hX hi hd
refine ZN (v:=v) (W':=x.W) ?_ (hX.val hd (ZiU x v))
rw [execOp_congr (ρ:=a.eval) (ρ':=cv s) o hs fun e he=>?_]
exact h x.W
obtain ⟨w,hw⟩:=Option.isSome_iff_exists.1 (hp e he)
rw [Zow hw (Zae hX e)]
unfold cv
rw [hw]
rfl}
theorem Zvc {T:TypeId} {e e':Operand} (ho:o.op = .store T e e') (h:act P i o s=some u):OpOK P r o i s u:=by{
unfold act at h
rw [ho] at h
simp only at h
split at h
rename_i ti ht
split at h
rename_i hl
split at h
rename_i t g off he
split at h
rename_i cs hob
split at h
rename_i hc
injection h with h
subst h
exact Zoy ho ht hl he hob hc.1 hc.2
cases h
cases h
rename_i t g n k off he
split at h
rename_i E k' els qs us hob hres
split at h
rename_i el hel
split at h
rename_i hc
obtain ⟨rfl,hc2,hc3⟩:=hc
injection h with h
subst h
exact Zov ho ht hl he hob hres hel hc2 hc3
cases h
cases h
cases h
cases h
cases h
cases h}
theorem Zvd {α:Type} {a:Array α} {x:α} (h:a.toList = [x]):a = #[x]:=by
 rw [<- Array.toArray_toList (xs:=a),h]
theorem ZrK {α:Type} {a:Array α} {x y:α} (h:a.toList = [x,y]):a = #[x,y]:=by
 rw [<- Array.toArray_toList (xs:=a),h]
theorem ZyV (h:ActR P i o s u):OpOK P r o i s u:=by{
cases h with
| plain hp hs h=>exact Zvb hp hs h
| fn h=>
  generalize ho:o.op=op
  cases op with
  | move x=>exact ZtB (.inl ho) h
  | assign x=>exact ZtB (.inr ho) h
  | nilCheck x=>exact Zp6 ho h
  | pick c a b=>exact Zxz ho h
  | alloc T=>exact ZvB ho h
  | box T x=>exact Zy6 ho h
  | build T ps=>exact ZuJ ho h
  | buildSlice T n ps=>exact ZmL ho h
  | load T x=>exact ZwS ho h
  | store T x y=>exact Zvc ho h
  | fieldAddr T x f=>exact Zn9 ho h
  | field T x f=>exact ZuN ho h
  | indexAddr T x y=>exact ZoN ho h
  | slice T x lo hi m=>
    cases m with
    | none=>exact ZvE ho h
    | some m=>unfold act at h;rw [ho] at h;cases h
  | makeSlice T l c=>exact Zot ho h
  | extract x k=>exact Zrs ho h
  | call c=>
    obtain ⟨callee,args,argTypes⟩:=c
    have h':=h
    unfold act at h'
    rw [ho] at h'
    simp only at h'
    split at h'
    split at h'
    rename_i e1 e2
    obtain rfl:=Zvd e1
    obtain rfl:=Zvd e2
    exact Zy7 ho h
    cases h'
    split at h'
    rename_i T T' e1 e2
    obtain rfl:=ZrK e1
    obtain rfl:=ZrK e2
    split at h'
    rename_i e3
    subst e3
    exact Ztv ho h
    cases h'
    cases h'
    cases h'
  | _=>unfold act at h;rw [ho] at h;cases h}
end
open Go.RowKit
def PV.clean:PV->Bool | .agg ps=>ps.all PV.pure | p=>p.pure
def PV.result:PV->Bool | .tup ps=>ps.all PV.clean | p=>p.clean
theorem Rep.clean_mono {x y:Ctx} {p:PV} {v:Value} (h:Rep x p v) (hp:p.clean=true) (hF:∀ b o,x.F b o->y.F b o)
  (hW:∀ b o v,x.F b o->x.W.cell? ⟨b,o,none⟩=some v->y.W.cell? ⟨b,o,none⟩=some v):Rep y p v:=by{
cases p with
| agg ps=>
  cases h with
  | agg _ cs hl hh=>exact .agg ps cs hl fun i q w hq hw=>(hh i q w hq hw).pure_mono (List.all_eq_true.1 hp q (List.mem_of_getElem? hq)) hF hW
| _=>exact h.pure_mono hp hF hW}
theorem Rep.result_mono {x y:Ctx} {p:PV} {v:Value} (h:Rep x p v) (hp:p.result=true) (hF:∀ b o,x.F b o->y.F b o)
  (hW:∀ b o v,x.F b o->x.W.cell? ⟨b,o,none⟩=some v->y.W.cell? ⟨b,o,none⟩=some v):Rep y p v:=by{
cases p with
| tup ps=>
  cases h with
  | tup _ cs hl hh=>exact .tup ps cs hl fun i q w hq hw=>(hh i q w hq hw).clean_mono (List.all_eq_true.1 hp q (List.mem_of_getElem? hq)) hF hW
| _=>exact h.clean_mono hp hF hW}
def Dof (x:Ctx) (obj:Option (Nat×List PV)) (b:Nat):Prop:=∃ j os,obj=some (j,os)/\blk (x.ρ (0,j))=some b
structure Pre (x:Ctx) (args:List PV) (obj:Option (Nat×List PV)) (vs:Array Value):Prop where
 size:args.length=vs.size
 rep:∀ (i:Nat) (p:PV) (v:Value),args[i]? = some p->vs[i]? = some v->Rep x p v
 ob:∀ j os,obj=some (j,os)->x.G (0,j)/\ObRep x x.W.heap.size (Dof x obj) (0,j) (.box os)
 gen:∀ g,x.G g->∃ j os,obj=some (j,os)/\g=(0,j)
 flt:∀ b o,x.F b o->b<x.W.heap.size
structure Post (x y:Ctx) (obj:Option (Nat×List PV)) (r:PV) (obj':List PV) (v:Value):Prop where
 step:Step x y
 gr:Gr (Dof x obj) x.W y.W
 fnew:∀ b o,y.F b o->x.F b o\/x.W.heap.size<=b
 flt:∀ b o,y.F b o->b<y.W.heap.size
 rep:Rep y r v
 ob:∀ j os,obj=some (j,os)->ObRep y x.W.heap.size (Dof x obj) (0,j) (.box obj')
def isGo (P:Program) (f:FuncId):Bool:=match P.funcs[f]? with | some fn=>fn.name != "runtime.NumGoroutine" && fn.body.isSome | none=>false
class WInv (P:Program) where
 I:World->Prop
structure Contract (P:Program) [WInv P] (f:FuncId) (args:List PV) (obj:Option (Nat×List PV)) (r:PV) (obj':List PV):Prop where
 isGo:VL.isGo P f=true
 clean:r.result=true
 pure:obj'.all PV.pure=true
 calls:∀ (x:Ctx) (vs:Array Value),Pre x args obj vs->(∀ W',Gr (Dof x obj) x.W W'->WInv.I P W')->Calls P f vs x.W fun e W'=>∃ y v,y.W=W'/\e = .returned v/\Post x y obj r obj' v
abbrev Zb (P:Program) [WInv P] (f:FuncId) (args:List PV) (r:PV):Prop:=Contract P f args none r []
def Ze5 (f:Nat->Option (Gen×VObj)):List PV->Option (List PV×List (Nat×Option (Gen×VObj)))
 | []=>some ([],[])
 | p::ps=>match res f p,Ze5 f ps with
   | some (q,us),some (qs,vs)=>some (q::qs,us++vs)
   | _,_=>none
theorem ZeP (f:Nat->Option (Gen×VObj)) (us vs:List (Nat×Option (Gen×VObj))):flips f (us++vs)=flips (flips f us) vs:=by unfold flips;rw [List.foldl_append]
theorem ZeQ {f:Nat->Option (Gen×VObj)}:∀ (ps:List PV) {qs:List PV} {us:List (Nat×Option (Gen×VObj))} (_:Ze5 f ps=some (qs,us)),qs.length=ps.length
 | [],qs,us,h=>by
   simp only [Ze5,Option.some.injEq,Prod.mk.injEq] at h
   rw [<- h.1]
 | p::ps,qs,us,h=>by
   simp only [Ze5] at h
   split at h
   rename_i q us1 qs2 us2 h1 h2
   injection h with h
   injection h with e1 e2
   subst e1
   simp [ZeQ ps h2]
   cases h
section
variable {r:Run} {S:Nat->Prop} {a:Act}
theorem ZsP {f:Nat->Option (Gen×VObj)} {s:FS} {x:Ctx} (hf:Flip f s.ob) (h:RstX r S s a x) {p q:PV} {v:Value} {us:List (Nat×Option (Gen×VObj))} (hres:res f p=some (q,us)) (hr:Rep x p v) :
  ∃ F',Step x { x with F:=F' }/\RstX r S ⟨s.tm,flips s.ob us,s.ng⟩ a { x with F:=F' }/\Rep { x with F:=F' } q v/\q.clean=true/\Flip f (flips s.ob us):=by{
cases p with
| agg ps=>
  simp only [res] at hres
  cases h1:ZeZ f ps with
  | none=>rw [h1] at hres;simp at hres
  | some z=>
    obtain ⟨qs,us'⟩:=z
    rw [h1] at hres
    simp only [Option.map_some,Option.some.injEq,Prod.mk.injEq] at hres
    obtain ⟨rfl,rfl⟩:=hres
    cases hr with
    | agg _ cs hl hh=>
      obtain ⟨F',st,hX',hq,hlen,hf'⟩:=ZcD ps hf h (g:=fun j=>cs.getD j undef) h1 (fun j p hp=>by
       have hlt:j<cs.size:=by rw [<- hl];exact (List.getElem?_eq_some_iff.1 hp).1
       have:cs.getD j undef=cs[j]:=by simp [hlt]
       rw [this]
       exact hh j p _ hp (Array.getElem?_eq_getElem hlt))
      refine ⟨F',st,hX',.agg qs cs (by rw [hlen,hl]) fun i q w hq' hw=>?_,List.all_eq_true.2 fun q hq'=>?_,hf'⟩
      have:=(hq i q hq').2
      rw [Array.getD_eq_getD_getElem?,hw] at this
      exact this
      obtain ⟨j,hj⟩:=List.getElem?_of_mem hq'
      exact (hq j q hj).1
| _=>
  simp only [res] at hres
  obtain ⟨F',st,hX',hq,hp,hf'⟩:=ZfB hf h hres hr
  exact ⟨F',st,hX',hq,by cases q<;>simp_all [PV.clean,PV.pure],hf'⟩}
theorem ZbW:∀ (ps:List PV) {f:Nat->Option (Gen×VObj)} {s:FS} {x:Ctx} (_:Flip f s.ob) (_:RstX r S s a x) {qs:List PV} {g:Nat->Value} {us:List (Nat×Option (Gen×VObj))} (_:Ze5 f ps=some (qs,us))
  (_:∀ (j:Nat) (p:PV),ps[j]? = some p->Rep x p (g j)),
  ∃ F',Step x { x with F:=F' }/\RstX r S ⟨s.tm,flips s.ob us,s.ng⟩ a { x with F:=F' }/\(∀ (j:Nat) (q:PV),qs[j]? = some q->q.clean=true/\Rep { x with F:=F' } q (g j))/\Flip f (flips s.ob us)
 | [],f,s,x,hf,h,qs,g,us,hres,_=>by
   simp only [Ze5,Option.some.injEq,Prod.mk.injEq] at hres
   obtain ⟨rfl,rfl⟩:=hres
   exact ⟨x.F,Step.refl x,h,fun j q hq=>by simp at hq,hf⟩
 | p::ps,f,s,x,hf,h,qs,g,us,hres,hr=>by
   simp only [Ze5] at hres
   split at hres
   rename_i q us1 qs2 us2 h1 h2
   injection hres with hres
   injection hres with e1 e2
   subst e1 e2
   obtain ⟨F1,st1,hX1,hR1,hp1,hf1⟩:=ZsP hf h h1 (hr 0 p rfl)
   obtain ⟨F2,st2,hX2,hR2,hf2⟩:=ZbW ps hf1 hX1 (g:=fun j=>g (j+1)) h2 (fun j p' hj=>(hr (j+1) p' (by simpa using hj)).step st1)
   refine ⟨F2,⟨st2.G,fun b o hb=>st2.F b o (st1.F b o hb),fun _ _ _ _ h=>h⟩,by rw [ZeP];exact hX2,fun j q' hj=>?_,by rw [ZeP];exact hf2⟩
   cases j with
   | zero=>
     simp at hj
     subst hj
     exact ⟨hp1,hR1.step st2⟩
   | succ j=>exact hR2 j q' (by simpa using hj)
   cases hres
end
theorem Flip.box {f f':Nat->Option (Gen×VObj)} (h:Flip f f') {t:Nat} {g:Gen} {cs:List PV} (ho:f t=some (g,.box cs)):f' t=some (g,.box cs):=by{
rcases h t with e | ⟨g2,E2,k2,sh2,els2,e1,e2⟩
rw [e,ho]
rw [ho] at e1
injection e1 with e1
injection e1 with e3 e4
cases e4}
section
variable {P:Program} [WInv P] {r:Run} {o:Oper} {i:Nat} {s:FS}
omit [WInv P] in
theorem Zew {a:Act} {f:FuncId} {es:Array Operand} {ts:Array TypeId} (ho:o.op = .call { callee:=.value (.func f),args:=es,argTypes:=ts }) (hg:isGo P f=true) (W:World) :
  (execOp a.eval o).run P W = .ok (.enter f (es.map a.eval)) W:=by{
unfold isGo at hg
split at hg
rename_i fn hfn
simp only [Bool.and_eq_true,bne_iff_ne,ne_eq] at hg
obtain ⟨h1,h2⟩:=hg
unfold execOp
rw [ho]
have h3:¬ fn.body=none:=by cases h:fn.body<;>simp_all
simp [resolve,Act.eval,Deferred.ofValue,invoke,callFunc,hfn,h3,h1]
cases hg}
theorem ZwP {f:FuncId} {es:Array Operand} {ts:Array TypeId} {args:List PV} {us:List (Nat×Option (Gen×VObj))} {res:PV} (ho:o.op = .call { callee:=.value (.func f),args:=es,argTypes:=ts })
  (ha:Ze5 s.ob (es.toList.map (ev s))=some (args,us)) (hc:Contract P f args none res []) (hI:r.I=WInv.I P):OpOK P r o i s ⟨res,us⟩:=by{
intro S a x Q hX hi hd
obtain ⟨F1,st1,hX1,hR1,_⟩:=ZbW _ (Flip.refl s.ob) hX (g:=fun j=>(es.map a.eval).getD j undef) ha (fun j p hp=>by
 rw [List.getElem?_map] at hp
 cases he:es.toList[j]? with
 | none=>rw [he] at hp;simp at hp
 | some e=>
   rw [he] at hp
   simp only [Option.map_some,Option.some.injEq] at hp
   subst hp
   have hea:es[j]? = some e:=by simpa using he
   have:(es.map a.eval).getD j undef=a.eval e:=by simp [hea]
   rw [this]
   exact Zae hX e)
let z:Ctx:=⟨fun _=>False,F1,x.W,x.ρ⟩
have hlen:args.length=es.size:=by rw [ZeQ _ ha];simp
have hpre:Pre z args none (es.map a.eval):=by
 refine ⟨by simpa using hlen,fun j p v hp hv=>?_,fun j os h=>by simp at h,fun g hg=>hg.elim,fun b o hb=>hX1.flt b o hb⟩
 obtain ⟨h1,h2⟩:=hR1 j p hp
 rw [Array.getD_eq_getD_getElem?,hv] at h2
 exact h2.clean_mono h1 (fun _ _ h=>h) (fun _ _ _ _ h=>h)
have hcalls:=hc.calls z _ hpre fun W' hW=>by
 rw [<- hI]
 exact hX.inv.1 W' (hX.gr.trans' hW.os hW.tape hW.output hW.size fun b hb _=>hW.block b (Nat.lt_of_lt_of_le hb hX.gr.size) fun ⟨j,os,h,_⟩=>by simp at h)
unfold Oper.wp
rw [Zew ho hc.isGo,Oper.upon_enter]
refine hcalls.mono ?_
rintro e W' ⟨y,v,rfl,rfl,hpost⟩
have hgr:Gr (fun _=>False) x.W y.W:=⟨hpost.gr.os,hpost.gr.tape,hpost.gr.output,hpost.gr.size,fun b hb _=>hpost.gr.block b hb (fun ⟨j,os,h,_⟩=>by simp at h)⟩
let y':Ctx:=⟨x.G,y.F,y.W,x.ρ⟩
have k:Step { x with F:=F1 } y':=⟨fun _ h=>⟨h,rfl⟩,fun b o hb=>hpost.step.F b o hb,fun b o v hb hv=>hpost.step.W b o v hb hv⟩
have hX2:RstX r S ⟨s.tm,flips s.ob us,s.ng⟩ a y':=hX1.grow k (fun _ h=>h) hgr hpost.fnew hpost.flt
exact ⟨y',rfl,(hX2.pureVal hd (hpost.rep.result_mono hc.clean (fun _ _ h=>h) (fun _ _ _ _ h=>h))).moreS fun _ h=>.inl h⟩}
theorem ZuM {f:FuncId} {es:Array Operand} {ts:Array TypeId} {pre post pre' post':List PV} {t:Nat} {g:Gen} {cs qs obj':List PV} {us us1 us2 us3:List (Nat×Option (Gen×VObj))} {res:PV} (ho:o.op = .call { callee:=.value (.func f),args:=es,argTypes:=ts })
  (he:es.toList.map (ev s)=pre ++ .ptr t g 0::post) (hob:Zbh s.ob t g=some (.box cs)) (h1:Ze5 s.ob pre=some (pre',us1)) (h2:ZeZ s.ob cs=some (qs,us2)) (h3:Ze5 s.ob post=some (post',us3)) (hus:us=us1++(us2++us3))
  (hc:Contract P f (pre' ++ .ptr pre.length (0,pre.length) 0::post') (some (pre.length,qs)) res obj') (hI:r.I=WInv.I P):OpOK P r o i s ⟨res,us ++ [(t,some (g,.box obj'))]⟩:=by{
subst hus
intro S a x Q hX hi hd
have hrep:∀ (j:Nat) (p:PV),(pre ++ .ptr t g 0::post)[j]? = some p->Rep x p ((es.map a.eval).getD j undef):=fun j p hp=>by
 rw [<- he,List.getElem?_map] at hp
 cases he:es.toList[j]? with
 | none=>rw [he] at hp;simp at hp
 | some e=>
   rw [he] at hp
   simp only [Option.map_some,Option.some.injEq] at hp
   subst hp
   have hea:es[j]? = some e:=by simpa using he
   have:(es.map a.eval).getD j undef=a.eval e:=by simp [hea]
   rw [this]
   exact Zae hX e
have hob':=ZaI hob
obtain ⟨_,b,T,vs,hρ,hh,hcl,_,hcr,_,_⟩:=hX.ob t g _ hob'
obtain ⟨F1,st1,hX1,hR1,hf1⟩:=ZbW _ (Flip.refl s.ob) hX (g:=fun j=>(es.map a.eval).getD j undef) h1 (fun j p hp=>hrep j p (by
 rw [List.getElem?_append_left (List.getElem?_eq_some_iff.1 hp).1];exact hp))
obtain ⟨F2,st2,hX2,hR2,_,hf2⟩:=ZcD cs hf1 hX1 (g:=fun j=>vs.getD j undef) h2 (fun j p hp=>by
 have hlt:j<vs.size:=by rw [<- hcl];exact (List.getElem?_eq_some_iff.1 hp).1
 have:vs.getD j undef=vs[j]:=by simp [hlt]
 rw [this]
 exact (hcr j p _ hp (Array.getElem?_eq_getElem hlt)).step st1)
obtain ⟨F3,st3,hX3,hR3,hf3⟩:=ZbW post hf2 hX2 (g:=fun j=>(es.map a.eval).getD (pre.length+1+j) undef) h3 (fun j p hp=>((hrep (pre.length+1+j) p (by
 rw [List.getElem?_append_right (by omega)]
 have:pre.length+1+j-pre.length=j+1:=by omega
 rw [this,List.getElem?_cons_succ]
 exact hp)).step st1).step st2)
have hfl:flips (flips (flips s.ob us1) us2) us3=flips s.ob (us1++(us2++us3)):=by rw [ZeP,ZeP]
change RstX r S ⟨s.tm,flips (flips (flips s.ob us1) us2) us3,s.ng⟩ a { x with F:=F3 } at hX3
rw [hfl] at hX3
change Flip s.ob (flips (flips (flips s.ob us1) us2) us3) at hf3
rw [hfl] at hf3
have hob3:=hf3.box hob'
obtain ⟨hG3,b',T',vs',hρ',hh',hcl',_,_,hB3,hnF⟩:=hX3.ob t g _ hob3
change x.ρ g=_ at hρ'
rw [hρ] at hρ'
injection hρ' with hρ'
injection hρ' with hρ'
injection hρ' with hρ'
subst hρ'
have hF13:∀ b o,F1 b o->F3 b o:=fun b o h=>st3.F b o (st2.F b o h)
have hpl:pre'.length=pre.length:=ZeQ _ h1
let z:Ctx:=⟨fun g'=>g'=(0,pre.length),F3,x.W,fun _=>x.ρ g⟩
have hD:∀ b2,Dof z (some (pre.length,qs)) b2↔b2=b:=fun b2=>by
 unfold Dof
 constructor
 rintro ⟨j,os,_,h⟩
 change blk (x.ρ g)=some b2 at h
 rw [hρ] at h
 exact (by simpa [blk] using h:b=b2).symm
 rintro rfl
 exact ⟨_,_,rfl,by change blk (x.ρ g)=_;rw [hρ];rfl⟩
have hpre:Pre z (pre' ++ .ptr pre.length (0,pre.length) 0::post') (some (pre.length,qs)) (es.map a.eval):=by
 refine ⟨?_,fun j p v hp hv=>?_,fun j os h=>?_,fun g' hg'=>⟨_,_,rfl,hg'⟩,fun b o hb=>hX3.flt b o hb⟩
 have hl:=congrArg List.length he
 simp at hl
 simp [hpl,ZeQ _ h3,hl]
 rw [List.getElem?_append,hpl] at hp
 split at hp
 obtain ⟨q1,q2⟩:=hR1 j p hp
 rw [Array.getD_eq_getD_getElem?,hv] at q2
 exact q2.clean_mono q1 hF13 (fun _ _ _ _ h=>h)
 rename_i hj
 cases hk:j-pre.length with
 | zero=>
   rw [hk] at hp
   simp only [List.getElem?_cons_zero,Option.some.injEq] at hp
   subst hp
   obtain rfl:j=pre.length:=by omega
   have:=hrep pre.length (.ptr t g 0) (by rw [List.getElem?_append_right (Nat.le_refl _),Nat.sub_self];rfl)
   rw [Array.getD_eq_getD_getElem?,hv] at this
   simp only [Option.getD_some] at this
   cases this with
   | ptr _ _ _ b2 _ hb2=>exact .ptr _ _ _ b2 rfl hb2
 | succ k=>
   rw [hk,List.getElem?_cons_succ] at hp
   obtain ⟨q1,q2⟩:=hR3 k p hp
   have:pre.length+1+k=j:=by omega
   rw [this,Array.getD_eq_getD_getElem?,hv] at q2
   exact q2.clean_mono q1 (fun _ _ h=>h) (fun _ _ _ _ h=>h)
 injection h with h
 injection h with e1 e2
 subst e1 e2
 refine ⟨rfl,b,T,vs,hρ,hh,by rw [Zkb _ h2,hcl],fun p hp=>?_,fun j p v hp hv=>?_,.inr ((hD b).2 rfl),hnF⟩
 obtain ⟨j,hj⟩:=List.getElem?_of_mem hp
 exact PV.cell_of_pure (hR2 j p hj).1
 obtain ⟨q1,q2⟩:=hR2 j p hp
 rw [Array.getD_eq_getD_getElem?,hv] at q2
 exact q2.pure_mono q1 st3.F (fun _ _ _ _ h=>h)
have hcalls:=hc.calls z _ hpre fun W' hW=>by
 rw [<- hI]
 refine hX.inv.1 W' (hX.gr.trans' hW.os hW.tape hW.output hW.size fun b' hb' hD'=>hW.block b' (Nat.lt_of_lt_of_le hb' hX.gr.size) fun hDb=>?_)
 have e:=(hD b').1 hDb
 subst e
 rcases hB3 with h | h
 omega
 exact hD' h
unfold Oper.wp
rw [Zew ho hc.isGo,Oper.upon_enter]
refine hcalls.mono ?_
rintro e W' ⟨y,v,rfl,rfl,hpost⟩
let y':Ctx:=⟨x.G,y.F,y.W,x.ρ⟩
have k:Step { x with F:=F3 } y':=⟨fun _ h=>⟨h,rfl⟩,fun b o hb=>hpost.step.F b o hb,fun b o v hb hv=>hpost.step.W b o v hb hv⟩
obtain ⟨b2,T2,vs2,hρ2,hh2,hl2,hc2,hr2,_,hn2⟩:=hpost.ob _ _ rfl
rw [(hpost.step.G (0,pre.length) rfl).2] at hρ2
change x.ρ g=_ at hρ2
rw [hρ] at hρ2
injection hρ2 with hρ2
injection hρ2 with hρ2
injection hρ2 with hρ2
subst hρ2
refine ⟨y',rfl,?_⟩
rw [Zih]
refine hX3.change k hd hpost.gr.os hpost.gr.tape hpost.gr.output hpost.gr.size (fun b' hb' hne=>hpost.gr.block b' hb' fun hDb=>?_) hpost.fnew hpost.flt (fun g' hg'=>(hX3.gens g' hg').imp id fun ⟨e1,e2⟩=>⟨e1,.inl e2⟩) hG3
 ⟨b,T2,vs2,hρ,hh2,hl2,hc2,fun j p w hp hw=>(hr2 j p w hp hw).pure_mono (List.all_eq_true.1 hc.pure p (List.mem_of_getElem? hp)) (fun _ _ h=>h) (fun _ _ _ _ h=>h),hB3,hn2⟩
 (fun b' hb'=>.inr ⟨g,_,hob3,hb'⟩) (hpost.rep.result_mono hc.clean (fun _ _ h=>h) (fun _ _ _ _ h=>h))
have e:=(hD b').1 hDb
subst e
exact hne g _ hob3 (by change blk (x.ρ g)=_;rw [hρ];rfl)}
end
open Go.RowKit
def Zo (ops:Array Oper) (s:FS) (o:Oper):Option Bool:=match o.guard with
 | none=>some true
 | some (j,want)=>match (ops[j]?).bind (·.dst) with
   | some d=>match s.tm d with
     | .bool b=>some (b == want)
     | .tup []=>some false
     | _=>none
   | none=>none
def ZsD:PV->List Nat | .ptr t _ _ | .elp t _ _ _ _ | .row t _ | .suf t _ _ _ | .mp t _=>[t] | _=>[]
def Zbk:PV->List Nat | .ptr t _ _ | .elp t _ _ _ _ | .row t _ | .suf t _ _ _ | .mp t _=>[t] | .fn _ caps=>caps.flatMap ZsD | _=>[]
def ZcE:PV->List Nat | .agg ps=>ps.flatMap Zbk | p=>Zbk p
def Zkz (f:Nat->Option (Gen×VObj)) (t:Nat):List Nat:=match f t with | some (_,.box cs)=>cs.flatMap Zbk | some (_,.prow _ _ els)=>els.flatten.flatMap Zbk | _=>[]
def ZfI (f:Nat->Option (Gen×VObj)):Nat->List Nat->List Nat | 0,l=>l | n+1,l=>l++ZfI f n (l.flatMap (Zkz f))
def ZmJ (f:Nat->Option (Gen×VObj)) (p:PV):List Nat:=ZfI f 4 (ZcE p)
def quiet:Op->Bool | .move _ | .assign _ | .nilCheck _=>true | _=>false
def dep:Op->Nat
 | .call c=>match c.callee with
   | .value _=>4
   | _=>0
 | _=>0
def ZmK:Op->Bool | .store _ _ _=>true | _=>false
def lookers (s:FS) (o:Op):List Operand:=match o with
 | .store _ x y=>match ev s x with
   | .ptr _ _ _=>[x]
   | .elp t g _ _ _=>match Zbh s.ob t g with
     | some (.prow _ _ _)=>[x]
     | _=>[x,y]
   | _=>[x,y]
 | o=>o.operands.toList
def ZG (s:FS) (o:Oper):List Nat:=if quiet o.op then [] else (lookers s o.op).flatMap fun e=>ZfI s.ob (dep o.op) (ZcE (ev s e))
structure Agree (ops:Array Oper) (o:Oper) (s s':FS):Prop where
 ev:∀ e ∈ o.op.operands,VL.ev s e=VL.ev s' e
 ng:s.ng=s'.ng
 ob:∀ t ∈ ZG s o,s.ob t=s'.ob t
 wanted:Zo ops s o=Zo ops s' o
theorem Agree.refl (ops:Array Oper) (o:Oper) (s:FS):Agree ops o s s:=⟨fun _ _=>rfl,rfl,fun _ _=>rfl,rfl⟩
inductive OpR (P:Program) [WInv P] (ops:Array Oper) (i:Nat) (o:Oper) (s:FS):Upd->Prop
 | skip (hw:Zo ops s o=some false):OpR P ops i o s ⟨.tup [],[]⟩
 | act {u:Upd} (hw:Zo ops s o=some true) (h:ActR P i o s u):OpR P ops i o s u
 | call {f:FuncId} {es:Array Operand} {ts:Array TypeId} {args:List PV} {us:List (Nat×Option (Gen×VObj))} {res:PV} (hw:Zo ops s o=some true) (ho:o.op = .call { callee:=.value (.func f),args:=es,argTypes:=ts })
   (ha:Ze5 s.ob (es.toList.map (ev s))=some (args,us)) (hc:Contract P f args none res []):OpR P ops i o s ⟨res,us⟩
 | callO {f:FuncId} {es:Array Operand} {ts:Array TypeId} {pre post pre' post':List PV} {t:Nat} {g:Gen} {cs qs obj':List PV} {us us1 us2 us3:List (Nat×Option (Gen×VObj))} {res:PV} (hw:Zo ops s o=some true) (ho:o.op = .call { callee:=.value (.func f),args:=es,argTypes:=ts })
   (he:es.toList.map (ev s)=pre ++ .ptr t g 0::post) (hob:Zbh s.ob t g=some (.box cs)) (h1:Ze5 s.ob pre=some (pre',us1)) (h2:ZeZ s.ob cs=some (qs,us2)) (h3:Ze5 s.ob post=some (post',us3)) (hus:us=us1++(us2++us3))
   (hc:Contract P f (pre' ++ .ptr pre.length (0,pre.length) 0::post') (some (pre.length,qs)) res obj'):OpR P ops i o s ⟨res,us ++ [(t,some (g,.box obj'))]⟩
 | any {u:Upd} (hw:Zo ops s o=some true) (h:∀ (s':FS) (r:Run),Agree ops o s s'->r.I=WInv.I P->OpOK P r o i s' u):OpR P ops i o s u
 | anyx {u:Upd} (hw:Zo ops s o=some true) (h:∀ (s':FS) (r:Run),Agree ops o s s'->r.I=WInv.I P->Zsb P r o i s' u):OpR P ops i o s u
def ZuA (fp:Option (List Nat×List Nat)) (K W:List Nat):Bool:=match fp with | none=>true | some (k,w)=>K.all (k.contains ·)&&W.all (w.contains ·)
inductive RunO (P:Program) [WInv P] (ops:Array Oper) (fp:Nat->Option (List Nat×List Nat)):List Nat->FS->FS->Prop
 | nil {s:FS}:RunO P ops fp [] s s
 | cons {i:Nat} {L:List Nat} {o:Oper} {u:Upd} {s s':FS} (ho:ops[i]? = some o) (h:OpR P ops i o s u) (hf:ZuA (fp i) (ZG s o) (u.obs.map (·.1))=true) (hr:RunO P ops fp L (s.app o.dst u) s'):RunO P ops fp (i::L) s s'
def indep (ops:Array Oper) (fp:Nat->Option (List Nat×List Nat)) (k i:Nat):Bool:=match ops[k]?,ops[i]?,fp k,fp i with | some ok,some oi,some (Kk,Wk),some (Ki,Wi)=>ok.apart ops oi&&Wk.all (fun t=>!Ki.contains t && !Wi.contains t)&&Wi.all (fun t=>!Kk.contains t) | _,_,_,_=>false
def reach (ops:Array Oper):Nat->Nat->Nat->Bool
 | 0,_,_=>false
 | n+1,k,i=>match ops[i]? with
   | some o=>o.after.toList.any fun e=>Region.binds .any e&&(e.on == k||reach ops n k e.on)
   | none=>false
def Zl1 (ops:Array Oper) (fp:Nat->Option (List Nat×List Nat)):Bool:=(List.range ops.size).all fun i=>((ops[i]?).map fun o=>o.after.toList.all fun e=>!Region.binds .any e||decide (e.on<i)).getD false&&(List.range i).all fun k=>indep ops fp k i||reach ops ops.size k i
inductive Ex where
 | normal
 | exit (id:Nat)
 | ret
 deriving DecidableEq
def Ex.to:Ex->Exit | .normal=>.normal | .exit id=>.exit id | .ret=>.ret
def Ex.block (id:Nat):Ex->Ex | .exit k=>if k=id then .normal else .exit k | e=>e
def Shift (s s1:FS):Prop:=∀ (r:Run) (a:Act) (x:Ctx),RstX r (fun _=>False) s a x->∃ y:Ctx,y.W=x.W/\RstX r (fun _=>False) s1 a y
inductive RunC (P:Program) [WInv P]:Code->FS->Ex->FS->Prop
 | skip {s:FS}:RunC P .skip s .normal s
 | label {s:FS} {l:Nat}:RunC P (.label l) s .normal s
 | ret {s:FS}:RunC P .ret s .ret s
 | exit {s:FS} {id:Nat}:RunC P (.exit id) s (.exit id) s
 | seqN {c d:Code} {s s1 s2:FS} {e:Ex} (h:RunC P c s .normal s1) (k:RunC P d s1 e s2):RunC P (.seq c d) s e s2
 | seqX {c d:Code} {s s1:FS} {e:Ex} (h:RunC P c s e s1) (he:e≠.normal):RunC P (.seq c d) s e s1
 | cond {c:Operand} {x y:Code} {s s1:FS} {e:Ex} {t:Bool} (hc:ev s c = .bool t) (h:RunC P (if t then x else y) s e s1):RunC P (.cond c x y) s e s1
 | block {id:Nat} {c:Code} {s s1:FS} {e:Ex} (h:RunC P c s e s1):RunC P (.block id c) s (e.block id) s1
 | loopN {c:Code} {s s1 s2:FS} {e:Ex} (h:RunC P c s .normal s1) (k:RunC P (.loop c) s1 e s2):RunC P (.loop c) s e s2
 | loopX {c:Code} {s s1:FS} {e:Ex} (h:RunC P c s e s1) (he:e≠.normal):RunC P (.loop c) s e s1
 | region {id:Nat} {ops:Array Oper} {draw:Bool} {s s1:FS} (fp:Nat->Option (List Nat×List Nat)) (h:RunO P ops fp (List.range ops.size) s s1) (hd:draw=true->Zl1 ops fp=true):RunC P (.region id ops draw) s .normal ⟨s1.tm,s1.ob,s1.ng+1⟩
 | shift {c:Code} {s s1 s2:FS} {e:Ex} (hs:Shift s s1) (h:RunC P c s1 e s2):RunC P c s e s2
def ZaY (N:Nat):Code->Bool
 | .region _ ops _=>decide (ops.size<=1000000)&&ops.all fun o=>match o.dst with | some d=>decide (d<N) | none=>true
 | .seq a b=>ZaY N a&&ZaY N b
 | .cond _ a b=>ZaY N a&&ZaY N b
 | .block _ c=>ZaY N c
 | .loop c=>ZaY N c
 | _=>true
section
variable {P:Program} [WInv P] {r:Run} {ops:Array Oper} {i:Nat} {o:Oper} {s:FS} {u:Upd}
theorem ZjG {S:Nat->Prop} {a:Act} {x:Ctx} {b:Bool} (hX:RstX r S s a x) (h:Zo ops s o=some b):Region.wanted o (yielded ops a.tmps)=b:=by{
unfold Zo at h
unfold Region.wanted
cases hg:o.guard with
| none=>rw [hg] at h;simpa using h
| some q=>
  obtain ⟨j,want⟩:=q
  rw [hg] at h
  simp only at h ⊢
  unfold yielded
  cases hd:(ops[j]?).bind (·.dst) with
  | none=>rw [hd] at h;simp at h
  | some d=>
    rw [hd] at h
    simp only at h
    simp only [Option.bind_some]
    have hr:=hX.tm d
    rw [Array.getD_eq_getD_getElem?] at hr
    split at h
    rename_i t ht
    rw [ht] at hr
    injection h with h
    cases hv:a.tmps[d]? with
    | none=>rw [hv] at hr;exact absurd hr (by intro hr;cases hr)
    | some v=>
      rw [hv] at hr
      cases hr
      simp only
      rw [<- h]
      cases t<;>cases want<;>rfl
    rename_i ht
    rw [ht] at hr
    injection h with h
    subst h
    cases hv:a.tmps[d]? with
    | none=>simp
    | some v=>
      rw [hv] at hr
      generalize hw:(some v).getD undef=w at hr
      cases hr
      simp at hw
      subst hw
      simp
    cases h}
theorem ZnZ (hI:r.I=WInv.I P) (ho:ops[i]? = some o) (h:OpR P ops i o s u) {S:Nat->Prop} {a:Act} {x:Ctx} {Q:Exit->Act->World->Prop} {K:Act->World->Prop} (hX:RstX r S s a x) (hiM:i<1000000) (hi:¬ S i) (hi2:∀ j,S (i+1000000 * (j+1))->S i) (hd:∀ k,o.dst=some k->k<r.N)
  (hK:∀ a' y,RstX r (fun j=>S j\/j=i\/1000000<=j/\j % 1000000=i) (s.app o.dst u) a' y->K a' y.W):wpOp P ops Q i K a x.W:=by{
unfold wpOp
simp only [ho]
have go:Zsb P r o i s u->Zo ops s o=some true->(if Region.wanted o (yielded ops a.tmps)=true then Oper.wp P o a x.W K Q\/(o.asks P a x.W/\LetsOut Q) else K (a.put o.dst undef) x.W):=fun hok hw=>by
 rw [if_pos (ZjG hX hw)]
 exact .inl (Oper.wp_mono (fun a' W' ⟨y,hy,hR⟩=>hy ▸ hK a' y hR) (hok S a x Q hX hiM hi hi2 hd))
cases h with
| skip hw=>
  rw [if_neg (by rw [ZjG hX hw];simp)]
  exact hK _ x ((hX.pureVal hd (.tup [] #[] rfl (fun i p v hp=>by simp at hp))).moreS fun _ h=>.inl h)
| act hw h=>exact go (ZyV h).x hw
| call hw hop ha hc=>exact go (ZwP hop ha hc hI).x hw
| callO hw hop he hob h1 h2 h3 hus hc=>exact go (ZuM hop he hob h1 h2 h3 hus hc hI).x hw
| any hw h=>exact go (h s r (Agree.refl ops o s) hI).x hw
| anyx hw h=>exact go (h s r (Agree.refl ops o s) hI) hw}
theorem ZsE (hI:r.I=WInv.I P) {fp:Nat->Option (List Nat×List Nat)} {L:List Nat} {s s':FS} (h:RunO P ops fp L s s') (hN:∀ (i:Nat) (o:Oper),ops[i]? = some o->∀ k,o.dst=some k->k<r.N) :
  ∀ {S:Nat->Prop} {a:Act} {x:Ctx} {Q:Exit->Act->World->Prop},RstX r S s a x->L.Nodup->(∀ i ∈ L,i<1000000)->(∀ i ∈ L,¬ S i/\∀ j,S (i+1000000 * (j+1))->S i)->(∀ a' y S',RstX r S' s' a' y->Q .normal a' y.W)->wpOps P ops Q L a x.W:=by{
induction h with
| nil=>exact fun hX _ _ _ hQ=>hQ _ _ _ hX
| cons ho h hf hr ih=>
  rename_i i0 L0 o0 u0 s0 s1
  intro S a x Q hX hnd hM hS hQ
  rw [wpOps_cons]
  refine ZnZ hI ho h hX (hM _ (List.mem_cons_self ..)) (hS _ (List.mem_cons_self ..)).1 (hS _ (List.mem_cons_self ..)).2 (hN _ _ ho) fun a' y hY=>?_
  have hne:∀ j,j ∈ L0->j≠i0:=fun j hj e=>(List.nodup_cons.1 hnd).1 (e ▸ hj)
  have hi0:=hM i0 (List.mem_cons_self ..)
  refine ih hY (List.nodup_cons.1 hnd).2 (fun j hj=>hM j (List.mem_cons_of_mem _ hj)) (fun j hj=>⟨fun hSj=>?_,fun k hSk=>?_⟩) hQ
  have hjm:=hM j (List.mem_cons_of_mem _ hj)
  rcases hSj with h1 | h1 | h1
  exact (hS j (List.mem_cons_of_mem _ hj)).1 h1
  exact hne j hj h1
  omega
  have hjm:=hM j (List.mem_cons_of_mem _ hj)
  rcases hSk with h1 | h1 | h1
  exact .inl ((hS j (List.mem_cons_of_mem _ hj)).2 k h1)
  omega
  exact absurd (show j=i0 by omega) (hne j hj)}
end
open Go.RowKit
section
variable {f f':Nat->Option (Gen×VObj)}
theorem ZaH {t:Nat} (h:f t=f' t) (g:Gen):Zbh f t g=Zbh f' t g:=by unfold Zbh;rw [h]
theorem Zmm {p:PV} (h:∀ t ∈ Zbk p,f t=f' t):Zpg f p=Zpg f' p:=by
 cases p<;>simp only [Zpg]
 rename_i t g
 rw [ZaH (h t (by simp [Zbk])) g]
theorem Zfw:∀ {ps:List PV} (_:∀ t ∈ ps.flatMap Zbk,f t=f' t),ZeZ f ps=ZeZ f' ps
 | [],_=>rfl
 | p::ps,h=>by
   simp only [ZeZ]
   rw [Zmm fun t ht=>h t (by simp [ht]),Zfw fun t ht=>h t (by
    rw [List.flatMap_cons];exact List.mem_append_right _ ht)]
theorem Ztr {p:PV} (h:∀ t ∈ ZcE p,f t=f' t):res f p=res f' p:=by
 cases p with
 | agg ps=>simp only [res];rw [Zfw h]
 | _=>simp only [ZcE] at h;simp only [res];exact Zmm h
theorem ZcC:∀ {ps:List PV} (_:∀ p ∈ ps,∀ t ∈ ZcE p,f t=f' t),Ze5 f ps=Ze5 f' ps
 | [],_=>rfl
 | p::ps,h=>by
   simp only [Ze5]
   rw [Ztr (h p (List.mem_cons_self ..)),ZcC fun q hq=>h q (List.mem_cons_of_mem _ hq)]
theorem ZoD {p:PV} (h:∀ t ∈ Zbk p,f t=f' t):ZgF f p=ZgF f' p:=by
 cases p<;>simp only [ZgF]<;>rw [ZaH (h _ (by simp [Zbk])) _]
theorem Zr0 {p:PV} (h:∀ t ∈ Zbk p,f t=f' t):ZuB f p=ZuB f' p:=by
 cases p<;>simp only [ZuB]<;>rw [ZaH (h _ (by simp [Zbk])) _]
theorem Zmn {p:PV} (h:∀ t ∈ Zbk p,f t=f' t):ZjP f p=ZjP f' p:=by
 cases p<;>simp only [ZjP]<;>rw [ZaH (h _ (by simp [Zbk])) _]
theorem Zr1 {p:PV} (h:∀ t ∈ Zbk p,f t=f' t):ZuC f p=ZuC f' p:=by
 cases p<;>simp only [ZuC]<;>rw [ZaH (h _ (by simp [Zbk])) _]
end
theorem Zp0 {p:PV} {t:Nat} (h:t ∈ Zbk p):t ∈ ZcE p:=by
 cases p<;>first | exact h | (simp [Zbk] at h)
theorem ZeC {f:Nat->Option (Gen×VObj)} {p:PV} {t:Nat} (h:t ∈ ZcE p):∀ {n:Nat},t ∈ ZfI f n (ZcE p)
 | 0=>h
 | _+1=>List.mem_append_left _ h
theorem Zmo {p:PV}:p.cells.flatMap Zbk=ZcE p:=by
 cases p<;>simp [PV.cells,ZcE,Zbk]
theorem Zmp {place:Nat->Option (Nat×Nat)}:∀ (parts:List (Nat×PV)) {cs out:List PV} (_:Zfv place cs parts=some out),∀ t ∈ out.flatMap Zbk,t ∈ cs.flatMap Zbk\/∃ q ∈ parts,t ∈ ZcE q.2
 | [],cs,out,h,t,ht=>by
   simp only [Zfv,Option.some.injEq] at h
   subst h
   exact .inl ht
 | (i,v)::parts,cs,out,h,t,ht=>by
  simp only [Zfv] at h
  split at h
  cases h
  split at h
  cases h
  rcases Zmp parts h t ht with h1 | ⟨q,hq,h1⟩
  unfold ZcP at h1
  rw [List.flatMap_append,List.flatMap_append,List.mem_append,List.mem_append] at h1
  rcases h1 with (h1 | h1) | h1
  obtain ⟨p,hp,h2⟩:=List.mem_flatMap.1 h1
  exact .inl (List.mem_flatMap.2 ⟨p,List.mem_of_mem_take hp,h2⟩)
  rw [Zmo] at h1
  exact .inr ⟨_,List.mem_cons_self ..,h1⟩
  obtain ⟨p,hp,h2⟩:=List.mem_flatMap.1 h1
  exact .inl (List.mem_flatMap.2 ⟨p,List.mem_of_mem_drop hp,h2⟩)
  exact .inr ⟨q,List.mem_cons_of_mem _ hq,h1⟩
theorem Zp1 (v:Value):Zbk (Zbv v) = []:=by
 unfold Zbv
 split<;>rfl
section
variable {P:Program} {ops:Array Oper} {i:Nat} {o:Oper} {s s':FS} {u:Upd}
theorem Zr2 {s:FS} {o:Op} (h:ZmK o=false):lookers s o=o.operands.toList:=by
 cases o<;>first | rfl | cases h
theorem Agree.keyL (h:Agree ops o s s') {e:Operand} (he:e ∈ lookers s o.op) (hq:quiet o.op=false:=by rfl):∀ t ∈ ZfI s.ob (dep o.op) (ZcE (VL.ev s e)),s.ob t=s'.ob t:=fun t ht=>
 h.ob t (by unfold ZG;rw [hq];exact List.mem_flatMap.2 ⟨e,he,ht⟩)
theorem Agree.key (h:Agree ops o s s') {e:Operand} (he:e ∈ o.op.operands) (hq:quiet o.op=false:=by rfl) (hs:ZmK o.op=false:=by rfl):∀ t ∈ ZfI s.ob (dep o.op) (ZcE (VL.ev s e)),s.ob t=s'.ob t:=
 h.keyL (by rw [Zr2 hs];simpa using he) hq
theorem Agree.key1 (h:Agree ops o s s') {e:Operand} (he:e ∈ o.op.operands) (hq:quiet o.op=false:=by rfl) (hs:ZmK o.op=false:=by rfl):∀ t ∈ Zbk (VL.ev s' e),s.ob t=s'.ob t:=fun t ht=>
 h.key he hq hs t (ZeC (Zp0 (by rw [h.ev e he];exact ht)))
theorem Agree.key2 (h:Agree ops o s s') {e:Operand} (he:e ∈ o.op.operands) (hq:quiet o.op=false:=by rfl) (hs:ZmK o.op=false:=by rfl):∀ t ∈ ZcE (VL.ev s' e),s.ob t=s'.ob t:=fun t ht=>
 h.key he hq hs t (ZeC (by rw [h.ev e he];exact ht))
theorem Zld {f f':Nat->Option (Gen×VObj)}:∀ (n:Nat) (l:List Nat),(∀ t ∈ ZfI f n l,f t=f' t)->ZfI f n l=ZfI f' n l
 | 0,_,_=>rfl
 | n+1,l,h=>by
   have e:l.flatMap (Zkz f)=l.flatMap (Zkz f'):=by
    rw [List.flatMap_def,List.flatMap_def]
    congr 1
    refine List.map_congr_left fun t ht=>?_
    unfold Zkz
    rw [h t (List.mem_append_left _ ht)]
   have ih:=Zld n (l.flatMap (Zkz f)) fun t ht=>h t (List.mem_append_right _ ht)
   simp only [ZfI]
   rw [ih,e]
theorem Zp2 {s:FS} {o:Op} {e:Operand} (h:e ∈ lookers s o):e ∈ o.operands:=by{
cases o with
| store T x y=>
  have:∀ {l:List Operand},(l = [x]\/l = [x,y])->e ∈ l->e ∈ (Op.store T x y).operands:=fun hl he=>by
   rcases hl with rfl | rfl<;>simp [Op.operands] at he ⊢
   exact .inl he
   exact he
  refine this ?_ h
  unfold lookers
  simp only
  split
  exact .inl rfl
  split
  exact .inl rfl
  exact .inr rfl
  exact .inr rfl
| _=>simpa [lookers] using h}
theorem ZoE {s:FS} {T:TypeId} {x y:Operand}:x ∈ lookers s (.store T x y):=by{
unfold lookers
simp only
split
simp
split<;>simp
simp}
theorem Agree.keysP_eq (h:Agree ops o s s') {e:Operand} (he:e ∈ lookers s o.op) (hq:quiet o.op=false:=by rfl):ZfI s.ob (dep o.op) (ZcE (VL.ev s e))=ZfI s'.ob (dep o.op) (ZcE (VL.ev s' e)):=by
 have hk:=h.keyL he hq
 rw [h.ev e (Zp2 he)] at hk ⊢
 exact Zld _ _ hk
theorem Agree.keys_eq (h:Agree ops o s s'):ZG s o=ZG s' o:=by{
unfold ZG
cases hq:quiet o.op with
| true=>rfl
| false=>
simp only [Bool.false_eq_true,if_false]
have:∀ (l:List Operand),(∀ e ∈ l,e ∈ lookers s o.op)->(l.flatMap fun e=>ZfI s.ob (dep o.op) (ZcE (VL.ev s e)))=l.flatMap fun e=>ZfI s'.ob (dep o.op) (ZcE (VL.ev s' e)):=fun l=>by
 induction l with
 | nil=>intro _;rfl
 | cons e l ih=>
   intro hl
   rw [List.flatMap_cons,List.flatMap_cons,h.keysP_eq (hl e (List.mem_cons_self ..)) hq,ih fun e' he'=>hl e' (List.mem_cons_of_mem _ he')]
have e2:lookers s' o.op=lookers s o.op:=by
 generalize hop:o.op=op
 cases op with
 | store T x y=>
   have hx:x ∈ o.op.operands:=by rw [hop];simp [Op.operands]
   have hxL:x ∈ lookers s o.op:=by rw [hop];exact ZoE
   have hk:∀ t ∈ Zbk (VL.ev s' x),s.ob t=s'.ob t:=fun t ht=>h.keyL hxL hq t (ZeC (Zp0 (by rw [h.ev x hx];exact ht)))
   unfold lookers
   simp only
   rw [h.ev x hx]
   split
   rfl
   rename_i t g i k off hp
   rw [hp] at hk
   rw [ZaH (hk t (by simp [Zbk])) g]
   rfl
 | _=>rfl
rw [e2]
exact this _ fun e he=>he}
theorem Agree.trans {s2:FS} (h:Agree ops o s s') (k:Agree ops o s' s2):Agree ops o s s2:=
 ⟨fun e he=>(h.ev e he).trans (k.ev e he),h.ng.trans k.ng,fun t ht=>(h.ob t ht).trans (k.ob t (by rw [<- h.keys_eq];exact ht)),h.wanted.trans k.wanted⟩
theorem Zts (h:Agree ops o s s'):act P i o s=act P i o s':=by{
obtain ⟨dst,op,ty,pos,after,guard⟩:=o
have hng:=h.ng
unfold act
cases op with
| move x=>simp only;rw [h.ev x (by simp [Op.operands])]
| assign x=>simp only;rw [h.ev x (by simp [Op.operands])]
| nilCheck x=>simp only;rw [h.ev x (by simp [Op.operands])]
| pick c a b=>simp only;rw [h.ev c (by simp [Op.operands]),h.ev a (by simp [Op.operands]),h.ev b (by simp [Op.operands])]
| alloc T=>simp only;rw [hng]
| box T x=>simp only;rw [h.ev x (by simp [Op.operands]),hng]
| build T parts=>
  have e1:(parts.toList.map fun q=>(q.1,ev s q.2))=parts.toList.map fun q=>(q.1,ev s' q.2):=List.map_congr_left fun q hq=>by
   rw [h.ev q.2 (by simp only [Op.operands];simp;exact ⟨q.1,by simpa using hq⟩)]
  simp only
  rw [e1]
| buildSlice T n parts=>
  have e1:(parts.toList.map fun q=>(q.1,ev s q.2))=parts.toList.map fun q=>(q.1,ev s' q.2):=List.map_congr_left fun q hq=>by
   rw [h.ev q.2 (by simp only [Op.operands];simp;exact ⟨q.1,by simpa using hq⟩)]
  simp only
  rw [e1,hng]
  split
  rename_i E _ _ _ d hT hdst
  split
  rename_i te hte
  split
  rename_i cs hf
  have:ZeZ s.ob cs=ZeZ s'.ob cs:=Zfw fun t ht=>by
   rcases Zmp _ hf t ht with h1 | ⟨q,hq,h1⟩
   obtain ⟨p,hp,h2⟩:=List.mem_flatMap.1 h1
   obtain ⟨l,hl,hp⟩:=List.mem_flatten.1 hp
   rw [List.eq_of_mem_replicate hl] at hp
   obtain ⟨_,_,_,_,_,_,_,hz⟩:=ZR hte
   rw [hz] at hp
   obtain ⟨v,_,rfl⟩:=List.mem_map.1 hp
   rw [Zp1] at h2
   cases h2
   obtain ⟨q',hq',rfl⟩:=List.mem_map.1 hq
   have hm:q'.2 ∈ (Op.buildSlice T n parts).operands:=by simp only [Op.operands];simp;exact ⟨q'.1,by simpa using hq'⟩
   exact h.key2 hm rfl rfl t h1
  rw [this]
  rfl
  rfl
  rfl
| load T x=>
  have hx:x ∈ (Op.load T x).operands:=by simp [Op.operands]
  simp only
  rw [h.ev x hx,ZoD (h.key1 hx)]
| store T x y=>
  have hx:x ∈ (Op.store T x y).operands:=by simp [Op.operands]
  have hy:y ∈ (Op.store T x y).operands:=by simp [Op.operands]
  simp only
  have hk:∀ t ∈ Zbk (ev s' x),s.ob t=s'.ob t:=fun t ht=>h.keyL ZoE rfl t (ZeC (Zp0 (by rw [h.ev x hx];exact ht)))
  have hr:y ∈ lookers s (.store T x y)->ZeZ s.ob (ev s' y).cells=ZeZ s'.ob (ev s' y).cells:=fun hyL=>Zfw (by
   rw [Zmo]
   intro t ht
   exact h.keyL hyL rfl t (ZeC (by rw [h.ev y hy];exact ht)))
  have hyL:∀ t g i k off,ev s' x = .elp t g i k off->(∀ E k els,Zbh s.ob t g≠some (.prow E k els))->y ∈ lookers s (.store T x y):=fun t g i k off hp hne=>by
   unfold lookers
   simp only
   rw [h.ev x hx,hp]
   simp only
   simp
  rw [h.ev x hx,h.ev y hy]
  split
  split
  split
  rename_i t g off hp
  rw [hp] at hk
  rw [ZaH (hk t (by simp [Zbk])) g]
  rename_i t g i' k off hp
  rw [hp] at hk
  have hg:=ZaH (hk t (by simp [Zbk])) g
  cases hob:Zbh s.ob t g with
  | none=>rw [hob] at hg;rw [<- hg]
  | some ob=>
    cases ob with
    | box cs=>rw [hob] at hg;rw [<- hg]
    | prow E k els=>rw [hob] at hg;rw [<- hg]
    | mp ents=>rw [hob] at hg;rw [<- hg]
    | qrow E k els=>rw [hob] at hg;rw [<- hg]
    | row E k sh els=>
      rw [hr (hyL t g i' _ off hp fun E k els he=>by rw [hob] at he;cases he),<- hg,hob]
  rfl
  rfl
  rfl
| fieldAddr T x f=>simp only;rw [h.ev x (by simp [Op.operands])]
| field T x f=>simp only;rw [h.ev x (by simp [Op.operands])]
| indexAddr T x y=>
  have hx:x ∈ (Op.indexAddr T x y).operands:=by simp [Op.operands]
  simp only
  rw [h.ev x hx,h.ev y (by simp [Op.operands])]
  have hk:=h.key1 hx
  split
  split
  split
  rfl
  rename_i t g hp
  rw [hp] at hk
  rw [ZaH (hk t (by simp [Zbk])) g]
  rfl
  rfl
  rfl
  rfl
| slice T x lo hi m=>
  have hx:x ∈ (Op.slice T x lo hi m).operands:=by simp [Op.operands]
  cases m with
  | some m=>rfl
  | none=>
    simp only
    rw [h.ev x hx,Zmn (h.key1 hx),Zr1 (h.key1 hx)]
    have e1:∀ l,lo=some l->ev s l=ev s' l:=fun l hl=>h.ev l (by subst hl;simp [Op.operands])
    have e2:∀ l,hi=some l->ev s l=ev s' l:=fun l hl=>h.ev l (by subst hl;simp [Op.operands])
    cases lo with
    | none=>
      cases hi with
      | none=>rfl
      | some b=>simp only;rw [e2 b rfl]
    | some a=>
      cases hi with
      | none=>simp only;rw [e1 a rfl]
      | some b=>simp only;rw [e1 a rfl,e2 b rfl]
| makeSlice T l c=>simp only;rw [h.ev l (by simp [Op.operands]),h.ev c (by simp [Op.operands]),hng]
| extract x k=>simp only;rw [h.ev x (by simp [Op.operands])]
| call c=>
  obtain ⟨callee,args,argTypes⟩:=c
  simp only
  cases callee with
  | builtin b=>
    cases b with
    | len=>
      simp only
      split
      rename_i x T e1 e2
      have hx:x ∈ (Op.call { callee:=.builtin .len,args:=args,argTypes:=argTypes }).operands:=by rw [Zvd e1];simp [Op.operands,Call.operands]
      simp only [Zq1]
      rw [h.ev x hx,Zr0 (h.key1 hx)]
      rfl
    | append=>
      simp only
      split
      rename_i x y T T' e1 e2
      have hx:x ∈ (Op.call { callee:=.builtin .append,args:=args,argTypes:=argTypes }).operands:=by rw [ZrK e1];simp [Op.operands,Call.operands]
      have hy:y ∈ (Op.call { callee:=.builtin .append,args:=args,argTypes:=argTypes }).operands:=by rw [ZrK e1];simp [Op.operands,Call.operands]
      split
      simp only [ZgG]
      rw [h.ev x hx,h.ev y hy,Zmn (h.key1 hy),hng]
      have hk:=h.key1 hx
      split
      split
      split
      rfl
      rename_i t g hp
      rw [hp] at hk
      rw [ZaH (hk t (by simp [Zbk])) g]
      rfl
      rfl
      rfl
      rfl
      rfl
    | _=>rfl
  | _=>rfl
| _=>rfl}
theorem ZoF [WInv P] (h:Agree ops o s s') (k:OpR P ops i o s u):OpR P ops i o s' u:=by{
cases k with
| skip hw=>exact .skip (by rw [<- h.wanted];exact hw)
| act hw ha=>
  refine .act (by rw [<- h.wanted];exact hw) ?_
  cases ha with
  | fn ha=>exact .fn (by rw [<- Zts h];exact ha)
  | plain hp hs hr=>
    refine .plain (fun e he=>by rw [<- h.ev e he];exact hp e he) hs fun w=>?_
    rw [execOp_congr (ρ:=cv s') (ρ':=cv s) o hs fun e he=>by unfold cv;rw [h.ev e he]]
    exact hr w
| call hw ho ha hc=>
  rename_i f es ts args us res
  have hm:∀ e ∈ es.toList,e ∈ o.op.operands:=fun e he=>by rw [ho];simp [Op.operands,Call.operands];exact .inr (by simpa using he)
  have e1:es.toList.map (ev s)=es.toList.map (ev s'):=List.map_congr_left fun e he=>h.ev e (hm e he)
  refine .call (by rw [<- h.wanted];exact hw) ho ?_ hc
  rw [<- ha,<- e1]
  refine (ZcC fun p hp t ht=>?_).symm
  obtain ⟨e,he,rfl⟩:=List.mem_map.1 hp
  exact h.key (hm e he) (by rw [ho];rfl) (by rw [ho];rfl) t (ZeC ht)
| callO hw ho he hob h1 h2 h3 hus hc=>
  rename_i f es ts pre post pre' post' t g cs qs obj' us us1 us2 us3 res
  have hm:∀ e ∈ es.toList,e ∈ o.op.operands:=fun e he=>by rw [ho];simp [Op.operands,Call.operands];exact .inr (by simpa using he)
  have e1:es.toList.map (ev s)=es.toList.map (ev s'):=List.map_congr_left fun e he=>h.ev e (hm e he)
  have hp:∀ p ∈ pre ++ .ptr t g 0::post,∀ t' ∈ ZmJ s.ob p,s.ob t'=s'.ob t':=fun p hp t' ht'=>by
   rw [<- he] at hp
   obtain ⟨e,he',rfl⟩:=List.mem_map.1 hp
   exact h.key (hm e he') (by rw [ho];rfl) (by rw [ho];rfl) t' (by rw [show dep o.op=4 by rw [ho];rfl];exact ht')
  have ht:=hp (.ptr t g 0) (by simp)
  refine .callO (by rw [<- h.wanted];exact hw) ho (by rw [<- e1];exact he) (by rw [<- hob];exact (ZaH (ht t (by simp [ZmJ,ZfI,ZcE,Zbk])) g).symm) ?_ ?_ ?_ hus hc
  rw [<- h1];exact (ZcC fun p hpp t' ht'=>hp p (List.mem_append_left _ hpp) t' (ZeC ht')).symm
  rw [<- h2]
  refine (Zfw fun t' ht'=>ht t' ?_).symm
  refine List.mem_append_right _ (List.mem_append_left _ (List.mem_flatMap.2 ⟨t,by simp [ZcE,Zbk],?_⟩))
  unfold Zkz
  rw [ZaI hob]
  exact ht'
  rw [<- h3];exact (ZcC fun p hpp t' ht'=>hp p (List.mem_append_right _ (List.mem_cons_of_mem _ hpp)) t' (ZeC ht')).symm
| any hw ha=>exact .any (by rw [<- h.wanted];exact hw) fun s2 r hA hI=>ha s2 r (h.trans hA) hI
| anyx hw ha=>exact .anyx (by rw [<- h.wanted];exact hw) fun s2 r hA hI=>ha s2 r (h.trans hA) hI}
end
open Go.RowKit
theorem ZnM:∀ (us:List (Nat×Option (Gen×VObj))) (f f':Nat->Option (Gen×VObj)) (t:Nat) (_:t ∈ us.map (·.1)),flips f us t=flips f' us t
 | [],_,_,_,h=>by simp at h
 | q::us,f,f',t,h=>by
   show flips (Zcv f q.1 q.2) us t=flips (Zcv f' q.1 q.2) us t
   by_cases h1:t ∈ us.map (·.1)
   exact ZnM us _ _ t h1
   have h2:us.all (fun q=>q.1 != t)=true:=List.all_eq_true.2 fun q' hq'=>by
    simp only [bne_iff_ne,ne_eq]
    exact fun e=>h1 (List.mem_map.2 ⟨q',hq',e⟩)
   rw [Ziu us _ t h2,Ziu us _ t h2]
   rw [List.map_cons,List.mem_cons] at h
   have e:t=q.1:=h.resolve_right h1
   unfold Zcv
   rw [if_pos e,if_pos e]
theorem ZeJ {us:List (Nat×Option (Gen×VObj))} (f:Nat->Option (Gen×VObj)) {t:Nat} (h:t ∉ us.map (·.1)):flips f us t=f t:=
 Ziu us f t (List.all_eq_true.2 fun q' hq'=>by
  simp only [bne_iff_ne,ne_eq]
  exact fun e=>h (List.mem_map.2 ⟨q',hq',e⟩))
theorem Zv0 {s:FS} {d e:Option Tmp} {u v:Upd} (hd:∀ k,d=some k->e≠some k) (hw:∀ t,t ∈ u.obs.map (·.1)->t ∉ v.obs.map (·.1)):(s.app d u).app e v=(s.app e v).app d u:=by{
unfold FS.app
simp only [FS.mk.injEq,and_true]
constructor
cases d with
| none=>rfl
| some k=>
  cases e with
  | none=>rfl
  | some l=>
    have hne:k≠l:=fun h=>hd k rfl (by rw [h])
    funext t
    simp only [ZrV]
    by_cases h1:t=l
    rw [if_pos h1,if_neg (fun h2=>hne (h2.symm.trans h1)),if_pos h1]
    rw [if_neg h1,if_neg h1]
change flips (flips s.ob u.obs) v.obs=flips (flips s.ob v.obs) u.obs
funext t
by_cases h1:t ∈ v.obs.map (·.1)
have h2:t ∉ u.obs.map (·.1):=fun h=>hw t h h1
rw [ZeJ _ h2,ZnM _ (flips s.ob u.obs) s.ob t h1]
rw [ZeJ _ h1]
by_cases h2:t ∈ u.obs.map (·.1)
exact ZnM _ _ _ t h2
rw [ZeJ _ h2,ZeJ _ h2,ZeJ _ h1]}
section
variable {P:Program} {ops:Array Oper} {fp:Nat->Option (List Nat×List Nat)}
theorem Zuk {o o':Oper} {s:FS} {u:Upd} (hd:∀ k,o'.dst=some k->k ∉ o.looksAt ops) (hk:∀ t ∈ ZG s o,t ∉ u.obs.map (·.1)):Agree ops o s (s.app o'.dst u):=by{
have htm:∀ t,(∀ k,o'.dst=some k->t≠k)->(s.app o'.dst u).tm t=s.tm t:=fun t h=>by
 show ZrV s.tm o'.dst u.val t=_
 cases hd:o'.dst with
 | none=>rfl
 | some k=>simp only [ZrV];rw [if_neg (h k hd)]
refine ⟨fun e he=>?_,rfl,fun t ht=>(ZeJ s.ob (hk t ht)).symm,?_⟩
cases e with
| tmp t=>exact (htm t fun k h e=>hd k h (by
  subst e
  exact List.mem_append_left _ (List.mem_filterMap.2 ⟨.tmp t,by simpa using he,rfl⟩))).symm
| _=>rfl
unfold Zo
cases hg:o.guard with
| none=>rfl
| some q=>
  obtain ⟨j,want⟩:=q
  simp only
  cases hj:(ops[j]?).bind (·.dst) with
  | none=>rfl
  | some d=>
    simp only
    rw [htm d fun k h e=>hd k h (by
     subst e
     refine List.mem_append_right _ ?_
     simp [hg,hj])]}
theorem Zul {i:Nat} {K W k w:List Nat} (h:ZuA (fp i) K W=true) (e:fp i=some (k,w)):(∀ t ∈ K,t ∈ k)/\∀ t ∈ W,t ∈ w:=by{
unfold ZuA at h
rw [e] at h
simp only [Bool.and_eq_true,List.all_eq_true] at h
exact ⟨fun t ht=>by simpa using h.1 t ht,fun t ht=>by simpa using h.2 t ht⟩}
theorem swap [WInv P] {k i:Nat} {ok oi:Oper} {s:FS} {uk ui:Upd} (hok:ops[k]? = some ok) (hoi:ops[i]? = some oi) (hk:OpR P ops k ok s uk) (hfk:ZuA (fp k) (ZG s ok) (uk.obs.map (·.1))=true)
  (hi:OpR P ops i oi (s.app ok.dst uk) ui) (hfi:ZuA (fp i) (ZG (s.app ok.dst uk) oi) (ui.obs.map (·.1))=true) (hind:indep ops fp k i=true) :
  OpR P ops i oi s ui/\ZuA (fp i) (ZG s oi) (ui.obs.map (·.1))=true/\OpR P ops k ok (s.app oi.dst ui) uk/\ZuA (fp k) (ZG (s.app oi.dst ui) ok) (uk.obs.map (·.1))=true/\(s.app ok.dst uk).app oi.dst ui=(s.app oi.dst ui).app ok.dst uk:=by{
unfold indep at hind
rw [hok,hoi] at hind
split at hind
rename_i _ _ _ _ Kk Wk Ki Wi e1 e2 e3 e4
injection e1 with e1
injection e2 with e2
subst e1 e2
simp only [Bool.and_eq_true,List.all_eq_true,Bool.not_eq_true'] at hind
obtain ⟨⟨hap,hW⟩,hW2⟩:=hind
obtain ⟨a1,a2,a3⟩:=Oper.apart_spec hap
obtain ⟨k1,k2⟩:=Zul hfk e3
obtain ⟨i1,i2⟩:=Zul hfi e4
have hback:Agree ops oi (s.app ok.dst uk) s:=by
 have hkeys:∀ t ∈ ZG (s.app ok.dst uk) oi,t ∉ uk.obs.map (·.1):=fun t ht hu=>by
  have h1:=(hW t (k2 t hu)).1
  have h2:=i1 t ht
  rw [List.contains_iff_mem.2 h2] at h1
  cases h1
 have htm:∀ t,(∀ k,ok.dst=some k->t≠k)->(s.app ok.dst uk).tm t=s.tm t:=fun t h=>by
  show ZrV s.tm ok.dst uk.val t=_
  cases hd:ok.dst with
  | none=>rfl
  | some k=>simp only [ZrV];rw [if_neg (h k hd)]
 refine ⟨fun e he=>?_,rfl,fun t ht=>ZeJ s.ob (hkeys t ht),?_⟩
 cases e with
 | tmp t=>exact htm t fun k h e=>a1 k h (by
   subst e
   exact List.mem_append_left _ (List.mem_filterMap.2 ⟨.tmp t,by simpa using he,rfl⟩))
 | _=>rfl
 unfold Zo
 cases hg:oi.guard with
 | none=>rfl
 | some q=>
   obtain ⟨j,want⟩:=q
   simp only
   cases hj:(ops[j]?).bind (·.dst) with
   | none=>rfl
   | some d=>
     simp only
     rw [htm d fun k h e=>a1 k h (by
      subst e
      refine List.mem_append_right _ ?_
      simp [hg,hj])]
have hfwd:Agree ops ok s (s.app oi.dst ui):=Zuk a3 fun t ht hu=>by
 have h1:=hW2 t (i2 t hu)
 have h2:=k1 t ht
 rw [List.contains_iff_mem.2 h2] at h1
 cases h1
refine ⟨ZoF hback hi,by rw [<- hback.keys_eq];exact hfi,ZoF hfwd hk,by rw [<- hfwd.keys_eq];exact hfk,Zv0 (fun k h e=>a2 k h e) fun t ht hu=>?_⟩
have h1:=(hW t (k2 t ht)).2
rw [List.contains_iff_mem.2 (i2 t hu)] at h1
cases h1
cases hind}
theorem front [WInv P] {L:List Nat} {s send:FS} (h:RunO P ops fp L s send):∀ {i:Nat},i ∈ L->L.Pairwise (· < ·)->(∀ k ∈ L,k<i->indep ops fp k i=true)->
  ∃ o u,ops[i]? = some o/\OpR P ops i o s u/\ZuA (fp i) (ZG s o) (u.obs.map (·.1))=true/\RunO P ops fp (L.erase i) (s.app o.dst u) send:=by{
induction h with
| nil=>intro i hi;simp at hi
| cons ho h hf hr ih=>
  rename_i k L o u s s'
  intro i hi hp hind
  by_cases e:i=k
  subst e
  refine ⟨o,u,ho,h,hf,?_⟩
  rw [List.erase_cons_head]
  exact hr
  ·have hiL:i ∈ L:=(List.mem_cons.1 hi).resolve_left e
   obtain ⟨hlt,hp'⟩:=List.pairwise_cons.1 hp
   obtain ⟨oi,ui,hoi,h1,h2,h3⟩:=ih hiL hp' fun k' hk'=>hind k' (List.mem_cons_of_mem _ hk')
   obtain ⟨q1,q2,q3,q4,q5⟩:=swap ho hoi h hf h1 h2 (hind k (List.mem_cons_self ..) (hlt i hiL))
   refine ⟨oi,ui,hoi,q1,q2,?_⟩
   rw [List.erase_cons_tail (by simpa using fun h=>e h.symm)]
   refine .cons ho q3 q4 ?_
   rw [<- q5]
   exact h3}
theorem ZjZ {listed:Array Bool} (hdown:∀ i o,ops[i]? = some o->listed.getD i true=true->∀ e ∈ o.after.toList,Region.binds .any e=true->listed.getD e.on false=true)
  (hsz:listed.size=ops.size):∀ (n k i:Nat),reach ops n k i=true->(∀ o,ops[i]? = some o->∀ e ∈ o.after.toList,Region.binds .any e=true->listed.getD e.on false=true)->listed.getD k false=true
 | 0,_,_,h,_=>by simp [reach] at h
 | n+1,k,i,h,hi=>by
   simp only [reach] at h
   split at h
   rename_i o ho
   obtain ⟨e,he,h1⟩:=List.any_eq_true.1 h
   simp only [Bool.and_eq_true,Bool.or_eq_true,beq_iff_eq] at h1
   obtain ⟨hb,h2⟩:=h1
   have hl:=hi o ho e he hb
   rcases h2 with h2 | h2
   rw [<- h2];exact hl
   refine ZjZ hdown hsz n k e.on h2 fun o' ho'=>hdown _ o' ho' ?_
   rw [Array.getD_eq_getD_getElem?] at hl ⊢
   cases hx:listed[e.on]? with
   | none=>rfl
   | some b=>rw [hx] at hl;simpa using hl
   cases h
end
end VL
end Go.Proofs.YtpdaeclbndpabaaGreatDoor
