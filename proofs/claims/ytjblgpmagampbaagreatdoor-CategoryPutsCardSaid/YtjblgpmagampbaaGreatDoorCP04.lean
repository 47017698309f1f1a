/- A row of the call's own behind the library's turning of it. No program is named. | A library function that turns a row of plain values and has a function behind it, as a contract; sorting. No program is named. | Comparisons that order totally. No program is named. | Sorted lists into which elements are put one by one, beside those that are sorted at once. | One step of a run, whichever it is. No program is named. | What the rules ask of the types. Printed by facts.sh. | The types of the wiki, and how their values lie in cells. No program is named. Written by types.py. | How the data of the wiki are written as values. No program is named. Written by mkpv.py. | Arguments two by two. -/
import Derived.Test.YtjblgpmagampbaaGreatDoorCP02
import Derived.Test.YtjblgpmagampbaaGreatDoorCP01
import Derived.Shelf.GgSortFunc.RowK
import Derived.Test.YtjblgpmagampbaaGreatDoorCP03
import Derived.Shelf.SlSortCmp.NoneTotal
import Derived.Lib.Bytealg
import Derived.Lib.Small
import Derived.Test.YtjblgpmagampbaaGreatDoorRows
namespace Go.Proofs.YtjblgpmagampbaaGreatDoor
namespace VL
open Go.RowKit Go.Sort
section
variable {α:Type} [Inhabited α]
theorem Zg9 (enc:α→List Value) (k:Nat) (hk:∀ x,(enc x).length=k) (M:List α):(flatK enc k M.toArray).toList=M.flatMap enc:=by
 have hlen:(M.flatMap enc).length=M.length * k:=by
  induction M with
  | nil=>simp
  | cons x M ih=>simp [List.flatMap_cons,hk,ih,Nat.succ_mul];omega
 apply List.ext_getElem?
 intro t
 by_cases ht:t<M.length * k
 ·have hk0:0<k:=by rcases Nat.eq_zero_or_pos k with h | h
                   ·subst h;simp at ht
                   ·exact h
  have hi:t / k<M.length:=Nat.div_lt_of_lt_mul (by rw [Nat.mul_comm];exact ht)
  have hj:t % k<k:=Nat.mod_lt _ hk0
  have e:=ZkQ enc k hk M (t / k) M[t / k] (t % k) ((enc M[t / k])[t % k]'(by rw [hk];exact hj)) (List.getElem?_eq_getElem hi) (List.getElem?_eq_getElem (by rw [hk];exact hj))
  rw [Nat.mul_comm (t / k) k,Nat.div_add_mod] at e
  rw [e]
  have h1:t<(flatK enc k M.toArray).size:=by rw [size_flatK];simpa using ht
  have h2:=get_flatK enc k M.toArray t (by simpa using ht)
  rw [getElem!_pos _ t h1] at h2
  rw [Array.getElem?_toList,Array.getElem?_eq_getElem h1,h2,getElem!_pos M.toArray (t / k) (by simpa using hi)]
  simp only [List.getElem_toArray]
  rw [getElem!_pos (enc M[t / k]) (t % k) (by rw [hk];exact hj)]
 ·rw [List.getElem?_eq_none (l:=(flatK enc k M.toArray).toList) (by simp;omega),List.getElem?_eq_none (l:=M.flatMap enc) (by rw [hlen];omega)]
theorem Znw (enc:α→List Value) (k:Nat) (hk:∀ x,(enc x).length=k) {w:World} {g:Nat} {cur:Array Value} {E:TypeId} {L:List α} (hb:w.heap[g]? = some (.cells cur E (0,0))) (ht:cur.toList.take (L.length * k)=L.flatMap enc):HoldsK enc k w g 0 L.toArray:=by
 intro j hj
 have hj':j<L.length * k:=by simpa using hj
 refine ⟨?_,by simp [World.frozen?,hb]⟩
 have h1:(cur.toList.take (L.length * k))[j]? = (flatK enc k L.toArray).toList[j]?:=by rw [ht,Zg9 enc k hk]
 rw [List.getElem?_take_of_lt hj'] at h1
 simp only [World.cell?,hb,Nat.zero_add]
 simp only [Option.isSome_none,Bool.false_eq_true,if_false]
 rw [← Array.getElem?_toList,h1,Array.getElem?_toList,Array.getElem?_eq_getElem hj,getElem!_pos _ j hj]
 rfl
theorem Zmh (enc:α→List Value) (k:Nat) (hk:∀ x,(enc x).length=k) {w:World} {g cap n:Nat} {cur:Array Value} {E:TypeId} {M:List α} (hb:w.heap[g]? = some (.cells cur E (0,0))) (h1:M.length≤cap) (h2:cap≤maxLen) (h3:cur.size=cap * k) :
  (putRowK enc k (Sort.ahead w n) g 0 M.toArray).ownsRow 0 E k (.slice (some ⟨g,0,none⟩) M.length cap) M.length (M.flatMap enc)∧Gr (fun b=>blk (.slice (some ⟨g,0,none⟩) M.length cap)=some b) w (putRowK enc k (Sort.ahead w n) g 0 M.toArray):=by
 have hg:g<w.heap.size:=(Array.getElem?_eq_some_iff.1 hb).1
 have hh:(putRowK enc k (Sort.ahead w n) g 0 M.toArray).heap[g]? = some (.cells (putCells id 0 (flatK enc k M.toArray) cur) E (0,0)):=by
  simp [putRowK,putRow,mapBlock,Sort.ahead,Array.getElem?_modify,hb,onCells]
 have hlen:(M.flatMap enc).length=M.length * k:=by rw [← Zg9 enc k hk M];simp
 refine ⟨⟨hlen,.inr ⟨g,cap,_,rfl,Nat.zero_le _,hh,h1,h2,by simp [putCells,h3],?_⟩⟩,rfl,rfl,rfl,by simp [putRowK,putRow,mapBlock,Sort.ahead],fun b hb' hne=>?_⟩
 ·rw [← Zg9 enc k hk M]
  have hle:M.length * k≤cur.size:=by rw [h3];exact Nat.mul_le_mul_right _ h1
  apply List.ext_getElem?
  intro j
  by_cases hj:j<M.length * k
  ·rw [List.getElem?_take_of_lt hj,Array.getElem?_toList,Array.getElem?_toList]
   simp [putCells,hj,show j<cur.size by omega]
  ·rw [List.getElem?_take_eq_none (by omega),List.getElem?_eq_none (by simp;omega)]
 ·have:g≠b:=fun e=>hne (by rw [e];rfl)
  simp [putRowK,putRow,mapBlock,Sort.ahead,Array.getElem?_modify,this]
end
theorem Zgv:∀ {a b:List PV} {va vb:List Value},Zbi a=some va→Zbi b=some vb→Zbi (a++b)=some (va++vb)
 | [],b,va,vb,h,k=>by
   injection h with h
   subst h
   exact k
 | p::a,b,va,vb,h,k=>by
   simp only [Zbi] at h
   split at h
   ·rename_i v vs h1 h2
    injection h with h
    subst h
    simp only [List.cons_append,Zbi]
    rw [h1,Zgv h2 k]
   ·cases h
theorem ZdD {α:Type} {cs:α→List PV} {enc:α→List Value} (h:∀ x,Zbi (cs x)=some (enc x)):∀ (xs:List α),Zbi (xs.map cs).flatten=some (xs.flatMap enc)
 | []=>rfl
 | x::xs=>by
   rw [List.map_cons,List.flatten_cons,List.flatMap_cons]
   exact Zgv (h x) (ZdD h xs)
section
variable {P:Program} [WInv P]
theorem Zjq {α:Type} [Enc α] [EncPV α] {f:FuncId} {args:List PV} {vals:List Value} {E:TypeId} {xs:List α} {enc:α→List Value} (hg:isGo P f=true) (hp:∀ (x:Ctx) (vs:Array Value),Pre x args none vs→vs=vals.toArray) (hpl:∀ x:α,Zbi (EncPV.cs x)=some (enc x))
  (hE:∀ (S:Nat→Prop) (w:World) (x:α) (cs:List Value),Enc.R S w x cs→cs=enc x) (hk:∀ x:α,(EncPV.cs x).length=Enc.k α)
  (h:∀ w,(∀ W,Below w.heap.size w W→WInv.I P W)→Calls P f vals.toArray w fun e w'=>∃ v,e = .returned v∧OwnL w' w.heap.size E v xs∧Below w.heap.size w w'):ContractN P f args (.row E (Enc.k α) false (xs.map EncPV.cs)):=by
 refine ⟨hg,⟨fun cs h=>(by cases h),fun E k els h=>(by cases h)⟩,fun x vs hpre hI=>?_⟩
 obtain rfl:vs=vals.toArray:=hp x vs hpre
 refine (h x.W fun W hW=>hI W ⟨hW.os,hW.tape,hW.output,hW.size,fun b hb _=>hW.block b hb⟩).mono ?_
 rintro _ w' ⟨v,rfl,⟨css,hl,hown,hR⟩,hb⟩
 let y:Ctx:=⟨fun g=>g=(0,0),x.F,w',fun _=>v⟩
 have hcss:css.flatten=xs.flatMap enc:=by
  have:css=xs.map enc:=by
   apply List.ext_getElem?
   intro i
   by_cases hi:i<xs.length
   ·have h1:xs[i]? = some xs[i]:=List.getElem?_eq_getElem hi
    have h2:css[i]? = some css[i]:=List.getElem?_eq_getElem (by omega)
    rw [h2,List.getElem?_map,h1,hE _ _ _ _ (hR i _ _ h1 h2)]
    rfl
   ·rw [List.getElem?_eq_none (by omega),List.getElem?_eq_none (by simp;omega)]
  rw [this]
  rfl
 have hpure:∀ e ∈ xs.map EncPV.cs,∀ p ∈ e,p.pure=true:=fun e he p hpm=>by
  obtain ⟨z,_,rfl⟩:=List.mem_map.1 he
  obtain ⟨j,hj⟩:=List.getElem?_of_mem hpm
  have:=Zfe (hpl z) hj
  obtain ⟨r,_,_⟩:=this
  have:∀ (l:List PV) {vs:List Value},Zbi l=some vs→∀ p ∈ l,p.pure=true:=fun l=>by
   induction l with
   | nil=>intro vs _ p hp;cases hp
   | cons q l ih=>
     intro vs hq p hp
     simp only [Zbi] at hq
     split at hq
     ·rename_i v1 vs1 h1 h2
      rcases List.mem_cons.1 hp with rfl | hp
      ·cases p<;>simp_all [Zgz,PV.pure]
      ·exact ih h2 p hp
     ·cases hq
  exact this _ (hpl z) p hpm
 refine ⟨y,v,rfl,rfl,⟨fun g hg=>?_,fun _ _ h=>h,fun b o v hF hv=>(World.cell?_of_block (hb.block b (hpre.flt b o hF))).trans hv⟩,Gr.ofBelow hb,fun _ _ h=>.inl h,fun b o hF=>Nat.lt_of_lt_of_le (hpre.flt b o hF) hb.size,(0,0),rfl,fun e he=>?_,hpure,css.flatten,?_,fun m p w hm hw=>?_,fun b hbk=>?_⟩
 ·obtain ⟨j,os,h,_⟩:=hpre.gen g hg
  cases h
 ·obtain ⟨z,_,rfl⟩:=List.mem_map.1 he
  exact hk z
 ·rw [List.length_map]
  exact ⟨hown.1,hown.2.imp id fun ⟨g,cap,cur,h1,h2,h3⟩=>⟨g,cap,cur,h1,Nat.zero_le _,h3⟩⟩
 ·obtain ⟨r,h1,h2⟩:=Zfe (ZdD hpl xs) hm
  rw [hcss,h1] at hw
  injection hw with hw
  subst hw
  rw [← h2]
  exact Zfm y r
 ·have hB:x.W.heap.size≤b:=by
   change blk v=some b at hbk
   rcases hown.2 with ⟨hn,_⟩ | ⟨b',cap,cur,hv,hB,_⟩
   ·rw [hn] at hbk
    simp [blk] at hbk
   ·rw [hv] at hbk
    obtain rfl:b'=b:=by simpa [blk] using hbk
    exact hB
  exact ⟨.inl hB,fun o hF=>by
   have h1:=hpre.flt b o hF
   omega⟩
theorem Zjr {α:Type} [Enc α] [EncPV α] {f:FuncId} {args:List PV} {vals:List Value} {E:TypeId} {xs:List α} {enc:α→List Value} (hg:isGo P f=true) (hp:∀ (x:Ctx) (vs:Array Value),Pre x args none vs→vs=vals.toArray) (hpl:∀ x:α,Zbi (EncPV.cs x)=some (enc x))
  (hE:∀ (S:Nat→Prop) (w:World) (x:α) (cs:List Value),Enc.R S w x cs→cs=enc x) (hk:∀ x:α,(EncPV.cs x).length=Enc.k α)
  (h:∀ w,WInv.I P w→Calls P f vals.toArray w fun e w'=>∃ v,e = .returned v∧OwnL w' w.heap.size E v xs∧Below w.heap.size w w'):ContractN P f args (.row E (Enc.k α) false (xs.map EncPV.cs)):=
 Zjq hg hp hpl hE hk fun w hw=>h w (hw w (Below.refl _ _))
theorem Zkm {α:Type} [Enc α] [EncPV α] {f:FuncId} {args:List PV} {vals:List Value} {E:TypeId} {xs:List α} {enc:α→List Value} (hg:isGo P f=true) (hp:Zj0 args=some vals) (hpl:∀ x:α,Zbi (EncPV.cs x)=some (enc x))
  (hE:∀ (S:Nat→Prop) (w:World) (x:α) (cs:List Value),Enc.R S w x cs→cs=enc x) (hk:∀ x:α,(EncPV.cs x).length=Enc.k α)
  (h:∀ w,WInv.I P w→Calls P f vals.toArray w fun e w'=>∃ v,e = .returned v∧OwnL w' w.heap.size E v xs∧Below w.heap.size w w'):ContractN P f args (.row E (Enc.k α) false (xs.map EncPV.cs)):=by
 refine Zjr (vals:=vals) hg (fun x vs hpre=>?_) hpl hE hk h
 have e:vs.toList=vals:=Zhm args hp vs.toList (by simpa using hpre.size) fun i p v hp hv=>hpre.rep i p v hp (by simpa using hv)
 rw [← e]
end
end VL
end Go.Proofs.YtjblgpmagampbaaGreatDoor
namespace Go.Proofs.YtjblgpmagampbaaGreatDoor
namespace VL
open Go.RowKit Go.Sort
theorem Zjj {P:Program} [WInv P] {f g:FuncId} {E k:Nat} {els els':List (List PV)} (hg:isGo P f=true) (len:∀ e ∈ els',e.length=k) (pure:∀ e ∈ els',∀ p ∈ e,p.pure=true) (plain:(Zbi els.flatten).isSome=true)
  (calls:∀ (W:World) (v:Value) (vs:List Value),W.ownsRow 0 E k v els.length vs→Zbi els.flatten=some vs→Calls P f #[v,.func (.func g) #[] #[]] W fun e W'=>
   ∃ vs',e = .returned (.tuple #[])∧Zbi els'.flatten=some vs'∧W'.ownsRow 0 E k v els'.length vs'∧Gr (fun b=>blk v=some b) W W'):ContractR P f [.fn g []] E k els (.tup []) els':=by
 refine ⟨hg,fun x vs hpre hinv=>?_⟩
 have hsz:2=vs.size:=hpre.size
 obtain ⟨v,u,rfl⟩:∃ v u,vs = #[v,u]:=by
  obtain ⟨l⟩:=vs
  match l,hsz with
  | [v,u],_=>exact ⟨v,u,rfl⟩
 have r0:=hpre.rep 0 _ v rfl rfl
 have r1:=hpre.rep 1 _ u rfl rfl
 obtain ⟨hG,hO⟩:=hpre.ob
 obtain ⟨h1,h2,ws,h3,h4,h5⟩:=hO
 have hρ:x.ρ (0,0)=v:=by cases r0 with | row _ _ A n c _ hvv=>exact hvv
 obtain rfl:u = .func (.func g) #[] #[]:=by
  cases r1 with
  | fn _ _ cs hl _=>
    have:cs = #[]:=Array.eq_empty_of_size_eq_zero hl.symm
    rw [this]
 rw [hρ] at h3
 obtain ⟨vs0,hp0⟩:=Option.isSome_iff_exists.1 plain
 have hvs:ws=vs0:=Zhc _ hp0 ws (by rw [ZW els h1];exact h3.1.symm) h4
 rw [← hvs] at hp0
 refine (calls x.W v ws h3 hp0).mono ?_
 rintro e' W' ⟨vs',rfl,hp',hown',hgr⟩
 have hnF:∀ b o,x.F b o→¬ blk v=some b:=fun b o hF hb=>by
  have:=((h5 b (by rw [hρ];exact hb)).2 o hF).1
  cases this
 have hD:∀ b,¬ Dr x b→¬ blk v=some b:=fun b hb e=>hb (by unfold Dr;rw [hρ];exact e)
 refine ⟨⟨x.G,x.F,W',x.ρ⟩,.tuple #[],rfl,rfl,⟨⟨fun _ h=>⟨h,rfl⟩,fun _ _ h=>h,fun b o w hF hw=>(World.cell?_of_block (hgr.block b (hpre.flt b o hF) (hnF b o hF))).trans hw⟩,⟨hgr.os,hgr.tape,hgr.output,hgr.size,fun b hb hn=>hgr.block b hb (hD b hn)⟩,fun _ _ h=>.inl h,fun b o hb=>Nat.lt_of_lt_of_le (hpre.flt b o hb) hgr.size,.tup [] #[] rfl (fun i p v hp=>by simp at hp),⟨len,pure,vs',?_,fun m p w hm hw=>?_,fun b hb=>⟨(h5 b hb).1,fun o ho=>absurd ((h5 b hb).2 o ho).1 (by simp)⟩⟩⟩⟩
 ·show W'.ownsRow 0 E k (x.ρ (0,0)) els'.length vs'
  rw [hρ]
  exact hown'
 ·obtain ⟨w2,h6,h7⟩:=Zfe hp' hm
  rw [hw] at h6
  injection h6 with h6
  subst h6
  rw [← h7]
  exact Zfm _ w
section
variable {α:Type} (le:α→α→Bool)
def Zsy (x:α):List α→List α
 | []=>[x]
 | y::l=>if le x y=true then x::y::l else y::Zsy x l
def Zd0:List α→List α
 | []=>[]
 | x::l=>Zsy le x (Zd0 l)
theorem Zjk (x:α):∀ l:List α,(Zsy le x l).Perm (x::l)
 | []=>.refl _
 | y::l=>by
   unfold Zsy
   split
   ·exact .refl _
   ·exact ((Zjk x l).cons y).trans (.swap x y l)
theorem Zd1:∀ l:List α,(Zd0 le l).Perm l
 | []=>.refl _
 | x::l=>(Zjk le x _).trans ((Zd1 l).cons x)
variable {le}
theorem ZpZ (ht:∀ a b c,le a b=true→le b c=true→le a c=true) (hl:∀ a b,(le a b||le b a)=true) (x:α):∀ l:List α,l.Pairwise (fun a b=>le a b=true)→(Zsy le x l).Pairwise fun a b=>le a b=true
 | [],_=>by simp [Zsy]
 | y::l,h=>by
   unfold Zsy
   have hy:=List.pairwise_cons.1 h
   split
   ·rename_i hx
    exact List.pairwise_cons.2 ⟨fun z hz=>by
     rcases List.mem_cons.1 hz with rfl | hz
     ·exact hx
     ·exact ht _ _ _ hx (hy.1 z hz),h⟩
   ·rename_i hx
    refine List.pairwise_cons.2 ⟨fun z hz=>?_,ZpZ ht hl x l hy.2⟩
    rcases List.mem_cons.1 ((Zjk le x l).mem_iff.1 hz) with rfl | hz
    ·have:=hl z y
     simp only [Bool.or_eq_true] at this
     exact this.resolve_left hx
    ·exact hy.1 z hz
theorem Zjl (ht:∀ a b c,le a b=true→le b c=true→le a c=true) (hl:∀ a b,(le a b||le b a)=true):∀ l:List α,(Zd0 le l).Pairwise fun a b=>le a b=true
 | []=>.nil
 | x::l=>ZpZ ht hl x _ (Zjl ht hl l)
theorem Zl1 (ht:∀ a b c,le a b=true→le b c=true→le a c=true) (hl:∀ a b,(le a b||le b a)=true) (ha:∀ a b,le a b=true→le b a=true→a=b) (l:List α):l.mergeSort le=Zd0 le l:=
 List.Perm.eq_of_pairwise (fun _ _ _ _ h k=>ha _ _ h k) (List.pairwise_mergeSort ht hl l) (Zjl ht hl l) ((List.mergeSort_perm l le).trans (Zd1 le l).symm)
end
def leC {α:Type} (cf:α→α→Int) (x y:α):Bool:=!ltOf cf y x
theorem Zl2 {α:Type} {cf:α→α→Int} (hO:SWO (ltOf cf)) (a b c:α) (h:leC cf a b=true) (k:leC cf b c=true):leC cf a c=true:=by
 unfold leC at *
 simp only [Bool.not_eq_true'] at *
 exact hO.ntrans _ _ _ k h
theorem Zl3 {α:Type} {cf:α→α→Int} (hO:SWO (ltOf cf)) (a b:α):(leC cf a b||leC cf b a)=true:=by
 unfold leC
 cases h:ltOf cf b a with
 | false=>rfl
 | true=>
   cases h2:ltOf cf a b with
   | false=>rfl
   | true=>
     have:=hO.trans _ _ _ h h2
     rw [hO.irrefl] at this
     cases this
theorem Znh {α:Type} {cf:α→α→Int} (hT:∀ x y,ltOf cf x y=false→ltOf cf y x=false→x=y) (a b:α) (h:leC cf a b=true) (k:leC cf b a=true):a=b:=by
 unfold leC at *
 simp only [Bool.not_eq_true'] at *
 exact hT a b k h
theorem ZjB {α:Type} [Inhabited α] (enc:α→List Value) (k:Nat) (hk:∀ x,(enc x).length=k) {w:World} {g cap n:Nat} {cur:Array Value} {E:TypeId} {M:List α} (os:Array Obj) (hb:w.heap[g]? = some (.cells cur E (0,0))) (h1:M.length≤cap) (h2:cap≤maxLen) (h3:cur.size=cap * k) :
  (sortWorldK enc k w g 0 n M.toArray os).ownsRow 0 E k (.slice (some ⟨g,0,none⟩) M.length cap) M.length (M.flatMap enc)∧Gr (fun b=>blk (.slice (some ⟨g,0,none⟩) M.length cap)=some b) w (sortWorldK enc k w g 0 n M.toArray os):=by
 obtain ⟨o1,o2⟩:=Zmh (n:=n) enc k hk (M:=M) hb h1 h2 h3
 have hg:g<w.heap.size:=(Array.getElem?_eq_some_iff.1 hb).1
 have hold:∀ b,b<(putRowK enc k (Sort.ahead w n) g 0 M.toArray).heap.size→(sortWorldK enc k w g 0 n M.toArray os).heap[b]? = (putRowK enc k (Sort.ahead w n) g 0 M.toArray).heap[b]?:=fun b hb=>by
  show (_++os)[b]? = _
  rw [Array.getElem?_append_left hb]
 have hsz:w.heap.size≤(putRowK enc k (Sort.ahead w n) g 0 M.toArray).heap.size:=o2.size
 refine ⟨⟨o1.1,?_⟩,o2.os,o2.tape,o2.output,Nat.le_trans hsz (by show _≤(_++os).size;simp),fun b hb hn=>(hold b (Nat.lt_of_lt_of_le hb hsz)).trans (o2.block b hb hn)⟩
 rcases o1.2 with h | ⟨b,c,cu,q1,q2,q3,q4⟩
 ·exact .inl h
 ·injection q1 with q5 q6 q7
  injection q5 with q5
  injection q5 with q5
  subst q5 q7
  exact .inr ⟨g,cap,cu,rfl,q2,by rw [hold g (Nat.lt_of_lt_of_le hg hsz)];exact q3,q4⟩
theorem Zj9 {P:Program} [WInv P] {α:Type} [Inhabited α] {f g:FuncId} {E k:Nat} {cs:α→List PV} {enc:α→List Value} (hg:isGo P f=true) (hpl:∀ x,Zbi (cs x)=some (enc x)) (hk:∀ x,(enc x).length=k) (hc:∀ x,(cs x).length=k) (hp:∀ x,∀ p ∈ cs x,p.pure=true) {cf:α→α→Int} (hO:SWO (ltOf cf)) (hT:∀ x y,ltOf cf x y=false→ltOf cf y x=false→x=y)
  (hnone:∀ (cap:Nat) (W:World) (A:Option Addr),Calls P f #[.slice A 0 cap,.func (.func g) #[] #[]] W fun e w'=>e = .returned (.tuple #[])∧w'=W)
  (hsort:∀ (blk off cap:Nat) (d:Array α) (w:World),HoldsK enc k w blk off d→blk<w.heap.size→d.size<4611686018427387904→Calls P f #[.slice (some ⟨blk,off,none⟩) d.size cap,.func (.func g) #[] #[]] w fun e w'=>e = .returned (.tuple #[])∧∃ n os,w'=sortWorldK enc k w blk off n (d.toList.mergeSort fun x y=>!(ltOf cf) y x).toArray os)
  (M:List α) (hM:M.length<4611686018427387904):ContractR P f [.fn g []] E k (M.map cs) (.tup []) ((Zd0 (leC cf) M).map cs):=by
 refine Zjj hg (fun e he=>?_) (fun e he p hpp=>?_) (by rw [ZdD hpl];rfl) fun W v vs hown hvs=>?_
 ·obtain ⟨x,_,rfl⟩:=List.mem_map.1 he
  exact hc x
 ·obtain ⟨x,_,rfl⟩:=List.mem_map.1 he
  exact hp x p hpp
 ·rw [ZdD hpl] at hvs
  injection hvs with hvs
  subst hvs
  rw [List.length_map] at hown
  have hlen:(Zd0 (leC cf) M).length=M.length:=(Zd1 _ M).length_eq
  rcases hown.2 with ⟨hn,h0⟩ | ⟨b,cap,cur,hv,hB,hh,h1,h2,h3,ht⟩
  ·obtain rfl:M = []:=List.eq_nil_of_length_eq_zero h0
   subst hn
   refine (hnone 0 W none).mono ?_
   rintro e w' ⟨rfl,rfl⟩
   exact ⟨[],rfl,rfl,World.ownsRow_nil _ _ _ _,Gr.refl _ _⟩
  ·subst hv
   have hH:=Znw enc k hk hh ht
   have:=hsort b 0 cap M.toArray W hH (Array.getElem?_eq_some_iff.1 hh).1 (by simpa using hM)
   refine Calls.mono this ?_
   rintro e w' ⟨rfl,n,os,rfl⟩
   rw [show M.toArray.toList=M from rfl,Zl1 (le:=fun x y=>!(ltOf cf) y x) (Zl2 hO) (Zl3 hO) (Znh hT)]
   obtain ⟨o1,o2⟩:=ZjB (n:=n) enc k hk (M:=Zd0 (leC cf) M) os hh (by omega) h2 h3
   rw [hlen] at o1 o2
   refine ⟨(Zd0 (leC cf) M).flatMap enc,rfl,ZdD hpl _,?_,?_⟩
   ·rw [List.length_map,hlen]
    exact o1
   ·exact o2
end VL
end Go.Proofs.YtjblgpmagampbaaGreatDoor
namespace Go.Proofs.YtjblgpmagampbaaGreatDoor
namespace VL
open Go.Sort
structure CmpLaws {α:Type} (c:α→α→Int):Prop where
 zero:∀ x y,c x y=0↔x=y
 neg:∀ x y,c x y<0↔0<c y x
 trans:∀ x y z,c x y<0→c y z<0→c x z<0
theorem CmpLaws.swo {α:Type} {c:α→α→Int} (h:CmpLaws c):SWO (ltOf c) where
 irrefl x:=by
  have:=(h.zero x x).2 rfl
  unfold ltOf
  rw [this]
  rfl
 trans x y z h1 h2:=by
  unfold ltOf at *
  simp only [decide_eq_true_eq] at *
  exact h.trans x y z h1 h2
 ntrans x y z h1 h2:=by
  unfold ltOf at *
  simp only [decide_eq_false_iff_not] at *
  intro h3
  by_cases e1:x=y
  ·subst e1
   exact h2 h3
  by_cases e2:y=z
  ·subst e2
   exact h1 h3
  have n1:c y x<0:=(h.neg y x).2 (by have:¬ c x y=0:=fun e=>e1 ((h.zero x y).1 e)
                                     omega)
  have n2:c z y<0:=(h.neg z y).2 (by have:¬ c y z=0:=fun e=>e2 ((h.zero y z).1 e)
                                     omega)
  have n3:=h.trans z y x n2 n1
  have:=(h.neg x z).1 h3
  omega
theorem CmpLaws.tot {α:Type} {c:α→α→Int} (h:CmpLaws c) (x y:α) (h1:ltOf c x y=false) (h2:ltOf c y x=false):x=y:=by
 unfold ltOf at *
 simp only [decide_eq_false_iff_not] at *
 have:=(h.neg y x).2
 exact (h.zero x y).1 (by omega)
def ZmK (a b:Int):Int:=if a=0 then b else a
theorem CmpLaws.lex {α β γ:Type} {c:β→β→Int} {d:γ→γ→Int} (hc:CmpLaws c) (hd:CmpLaws d) {f:α→β} {g:α→γ} (hi:∀ x y,f x=f y→g x=g y→x=y):CmpLaws fun x y=>ZmK (c (f x) (f y)) (d (g x) (g y)) where
 zero x y:=by
  unfold ZmK
  by_cases h:c (f x) (f y)=0
  ·rw [if_pos h]
   exact ⟨fun h2=>hi x y ((hc.zero _ _).1 h) ((hd.zero _ _).1 h2),fun h2=>by rw [h2];exact (hd.zero _ _).2 rfl⟩
  ·rw [if_neg h]
   exact ⟨fun h2=>absurd h2 h,fun h2=>absurd ((hc.zero _ _).2 (by rw [h2])) h⟩
 neg x y:=by
  unfold ZmK
  by_cases h:f x=f y
  ·rw [if_pos ((hc.zero _ _).2 h),if_pos ((hc.zero _ _).2 h.symm)]
   exact hd.neg _ _
  ·rw [if_neg (fun e=>h ((hc.zero _ _).1 e)),if_neg (fun e=>h ((hc.zero _ _).1 e).symm)]
   exact hc.neg _ _
 trans x y z:=by
  unfold ZmK
  by_cases h1:f x=f y
  ·rw [if_pos ((hc.zero _ _).2 h1),h1]
   by_cases h2:c (f y) (f z)=0
   ·rw [if_pos h2,if_pos h2]
    exact hd.trans _ _ _
   ·rw [if_neg h2,if_neg h2]
    exact fun _ h=>h
  ·rw [if_neg (fun e=>h1 ((hc.zero _ _).1 e))]
   by_cases h2:f y=f z
   ·rw [if_pos ((hc.zero _ _).2 h2),← h2,if_neg (fun e=>h1 ((hc.zero _ _).1 e))]
    exact fun h _=>h
   ·rw [if_neg (fun e=>h2 ((hc.zero _ _).1 e))]
    intro h3 h4
    have h5:=hc.trans _ _ _ h3 h4
    rw [if_neg (by omega)]
    exact h5
theorem cmpInt_laws:CmpLaws Lib.compareInt where
 zero x y:=by
  unfold Lib.compareInt
  split
  ·omega
  ·split<;>omega
 neg x y:=by
  unfold Lib.compareInt
  split<;>split<;>(try split)<;>omega
 trans x y z:=by
  unfold Lib.compareInt
  intro h1 h2
  split at h1
  ·split at h2
   ·rw [if_pos (by omega)];decide
   ·split at h2<;>omega
  ·split at h1<;>omega
theorem Zgt:∀ a b:List UInt8,Lib.compareBytes a b=0↔a=b
 | [],[]=>by simp [Lib.compareBytes]
 | [],_::_=>by simp [Lib.compareBytes]
 | _::_,[]=>by simp [Lib.compareBytes]
 | a::l,b::m=>by
   unfold Lib.compareBytes
   split
   ·rename_i h
    refine Iff.intro (fun h2=>absurd h2 (by decide)) (fun h2=>?_)
    have h3:a=b:=(List.cons.inj h2).1
    rw [h3] at h
    exact absurd h (UInt8.lt_irrefl _)
   split
   ·rename_i h
    refine Iff.intro (fun h2=>absurd h2 (by decide)) (fun h2=>?_)
    have h3:a=b:=(List.cons.inj h2).1
    rw [h3] at h
    exact absurd h (UInt8.lt_irrefl _)
   ·rename_i h1 h2
    rw [Zgt l m]
    have:a=b:=UInt8.le_antisymm (UInt8.not_lt.1 h2) (UInt8.not_lt.1 h1)
    rw [this]
    simp
theorem Zhx:∀ a b:List UInt8,Lib.compareBytes a b<0↔0<Lib.compareBytes b a
 | [],[]=>by simp [Lib.compareBytes]
 | [],_::_=>by simp [Lib.compareBytes]
 | _::_,[]=>by simp [Lib.compareBytes]
 | a::l,b::m=>by
   unfold Lib.compareBytes
   by_cases h:a<b
   ·rw [if_pos h,if_neg (fun h2=>UInt8.lt_irrefl _ (UInt8.lt_trans h h2)),if_pos h]
    decide
   ·rw [if_neg h]
    by_cases h2:b<a
    ·rw [if_pos h2,if_pos h2]
     decide
    ·rw [if_neg h2,if_neg h2,if_neg h]
     exact Zhx l m
theorem ZfY:∀ a b c:List UInt8,Lib.compareBytes a b<0→Lib.compareBytes b c<0→Lib.compareBytes a c<0
 | _,[],[],_,h2=>by simp [Lib.compareBytes] at h2
 | [],_,_::_,_,_=>by simp [Lib.compareBytes]
 | _::_,[],_,h1,_=>by simp [Lib.compareBytes] at h1
 | _,_::_,[],_,h2=>by simp [Lib.compareBytes] at h2
 | a::l,b::m,c::n,h1,h2=>by
   unfold Lib.compareBytes at *
   by_cases hab:a<b
   ·by_cases hbc:b<c
    ·rw [if_pos (UInt8.lt_trans hab hbc)];decide
    ·rw [if_neg hbc] at h2
     by_cases hcb:c<b
     ·rw [if_pos hcb] at h2;exact absurd h2 (by decide)
     ·have:b=c:=UInt8.le_antisymm (UInt8.not_lt.1 hcb) (UInt8.not_lt.1 hbc)
      rw [if_pos (by rw [← this];exact hab)];decide
   ·rw [if_neg hab] at h1
    by_cases hba:b<a
    ·rw [if_pos hba] at h1;exact absurd h1 (by decide)
    ·have e:a=b:=UInt8.le_antisymm (UInt8.not_lt.1 hba) (UInt8.not_lt.1 hab)
     subst e
     rw [if_neg hba] at h1
     by_cases hbc:a<c
     ·rw [if_pos hbc];decide
     ·rw [if_neg hbc] at h2 ⊢
      by_cases hcb:c<a
      ·rw [if_pos hcb] at h2;exact absurd h2 (by decide)
      ·rw [if_neg hcb] at h2 ⊢
       exact ZfY l m n h1 h2
theorem cmpStr_laws:CmpLaws fun a b:ByteArray=>Lib.compareBytes a.data.toList b.data.toList where
 zero x y:=by
  rw [Zgt]
  exact ⟨fun h=>by obtain ⟨⟨x⟩⟩:=x;obtain ⟨⟨y⟩⟩:=y;exact congrArg (fun l:List UInt8=>(⟨⟨l⟩⟩:ByteArray)) h,fun h=>by rw [h]⟩
 neg x y:=Zhx _ _
 trans x y z:=ZfY _ _ _
end VL
end Go.Proofs.YtjblgpmagampbaaGreatDoor
namespace Go.Proofs.YtjblgpmagampbaaGreatDoor
open VL
theorem Zjh {α:Type} {lt:α→α→Prop} (asy:∀ a b,lt a b→¬ lt b a):∀ {l r:List α},l.Pairwise lt→r.Pairwise lt→(∀ x,x ∈ l↔x ∈ r)→l=r
 | [],[],_,_,_=>rfl
 | [],y::r,_,_,h=>absurd ((h y).2 (List.mem_cons_self ..)) (by simp)
 | x::l,[],_,_,h=>absurd ((h x).1 (List.mem_cons_self ..)) (by simp)
 | x::l,y::r,hl,hr,h=>by
   obtain ⟨l1,l2⟩:=List.pairwise_cons.1 hl
   obtain ⟨r1,r2⟩:=List.pairwise_cons.1 hr
   have e:x=y:=by
    rcases List.mem_cons.1 ((h x).1 (List.mem_cons_self ..)) with e | hx
    ·exact e
    ·rcases List.mem_cons.1 ((h y).2 (List.mem_cons_self ..)) with e | hy
     ·exact e.symm
     ·exact absurd (l1 y hy) (asy _ _ (r1 x hx))
   subst e
   refine congrArg _ (Zjh asy l2 r2 fun z=>⟨fun hz=>?_,fun hz=>?_⟩)
   ·rcases List.mem_cons.1 ((h z).1 (List.mem_cons_of_mem _ hz)) with e | h
    ·subst e;exact absurd (l1 z hz) (asy _ _ (l1 z hz))
    ·exact h
   ·rcases List.mem_cons.1 ((h z).2 (List.mem_cons_of_mem _ hz)) with e | h
    ·subst e;exact absurd (r1 z hz) (asy _ _ (r1 z hz))
    ·exact h
theorem ZrC {α:Type} {p:α→Bool} {y:α}:∀ l:List α,y ∈ l.takeWhile p→p y=true
 | [],h=>by cases h
 | x::l,h=>by
   rw [List.takeWhile_cons] at h
   by_cases hx:p x=true
   ·rw [if_pos hx] at h
    rcases List.mem_cons.1 h with rfl | h
    ·exact hx
    ·exact ZrC l h
   ·rw [if_neg hx] at h
    cases h
section
variable {α κ:Type} [DecidableEq κ] {c:κ→κ→Int} {key:α→κ}
abbrev Asc (c:κ→κ→Int) (key:α→κ) (l:List α):Prop:=l.Pairwise fun a b=>c (key a) (key b)<0
def Zj7 (c:κ→κ→Int) (key:α→κ) (l:List α) (x:α):List α:=match l.dropWhile (fun y=>decide (c (key y) (key x)<0)) with
 | []=>l ++ [x]
 | y::b=>if key y=key x then l else l.takeWhile (fun y=>decide (c (key y) (key x)<0))++x::y::b
omit [DecidableEq κ] in
theorem Zss (h:CmpLaws c) (a b:κ) (k:c a b<0):¬ c b a<0:=by
 have:=(h.neg a b).1 k
 omega
omit [DecidableEq κ] in
theorem ZpT (h:CmpLaws c) {a b:κ} (k:c a b<0):a≠b:=fun e=>by
 have:=(h.zero a b).2 e
 omega
theorem Zij (h:CmpLaws c):∀ {l:List α},Asc c key l→∀ e ∈ l,l.find? (fun x=>decide (key x=key e))=some e
 | [],_,e,h=>by cases h
 | y::l,hp,e,he=>by
   obtain ⟨h1,h2⟩:=List.pairwise_cons.1 hp
   rw [List.find?_cons]
   rcases List.mem_cons.1 he with rfl | he
   ·rw [decide_eq_true rfl]
   ·rw [decide_eq_false (ZpT h (h1 e he))]
    exact Zij h h2 e he
theorem Zq8 (h:CmpLaws c) {l r:List α} (hl:Asc c key l) (hr:Asc c key r) (e:∀ k,l.find? (fun x=>decide (key x=k))=r.find? (fun x=>decide (key x=k))):l=r:=by
 refine Zjh (fun a b=>Zss h _ _) hl hr fun x=>⟨fun hx=>?_,fun hx=>?_⟩
 ·exact List.mem_of_find?_eq_some ((e (key x)).symm.trans (Zij h hl x hx))
 ·exact List.mem_of_find?_eq_some ((e (key x)).trans (Zij h hr x hx))
theorem Zg0 (c:κ→κ→Int) (key:α→κ) (l:List α) (x:α):∃ A B,l=A++B∧(∀ y ∈ A,c (key y) (key x)<0)∧l.takeWhile (fun y=>decide (c (key y) (key x)<0))=A∧((B = []∧Zj7 c key l x=l ++ [x])∨∃ y b,B=y::b∧¬ c (key y) (key x)<0∧((key y=key x∧Zj7 c key l x=l)∨(¬ key y=key x∧Zj7 c key l x=A++x::y::b))):=by
 refine ⟨l.takeWhile (fun y=>decide (c (key y) (key x)<0)),l.dropWhile (fun y=>decide (c (key y) (key x)<0)),(List.takeWhile_append_dropWhile ..).symm,fun y hy=>?_,rfl,?_⟩
 ·exact of_decide_eq_true (p:=c (key y) (key x)<0) (ZrC (p:=fun y=>decide (c (key y) (key x)<0)) l hy)
 ·unfold Zj7
  cases hd:l.dropWhile (fun y=>decide (c (key y) (key x)<0)) with
  | nil=>exact .inl ⟨rfl,rfl⟩
  | cons y b=>
    refine .inr ⟨y,b,rfl,fun hlt=>?_,?_⟩
    ·have:=List.head?_dropWhile_not (fun y=>decide (c (key y) (key x)<0)) l
     rw [hd] at this
     simp at this
     omega
    ·by_cases hq:key y=key x
     ·exact .inl ⟨hq,if_pos hq⟩
     ·exact .inr ⟨hq,if_neg hq⟩
theorem Zst (h:CmpLaws c) {l:List α} (hl:Asc c key l) (x:α):Asc c key (Zj7 c key l x):=by
 obtain ⟨A,B,rfl,hA,_,⟨rfl,e⟩ | ⟨y,b,rfl,hy,⟨hk,e⟩ | ⟨hk,e⟩⟩⟩:=Zg0 c key l x
 ·rw [e]
  refine List.pairwise_append.2 ⟨hl,List.pairwise_singleton _ _,fun a ha b hb=>?_⟩
  rw [List.mem_singleton.1 hb]
  rw [List.append_nil] at ha
  exact hA a ha
 ·rw [e];exact hl
 ·rw [e]
  obtain ⟨p1,p2,p3⟩:=List.pairwise_append.1 hl
  obtain ⟨q1,q2⟩:=List.pairwise_cons.1 p2
  have hxy:c (key x) (key y)<0:=by
   have h0:¬ c (key y) (key x)=0:=fun e=>hk ((h.zero _ _).1 e)
   exact (h.neg _ _).2 (by omega)
  refine List.pairwise_append.2 ⟨p1,List.pairwise_cons.2 ⟨fun z hz=>?_,p2⟩,fun a ha z hz=>?_⟩
  ·rcases List.mem_cons.1 hz with rfl | hz
   ·exact hxy
   ·exact h.trans _ _ _ hxy (q1 z hz)
  ·rcases List.mem_cons.1 hz with rfl | hz
   ·exact hA a ha
   ·exact p3 a ha z hz
theorem Zq9 (h:CmpLaws c) {l:List α} (hl:Asc c key l) (x:α) (k:κ):(Zj7 c key l x).find? (fun z=>decide (key z=k))=(l ++ [x]).find? (fun z=>decide (key z=k)):=by
 obtain ⟨A,B,rfl,hA,_,⟨rfl,e⟩ | ⟨y,b,rfl,hy,⟨hk,e⟩ | ⟨hk,e⟩⟩⟩:=Zg0 c key l x
 ·rw [e]
 ·rw [e]
  by_cases hx:key x=k
  ·have:(A++y::b).find? (fun z=>decide (key z=k))=some y:=by
    have:=Zij h hl y (by simp)
    rwa [hk,hx] at this
   rw [List.find?_append (xs:=A++y::b),this]
   rfl
  ·refine Eq.trans ?_ List.find?_append.symm
   simp [hx]
 ·rw [e]
  by_cases hx:key x=k
  ·subst hx
   have hn:A.find? (fun z=>decide (key z=key x))=none:=List.find?_eq_none.2 fun a ha=>by simp [ZpT h (hA a ha)]
   obtain ⟨p1,p2,p3⟩:=List.pairwise_append.1 hl
   obtain ⟨q1,q2⟩:=List.pairwise_cons.1 p2
   have hxy:c (key x) (key y)<0:=by
    have h0:¬ c (key y) (key x)=0:=fun e=>hk ((h.zero _ _).1 e)
    exact (h.neg _ _).2 (by omega)
   have hb:b.find? (fun z=>decide (key z=key x))=none:=List.find?_eq_none.2 fun a ha=>by simp [(ZpT h (h.trans _ _ _ hxy (q1 a ha))).symm]
   simp [List.find?_append,hn,hb,hk]
  ·simp [List.find?_append,List.find?_cons,hx]
theorem Zsu (l:List α) (x:α):(Zj7 c key l x).length≤l.length+1:=by
 obtain ⟨A,B,rfl,hA,_,⟨rfl,e⟩ | ⟨y,b,rfl,hy,⟨hk,e⟩ | ⟨hk,e⟩⟩⟩:=Zg0 c key l x
 ·rw [e];simp
 ·rw [e];omega
 ·rw [e];simp;omega
theorem ZlY (h:CmpLaws c):∀ (xs l:List α),Asc c key l→Asc c key (xs.foldl (Zj7 c key) l)∧∀ k,(xs.foldl (Zj7 c key) l).find? (fun z=>decide (key z=k))=(l++xs).find? (fun z=>decide (key z=k))
 | [],l,hl=>⟨hl,fun k=>by rw [List.append_nil];rfl⟩
 | x::xs,l,hl=>by
   obtain ⟨h1,h2⟩:=ZlY h xs (Zj7 c key l x) (Zst h hl x)
   refine ⟨h1,fun k=>(h2 k).trans ?_⟩
   rw [List.find?_append,Zq9 h hl,← List.find?_append,List.append_assoc]
   rfl
theorem Zg1 (xs:List α):∀ l:List α,(xs.foldl (Zj7 c key) l).length≤l.length+xs.length:=by
 induction xs with
 | nil=>intro l;exact Nat.le_refl _
 | cons x xs ih=>
   intro l
   have h1:=ih (Zj7 c key l x)
   have h2:=Zsu (c:=c) (key:=key) l x
   simp only [List.foldl_cons,List.length_cons]
   omega
end
end Go.Proofs.YtjblgpmagampbaaGreatDoor
namespace Go.Proofs.YtjblgpmagampbaaGreatDoor
namespace VL
theorem Zhp {p q:Prop} (k:q) (h:q→p:=by
 (intro k)
 (first
  | refine Zm rfl (by (conv=>lhs;whnf);try rfl) ?_
  | refine ZA rfl rfl rfl ?_
  | refine Zi rfl rfl ?_
  | refine Zn rfl (by (conv=>lhs;whnf);try rfl) ?_
  | refine ZL rfl rfl rfl rfl (by (conv=>lhs;whnf);try rfl) ?_
  | refine ZhU rfl rfl rfl rfl (by (conv=>lhs;whnf);try rfl) ?_
  | refine Zak rfl rfl ?_
  | refine Zj2 rfl rfl ?_
  | refine ZrA rfl rfl ?_
  | refine Zrz rfl rfl rfl rfl ?_
  | refine Ztj rfl rfl rfl (by decide) ?_
  | refine ZgT rfl rfl ?_
  | refine Zjw rfl (by (conv=>lhs;whnf);try rfl) (by (conv=>lhs;whnf);try rfl) (by rfl) ?_
  | refine ZcK rfl rfl ?_
  | refine Zap rfl rfl rfl (by (conv=>lhs;whnf);try rfl) (by (conv=>lhs;whnf);try rfl) (by rfl) (by rfl) (Nat.le_of_ble_eq_true rfl) (by (conv=>lhs;whnf);try rfl) ?_
  | refine Zbg rfl rfl ?_
  | refine ZP rfl rfl rfl (by rfl) (by decide) (by (conv=>lhs;whnf);try rfl) ?_
  | refine Zez rfl rfl rfl ?_
  | refine Zqg rfl rfl ?_
  | refine ZaL rfl rfl (by (conv=>lhs;whnf);try rfl) ?_
  | refine g_field rfl rfl rfl ?_
  | refine Zc ?_
  | refine ZbS (by kernel_rfl) ?_
  | refine Zh ?_
  | refine Za ?_
  | refine ZU ?_
  | refine Zz ?_
  | refine ZaY ?_
  | refine ZaR ?_
  | refine Zx ?_
  | refine ZcN ?_
  | refine ZpH ?_
  | refine ZJ ?_
  | refine Zgo ?_
  | refine ZpI ?_)
 (exact k)):p:=h k
instance:Ld Tryz.prog 3 false 1:=⟨by kernel_rfl⟩
instance:Kd Tryz.prog 3 .i64:=⟨by kernel_rfl⟩
instance:Ld Tryz.prog 4 false 1:=⟨by kernel_rfl⟩
instance:Ld Tryz.prog 5 false 1:=⟨by kernel_rfl⟩
instance:Kd Tryz.prog 5 .u8:=⟨by kernel_rfl⟩
instance:Ld Tryz.prog 9 false 1:=⟨by kernel_rfl⟩
instance:Sl Tryz.prog 22 34 5 64 [.int .i64 0,.str ⟨#[]⟩,.int .i64 0,.str ⟨#[]⟩,.str ⟨#[]⟩]:=⟨by kernel_rfl,rfl,rfl⟩
instance:Ze Tryz.prog 24 [.int .i64 0,.str ⟨#[]⟩]:=⟨by kernel_rfl⟩
instance:Ld Tryz.prog 24 true 2:=⟨by kernel_rfl⟩
instance:EqT Tryz.prog 24:=⟨by kernel_rfl⟩
instance:Fld Tryz.prog 24 0 0 false 1:=⟨by kernel_rfl,rfl⟩
instance:Fld Tryz.prog 24 1 1 false 1:=⟨by kernel_rfl,rfl⟩
instance:St Tryz.prog 24 [some (0,1),some (1,1)] [.int .i64 0,.str ⟨#[]⟩]:=⟨by kernel_rfl⟩
instance:Ld Tryz.prog 25 false 1:=⟨by kernel_rfl⟩
instance:Sl Tryz.prog 25 3 1 8 [.int .i64 0]:=⟨by kernel_rfl,rfl,rfl⟩
instance:Sl Tryz.prog 27 24 2 24 [.int .i64 0,.str ⟨#[]⟩]:=⟨by kernel_rfl,rfl,rfl⟩
instance:Ze Tryz.prog 32 [.int .i64 0,.str ⟨#[]⟩,.str ⟨#[]⟩]:=⟨by kernel_rfl⟩
instance:Ld Tryz.prog 32 true 3:=⟨by kernel_rfl⟩
instance:Fld Tryz.prog 32 0 0 true 2:=⟨by kernel_rfl,rfl⟩
instance:Fld Tryz.prog 32 1 2 false 1:=⟨by kernel_rfl,rfl⟩
instance:St Tryz.prog 32 [some (0,2),some (2,1)] [.int .i64 0,.str ⟨#[]⟩,.str ⟨#[]⟩]:=⟨by kernel_rfl⟩
instance:Ze Tryz.prog 34 [.int .i64 0,.str ⟨#[]⟩,.int .i64 0,.str ⟨#[]⟩,.str ⟨#[]⟩]:=⟨by kernel_rfl⟩
instance:Ld Tryz.prog 34 true 5:=⟨by kernel_rfl⟩
instance:EqT Tryz.prog 34:=⟨by kernel_rfl⟩
instance:Fld Tryz.prog 34 0 0 true 2:=⟨by kernel_rfl,rfl⟩
instance:Fld Tryz.prog 34 1 2 true 3:=⟨by kernel_rfl,rfl⟩
instance:St Tryz.prog 34 [some (0,2),some (2,3)] [.int .i64 0,.str ⟨#[]⟩,.int .i64 0,.str ⟨#[]⟩,.str ⟨#[]⟩]:=⟨by kernel_rfl⟩
instance:Ld Tryz.prog 38 false 1:=⟨by kernel_rfl⟩
instance:Sl Tryz.prog 38 88 4 48 [.int .i64 0,.str ⟨#[]⟩,.str ⟨#[]⟩,.int .i64 0]:=⟨by kernel_rfl,rfl,rfl⟩
instance:Sl Tryz.prog 44 9 1 16 [.str ⟨#[]⟩]:=⟨by kernel_rfl,rfl,rfl⟩
instance:Ze Tryz.prog 47 [.nil,.nil,.nil,.nil,.nil,.int .i64 0,.nil]:=⟨by kernel_rfl⟩
instance:Ld Tryz.prog 47 true 7:=⟨by kernel_rfl⟩
instance:Fld Tryz.prog 47 0 0 false 1:=⟨by kernel_rfl,rfl⟩
instance:St Tryz.prog 47 [some (0,1),some (1,3),some (4,1),some (5,1),some (6,1)] [.nil,.nil,.nil,.nil,.nil,.int .i64 0,.nil]:=⟨by kernel_rfl⟩
instance:Ze Tryz.prog 88 [.int .i64 0,.str ⟨#[]⟩,.str ⟨#[]⟩,.int .i64 0]:=⟨by kernel_rfl⟩
instance:Ld Tryz.prog 88 true 4:=⟨by kernel_rfl⟩
instance:Fld Tryz.prog 88 0 0 true 2:=⟨by kernel_rfl,rfl⟩
instance:St Tryz.prog 88 [some (0,2),some (2,1),some (3,1)] [.int .i64 0,.str ⟨#[]⟩,.str ⟨#[]⟩,.int .i64 0]:=⟨by kernel_rfl⟩
instance:Ix Tryz.prog 95 4:=⟨by kernel_rfl⟩
instance:Az Tryz.prog 95 1 [.str ⟨#[]⟩,.str ⟨#[]⟩,.str ⟨#[]⟩,.str ⟨#[]⟩]:=⟨by kernel_rfl,by kernel_rfl⟩
instance:Sl Tryz.prog 113 116 3 40 [.int .i64 0,.str ⟨#[]⟩,.str ⟨#[]⟩]:=⟨by kernel_rfl,rfl,rfl⟩
instance:Ze Tryz.prog 116 [.int .i64 0,.str ⟨#[]⟩,.str ⟨#[]⟩]:=⟨by kernel_rfl⟩
instance:Ld Tryz.prog 116 true 3:=⟨by kernel_rfl⟩
instance:Fld Tryz.prog 116 0 0 true 2:=⟨by kernel_rfl,rfl⟩
instance:Fld Tryz.prog 116 1 2 false 1:=⟨by kernel_rfl,rfl⟩
instance:St Tryz.prog 116 [some (0,2),some (2,1)] [.int .i64 0,.str ⟨#[]⟩,.str ⟨#[]⟩]:=⟨by kernel_rfl⟩
instance:Ze Tryz.prog 123 [.str ⟨#[]⟩,.str ⟨#[]⟩,.str ⟨#[]⟩]:=⟨by kernel_rfl⟩
instance:Ld Tryz.prog 123 true 3:=⟨by kernel_rfl⟩
instance:Ix Tryz.prog 123 3:=⟨by kernel_rfl⟩
instance:Az Tryz.prog 123 1 [.str ⟨#[]⟩,.str ⟨#[]⟩,.str ⟨#[]⟩]:=⟨by kernel_rfl,by kernel_rfl⟩
instance:Ld Tryz.prog 124 false 1:=⟨by kernel_rfl⟩
instance:Kd Tryz.prog 124 .u64:=⟨by kernel_rfl⟩
instance:Fld Tryz.prog 126 0 0 false 1:=⟨by kernel_rfl,rfl⟩
instance:Fld Tryz.prog 126 1 1 false 1:=⟨by kernel_rfl,rfl⟩
instance:Fld Tryz.prog 126 2 2 false 1:=⟨by kernel_rfl,rfl⟩
instance:St Tryz.prog 126 [some (0,1),some (1,1),some (2,1)] [.nil,.int .i64 0,.int .u64 0]:=⟨by kernel_rfl⟩
instance:Kd Tryz.prog 127 .u64:=⟨by kernel_rfl⟩
instance:Ld Tryz.prog 128 false 1:=⟨by kernel_rfl⟩
instance:Sl Tryz.prog 128 185 3 32 [.int .i64 0,.int .i64 0,.str ⟨#[]⟩]:=⟨by kernel_rfl,rfl,rfl⟩
instance:Ld Tryz.prog 129 false 1:=⟨by kernel_rfl⟩
instance:Sl Tryz.prog 129 32 3 40 [.int .i64 0,.str ⟨#[]⟩,.str ⟨#[]⟩]:=⟨by kernel_rfl,rfl,rfl⟩
instance:Ld Tryz.prog 176 false 1:=⟨by kernel_rfl⟩
instance:Sl Tryz.prog 176 197 5 80 [.int .i64 0,.int .i64 0,.str ⟨#[]⟩,.nil,.nil]:=⟨by kernel_rfl,rfl,rfl⟩
instance:Fld Tryz.prog 181 0 0 false 1:=⟨by kernel_rfl,rfl⟩
instance:Fld Tryz.prog 181 1 1 false 1:=⟨by kernel_rfl,rfl⟩
instance:St Tryz.prog 181 [some (0,1),some (1,1)] [.nil,.nil]:=⟨by kernel_rfl⟩
instance:Ld Tryz.prog 185 true 3:=⟨by kernel_rfl⟩
instance:EqT Tryz.prog 185:=⟨by kernel_rfl⟩
instance:St Tryz.prog 185 [some (0,1),some (1,2)] [.int .i64 0,.int .i64 0,.str ⟨#[]⟩]:=⟨by kernel_rfl⟩
instance:Ld Tryz.prog 195 false 1:=⟨by kernel_rfl⟩
instance:Sl Tryz.prog 195 256 3 56 [.bool false,.nil,.nil]:=⟨by kernel_rfl,rfl,rfl⟩
instance:Ze Tryz.prog 197 [.int .i64 0,.int .i64 0,.str ⟨#[]⟩,.nil,.nil]:=⟨by kernel_rfl⟩
instance:Ld Tryz.prog 197 true 5:=⟨by kernel_rfl⟩
instance:Fld Tryz.prog 197 0 0 false 1:=⟨by kernel_rfl,rfl⟩
instance:Fld Tryz.prog 197 1 1 false 1:=⟨by kernel_rfl,rfl⟩
instance:Fld Tryz.prog 197 2 2 false 1:=⟨by kernel_rfl,rfl⟩
instance:Fld Tryz.prog 197 3 3 false 1:=⟨by kernel_rfl,rfl⟩
instance:Fld Tryz.prog 197 4 4 false 1:=⟨by kernel_rfl,rfl⟩
instance:St Tryz.prog 197 [some (0,1),some (1,1),some (2,1),some (3,1),some (4,1)] [.int .i64 0,.int .i64 0,.str ⟨#[]⟩,.nil,.nil]:=⟨by kernel_rfl⟩
instance:Sl Tryz.prog 239 250 3 24 [.int .i64 0,.int .i64 0,.int .i64 0]:=⟨by kernel_rfl,rfl,rfl⟩
instance:Ld Tryz.prog 243 false 1:=⟨by kernel_rfl⟩
instance:Fld Tryz.prog 245 0 0 false 1:=⟨by kernel_rfl,rfl⟩
instance:Fld Tryz.prog 245 1 1 false 1:=⟨by kernel_rfl,rfl⟩
instance:Fld Tryz.prog 245 2 2 false 1:=⟨by kernel_rfl,rfl⟩
instance:Fld Tryz.prog 245 3 3 false 1:=⟨by kernel_rfl,rfl⟩
instance:Fld Tryz.prog 245 4 4 false 1:=⟨by kernel_rfl,rfl⟩
instance:St Tryz.prog 245 [some (0,1),some (1,1),some (2,1),some (3,1),some (4,1)] [.int .i64 0,.int .i64 0,.int .i64 0,.nil,.nil]:=⟨by kernel_rfl⟩
instance:Ld Tryz.prog 246 false 1:=⟨by kernel_rfl⟩
instance:Sl Tryz.prog 246 243 1 8 [.un]:=⟨by kernel_rfl,rfl,rfl⟩
instance:Fld Tryz.prog 248 0 0 false 1:=⟨by kernel_rfl,rfl⟩
instance:St Tryz.prog 248 [some (0,1)] [.nil]:=⟨by kernel_rfl⟩
instance:Ze Tryz.prog 250 [.int .i64 0,.int .i64 0,.int .i64 0]:=⟨by kernel_rfl⟩
instance:Ld Tryz.prog 250 true 3:=⟨by kernel_rfl⟩
instance:Fld Tryz.prog 250 0 0 false 1:=⟨by kernel_rfl,rfl⟩
instance:Fld Tryz.prog 250 1 1 false 1:=⟨by kernel_rfl,rfl⟩
instance:Fld Tryz.prog 250 2 2 false 1:=⟨by kernel_rfl,rfl⟩
instance:St Tryz.prog 250 [some (0,1),some (1,1),some (2,1)] [.int .i64 0,.int .i64 0,.int .i64 0]:=⟨by kernel_rfl⟩
instance:Ze Tryz.prog 256 [.bool false,.nil,.nil]:=⟨by kernel_rfl⟩
instance:Ld Tryz.prog 256 true 3:=⟨by kernel_rfl⟩
instance:Fld Tryz.prog 256 0 0 false 1:=⟨by kernel_rfl,rfl⟩
instance:Fld Tryz.prog 256 1 1 false 1:=⟨by kernel_rfl,rfl⟩
instance:Fld Tryz.prog 256 2 2 false 1:=⟨by kernel_rfl,rfl⟩
instance:St Tryz.prog 256 [some (0,1),some (1,1),some (2,1)] [.bool false,.nil,.nil]:=⟨by kernel_rfl⟩
instance:Sl Tryz.prog 341 5 1 1 [.int .u8 0]:=⟨by kernel_rfl,rfl,rfl⟩
instance:WInv Tryz.prog:=⟨fun W=>(∃ m,W.cell? ⟨0,0,none⟩=some (.int .i64 m))∧True⟩
theorem mix:Tryz.prog.follows .mixedOrders=true:=by kernel_rfl
end VL
end Go.Proofs.YtjblgpmagampbaaGreatDoor
namespace Go.Proofs.YtjblgpmagampbaaGreatDoor
open Go.RowKit
structure Scope where
 kind:Int
 title:Title
 deriving DecidableEq
structure Rule where
 allow:Bool
 right:Int
 group:ByteArray
 scope:Scope
 deriving DecidableEq
structure Guard where
 strict:Bool
 group:ByteArray
 title:Title
 section_:ByteArray
 deriving DecidableEq
structure Group where
 name:ByteArray
 members:List ByteArray
 deriving DecidableEq
structure Policy where
 groups:List Group
 rules:List Rule
 guards:List Guard
 deriving DecidableEq
structure Page where
 title:Title
 text:ByteArray
 revision:Int
 deriving DecidableEq
structure View where
 pages:List Page
 policy:Policy
 groups:List ByteArray
 clock:Int
 fixed:List Asked
 deriving DecidableEq
end Go.Proofs.YtjblgpmagampbaaGreatDoor
namespace Go.Proofs.YtjblgpmagampbaaGreatDoor
open VL
def Title.cs (x:Title):List PV:=[.int .i64 x.space,.str x.name]
def Title.pv (x:Title):PV:=.agg x.cs
def Asked.cs (x:Asked):List PV:=[.int .i64 x.key.kind,.int .i64 x.key.title.space,.str x.key.title.name,.int .i64 x.key.n,.bool x.answer.ok,.str x.answer.text,.int .i64 x.answer.n]
def Rule.cs (x:Rule):List PV:=[.bool x.allow,.int .i64 x.right,.str x.group,.int .i64 x.scope.kind,.int .i64 x.scope.title.space,.str x.scope.title.name]
def Guard.cs (x:Guard):List PV:=[.bool x.strict,.str x.group,.int .i64 x.title.space,.str x.title.name,.str x.section_]
def Group.cs (x:Group):List PV:=[.str x.name,.sl (x.members.map fun y=>[.str y])]
def Page.cs (x:Page):List PV:=[.int .i64 x.title.space,.str x.title.name,.str x.text,.int .i64 x.revision]
def View.cs (x:View):List PV:=[.sl (x.pages.map Page.cs),.sl (x.policy.groups.map Group.cs),.sl (x.policy.rules.map Rule.cs),.sl (x.policy.guards.map Guard.cs),.sl (x.groups.map fun y=>[.str y]),.int .i64 x.clock,.sl (x.fixed.map Asked.cs)]
def View.pv (x:View):PV:=.agg x.cs
end Go.Proofs.YtjblgpmagampbaaGreatDoor
namespace Go.Proofs.YtjblgpmagampbaaGreatDoor
open VL Go.RowKit
theorem args2 {x:Ctx} {p q:PV} {vs:Array Value} (h:Pre x [p,q] none vs):∃ v w,vs = #[v,w]∧Rep x p v∧Rep x q w:=by
 have hs:vs.size=2:=h.size.symm
 refine ⟨vs[0],vs[1],?_,h.rep 0 p _ rfl (Array.getElem?_eq_getElem (by omega)),h.rep 1 q _ rfl (Array.getElem?_eq_getElem (by omega))⟩
 apply Array.ext
 ·exact hs
 ·intro i h1 h2
  match i,(show i<2 by omega) with
  | 0,_=>rfl
  | 1,_=>rfl
theorem Zr8 {x:Ctx} {s:ByteArray} {v:Value} (h:Rep x (.str s) v):v = .string s:=by cases h;rfl
end Go.Proofs.YtjblgpmagampbaaGreatDoor
