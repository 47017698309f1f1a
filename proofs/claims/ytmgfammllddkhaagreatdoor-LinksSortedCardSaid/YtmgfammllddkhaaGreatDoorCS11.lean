/- Functions of the program as Lean functions. Written by fxgen.py. | == and != of links. | A library function that turns a row of plain values and has a function behind it, as a contract; sorting. No program is named. | Comparisons that order totally. No program is named. | The comparison of two links, in whatever world: blocks and draws are all that come. | DERIVED: THE SHELF's CONTRACTS AT THIS DUMP, IN PLAIN WORDS (tools/lay-plain.mjs out of 'TryzShelf2.lean', which tools/lay-shelf.mjs wrote): THE SAME DECLARATIONS UNDER THE SAME NAMES: 'import', 'namespace', 'open', 'def', 'theorem' AND NOTHING ELSE: no command of the shelf's: FOR A HAND-IN. .. | slices.SortFunc at links, of whatever length. | Functions of the program as Lean functions. Written by fxgen.py. -/
import Derived.Test.YtmgfammllddkhaaGreatDoorCS08
import Derived.Test.YtmgfammllddkhaaGreatDoorCS10
import Derived.Test.YtmgfammllddkhaaGreatDoorCS06
import Derived.Test.YtmgfammllddkhaaGreatDoorCS04
import Derived.Shelf.SlSortCmp.NoneTotal
import Derived.Lib.Bytealg
import Derived.Lib.Small
import Derived.Shelf.SlGeneric
import Derived.Ground.SlsfProg
import Derived.Test.YtmgfammllddkhaaGreatDoorProg
set_option linter.unusedVariables false
set_option maxHeartbeats 4000000
set_option maxRecDepth 100000
namespace Go.Proofs.YtmgfammllddkhaaGreatDoor
open VL
def ZcC (p0:Int):Option Bool:=
 (some (!decide (p0=p0)):Option Bool)
theorem ZfF (p0:Int) (r:Bool) (h:ZcC p0=some r):Zo Tryz.prog 70 [.int .i64 p0] (.bool r):=by
 refine cF (fun r=>.bool r) h mix Tryz.func70 fun r h=>?_
 unfold ZcC at h
 refine Zq ?_
 refine rg ?_
 refine rg ?_
 cases h
 exact rQ
def cmp_Compare_int (p0:Int) (p1:Int):Option Int:=
 (ZcC p0).bind fun r1=>
 (ZcC p1).bind fun r2=>
 if r1 then
  if r2 then
   (some 0:Option Int)
  else
  (some (-1):Option Int)
 else
 if r2 then
  (some 1:Option Int)
 else
 if (decide (p0<p1)) then
  (some (-1):Option Int)
 else
 if (decide (p1<p0)) then
  (some 1:Option Int)
 else
 (some 0:Option Int)
theorem ZhB (p0:Int) (p1:Int) (r:Int) (h:cmp_Compare_int p0 p1=some r):Zo Tryz.prog 35 [.int .i64 p0,.int .i64 p1] (.int .i64 r):=by
 refine cF (fun r=>.int .i64 r) h mix Tryz.func35 fun r h=>?_
 unfold cmp_Compare_int at h
 refine Zq ?_
 refine rg ?_
 refine rg ?_
 refine aC h (ZfF _) fun r1 h=>?_
 refine rg ?_
 refine aC h (ZfF _) fun r2 h=>?_
 refine rg ?_
 refine cS h rfl (fun h=>?_) fun h=>?_
 ·refine rg ?_
  refine cS h rfl (fun h=>?_) fun h=>?_
  ·refine rg ?_
   cases h
   exact rQ
  refine rg ?_
  cases h
  exact rQ
 refine rg ?_
 refine cS h rfl (fun h=>?_) fun h=>?_
 ·refine rg ?_
  cases h
  exact rQ
 refine rg ?_
 refine cS h rfl (fun h=>?_) fun h=>?_
 ·refine rg ?_
  cases h
  exact rQ
 refine rg ?_
 refine cS h rfl (fun h=>?_) fun h=>?_
 ·refine rg ?_
  cases h
  exact rQ
 refine rg ?_
 cases h
 exact rQ
def ZdO (p0:List Int):Option Int:=
 Zbq Zel (fun f2 (x10:Int)=>
  if (decide (x10<(p0.length:Int))) then
   (atI p0 x10).bind fun e14=>
   if (!decide (e14=0)) then
    (some e14:Option Int)
   else
   f2 (w64 (x10+1))
  else
  (some 0:Option Int)) 0
theorem Zl6 (p0:List Int) (r:Int) (h:ZdO p0=some r):Zo Tryz.prog 34 [.sl (List.map csI p0)] (.int .i64 r):=by
 refine cF (fun r=>.int .i64 r) h mix Tryz.func34 fun r h=>?_
 unfold ZdO at h
 refine Zq ?_
 refine rg ?_
 refine rg ?_
 refine rg ?_
 refine lM csI p0 ?_
 refine bl ?_
 refine ZW h fun f2 mf2 hf2 h=>?_
 refine ZH (α:=Nat×Int) (fun a _=>mkS [(3,.int .i64 0),(6,.sl (List.map csI p0)),(7,.int .i64 (p0.length:Int)),(8,.int .i64 a.2)] [] 2) (fun a=>Zbq a.1 f2 a.2=some r) (fun a=>a.1) (mf2,0) 2 h (sR []) (fun a _ h=>?_)
 obtain ⟨mf2,x10⟩:=a
 obtain ⟨mf2,rfl,h⟩:=ZX hf2 h
 dsimp only at h ⊢
 refine Zq ?_
 refine rg ?_
 refine cS h rfl (fun h=>?_) fun h=>?_
 ·refine bl ?_
  refine rg ?_
  refine aI csI h fun e14 h=>?_
  refine rg ?_
  refine cS h rfl (fun h=>?_) fun h=>?_
  ·refine rg ?_
   cases h
   exact rQ
  refine rg ?_
  exact rn (mf2,(w64 (x10+1))) h (sR [])
 refine rg ?_
 cases h
 exact rQ
def ZcD (p0:Title) (p1:Title):Option Int:=
 (cmp_Compare_int p0.space p1.space).bind fun r1=>
 (strings_Compare p0.name p1.name).bind fun r2=>
 (ZdO [r1,r2]).bind fun r3=>
 (some r3:Option Int)
theorem Zjh (p0:Title) (p1:Title) (r:Int) (h:ZcD p0 p1=some r):Zo Tryz.prog 36 [p0.pv,p1.pv] (.int .i64 r):=by
 refine cF (fun r=>.int .i64 r) h mix Tryz.func36 fun r h=>?_
 unfold ZcD at h
 refine Zq ?_
 refine rg ?_
 refine rg ?_
 refine aC h (ZhB _ _) fun r1 h=>?_
 refine aC h (Zhr _ _) fun r2 h=>?_
 refine bM csI ([r1,r2]:List Int) ?_
 refine aL h (Zl6 _) fun r3 h=>?_
 cases h
 exact rQ
def Zb0 (p0:Memb) (p1:Memb):Option Int:=
 (ZcD p0.category p1.category).bind fun r1=>
 (some r1:Option Int)
theorem ZdB (p0:Memb) (p1:Memb) (r:Int) (h:Zb0 p0 p1=some r):Zo Tryz.prog 38 [p0.pv,p1.pv] (.int .i64 r):=by
 refine cF (fun r=>.int .i64 r) h mix Tryz.func38 fun r h=>?_
 unfold Zb0 at h
 refine Zq ?_
 refine rg ?_
 refine rg ?_
 refine aC h (Zjh _ _) fun r1 h=>?_
 cases h
 exact rQ
def Zec (p0:Memb) (p1:Memb):Option Bool:=
 (some (decide (p0.category=p1.category)):Option Bool)
theorem Zg4 (p0:Memb) (p1:Memb) (r:Bool) (h:Zec p0 p1=some r):Zo Tryz.prog 40 [p0.pv,p1.pv] (.bool r):=by
 refine cF (fun r=>.bool r) h mix Tryz.func40 fun r h=>?_
 unfold Zec at h
 refine Zq ?_
 refine rg ?_
 refine rg ?_
 refine ZoX (.inl rfl) rfl rfl rfl rfl rfl (fun W=>Zru p0.category p1.category W) (Zq ?_)
 cases h
 exact rQ
end Go.Proofs.YtmgfammllddkhaaGreatDoor
namespace Go.Proofs.YtmgfammllddkhaaGreatDoor
open Go.RowKit
theorem Ztv (a b:Link) (W:World):(binOp .eql 42 (.agg #[.int .i64 a.kind,.int .i64 a.title.space,.string a.title.name]) (.agg #[.int .i64 b.kind,.int .i64 b.title.space,.string b.title.name])).run Tryz.prog W = .ok (.bool (decide (a=b))) W:=by
 have e:(if a.kind=b.kind then if a.title.space=b.title.space then if a.title.name.toList=b.title.name.toList then true else false else false else false)=(decide (a=b)):=by
  obtain ⟨a1,⟨a2,a3⟩⟩:=a
  obtain ⟨b1,⟨b2,b3⟩⟩:=b
  simp only [Link.mk.injEq,Title.mk.injEq,ZdP]
  (repeat' split)<;>simp_all
 rw [← e]
 go_simp
 (repeat' split)<;>simp_all
theorem Zp6 (a b:Link) (W:World):(binOp .neq 42 (.agg #[.int .i64 a.kind,.int .i64 a.title.space,.string a.title.name]) (.agg #[.int .i64 b.kind,.int .i64 b.title.space,.string b.title.name])).run Tryz.prog W = .ok (.bool (!decide (a=b))) W:=by
 have e:(if a.kind=b.kind then if a.title.space=b.title.space then if a.title.name.toList=b.title.name.toList then false else true else true else true)=(!decide (a=b)):=by
  obtain ⟨a1,⟨a2,a3⟩⟩:=a
  obtain ⟨b1,⟨b2,b3⟩⟩:=b
  simp only [Link.mk.injEq,Title.mk.injEq,ZdP]
  (repeat' split)<;>simp_all
 rw [← e]
 go_simp
 (repeat' split)<;>simp_all
theorem Ztw (a b:Memb) (W:World):(binOp .neq 45 (.agg #[.int .i64 a.category.space,.string a.category.name,.string a.sort]) (.agg #[.int .i64 b.category.space,.string b.category.name,.string b.sort])).run Tryz.prog W = .ok (.bool (!decide (a=b))) W:=by
 have e:(if a.category.space=b.category.space then if a.category.name.toList=b.category.name.toList then if a.sort.toList=b.sort.toList then false else true else true else true)=(!decide (a=b)):=by
  obtain ⟨⟨a1,a2⟩,a3⟩:=a
  obtain ⟨⟨b1,b2⟩,b3⟩:=b
  simp only [Memb.mk.injEq,Title.mk.injEq,ZdP]
  (repeat' split)<;>simp_all
 rw [← e]
 go_simp
 (repeat' split)<;>simp_all
end Go.Proofs.YtmgfammllddkhaaGreatDoor
namespace Go.Proofs.YtmgfammllddkhaaGreatDoor
namespace VL
open Go.RowKit Go.Sort
theorem Zi0 {P:Program} [WInv P] {f g:FuncId} {E k:Nat} {els els':List (List PV)} (hg:isGo P f=true) (len:∀ e ∈ els',e.length=k) (pure:∀ e ∈ els',∀ p ∈ e,p.pure=true) (plain:(Zbv els.flatten).isSome=true)
  (calls:∀ (W:World) (v:Value) (vs:List Value),W.ownsRow 0 E k v els.length vs→Zbv els.flatten=some vs→Calls P f #[v,.func (.func g) #[] #[]] W fun e W'=>
   ∃ vs',e = .returned (.tuple #[])∧Zbv els'.flatten=some vs'∧W'.ownsRow 0 E k v els'.length vs'∧Gr (fun b=>blk v=some b) W W'):ContractR P f [.fn g []] E k els (.tup []) els':=by
 refine ⟨hg,fun x vs hpre hinv=>?_⟩
 have hsz:2=vs.size:=hpre.size
 obtain ⟨v,u,rfl⟩:∃ v u,vs = #[v,u]:=by
  obtain ⟨l⟩:=vs
  match l,hsz with
  | [v,u],_=>exact ⟨v,u,rfl⟩
 have r0:=hpre.rep 0 _ v rfl rfl
 have r1:=hpre.rep 1 _ u rfl rfl
 obtain ⟨hG,hO⟩:=hpre.ob
 obtain ⟨h1,h2,ws,h3,h4,h5⟩:=hO
 have hρ:x.ρ (0,0)=v:=by cases r0 with | row _ _ A n c _ hvv=>exact hvv
 obtain rfl:u = .func (.func g) #[] #[]:=by
  cases r1 with
  | fn _ _ cs hl _=>
    have:cs = #[]:=Array.eq_empty_of_size_eq_zero hl.symm
    rw [this]
 rw [hρ] at h3
 obtain ⟨vs0,hp0⟩:=Option.isSome_iff_exists.1 plain
 have hvs:ws=vs0:=Zhp _ hp0 ws (by rw [Zah els h1];exact h3.1.symm) h4
 rw [← hvs] at hp0
 refine (calls x.W v ws h3 hp0).mono ?_
 rintro e' W' ⟨vs',rfl,hp',hown',hgr⟩
 have hnF:∀ b o,x.F b o→¬ blk v=some b:=fun b o hF hb=>by
  have:=((h5 b (by rw [hρ];exact hb)).2 o hF).1
  cases this
 have hD:∀ b,¬ Dr x b→¬ blk v=some b:=fun b hb e=>hb (by unfold Dr;rw [hρ];exact e)
 refine ⟨⟨x.G,x.F,W',x.ρ⟩,.tuple #[],rfl,rfl,⟨⟨fun _ h=>⟨h,rfl⟩,fun _ _ h=>h,fun b o w hF hw=>(World.cell?_of_block (hgr.block b (hpre.flt b o hF) (hnF b o hF))).trans hw⟩,⟨hgr.os,hgr.tape,hgr.output,hgr.size,fun b hb hn=>hgr.block b hb (hD b hn)⟩,fun _ _ h=>.inl h,fun b o hb=>Nat.lt_of_lt_of_le (hpre.flt b o hb) hgr.size,.tup [] #[] rfl (fun i p v hp=>by simp at hp),⟨len,pure,vs',?_,fun m p w hm hw=>?_,fun b hb=>⟨(h5 b hb).1,fun o ho=>absurd ((h5 b hb).2 o ho).1 (by simp)⟩⟩⟩⟩
 ·show W'.ownsRow 0 E k (x.ρ (0,0)) els'.length vs'
  rw [hρ]
  exact hown'
 ·obtain ⟨w2,h6,h7⟩:=Zfy hp' hm
  rw [hw] at h6
  injection h6 with h6
  subst h6
  rw [← h7]
  exact Zg2 _ w
section
variable {α:Type} (le:α→α→Bool)
def Zh5 (x:α):List α→List α
 | []=>[x]
 | y::l=>if le x y=true then x::y::l else y::Zh5 x l
def Zak:List α→List α
 | []=>[]
 | x::l=>Zh5 le x (Zak l)
theorem Zi1 (x:α):∀ l:List α,(Zh5 le x l).Perm (x::l)
 | []=>.refl _
 | y::l=>by
   unfold Zh5
   split
   ·exact .refl _
   ·exact ((Zi1 x l).cons y).trans (.swap x y l)
theorem ZcX:∀ l:List α,(Zak le l).Perm l
 | []=>.refl _
 | x::l=>(Zi1 le x _).trans ((ZcX l).cons x)
variable {le}
theorem ZpU (ht:∀ a b c,le a b=true→le b c=true→le a c=true) (hl:∀ a b,(le a b||le b a)=true) (x:α):∀ l:List α,l.Pairwise (fun a b=>le a b=true)→(Zh5 le x l).Pairwise fun a b=>le a b=true
 | [],_=>by simp [Zh5]
 | y::l,h=>by
   unfold Zh5
   have hy:=List.pairwise_cons.1 h
   split
   ·rename_i hx
    exact List.pairwise_cons.2 ⟨fun z hz=>by
     rcases List.mem_cons.1 hz with rfl | hz
     ·exact hx
     ·exact ht _ _ _ hx (hy.1 z hz),h⟩
   ·rename_i hx
    refine List.pairwise_cons.2 ⟨fun z hz=>?_,ZpU ht hl x l hy.2⟩
    rcases List.mem_cons.1 ((Zi1 le x l).mem_iff.1 hz) with rfl | hz
    ·have:=hl z y
     simp only [Bool.or_eq_true] at this
     exact this.resolve_left hx
    ·exact hy.1 z hz
theorem ZeK (ht:∀ a b c,le a b=true→le b c=true→le a c=true) (hl:∀ a b,(le a b||le b a)=true):∀ l:List α,(Zak le l).Pairwise fun a b=>le a b=true
 | []=>.nil
 | x::l=>ZpU ht hl x _ (ZeK ht hl l)
theorem ZlH (ht:∀ a b c,le a b=true→le b c=true→le a c=true) (hl:∀ a b,(le a b||le b a)=true) (ha:∀ a b,le a b=true→le b a=true→a=b) (l:List α):l.mergeSort le=Zak le l:=
 List.Perm.eq_of_pairwise (fun _ _ _ _ h k=>ha _ _ h k) (List.pairwise_mergeSort ht hl l) (ZeK ht hl l) ((List.mergeSort_perm l le).trans (ZcX le l).symm)
end
def leC {α:Type} (cf:α→α→Int) (x y:α):Bool:=!ltOf cf y x
theorem Zi2 {α:Type} {cf:α→α→Int} (hO:SWO (ltOf cf)) (a b c:α) (h:leC cf a b=true) (k:leC cf b c=true):leC cf a c=true:=by
 unfold leC at *
 simp only [Bool.not_eq_true'] at *
 exact hO.ntrans _ _ _ k h
theorem Zi3 {α:Type} {cf:α→α→Int} (hO:SWO (ltOf cf)) (a b:α):(leC cf a b||leC cf b a)=true:=by
 unfold leC
 cases h:ltOf cf b a with
 | false=>rfl
 | true=>
   cases h2:ltOf cf a b with
   | false=>rfl
   | true=>
     have:=hO.trans _ _ _ h h2
     rw [hO.irrefl] at this
     cases this
theorem Znz {α:Type} {cf:α→α→Int} (hT:∀ x y,ltOf cf x y=false→ltOf cf y x=false→x=y) (a b:α) (h:leC cf a b=true) (k:leC cf b a=true):a=b:=by
 unfold leC at *
 simp only [Bool.not_eq_true'] at *
 exact hT a b k h
theorem ZjH {α:Type} [Inhabited α] (enc:α→List Value) (k:Nat) (hk:∀ x,(enc x).length=k) {w:World} {g cap n:Nat} {cur:Array Value} {E:TypeId} {M:List α} (os:Array Obj) (hb:w.heap[g]? = some (.cells cur E (0,0))) (h1:M.length≤cap) (h2:cap≤maxLen) (h3:cur.size=cap * k) :
  (sortWorldK enc k w g 0 n M.toArray os).ownsRow 0 E k (.slice (some ⟨g,0,none⟩) M.length cap) M.length (M.flatMap enc)∧Gr (fun b=>blk (.slice (some ⟨g,0,none⟩) M.length cap)=some b) w (sortWorldK enc k w g 0 n M.toArray os):=by
 obtain ⟨o1,o2⟩:=ZmP (n:=n) enc k hk (M:=M) hb h1 h2 h3
 have hg:g<w.heap.size:=(Array.getElem?_eq_some_iff.1 hb).1
 have hold:∀ b,b<(putRowK enc k (Sort.ahead w n) g 0 M.toArray).heap.size→(sortWorldK enc k w g 0 n M.toArray os).heap[b]? = (putRowK enc k (Sort.ahead w n) g 0 M.toArray).heap[b]?:=fun b hb=>by
  show (_++os)[b]? = _
  rw [Array.getElem?_append_left hb]
 have hsz:w.heap.size≤(putRowK enc k (Sort.ahead w n) g 0 M.toArray).heap.size:=o2.size
 refine ⟨⟨o1.1,?_⟩,o2.os,o2.tape,o2.output,Nat.le_trans hsz (by show _≤(_++os).size;simp),fun b hb hn=>(hold b (Nat.lt_of_lt_of_le hb hsz)).trans (o2.block b hb hn)⟩
 rcases o1.2 with h | ⟨b,c,cu,q1,q2,q3,q4⟩
 ·exact .inl h
 ·injection q1 with q5 q6 q7
  injection q5 with q5
  injection q5 with q5
  subst q5 q7
  exact .inr ⟨g,cap,cu,rfl,q2,by rw [hold g (Nat.lt_of_lt_of_le hg hsz)];exact q3,q4⟩
theorem Zoj {P:Program} [WInv P] {α:Type} [Inhabited α] {f g:FuncId} {E k:Nat} {cs:α→List PV} {enc:α→List Value} (hg:isGo P f=true) (hpl:∀ x,Zbv (cs x)=some (enc x)) (hk:∀ x,(enc x).length=k) (hc:∀ x,(cs x).length=k) (hp:∀ x,∀ p ∈ cs x,p.pure=true) {cf:α→α→Int} (hO:SWO (ltOf cf)) (hT:∀ x y,ltOf cf x y=false→ltOf cf y x=false→x=y)
  (hnone:∀ (cap:Nat) (W:World) (A:Option Addr),Calls P f #[.slice A 0 cap,.func (.func g) #[] #[]] W fun e w'=>e = .returned (.tuple #[])∧w'=W)
  (hsort:∀ (blk off cap:Nat) (d:Array α) (w:World),HoldsK enc k w blk off d→blk<w.heap.size→d.size<4611686018427387904→Calls P f #[.slice (some ⟨blk,off,none⟩) d.size cap,.func (.func g) #[] #[]] w fun e w'=>e = .returned (.tuple #[])∧∃ n os,w'=sortWorldK enc k w blk off n (d.toList.mergeSort fun x y=>!(ltOf cf) y x).toArray os)
  (M:List α) (hM:M.length<4611686018427387904):ContractR P f [.fn g []] E k (M.map cs) (.tup []) ((Zak (leC cf) M).map cs):=by
 refine Zi0 hg (fun e he=>?_) (fun e he p hpp=>?_) (by rw [Zd4 hpl];rfl) fun W v vs hown hvs=>?_
 ·obtain ⟨x,_,rfl⟩:=List.mem_map.1 he
  exact hc x
 ·obtain ⟨x,_,rfl⟩:=List.mem_map.1 he
  exact hp x p hpp
 ·rw [Zd4 hpl] at hvs
  injection hvs with hvs
  subst hvs
  rw [List.length_map] at hown
  have hlen:(Zak (leC cf) M).length=M.length:=(ZcX _ M).length_eq
  rcases hown.2 with ⟨hn,h0⟩ | ⟨b,cap,cur,hv,hB,hh,h1,h2,h3,ht⟩
  ·obtain rfl:M = []:=List.eq_nil_of_length_eq_zero h0
   subst hn
   refine (hnone 0 W none).mono ?_
   rintro e w' ⟨rfl,rfl⟩
   exact ⟨[],rfl,rfl,World.ownsRow_nil _ _ _ _,Gr.refl _ _⟩
  ·subst hv
   have hH:=Zoi enc k hk hh ht
   have:=hsort b 0 cap M.toArray W hH (Array.getElem?_eq_some_iff.1 hh).1 (by simpa using hM)
   refine Calls.mono this ?_
   rintro e w' ⟨rfl,n,os,rfl⟩
   rw [show M.toArray.toList=M from rfl,ZlH (le:=fun x y=>!(ltOf cf) y x) (Zi2 hO) (Zi3 hO) (Znz hT)]
   obtain ⟨o1,o2⟩:=ZjH (n:=n) enc k hk (M:=Zak (leC cf) M) os hh (by omega) h2 h3
   rw [hlen] at o1 o2
   refine ⟨(Zak (leC cf) M).flatMap enc,rfl,Zd4 hpl _,?_,?_⟩
   ·rw [List.length_map,hlen]
    exact o1
   ·exact o2
end VL
end Go.Proofs.YtmgfammllddkhaaGreatDoor
namespace Go.Proofs.YtmgfammllddkhaaGreatDoor
namespace VL
open Go.Sort
structure CmpLaws {α:Type} (c:α→α→Int):Prop where
 zero:∀ x y,c x y=0↔x=y
 neg:∀ x y,c x y<0↔0<c y x
 trans:∀ x y z,c x y<0→c y z<0→c x z<0
theorem CmpLaws.swo {α:Type} {c:α→α→Int} (h:CmpLaws c):SWO (ltOf c) where
 irrefl x:=by
  have:=(h.zero x x).2 rfl
  unfold ltOf
  rw [this]
  rfl
 trans x y z h1 h2:=by
  unfold ltOf at *
  simp only [decide_eq_true_eq] at *
  exact h.trans x y z h1 h2
 ntrans x y z h1 h2:=by
  unfold ltOf at *
  simp only [decide_eq_false_iff_not] at *
  intro h3
  by_cases e1:x=y
  ·subst e1
   exact h2 h3
  by_cases e2:y=z
  ·subst e2
   exact h1 h3
  have n1:c y x<0:=(h.neg y x).2 (by have:¬ c x y=0:=fun e=>e1 ((h.zero x y).1 e)
                                     omega)
  have n2:c z y<0:=(h.neg z y).2 (by have:¬ c y z=0:=fun e=>e2 ((h.zero y z).1 e)
                                     omega)
  have n3:=h.trans z y x n2 n1
  have:=(h.neg x z).1 h3
  omega
theorem CmpLaws.tot {α:Type} {c:α→α→Int} (h:CmpLaws c) (x y:α) (h1:ltOf c x y=false) (h2:ltOf c y x=false):x=y:=by
 unfold ltOf at *
 simp only [decide_eq_false_iff_not] at *
 have:=(h.neg y x).2
 exact (h.zero x y).1 (by omega)
def ZpG (a b:Int):Int:=if a=0 then b else a
theorem CmpLaws.lex {α β γ:Type} {c:β→β→Int} {d:γ→γ→Int} (hc:CmpLaws c) (hd:CmpLaws d) {f:α→β} {g:α→γ} (hi:∀ x y,f x=f y→g x=g y→x=y):CmpLaws fun x y=>ZpG (c (f x) (f y)) (d (g x) (g y)) where
 zero x y:=by
  unfold ZpG
  by_cases h:c (f x) (f y)=0
  ·rw [if_pos h]
   exact ⟨fun h2=>hi x y ((hc.zero _ _).1 h) ((hd.zero _ _).1 h2),fun h2=>by rw [h2];exact (hd.zero _ _).2 rfl⟩
  ·rw [if_neg h]
   exact ⟨fun h2=>absurd h2 h,fun h2=>absurd ((hc.zero _ _).2 (by rw [h2])) h⟩
 neg x y:=by
  unfold ZpG
  by_cases h:f x=f y
  ·rw [if_pos ((hc.zero _ _).2 h),if_pos ((hc.zero _ _).2 h.symm)]
   exact hd.neg _ _
  ·rw [if_neg (fun e=>h ((hc.zero _ _).1 e)),if_neg (fun e=>h ((hc.zero _ _).1 e).symm)]
   exact hc.neg _ _
 trans x y z:=by
  unfold ZpG
  by_cases h1:f x=f y
  ·rw [if_pos ((hc.zero _ _).2 h1),h1]
   by_cases h2:c (f y) (f z)=0
   ·rw [if_pos h2,if_pos h2]
    exact hd.trans _ _ _
   ·rw [if_neg h2,if_neg h2]
    exact fun _ h=>h
  ·rw [if_neg (fun e=>h1 ((hc.zero _ _).1 e))]
   by_cases h2:f y=f z
   ·rw [if_pos ((hc.zero _ _).2 h2),← h2,if_neg (fun e=>h1 ((hc.zero _ _).1 e))]
    exact fun h _=>h
   ·rw [if_neg (fun e=>h2 ((hc.zero _ _).1 e))]
    intro h3 h4
    have h5:=hc.trans _ _ _ h3 h4
    rw [if_neg (by omega)]
    exact h5
theorem cmpInt_laws:CmpLaws Lib.compareInt where
 zero x y:=by
  unfold Lib.compareInt
  split
  ·omega
  ·split<;>omega
 neg x y:=by
  unfold Lib.compareInt
  split<;>split<;>(try split)<;>omega
 trans x y z:=by
  unfold Lib.compareInt
  intro h1 h2
  split at h1
  ·split at h2
   ·rw [if_pos (by omega)];decide
   ·split at h2<;>omega
  ·split at h1<;>omega
theorem ZgQ:∀ a b:List UInt8,Lib.compareBytes a b=0↔a=b
 | [],[]=>by simp [Lib.compareBytes]
 | [],_::_=>by simp [Lib.compareBytes]
 | _::_,[]=>by simp [Lib.compareBytes]
 | a::l,b::m=>by
   unfold Lib.compareBytes
   split
   ·rename_i h
    refine Iff.intro (fun h2=>absurd h2 (by decide)) (fun h2=>?_)
    have h3:a=b:=(List.cons.inj h2).1
    rw [h3] at h
    exact absurd h (UInt8.lt_irrefl _)
   split
   ·rename_i h
    refine Iff.intro (fun h2=>absurd h2 (by decide)) (fun h2=>?_)
    have h3:a=b:=(List.cons.inj h2).1
    rw [h3] at h
    exact absurd h (UInt8.lt_irrefl _)
   ·rename_i h1 h2
    rw [ZgQ l m]
    have:a=b:=UInt8.le_antisymm (UInt8.not_lt.1 h2) (UInt8.not_lt.1 h1)
    rw [this]
    simp
theorem ZhS:∀ a b:List UInt8,Lib.compareBytes a b<0↔0<Lib.compareBytes b a
 | [],[]=>by simp [Lib.compareBytes]
 | [],_::_=>by simp [Lib.compareBytes]
 | _::_,[]=>by simp [Lib.compareBytes]
 | a::l,b::m=>by
   unfold Lib.compareBytes
   by_cases h:a<b
   ·rw [if_pos h,if_neg (fun h2=>UInt8.lt_irrefl _ (UInt8.lt_trans h h2)),if_pos h]
    decide
   ·rw [if_neg h]
    by_cases h2:b<a
    ·rw [if_pos h2,if_pos h2]
     decide
    ·rw [if_neg h2,if_neg h2,if_neg h]
     exact ZhS l m
theorem Zgg:∀ a b c:List UInt8,Lib.compareBytes a b<0→Lib.compareBytes b c<0→Lib.compareBytes a c<0
 | _,[],[],_,h2=>by simp [Lib.compareBytes] at h2
 | [],_,_::_,_,_=>by simp [Lib.compareBytes]
 | _::_,[],_,h1,_=>by simp [Lib.compareBytes] at h1
 | _,_::_,[],_,h2=>by simp [Lib.compareBytes] at h2
 | a::l,b::m,c::n,h1,h2=>by
   unfold Lib.compareBytes at *
   by_cases hab:a<b
   ·by_cases hbc:b<c
    ·rw [if_pos (UInt8.lt_trans hab hbc)];decide
    ·rw [if_neg hbc] at h2
     by_cases hcb:c<b
     ·rw [if_pos hcb] at h2;exact absurd h2 (by decide)
     ·have:b=c:=UInt8.le_antisymm (UInt8.not_lt.1 hcb) (UInt8.not_lt.1 hbc)
      rw [if_pos (by rw [← this];exact hab)];decide
   ·rw [if_neg hab] at h1
    by_cases hba:b<a
    ·rw [if_pos hba] at h1;exact absurd h1 (by decide)
    ·have e:a=b:=UInt8.le_antisymm (UInt8.not_lt.1 hba) (UInt8.not_lt.1 hab)
     subst e
     rw [if_neg hba] at h1
     by_cases hbc:a<c
     ·rw [if_pos hbc];decide
     ·rw [if_neg hbc] at h2 ⊢
      by_cases hcb:c<a
      ·rw [if_pos hcb] at h2;exact absurd h2 (by decide)
      ·rw [if_neg hcb] at h2 ⊢
       exact Zgg l m n h1 h2
theorem ZmK:CmpLaws fun a b:ByteArray=>Lib.compareBytes a.data.toList b.data.toList where
 zero x y:=by
  rw [ZgQ]
  exact ⟨fun h=>by obtain ⟨⟨x⟩⟩:=x;obtain ⟨⟨y⟩⟩:=y;exact congrArg (fun l:List UInt8=>(⟨⟨l⟩⟩:ByteArray)) h,fun h=>by rw [h]⟩
 neg x y:=ZhS _ _
 trans x y z:=Zgg _ _ _
end VL
end Go.Proofs.YtmgfammllddkhaaGreatDoor
namespace Go.Proofs.YtmgfammllddkhaaGreatDoor
open Go.RowKit
open Go.Sort (grow grow_grow alloc_eq_grow)
def Gw (w w':World):Prop:=∃ (q:Nat) (os:Array Obj),w'=grow (w.drewN q) os
theorem Gw.refl (w:World):Gw w w:=⟨0,#[],by simp [grow,World.drewN]⟩
theorem Gw.alloc {w w':World} (h:Gw w w') (o:Obj):Gw w (w'.alloc o):=by
 obtain ⟨q,os,rfl⟩:=h
 exact ⟨q,os ++ #[o],by rw [alloc_eq_grow,grow_grow]⟩
theorem Gw.drew {w w':World} (h:Gw w w'):Gw w w'.drew:=by
 obtain ⟨q,os,rfl⟩:=h
 exact ⟨q+1,os,rfl⟩
theorem Gw.trans {a b c:World} (h:Gw a b) (k:Gw b c):Gw a c:=by
 obtain ⟨q,os,rfl⟩:=h
 obtain ⟨q2,os2,rfl⟩:=k
 refine ⟨q+q2,os++os2,?_⟩
 simp [grow,World.drewN,Array.append_assoc,Nat.add_assoc]
theorem Gw.below {w w':World} (h:Gw w w'):Below w.heap.size w w':=by
 obtain ⟨q,os,rfl⟩:=h
 refine ⟨rfl,rfl,rfl,by simp [grow,World.drewN],fun k hk=>?_⟩
 show (w.heap++os)[k]? = w.heap[k]?
 rw [Array.getElem?_append_left hk]
set_option maxHeartbeats 400000 in
theorem ZiZ (a b:Title) (w:World):Calls Tryz.prog 36 #[.agg #[.int .i64 a.space,.string a.name],.agg #[.int .i64 b.space,.string b.name]] w fun e w'=>e = .returned (.int .i64 (Title.cmp a b))∧Gw w w':=by
 go_enter Tryz.func36,Tryz.ntmps36
 go_wp2
 generalize hw1:(w.alloc _).alloc _=w1
 have c0:w1.cell? ⟨w.heap.size,0,none⟩=some (.int .i64 a.space):=by subst hw1;go_simp
 have c1:w1.cell? ⟨w.heap.size,1,none⟩=some (.string a.name):=by subst hw1;go_simp
 have c2:w1.cell? ⟨w.heap.size+1,0,none⟩=some (.int .i64 b.space):=by subst hw1;go_simp
 have c3:w1.cell? ⟨w.heap.size+1,1,none⟩=some (.string b.name):=by subst hw1;go_simp
 have hb:Gw w w1:=by subst hw1;exact ((Gw.refl _).alloc _).alloc _
 have HB:=Lib.hid hb
 clear hw1 hb
 go_region_held3 (fun W=>W.cell? ⟨w.heap.size,0,none⟩=some (.int .i64 a.space)∧W.cell? ⟨w.heap.size,1,none⟩=some (.string a.name)∧W.cell? ⟨w.heap.size+1,0,none⟩=some (.int .i64 b.space)∧W.cell? ⟨w.heap.size+1,1,none⟩=some (.string b.name)) (first | exact ⟨c0,c1,c2,c3⟩ | (refine ⟨?_,?_,?_,?_⟩<;>first | exact re1 (((Below.refl _ _).alloc (Nat.le_refl _) _).drew) (ZbJ (by assumption)) (by assumption))) (first | (go_at_call 35;refine (Zke _ _ _).mono ?_;rintro e w' ⟨rfl,rfl⟩) | (go_at_call 71;refine (Zkf _ _ _).mono ?_;rintro e w' ⟨rfl,rfl⟩)  | (go_at_call 34;refine (ZsN _ _ _ [Lib.compareInt a.space b.space,Lib.compareBytes a.name.data.toList b.name.data.toList] _ (by exact SlR.built (fun x:Int=>[.int .i64 x]) (fun _ _ _=>rfl) _ _ rfl (by decide) rfl)).mono ?_;rintro e w' ⟨rfl,rfl⟩))
 go_wp2
 go_ret
 exact ⟨rfl,(HB.out.alloc _).drew⟩
def Zcj (a b:Link):Int:=orI [Lib.compareInt a.kind b.kind,Title.cmp a.title b.title]
def Zgv (x:Link):List Value:=[.int .i64 x.kind,.int .i64 x.title.space,.string x.title.name]
set_option maxHeartbeats 1000000 in
theorem ZjE (a b:Link) (w:World):Calls Tryz.prog 33 #[.agg (Zgv a).toArray,.agg (Zgv b).toArray] w fun e w'=>e = .returned (.int .i64 (Zcj a b))∧Gw w w':=by
 unfold Zgv
 go_enter Tryz.func33,Tryz.ntmps33
 go_wp2
 generalize hw1:(w.alloc _).alloc _=w1
 have c0:w1.cell? ⟨w.heap.size,0,none⟩=some (.int .i64 a.kind):=by subst hw1;go_simp
 have c1:w1.cell? ⟨w.heap.size,1,none⟩=some (.int .i64 a.title.space):=by subst hw1;go_simp
 have c2:w1.cell? ⟨w.heap.size,2,none⟩=some (.string a.title.name):=by subst hw1;go_simp
 have c3:w1.cell? ⟨w.heap.size+1,0,none⟩=some (.int .i64 b.kind):=by subst hw1;go_simp
 have c4:w1.cell? ⟨w.heap.size+1,1,none⟩=some (.int .i64 b.title.space):=by subst hw1;go_simp
 have c5:w1.cell? ⟨w.heap.size+1,2,none⟩=some (.string b.title.name):=by subst hw1;go_simp
 have hb:Gw w w1:=by subst hw1;exact ((Gw.refl _).alloc _).alloc _
 have HB:=Lib.hid hb
 have HF:Hid (∀ W,Gw w1 W→W.cell? ⟨w.heap.size,0,none⟩=some (.int .i64 a.kind)∧W.cell? ⟨w.heap.size,1,none⟩=some (.int .i64 a.title.space)∧W.cell? ⟨w.heap.size,2,none⟩=some (.string a.title.name)∧W.cell? ⟨w.heap.size+1,0,none⟩=some (.int .i64 b.kind)∧W.cell? ⟨w.heap.size+1,1,none⟩=some (.int .i64 b.title.space)∧W.cell? ⟨w.heap.size+1,2,none⟩=some (.string b.title.name)):=Lib.hid fun W hW=>⟨re1 hW.below (ZbJ c0) c0,re1 hW.below (ZbJ c1) c1,re1 hW.below (ZbJ c2) c2,re1 hW.below (ZbJ c3) c3,re1 hW.below (ZbJ c4) c4,re1 hW.below (ZbJ c5) c5⟩
 clear hw1 hb
 go_region_held3 (fun W=>Gw w1 W∧W.cell? ⟨w.heap.size,0,none⟩=some (.int .i64 a.kind)∧W.cell? ⟨w.heap.size,1,none⟩=some (.int .i64 a.title.space)∧W.cell? ⟨w.heap.size,2,none⟩=some (.string a.title.name)∧W.cell? ⟨w.heap.size+1,0,none⟩=some (.int .i64 b.kind)∧W.cell? ⟨w.heap.size+1,1,none⟩=some (.int .i64 b.title.space)∧W.cell? ⟨w.heap.size+1,2,none⟩=some (.string b.title.name)) (refine ⟨?_,HF.out _ ?_⟩<;>(repeat' first | assumption | exact Gw.refl _ | apply Gw.drew | apply Gw.alloc)) (first | (go_at_call 35;refine (Zke _ _ _).mono ?_;rintro e w' ⟨rfl,rfl⟩) | (go_at_call 36;refine (ZiZ a.title b.title _).mono ?_;rintro e w2 ⟨rfl,hb2⟩;have hb3:Gw w1 w2:=Gw.trans (by (repeat' first | assumption | exact Gw.refl _ | apply Gw.drew | apply Gw.alloc)) hb2) | (go_at_call 34;refine (ZsN _ _ _ [Lib.compareInt a.kind b.kind,Title.cmp a.title b.title] _ (by exact SlR.built (fun x:Int=>[.int .i64 x]) (fun _ _ _=>rfl) _ _ rfl (by decide) rfl)).mono ?_;rintro e w' ⟨rfl,rfl⟩))
 go_wp2
 go_ret
 exact ⟨rfl,HB.out.trans (by (repeat' first | assumption | exact Gw.refl _ | apply Gw.drew | apply Gw.alloc))⟩
end Go.Proofs.YtmgfammllddkhaaGreatDoor
namespace Go.Proofs
open Go.Shelf
def Tryz.sortLink_ren:Go.Shelf.Ren:=⟨fun | 6=>32 | 15=>69 | 14=>68 | 28=>127 | 29=>128 | 20=>119 | 21=>120 | 22=>121 | 23=>122 | 24=>123 | 25=>124 | 26=>125 | 27=>126 | 46=>178 | 47=>179 | 48=>180 | 49=>181 | 50=>182 | 57=>212 | n=>n,fun | 22=>23 | 24=>42 | 25=>68 | 3=>3 | 39=>114 | 0=>0 | 53=>160 | 55=>162 | 4=>4 | 46=>153 | 45=>152 | 50=>157 | 5=>5 | 9=>9 | 66=>191 | 70=>195 | 76=>214 | 77=>139 | n=>n,fun | n=>n⟩
theorem Tryz.sortLink:Go.Proofs.SlLaysF0.n6 Tryz.prog Tryz.sortLink_ren:={
 mixed:=by kernel_rfl
 f6:=⟨Tryz.f32.name,by decide,Tryz.func32.trans (congrArg some (by kernel_rfl))⟩
 f14:=⟨Tryz.f68.name,by decide,Tryz.func68.trans (congrArg some (by kernel_rfl))⟩
 f15:=Tryz.func69.trans (congrArg some (by kernel_rfl))
 f20:=⟨Tryz.f119.name,by decide,Tryz.func119.trans (congrArg some (by kernel_rfl))⟩
 f21:=⟨Tryz.f120.name,by decide,Tryz.func120.trans (congrArg some (by kernel_rfl))⟩
 f22:=⟨Tryz.f121.name,by decide,Tryz.func121.trans (congrArg some (by kernel_rfl))⟩
 f23:=⟨Tryz.f122.name,by decide,Tryz.func122.trans (congrArg some (by kernel_rfl))⟩
 f24:=⟨Tryz.f123.name,by decide,Tryz.func123.trans (congrArg some (by kernel_rfl))⟩
 f25:=⟨Tryz.f124.name,by decide,Tryz.func124.trans (congrArg some (by kernel_rfl))⟩
 f26:=⟨Tryz.f125.name,by decide,Tryz.func125.trans (congrArg some (by kernel_rfl))⟩
 f27:=⟨Tryz.f126.name,by decide,Tryz.func126.trans (congrArg some (by kernel_rfl))⟩
 f28:=Tryz.func127.trans (congrArg some (by kernel_rfl))
 f29:=Tryz.func128.trans (congrArg some (by kernel_rfl))
 f46:=⟨Tryz.f178.name,by decide,Tryz.func178.trans (congrArg some (by kernel_rfl))⟩
 f47:=Tryz.func179.trans (congrArg some (by kernel_rfl))
 f48:=Tryz.func180.trans (congrArg some (by kernel_rfl))
 f49:=⟨Tryz.f181.name,by decide,Tryz.func181.trans (congrArg some (by kernel_rfl))⟩
 f50:=⟨Tryz.f182.name,by decide,Tryz.func182.trans (congrArg some (by kernel_rfl))⟩
 f57:=⟨Tryz.f212.name,by decide,Tryz.func212.trans (congrArg some (by kernel_rfl))⟩
 t0:=Tryz.underlying0
 a0:=Tryz.isAgg0
 z0:=Tryz.sizeOf0
 v0:=Tryz.zeroValue0
 t3:=Tryz.underlying3
 a3:=Tryz.isAgg3
 z3:=Tryz.sizeOf3
 v3:=Tryz.zeroValue3
 t4:=Tryz.underlying4
 a4:=Tryz.isAgg4
 z4:=Tryz.sizeOf4
 v4:=Tryz.zeroValue4
 t5:=Tryz.underlying5
 a5:=Tryz.isAgg5
 z5:=Tryz.sizeOf5
 v5:=Tryz.zeroValue5
 t9:=Tryz.underlying9
 a9:=Tryz.isAgg9
 z9:=Tryz.sizeOf9
 v9:=Tryz.zeroValue9
 t22:=Tryz.underlying23
 a22:=Tryz.isAgg23
 z22:=Tryz.sizeOf23
 v22:=Tryz.zeroValue23
 t25:=Tryz.underlying68
 a25:=Tryz.isAgg68
 z25:=Tryz.sizeOf68
 v25:=Tryz.zeroValue68
 t39:=Tryz.underlying114
 a39:=Tryz.isAgg114
 z39:=Tryz.sizeOf114
 v39:=Tryz.zeroValue114
 t45:=Tryz.underlying152
 a45:=Tryz.isAgg152
 z45:=Tryz.sizeOf152
 v45:=Tryz.zeroValue152
 t46:=Tryz.underlying153
 a46:=Tryz.isAgg153
 z46:=Tryz.sizeOf153
 v46:=Tryz.zeroValue153
 t50:=Tryz.underlying157
 a50:=Tryz.isAgg157
 z50:=Tryz.sizeOf157
 v50:=Tryz.zeroValue157
 t53:=Tryz.underlying160
 a53:=Tryz.isAgg160
 z53:=Tryz.sizeOf160
 v53:=Tryz.zeroValue160
 t55:=Tryz.underlying162
 a55:=Tryz.isAgg162
 z55:=Tryz.sizeOf162
 v55:=Tryz.zeroValue162
 t66:=Tryz.underlying191
 a66:=Tryz.isAgg191
 z66:=Tryz.sizeOf191
 v66:=Tryz.zeroValue191
 t70:=Tryz.underlying195
 a70:=Tryz.isAgg195
 z70:=Tryz.sizeOf195
 v70:=Tryz.zeroValue195
 t76:=Tryz.underlying214
 a76:=Tryz.isAgg214
 z76:=Tryz.sizeOf214
 v76:=Tryz.zeroValue214
 t77:=Tryz.underlying139
 a77:=Tryz.isAgg139
 z77:=Tryz.sizeOf139
 v77:=Tryz.zeroValue139 }
end Go.Proofs
namespace Go.Proofs.YtmgfammllddkhaaGreatDoor
open VL Go.RowKit
open Go.Sort
theorem Zlb (a b:Int):orI [a,b]=ZpG a b:=by
 unfold orI ZpG
 split
 ·unfold orI
  split
  ·rename_i h;rw [h];rfl
  ·rfl
 ·rfl
theorem titleCmp_laws:CmpLaws Title.cmp:=by
 have h:=cmpInt_laws.lex ZmK (f:=Title.space) (g:=Title.name) (fun x y h1 h2=>by cases x;cases y;simp_all)
 have e:Title.cmp=fun x y=>ZpG (Lib.compareInt x.space y.space) (Lib.compareBytes x.name.data.toList y.name.data.toList):=by
  funext x y
  exact Zlb _ _
 rw [e]
 exact h
theorem linkCmp_laws:CmpLaws Zcj:=by
 have h:=cmpInt_laws.lex titleCmp_laws (f:=Link.kind) (g:=Link.title) (fun x y h1 h2=>by cases x;cases y;simp_all)
 have e:Zcj=fun x y=>ZpG (Lib.compareInt x.kind y.kind) (Title.cmp x.title y.title):=by
  funext x y
  exact Zlb _ _
 rw [e]
 exact h
instance:Inhabited Link:=⟨⟨0,⟨0,⟨#[]⟩⟩⟩⟩
def Za4 (p0:List Link):Option (List Link):=if p0.length<4611686018427387904 then some (Zak (leC Zcj) p0) else none
theorem Zfo (p0:List Link) (r:List Link) (h:Za4 p0=some r):ContractR Tryz.prog 32 [.fn 33 []] 42 3 (List.map Link.cs p0) (.tup []) (List.map Link.cs r):=by
 unfold Za4 at h
 split at h
 ·rename_i hl
  injection h with h
  subst h
  have hk:∀ x,(Zgv x).length=3:=fun _=>rfl
  have eg:∀ args w,(callFunc 33 args).run Tryz.prog w = .ok (.enter 33 args) w:=enters_of Tryz.func33 (by kernel_rfl) rfl
  refine Zoj (enc:=Zgv) (cf:=Zcj) (by kernel_rfl) (fun _=>rfl) hk (fun _=>rfl) (fun x p hp=>?_) linkCmp_laws.swo linkCmp_laws.tot (fun cap W A=>AnyF.slices_SortFunc_none { Tryz.sortLink with } A cap _ W) (fun blk off cap d w hH hb hs=>?_) p0 hl
  ·simp [Link.cs] at hp
   rcases hp with rfl | rfl | rfl<;>rfl
  ·exact AnyQ.slices_SortFunc_total Tryz.sortLink 3 Tryz.isAgg42 Tryz.sizeOf42 Zgv hk (fun x v hv=>by simp [Zgv] at hv;rcases hv with rfl | rfl | rfl<;>rfl) Zcj linkCmp_laws.swo 33 #[] blk off cap d w eg (fun m os dk _ x y=>(ZjE x y _).mono fun e w' h=>⟨h.1,h.2⟩) hH hb hs linkCmp_laws.tot
 ·cases h
end Go.Proofs.YtmgfammllddkhaaGreatDoor
namespace Go.Proofs.YtmgfammllddkhaaGreatDoor
open VL
def ZaQ (p0:List Link):Option (List Link):=
 if (decide ((p0.length:Int)<2)) then
  (some p0:Option (List Link))
 else
 Zbq Zel (fun f82 (x570:Int)=>
  if (decide (x570<(p0.length:Int))) then
   (atI p0 x570).bind fun e784=>
   (atI p0 (w64 (x570 - 1))).bind fun e785=>
   if (decide (e784=e785)) then
    (ZoO p0 x570).bind fun _=>
    Zbq Zel (fun f97 ((x830,x831,x832):Int×Int×(List Link))=>
     if (decide (x831<(ZtX x832 x570))) then
      letk (fun (x847:Int) (x848:List Link)=>
       f97 (x847,(w64 (x831+1)),x848)) fun k98=>
      (atQ x832 x570 x831).bind fun e849=>
      (atQ x832 x570 (w64 (x831 - 1))).bind fun e850=>
      if (!decide (e849=e850)) then
       (atQ x832 x570 x831).bind fun e851=>
       (atI x832 x830).bind fun e852=>
       k98 (w64 (x830+1)) (ZeX x832 x830 e851)
      else
      k98 x830 x832
     else
     (ZoO x832 x830).bind fun _=>
     (ZsR (Zs6 x832 x830 (⟨0,(⟨0,(⟨#[]⟩:ByteArray)⟩:Title)⟩:Link)) 0 x830).bind fun l854=>
     (some l854:Option (List Link))) (x570,1,p0)
   else
   f82 (w64 (x570+1))
  else
  (some p0:Option (List Link))) 1
theorem ZfA (p0:List Link) (r:List Link) (h:ZaQ p0=some r):ContractS Tryz.prog 41 [] 42 3 (List.map Link.cs p0) (List.map Link.cs r):=by
 refine ZiM (O:=fun r=>(List.map Link.cs r)) h mix Tryz.func41 (by kernel_rfl) rfl (by kernel_rfl) fun r h=>?_
 unfold ZaQ at h
 refine Zq ?_
 refine rg ?_
 refine rg ?_
 refine lM Link.cs p0 ?_
 refine cS h rfl (fun h=>?_) fun h=>?_
 ·refine rg ?_
  cases h
  exact Zkg rfl rfl
 refine rg ?_
 refine bl ?_
 refine ZW h fun f82 mf82 hf82 h=>?_
 refine ZH (α:=Nat×Int) (fun a _=>mkS [(0,.row 0 (0,0)),(3,.int .i64 a.2)] [(0,some ((0,0),.row 42 3 false (List.map Link.cs p0)))] 2) (fun a=>Zbq a.1 f82 a.2=some r) (fun a=>a.1) (mf82,1) 2 h (sR []) (fun a _ h=>?_)
 obtain ⟨mf82,x570⟩:=a
 obtain ⟨mf82,rfl,h⟩:=ZX hf82 h
 dsimp only at h ⊢
 refine Zq ?_
 refine rg ?_
 refine lM Link.cs p0 ?_
 refine cS h rfl (fun h=>?_) fun h=>?_
 ·refine bl ?_
  refine rg ?_
  obtain ⟨e784,h584,h⟩:=bnd h
  refine ZY rfl h584 rfl rfl rfl (Zq ?_)
  refine ZaG rfl h584 rfl rfl rfl (Zq ?_)
  obtain ⟨e785,h585,h⟩:=bnd h
  refine ZY rfl h585 rfl rfl rfl (Zq ?_)
  refine ZaG rfl h585 rfl rfl rfl (Zq ?_)
  refine ZoX (.inl rfl) rfl rfl rfl rfl rfl (fun W=>Ztv e784 e785 W) (Zq ?_)
  refine cS h rfl (fun h=>?_) fun h=>?_
  ·refine rg ?_
   obtain ⟨_,h586,h⟩:=bnd h
   refine Znk rfl h586 rfl rfl rfl (Zq ?_)
   refine rg ?_
   refine bl ?_
   refine ZW h fun f97 mf97 hf97 h=>?_
   refine ZH (α:=Nat×(Int×Int×(List Link))) (fun a _=>mkS [(0,.row 0 (0,0)),(3,.int .i64 a.2.1),(4,.suf 0 (0,0) (x570).toNat 3),(5,.int .i64 a.2.2.1)] [(0,some ((0,0),.row 42 3 false (List.map Link.cs a.2.2.2)))] 2) (fun a=>Zbq a.1 f97 a.2=some r) (fun a=>a.1) (mf97,x570,1,p0) 2 h (sR []) (fun a _ h=>?_)
   obtain ⟨mf97,x830,x831,x832⟩:=a
   obtain ⟨mf97,rfl,h⟩:=ZX hf97 h
   dsimp only at h ⊢
   refine Zq ?_
   refine rg ?_
   refine ZsC (M:=x832) (f:=Link.cs) rfl rfl rfl (Zq ?_)
   refine cS h rfl (fun h=>?_) fun h=>?_
   ·refine Zcr h fun k98 hk98 h=>?_
    refine Zb3 (α:=Int×(List Link)) (fun a _=>mkS [(0,.row 0 (0,0)),(3,.int .i64 a.1),(4,.suf 0 (0,0) (x570).toNat 3),(5,.int .i64 x831)] [(0,some ((0,0),.row 42 3 false (List.map Link.cs a.2)))] 2) (fun a=>k98 a.1 a.2=some r) (Zq ?_) (fun a _ h=>?_)
    ·refine bl ?_
     refine rg ?_
     obtain ⟨e849,h631,h⟩:=bnd h
     refine ZeD rfl h631 rfl rfl rfl (Zq ?_)
     refine ZaG rfl (Zgo h631) rfl rfl rfl (Zq ?_)
     obtain ⟨e850,h632,h⟩:=bnd h
     refine ZeD rfl h632 rfl rfl rfl (Zq ?_)
     refine ZaG rfl (Zgo h632) rfl rfl rfl (Zq ?_)
     refine ZoX (.inr rfl) rfl rfl rfl rfl rfl (fun W=>Zp6 e849 e850 W) (Zq ?_)
     refine cS h rfl (fun h=>?_) fun h=>?_
     ·refine rg ?_
      obtain ⟨e851,h633,h⟩:=bnd h
      refine ZeD rfl h633 rfl rfl rfl (Zq ?_)
      refine ZaG rfl (Zgo h633) rfl rfl rfl (Zq ?_)
      obtain ⟨e852,h634,h⟩:=bnd h
      refine ZY rfl h634 rfl rfl rfl (Zq ?_)
      refine Zcg (e':=e851) rfl h634 rfl rfl rfl rfl rfl rfl (Nat.le_of_ble_eq_true rfl) rfl rfl (Zq ?_)
      refine rg ?_
      exact jn ((w64 (x830+1)),(ZeX x832 x830 e851)) h (sR [])
     exact jn (x830,x832) h (sR [])
    obtain ⟨x847,x848⟩:=a
    subst hk98
    dsimp only at h ⊢
    refine Zq ?_
    refine rg ?_
    exact rn (mf97,x847,(w64 (x831+1)),x848) h (sR [])
   refine rg ?_
   obtain ⟨_,h635,h⟩:=bnd h
   refine Znk rfl h635 rfl rfl rfl (Zq ?_)
   refine Znl (M:=x832) (f:=Link.cs) (zr:=(⟨0,(⟨0,(⟨#[]⟩:ByteArray)⟩:Title)⟩:Link)) rfl rfl rfl rfl rfl (Zq ?_)
   refine rg ?_
   obtain ⟨l854,h636,h⟩:=bnd h
   refine Znm rfl h636 rfl rfl rfl (Zq ?_)
   cases h
   exact Zkg rfl rfl
  refine rg ?_
  exact rn (mf82,(w64 (x570+1))) h (sR [])
 refine rg ?_
 cases h
 exact Zkg rfl rfl
end Go.Proofs.YtmgfammllddkhaaGreatDoor
