/- Functions of the program as Lean functions. Written by fxgen.py. -/
import Derived.Test.YtjoneoobolnnbaaGreatDoorCB29
import Derived.Test.YtjoneoobolnnbaaGreatDoorCB31
import Derived.Test.YtjoneoobolnnbaaGreatDoorCB04
import Derived.Test.YtjoneoobolnnbaaGreatDoorCB06
import Derived.Test.YtjoneoobolnnbaaGreatDoorCB03
import Derived.Sort.Walk0
import Derived.Test.YtjoneoobolnnbaaGreatDoorCB30
import Derived.Test.YtjoneoobolnnbaaGreatDoorCB25
import Derived.Test.YtjoneoobolnnbaaGreatDoorCB28
import Derived.Test.YtjoneoobolnnbaaGreatDoorCB27
import Derived.Test.YtjoneoobolnnbaaGreatDoorCB13
set_option maxRecDepth 100000
set_option maxHeartbeats 4000000
set_option linter.unusedVariables false
namespace Go.Proofs.YtjoneoobolnnbaaGreatDoor
open VL
def Zix (p0:ByteArray):Option State:=
 (ZgR).bind fun r1=>
 (Zao (⟨0,0,[],[],[],0,[],[]⟩:State) [(⟨1,(⟨#[]⟩:ByteArray),(⟨#[]⟩:ByteArray),r1,(⟨0,(⟨#[]⟩:ByteArray)⟩:Title),p0,0,[]⟩:Change)]).bind fun r2=>
 (some r2.1:Option State)
theorem ZnE (p0:ByteArray) (r:State) (h:Zix p0=some r):Zd Tryz.prog 35 [.str p0] (r.pv):=by
 refine cF (fun r=>r.pv) h mix Tryz.func35 fun r h=>?_
 unfold Zix at h
 refine Zh ?_
 refine rg ?_
 refine rg ?_
 refine aC h Zl8 fun r1 h=>?_
 refine ZZ (M:=([(⟨1,(⟨#[]⟩:ByteArray),(⟨#[]⟩:ByteArray),r1,(⟨0,(⟨#[]⟩:ByteArray)⟩:Title),p0,0,[]⟩:Change)]:List Change)) (f:=Change.cs) rfl rfl rfl rfl (Nat.le_of_ble_eq_true rfl) rfl (Zh ?_)
 refine aC h (ZbT _ _) fun r2 h=>?_
 refine rg ?_
 cases h
 exact rQ
def ZjZ (p0:State) (p1:SrcF) (p2:Int):Option (State×SrcF):=
 ZE Zaj (fun f7 ((x73,x74,x75,x76,x77,x78,x79,x80,x81,x82,x83,x84):Int×(List Int)×Int×Int×Int×Int×(List Stored)×(List Stored)×(List Proposal)×Int×(List Watch)×(List Last))=>
  if (decide (0<x73)) then
   letk (fun (x102:List Int) (x103:Int) (x104:Int) (x105:Int) (x106:Int) (x107:List Stored) (x108:List Stored) (x109:List Proposal) (x110:Int) (x111:List Watch) (x112:List Last)=>
    f7 ((w64 (x73 - 1)),x102,x103,x104,x105,x106,x107,x108,x109,x110,x111,x112)) fun k8=>
   (ZgA (⟨x74,x75,x76⟩:SrcF) x78).bind fun r113=>
   (Zao (⟨x77,x78,x79,x80,x81,x82,x83,x84⟩:State) r113.1).bind fun r114=>
   if (decide (r114.2=0)) then
    k8 r113.2.l r113.2.pos r113.2.seed r114.1.seq r114.1.clock r114.1.pages r114.1.gone r114.1.proposals r114.1.proposed r114.1.watches r114.1.lasts
   else
   k8 r113.2.l r113.2.pos r113.2.seed x77 x78 x79 x80 x81 x82 x83 x84
  else
  (some ((⟨x77,x78,x79,x80,x81,x82,x83,x84⟩:State),(⟨x74,x75,x76⟩:SrcF)):Option (State×SrcF))) (p2,p1.l,p1.pos,p1.seed,p0.seq,p0.clock,p0.pages,p0.gone,p0.proposals,p0.proposed,p0.watches,p0.lasts)
theorem Zsz (p0:State) (p1:SrcF) (p2:Int) (r:State×SrcF) (h:ZjZ p0 p1 p2=some r):Contract Tryz.prog 65 [p0.pv,.ptr 1 (0,1) 0,.int .i64 p2] (some (1,p1.cs)) (r.1.pv) (r.2).cs:=by
 refine Zbx (R:=fun r=>r.1.pv) (O:=fun r=>(r.2).cs) h mix Tryz.func65 (by kernel_rfl) rfl (by kernel_rfl) fun r h=>?_
 unfold ZjZ at h
 refine Zh ?_
 refine rg ?_
 refine bl ?_
 refine Zn h fun f7 mf7 hf7 h=>?_
 refine Zk (α:=Nat×(Int×(List Int)×Int×Int×Int×Int×(List Stored)×(List Stored)×(List Proposal)×Int×(List Watch)×(List Last))) (fun a _=>mkS [(1,.ptr 1 (0,1) 0),(2,.int .i64 a.2.1),(3,.ptr 3 (1,3) 0),(6,.ptr 6 (1,6) 0)] [(1,some ((0,1),.box [.sl (List.map csI a.2.2.1),.int .i64 a.2.2.2.1,.int .u64 a.2.2.2.2.1])),(3,some ((1,3),.box [.int .i64 a.2.2.2.2.2.1,.int .i64 a.2.2.2.2.2.2.1,.sl (List.map Stored.cs a.2.2.2.2.2.2.2.1),.sl (List.map Stored.cs a.2.2.2.2.2.2.2.2.1),.sl (List.map Proposal.cs a.2.2.2.2.2.2.2.2.2.1),.int .i64 a.2.2.2.2.2.2.2.2.2.2.1,.sl (List.map Watch.cs a.2.2.2.2.2.2.2.2.2.2.2.1),.sl (List.map Last.cs a.2.2.2.2.2.2.2.2.2.2.2.2)])),(6,some ((1,6),.box [.int .i64 0,.int .i64 0,.nil,.nil,.nil,.int .i64 0,.nil,.nil]))] 2) (fun a=>ZE a.1 f7 a.2=some r) (fun a=>a.1) (mf7,p2,p1.l,p1.pos,p1.seed,p0.seq,p0.clock,p0.pages,p0.gone,p0.proposals,p0.proposed,p0.watches,p0.lasts) 2 h (sR [(3,1,0),(6,1,1)]) (fun a _ h=>?_)
 obtain ⟨mf7,x73,x74,x75,x76,x77,x78,x79,x80,x81,x82,x83,x84⟩:=a
 obtain ⟨mf7,rfl,h⟩:=Zo hf7 h
 dsimp only at h ⊢
 refine Zh ?_
 refine rg ?_
 refine cS h rfl (fun h=>?_) fun h=>?_
 ·refine Zax h fun k8 hk8 h=>?_
  refine ZaO (α:=(List Int)×Int×Int×Int×Int×(List Stored)×(List Stored)×(List Proposal)×Int×(List Watch)×(List Last)) (fun a _=>mkS [(1,.ptr 1 (0,1) 0),(2,.int .i64 x73),(3,.ptr 3 (1,3) 0),(6,.ptr 6 (1,6) 0)] [(1,some ((0,1),.box [.sl (List.map csI a.1),.int .i64 a.2.1,.int .u64 a.2.2.1])),(3,some ((1,3),.box [.int .i64 a.2.2.2.1,.int .i64 a.2.2.2.2.1,.sl (List.map Stored.cs a.2.2.2.2.2.1),.sl (List.map Stored.cs a.2.2.2.2.2.2.1),.sl (List.map Proposal.cs a.2.2.2.2.2.2.2.1),.int .i64 a.2.2.2.2.2.2.2.2.1,.sl (List.map Watch.cs a.2.2.2.2.2.2.2.2.2.1),.sl (List.map Last.cs a.2.2.2.2.2.2.2.2.2.2)])),(6,some ((1,6),.box [.int .i64 0,.int .i64 0,.nil,.nil,.nil,.int .i64 0,.nil,.nil]))] 2) (fun a=>k8 a.1 a.2.1 a.2.2.1 a.2.2.2.1 a.2.2.2.2.1 a.2.2.2.2.2.1 a.2.2.2.2.2.2.1 a.2.2.2.2.2.2.2.1 a.2.2.2.2.2.2.2.2.1 a.2.2.2.2.2.2.2.2.2.1 a.2.2.2.2.2.2.2.2.2.2=some r) (Zh ?_) (fun a _ h=>?_)
  ·refine bl ?_
   refine rg ?_
   refine aO h (Zqb _ _) fun r113 h=>?_
   refine aC h (ZbT _ _) fun r114 h=>?_
   refine rg ?_
   refine cS h rfl (fun h=>?_) fun h=>?_
   ·refine rg ?_
    exact jn (r113.2.l,r113.2.pos,r113.2.seed,r114.1.seq,r114.1.clock,r114.1.pages,r114.1.gone,r114.1.proposals,r114.1.proposed,r114.1.watches,r114.1.lasts) h (sR [(3,1,3),(6,1,6)])
   exact jn (r113.2.l,r113.2.pos,r113.2.seed,x77,x78,x79,x80,x81,x82,x83,x84) h (sR [(3,1,3),(6,1,6)])
  obtain ⟨x102,x103,x104,x105,x106,x107,x108,x109,x110,x111,x112⟩:=a
  subst hk8
  dsimp only at h ⊢
  refine Zh ?_
  refine rg ?_
  exact rn (mf7,(w64 (x73 - 1)),x102,x103,x104,x105,x106,x107,x108,x109,x110,x111,x112) h (sR [(3,1,3),(6,1,6)])
 refine rg ?_
 cases h
 exact Zhi rfl rfl rfl rfl rfl
def ZfS (p0:List Int):Option State:=
 (ZgQ p0).bind fun r1=>
 (Zii r1).bind fun r2=>
 (Zix r2.1).bind fun r3=>
 (ZA r2.2 5).bind fun r4=>
 ZE Zaj (fun f7 ((x101,x102,x103,x104,x105,x106,x107,x108,x109,x110,x111,x112):Int×Int×Int×(List Stored)×(List Stored)×(List Proposal)×Int×(List Watch)×(List Last)×(List Int)×Int×Int)=>
  if (decide (x101<(w64 (3+r4.1)))) then
   letk (fun (x139:Int) (x140:Int) (x141:List Stored) (x142:List Stored) (x143:List Proposal) (x144:Int) (x145:List Watch) (x146:List Last) (x147:List Int) (x148:Int) (x149:Int)=>
    f7 ((w64 (x101+1)),x139,x140,x141,x142,x143,x144,x145,x146,x147,x148,x149)) fun k8=>
   (Zi8 (⟨x110,x111,x112⟩:SrcF)).bind fun r150=>
   (ZdH).bind fun r151=>
   (atI r151 x101).bind fun e152=>
   (Zij r150.2).bind fun r153=>
   (Zao (⟨x102,x103,x104,x105,x106,x107,x108,x109⟩:State) [(⟨1,r150.1,(⟨#[]⟩:ByteArray),e152,(⟨0,(⟨#[]⟩:ByteArray)⟩:Title),r153.1,0,[]⟩:Change)]).bind fun r154=>
   if (decide (r154.2=0)) then
    k8 r154.1.seq r154.1.clock r154.1.pages r154.1.gone r154.1.proposals r154.1.proposed r154.1.watches r154.1.lasts r153.2.l r153.2.pos r153.2.seed
   else
   k8 x102 x103 x104 x105 x106 x107 x108 x109 r153.2.l r153.2.pos r153.2.seed
  else
  (ZA (⟨x110,x111,x112⟩:SrcF) 7).bind fun r155=>
  (ZjZ (⟨x102,x103,x104,x105,x106,x107,x108,x109⟩:State) r155.2 r155.1).bind fun r156=>
  (some r156.1:Option State)) (0,r3.seq,r3.clock,r3.pages,r3.gone,r3.proposals,r3.proposed,r3.watches,r3.lasts,r4.2.l,r4.2.pos,r4.2.seed)
theorem Ziy (p0:List Int) (r:State) (h:ZfS p0=some r):Zd Tryz.prog 32 [.sl (List.map csI p0)] (r.pv):=by
 refine cF (fun r=>r.pv) h mix Tryz.func32 fun r h=>?_
 unfold ZfS at h
 refine Zh ?_
 refine rg ?_
 refine rg ?_
 refine aN h (ZhC _) fun r1 h=>?_
 refine rg ?_
 refine aO h (Zrw _) fun r2 h=>?_
 refine aC h (ZnE _) fun r3 h=>?_
 refine rg ?_
 refine aO h (Zy _ _) fun r4 h=>?_
 refine rg ?_
 refine bl ?_
 refine Zn h fun f7 mf7 hf7 h=>?_
 refine Zk (α:=Nat×(Int×Int×Int×(List Stored)×(List Stored)×(List Proposal)×Int×(List Watch)×(List Last)×(List Int)×Int×Int)) (fun a _=>mkS [(2,.ptr 2 (1,2) 0),(3,.ptr 10 (1,10) 0),(4,.ptr 4 (1,4) 0),(5,.int .i64 (w64 (3+r4.1))),(6,.int .i64 a.2.1)] [(2,some ((1,2),.box [.int .i64 0,.int .i64 0,.nil,.nil,.nil,.int .i64 0,.nil,.nil])),(4,some ((1,4),.box [.int .i64 a.2.2.1,.int .i64 a.2.2.2.1,.sl (List.map Stored.cs a.2.2.2.2.1),.sl (List.map Stored.cs a.2.2.2.2.2.1),.sl (List.map Proposal.cs a.2.2.2.2.2.2.1),.int .i64 a.2.2.2.2.2.2.2.1,.sl (List.map Watch.cs a.2.2.2.2.2.2.2.2.1),.sl (List.map Last.cs a.2.2.2.2.2.2.2.2.2.1)])),(10,some ((1,10),.box [.sl (List.map csI a.2.2.2.2.2.2.2.2.2.2.1),.int .i64 a.2.2.2.2.2.2.2.2.2.2.2.1,.int .u64 a.2.2.2.2.2.2.2.2.2.2.2.2]))] 2) (fun a=>ZE a.1 f7 a.2=some r) (fun a=>a.1) (mf7,0,r3.seq,r3.clock,r3.pages,r3.gone,r3.proposals,r3.proposed,r3.watches,r3.lasts,r4.2.l,r4.2.pos,r4.2.seed) 2 h (sR [(2,1,0),(4,3,3),(10,2,1)]) (fun a _ h=>?_)
 obtain ⟨mf7,x101,x102,x103,x104,x105,x106,x107,x108,x109,x110,x111,x112⟩:=a
 obtain ⟨mf7,rfl,h⟩:=Zo hf7 h
 dsimp only at h ⊢
 refine Zh ?_
 refine rg ?_
 refine cS h rfl (fun h=>?_) fun h=>?_
 ·refine Zax h fun k8 hk8 h=>?_
  refine ZaO (α:=Int×Int×(List Stored)×(List Stored)×(List Proposal)×Int×(List Watch)×(List Last)×(List Int)×Int×Int) (fun a _=>mkS [(2,.ptr 2 (1,2) 0),(3,.ptr 10 (1,10) 0),(4,.ptr 4 (1,4) 0),(5,.int .i64 (w64 (3+r4.1))),(6,.int .i64 x101)] [(2,some ((1,2),.box [.int .i64 0,.int .i64 0,.nil,.nil,.nil,.int .i64 0,.nil,.nil])),(4,some ((1,4),.box [.int .i64 a.1,.int .i64 a.2.1,.sl (List.map Stored.cs a.2.2.1),.sl (List.map Stored.cs a.2.2.2.1),.sl (List.map Proposal.cs a.2.2.2.2.1),.int .i64 a.2.2.2.2.2.1,.sl (List.map Watch.cs a.2.2.2.2.2.2.1),.sl (List.map Last.cs a.2.2.2.2.2.2.2.1)])),(10,some ((1,10),.box [.sl (List.map csI a.2.2.2.2.2.2.2.2.1),.int .i64 a.2.2.2.2.2.2.2.2.2.1,.int .u64 a.2.2.2.2.2.2.2.2.2.2]))] 2) (fun a=>k8 a.1 a.2.1 a.2.2.1 a.2.2.2.1 a.2.2.2.2.1 a.2.2.2.2.2.1 a.2.2.2.2.2.2.1 a.2.2.2.2.2.2.2.1 a.2.2.2.2.2.2.2.2.1 a.2.2.2.2.2.2.2.2.2.1 a.2.2.2.2.2.2.2.2.2.2=some r) (Zh ?_) (fun a _ h=>?_)
  ·refine bl ?_
   refine rg ?_
   refine aO h (Zl9 _) fun r150 h=>?_
   refine aC h Zec fun r151 h=>?_
   refine aI Title.cs h fun e152 h=>?_
   refine aO h (Zkp _) fun r153 h=>?_
   refine ZZ (M:=([(⟨1,r150.1,(⟨#[]⟩:ByteArray),e152,(⟨0,(⟨#[]⟩:ByteArray)⟩:Title),r153.1,0,[]⟩:Change)]:List Change)) (f:=Change.cs) rfl rfl rfl rfl (Nat.le_of_ble_eq_true rfl) rfl (Zh ?_)
   refine aC h (ZbT _ _) fun r154 h=>?_
   refine rg ?_
   refine cS h rfl (fun h=>?_) fun h=>?_
   ·refine rg ?_
    exact jn (r154.1.seq,r154.1.clock,r154.1.pages,r154.1.gone,r154.1.proposals,r154.1.proposed,r154.1.watches,r154.1.lasts,r153.2.l,r153.2.pos,r153.2.seed) h (sR [(2,1,2),(4,1,4),(10,1,10)])
   exact jn (x102,x103,x104,x105,x106,x107,x108,x109,r153.2.l,r153.2.pos,r153.2.seed) h (sR [(2,1,2),(4,1,4),(10,1,10)])
  obtain ⟨x139,x140,x141,x142,x143,x144,x145,x146,x147,x148,x149⟩:=a
  subst hk8
  dsimp only at h ⊢
  refine Zh ?_
  refine rg ?_
  exact rn (mf7,(w64 (x101+1)),x139,x140,x141,x142,x143,x144,x145,x146,x147,x148,x149) h (sR [(2,1,2),(4,1,4),(10,1,10)])
 refine rg ?_
 refine aO h (Zy _ _) fun r155 h=>?_
 obtain ⟨r156,h66,h⟩:=bnd h
 refine Zts (pre:=[_]) (pre':=[_]) (Zsz _ _ _ _ h66) rfl rfl rfl rfl rfl rfl (Zh ?_)
 cases h
 exact rQ
theorem Zkk {a b:ByteArray} (h:a.toList=b.toList):a=b:=by
 rw [ByteArray.toList_eq,ByteArray.toList_eq] at h
 have:a.data=b.data:=Array.ext' h
 cases a;cases b
 simp at this
 rw [this]
def ZlL (a b:ByteArray):Prop:=ltS a b=true
theorem ZlM (a b:ByteArray):ZlL a b↔a.toList<b.toList:=by unfold ZlL ltS;rw [bytesLess_eq];simp
theorem Zdp (a:ByteArray):¬ ZlL a a:=by rw [ZlM];exact List.lt_irrefl _
theorem ZkQ {a b c:ByteArray} (h:ZlL a b) (k:ZlL b c):ZlL a c:=by
 rw [ZlM] at *
 exact List.lt_trans h k
theorem ZkR {a b:ByteArray} (h:a≠b):ZlL a b∨ZlL b a:=by
 rw [ZlM,ZlM]
 rcases Classical.em (a.toList<b.toList) with h1 | h1
 ·exact .inl h1
 ·rcases Classical.em (b.toList<a.toList) with h2 | h2
  ·exact .inr h2
  ·exact absurd (Zkk (List.le_antisymm (List.not_lt.1 h2) (List.not_lt.1 h1))) h
def tlt (a b:Title):Prop:=Title.cmp a b<0
theorem ZoW (a b:Title):tlt a b↔a.space<b.space∨(a.space=b.space∧ZlL a.name b.name):=by
 unfold tlt ZlL ltS
 rw [ZhF]
 by_cases h1:a.space<b.space
 ·simp [h1]
 ·by_cases h2:b.space<a.space
  ·simp [h1,h2]
   omega
  ·have e:a.space=b.space:=by omega
   simp only [h1,h2,if_false,false_or]
   by_cases h:Op.bytesLess a.name.toList b.name.toList=true
   ·simp [h,e]
   ·simp only [h]
    by_cases h':a.name.toList=b.name.toList<;>simp [h',e]
theorem ZcN {a b c:Title} (h:tlt a b) (k:tlt b c):tlt a c:=by
 rw [ZoW] at *
 rcases h with h | ⟨h1,h2⟩<;>rcases k with k | ⟨k1,k2⟩
 ·exact .inl (by omega)
 ·exact .inl (by omega)
 ·exact .inl (by omega)
 ·exact .inr ⟨by omega,ZkQ h2 k2⟩
theorem Zkl {a b:Title} (h1:a.space=b.space) (h2:a.name=b.name):a=b:=by cases a;cases b;simp_all
theorem Zie {a b:Title} (h:a≠b):tlt a b∨tlt b a:=by
 rw [ZoW,ZoW]
 by_cases h1:a.space<b.space
 ·exact .inl (.inl h1)
 by_cases h2:b.space<a.space
 ·exact .inr (.inl h2)
 have e:a.space=b.space:=by omega
 rcases ZkR (fun e2=>h (Zkl e e2)) with h3 | h3
 ·exact .inl (.inr ⟨e,h3⟩)
 ·exact .inr (.inr ⟨e.symm,h3⟩)
theorem ZL (a:Title):¬ tlt a a:=by
 rw [ZoW]
 rintro (h | ⟨_,h⟩)
 ·omega
 ·exact Zdp _ h
theorem ZkS {α:Type} {lt:α→α→Prop} (tr:∀ a b c,lt a b→lt b c→lt a c) {l:List α} {x:α} {n:Nat} (hs:l.Pairwise lt) (h1:∀ y ∈ l.take n,lt y x) (h2:∀ y,l[n]? = some y→lt x y):(l.take n++x::l.drop n).Pairwise lt:=by
 have hd:∀ y ∈ l.drop n,lt x y:=fun y hy=>by
  cases hl:l.drop n with
  | nil=>rw [hl] at hy;cases hy
  | cons z zs=>
    have hz:l[n]? = some z:=by
     have:(l.drop n)[0]? = some z:=by rw [hl];rfl
     rw [List.getElem?_drop] at this
     simpa using this
    have hp:(z::zs).Pairwise lt:=hl ▸ hs.sublist (List.drop_sublist n l)
    rw [hl] at hy
    rcases List.mem_cons.1 hy with rfl | hy
    ·exact h2 _ hz
    ·exact tr _ _ _ (h2 _ hz) ((List.pairwise_cons.1 hp).1 y hy)
 refine List.pairwise_append.2 ⟨hs.sublist (List.take_sublist n l),List.pairwise_cons.2 ⟨hd,hs.sublist (List.drop_sublist n l)⟩,fun a ha b hb=>?_⟩
 rcases List.mem_cons.1 hb with rfl | hb
 ·exact h1 a ha
 ·exact tr _ _ _ (h1 a ha) (hd b hb)
theorem Zs4 {α:Type} {lt:α→α→Prop} {l:List α} {x y:α} {n:Nat} (hs:l.Pairwise lt) (hy:l[n]? = some y) (h1:∀ z,lt z y→lt z x) (h2:∀ z,lt y z→lt x z):(l.take n++x::l.drop (n+1)).Pairwise lt:=by
 have hl:l=l.take n++y::l.drop (n+1):=by
  conv=>lhs;rw [← List.take_append_drop n l]
  rw [Zm0 hy]
 rw [hl] at hs
 obtain ⟨p1,p2,p3⟩:=List.pairwise_append.1 hs
 obtain ⟨p4,p5⟩:=List.pairwise_cons.1 p2
 refine List.pairwise_append.2 ⟨p1,List.pairwise_cons.2 ⟨fun z hz=>h2 _ (p4 z hz),p5⟩,fun a ha b hb=>?_⟩
 rcases List.mem_cons.1 hb with rfl | hb
 ·exact h1 _ (p3 a ha y (List.mem_cons_self ..))
 ·exact p3 a ha b (List.mem_cons_of_mem _ hb)
theorem Zha {α:Type} (l:List α) (n:Nat):(l.take n++l.drop (n+1)).Sublist l:=by
 conv=>rhs;rw [← List.take_append_drop n l]
 refine List.Sublist.append (List.Sublist.refl _) ?_
 rw [← List.drop_drop]
 exact List.drop_sublist _ _
theorem Zjv {α:Type} {l:List α} {n:Nat} {x:α} (h:x ∈ l.take n++l.drop (n+1)):x ∈ l:=(Zha l n).subset h
theorem ZoX {α:Type} {l:List α} {n:Nat} (h:n<l.length):(l.take n++l.drop (n+1)).length+1=l.length:=by simp;omega
theorem Zm1 {α:Type} {l:List α} {n:Nat} {x y:α} (h:y ∈ l.take n++x::l.drop n):y=x∨y ∈ l:=by
 rcases List.mem_append.1 h with h | h
 ·exact .inr (List.mem_of_mem_take h)
 ·rcases List.mem_cons.1 h with h | h
  ·exact .inl h
  ·exact .inr (List.mem_of_mem_drop h)
theorem Zjw {α:Type} {l:List α} {n:Nat} {x:α} (h:n≤l.length):(l.take n++x::l.drop n).length=l.length+1:=by simp;omega
def ZzC:List ByteArray:=[(⟨#[97,110,110]⟩:ByteArray),(⟨#[98,111,98]⟩:ByteArray),(⟨#[]⟩:ByteArray),(⟨#[99,121]⟩:ByteArray),(⟨#[97,110,110]⟩:ByteArray)]
def ZzD:List ByteArray:=[(⟨#[]⟩:ByteArray),(⟨#[110,111,116,101]⟩:ByteArray),(⟨#[97,95,98,32,126]⟩:ByteArray)]
def ZaJ:List Title:=[(⟨0,(⟨#[65]⟩:ByteArray)⟩:Title),(⟨0,(⟨#[66]⟩:ByteArray)⟩:Title),(⟨0,(⟨#[65,47,67]⟩:ByteArray)⟩:Title),(⟨3,(⟨#[84]⟩:ByteArray)⟩:Title),(⟨4,(⟨#[88]⟩:ByteArray)⟩:Title),(⟨4,(⟨#[89]⟩:ByteArray)⟩:Title),(⟨2,(⟨#[65,110,110]⟩:ByteArray)⟩:Title),(⟨0,(⟨#[68]⟩:ByteArray)⟩:Title)]
def usersG:List ByteArray:=[(⟨#[]⟩:ByteArray),(⟨#[97,110,110]⟩:ByteArray),(⟨#[98,111,98]⟩:ByteArray),(⟨#[99,121]⟩:ByteArray)]
structure SrcF.ok (s:SrcF):Prop where
 len:s.l.length≤9223372036854775807
 pos:0≤s.pos
theorem Zfw (v n:Int) (h0:0<n) (h1:n≤4611686018427387904):Tot (ZbW v n) fun r=>0≤r∧r<n:=by
 unfold ZbW
 refine Zr8 (by omega) ?_
 have e1:Int.tmod v n<n:=Int.tmod_lt_of_pos v h0
 have e2 : -n<Int.tmod v n:=by
  have:=Int.tmod_lt_of_pos (-v) h0
  rw [Int.neg_tmod] at this
  omega
 refine ZJ ?_
 refine Zc (fun h=>?_) fun h=>?_
 ·rw [Zg (by omega) (by omega)]
  exact Zb (by omega)
 ·exact Zb (by omega)
theorem ZpJ (l:List Int) (hl:l.length≤9223372036854775807):Tot (ZgQ l) fun s=>s.ok:=by
 unfold ZgQ
 refine Zj (fun a:Int×Int=>0≤a.1∧a.1≤64∧a.1≤(l.length:Int)) (fun a=>(64 - a.1).toNat) ⟨by simp,by simp,by simp⟩ (by simp) ?_
 rintro ⟨i,sd⟩ rec ⟨h0,h1,h2⟩ ih
 dsimp only at h0 h1 h2 ⊢
 refine ZJ ?_
 refine Zc (fun h=>?_) fun h=>?_
 ·refine Zc (fun h'=>?_) fun h'=>?_
  ·refine Zl h0 h fun e _ _=>?_
   refine Zkn (by decide) ?_
   rw [Zg (by omega) (by omega)]
   exact ih _ ⟨by dsimp only;omega,by dsimp only;omega,by dsimp only;omega⟩ (by dsimp only;omega)
  ·exact Zb ⟨hl,Int.le_refl _⟩
 ·exact Zb ⟨hl,Int.le_refl _⟩
theorem ZcB (s:SrcF) (n:Int) (hs:s.ok) (h0:0<n) (h1:n≤4294967296):Tot (ZA s n) fun r=>(0≤r.1∧r.1<n)∧r.2.ok:=by
 have hl:=hs.len
 have hp:=hs.pos
 unfold ZA
 refine Zc (fun h=>?_) fun h=>?_
 ·have e:w64 (s.pos+1)=s.pos+1:=Zg (by omega) (by omega)
  rw [e,Zg (by omega) (by omega)]
  refine Zl (by omega) (by omega) fun e _ _=>?_
  refine Zf (Zfw e n h0 (by omega)) fun r hr=>?_
  exact Zb ⟨hr,⟨hl,by dsimp only;omega⟩⟩
 ·refine Zkn (by decide) ?_
  have e:IntKind.wrap .u64 n=n:=by rw [IntKind.wrap_u64];omega
  rw [e]
  refine Zr8 (by omega) ?_
  generalize hx:(IntKind.wrap .u64 ((IntKind.wrap .u64 (s.seed * 6364136223846793005))+1442695040888963407))=x
  have hx0:0≤x:=by rw [← hx,IntKind.wrap_u64];omega
  have hq:0≤Int.fdiv x (2 ^ (min (33:Int).toNat (IntKind.u64).bits)):=Int.fdiv_nonneg hx0 (by decide)
  generalize Int.fdiv x (2 ^ (min (33:Int).toNat (IntKind.u64).bits))=q at hq ⊢
  have e1:Int.tmod q n<n:=Int.tmod_lt_of_pos q h0
  have e2:0≤Int.tmod q n:=Int.tmod_nonneg n hq
  have e3:IntKind.wrap .i64 (Int.tmod q n)=Int.tmod q n:=by rw [IntKind.wrap_i64];omega
  rw [e3]
  exact Zb ⟨⟨e2,e1⟩,⟨hl,hp⟩⟩
theorem Zmv {α β:Type} {l:List α} {i:Int} {f:α→Option β} {R:β→Prop} (n:Int) (hn:(l.length:Int)=n) (h:0≤i∧i<n) (k:∀ e,e ∈ l→Tot (f e) R):Tot ((atI l i).bind f) R:=Zl h.1 (by omega) fun e he _=>k e he
theorem Zmw (s:SrcF) (hs:s.ok):Tot (Ze1 s) fun r=>r.1 ∈ ZaJ∧r.2.ok:=by
 unfold Ze1 ZdH
 refine Za rfl ?_
 refine Zf (ZcB s 8 hs (by omega) (by omega)) fun r hr=>?_
 exact Zmv 8 rfl hr.1 fun e he=>Zb ⟨he,hr.2⟩
theorem Zuc (s:SrcF) (hs:s.ok):Tot (Zi8 s) fun r=>r.1 ∈ ZzC∧r.2.ok:=by
 unfold Zi8
 refine Zf (ZcB s 5 hs (by omega) (by omega)) fun r hr=>?_
 exact Zmv 5 rfl hr.1 fun e he=>Zb ⟨he,hr.2⟩
theorem Zws (s:SrcF) (hs:s.ok):Tot (Zks s) fun r=>r.1 ∈ ZzD∧r.2.ok:=by
 unfold Zks
 refine Zf (ZcB s 3 hs (by omega) (by omega)) fun r hr=>?_
 exact Zmv 3 rfl hr.1 fun e he=>Zb ⟨he,hr.2⟩
theorem ZvT (s:SrcF) (hs:s.ok):Tot (Zii s) fun r=>r.1 ∈ policyG∧r.2.ok:=by
 unfold Zii
 refine Zf (ZcB s 8 hs (by omega) (by omega)) fun r hr=>?_
 exact Zmv 8 rfl hr.1 fun e he=>Zb ⟨he,hr.2⟩
theorem Zud:∀ p ∈ Zwv,p.size≤40:=by decide
theorem Zw9 (s:SrcF) (hs:s.ok):Tot (Zko s) fun r=>r.1.size≤40∧r.2.ok:=by
 unfold Zko
 refine Zf (ZcB s 28 hs (by omega) (by omega)) fun r hr=>?_
 exact Zmv 28 rfl hr.1 fun e he=>Zb ⟨Zud e he,hr.2⟩
theorem ZrS (s:SrcF) (hs:s.ok):Tot (Zij s) fun r=>r.1.size≤300∧r.2.ok:=by
 unfold Zij
 refine Zf (ZcB s 12 hs (by omega) (by omega)) fun r hr=>?_
 refine Zx (fun q=>∀ t l p sd,t.size≤40→(⟨l,p,sd⟩:SrcF).ok→Tot (q t l p sd) fun r:ByteArray×SrcF=>r.1.size≤300∧r.2.ok) ?_ ?_
 ·intro t l p sd ht hok
  refine Zf (ZcB _ 5 hok (by omega) (by omega)) fun r hr=>?_
  refine Zj (fun a:ByteArray×Int×List Int×Int×Int=>(a.1.size:Int)+40 * a.2.1≤300∧(0≤a.2.1∧a.2.1≤5)∧(⟨a.2.2.1,a.2.2.2.1,a.2.2.2.2⟩:SrcF).ok) (fun a=>a.2.1.toNat) ⟨by dsimp only;omega,⟨hr.1.1,by dsimp only;omega⟩,hr.2⟩ (by dsimp only;omega) ?_
  rintro ⟨t,n,l,p,sd⟩ rec ⟨h1,h2,h3⟩ ih
  dsimp only at h1 h2 h3 ⊢
  refine Zc (fun h=>?_) fun h=>?_
  ·refine Zf (Zw9 _ h3) fun r hr=>?_
   have:=hr.1
   refine Zf2 (by omega) fun hsz=>?_
   rw [Zg (by omega) (by omega)]
   refine ih _ ⟨?_,?_,hr.2⟩ ?_
   ·dsimp only;rw [hsz];omega
   ·dsimp only;omega
   ·dsimp only;omega
  ·exact Zb ⟨by dsimp only;omega,h3⟩
 ·intro k hk
  refine Zc (fun h=>?_) fun h=>?_
  ·refine Zf (ZcB _ 3 hr.2 (by omega) (by omega)) fun r2 hr2=>?_
   refine Zmv 3 rfl hr2.1 fun e he=>?_
   have he':e.size≤10:=by
    simp at he
    rcases he with rfl | rfl | rfl<;>decide
   refine Zf2 (by show 12+e.size≤_;omega) fun hs1=>?_
   have hs1':(ByteArray.append ⟨#[35,82,69,68,73,82,69,67,84,32,91,91]⟩ e).size≤22:=by
    have:(⟨#[35,82,69,68,73,82,69,67,84,32,91,91]⟩:ByteArray).size=12:=rfl
    rw [this] at hs1
    exact Nat.le_trans (Nat.le_of_eq hs1) (by omega)
   refine Zf2 (Nat.le_trans (Nat.add_le_add_right hs1' 3) (by decide)) fun hs2=>?_
   exact hk _ _ _ _ (Nat.le_trans (Nat.le_of_eq hs2) (Nat.le_trans (Nat.add_le_add_right hs1' 3) (by decide))) hr2.2
  ·exact hk _ _ _ _ (by decide) hr.2
theorem ZrD (s:SrcF) (clock:Int) (hs:s.ok):Tot (ZeP s clock) fun r=>r.1.length≤3∧r.2.ok:=by
 unfold ZeP
 refine Zf (ZcB s 3 hs (by omega) (by omega)) fun r hr=>?_
 refine Zj (fun a:Int×Int×List Int×Int×Int×List Revision=>((a.2.2.2.2.2.length:Int)+a.2.1≤3∧0≤a.2.1∧a.2.1≤3)∧(⟨a.2.2.1,a.2.2.2.1,a.2.2.2.2.1⟩:SrcF).ok) (fun a=>a.2.1.toNat) ⟨?_,hr.2⟩ ?_ ?_
 ·dsimp only
  rw [Zg (by omega) (by omega)]
  simp
  omega
 ·dsimp only
  rw [Zg (by omega) (by omega)]
  omega
 rintro ⟨m,n,l,p,sd,out⟩ rec ⟨⟨h1,h2,h3⟩,h4⟩ ih
 dsimp only at h1 h2 h3 h4 ⊢
 refine Zc (fun h=>?_) fun h=>?_
 ·refine Zf (Zuc _ h4) fun r1 q1=>?_
  refine Zf (Zws _ q1.2) fun r2 q2=>?_
  refine Zf (ZrS _ q2.2) fun r3 q3=>?_
  refine ZK 3 (by simp;omega) (by decide) (by decide) ?_
  refine Zf (ZcB _ 3 q3.2 (by omega) (by omega)) fun r4 q4=>?_
  have e:w64 (n - 1)=n - 1:=Zg (by omega) (by omega)
  refine ih _ ⟨?_,q4.2⟩ ?_
  ·dsimp only
   rw [e]
   simp
   omega
  ·dsimp only
   rw [e]
   omega
 ·exact Zb ⟨by dsimp only;omega,h4⟩
def policyT:Title:=⟨5,⟨#[80,111,108,105,99,121]⟩⟩
structure Change.tame (c:Change):Prop where
 title:c.title≠policyT
 «to» : c.to≠policyT
 n0:0≤c.n
 n1:c.n≤2000
 hist:c.history.length≤3
 text:c.text.size≤300
theorem Zb3:∀ t ∈ ZaJ,t≠policyT:=by decide
theorem ZcQ:(⟨0,⟨#[]⟩⟩:Title)≠policyT:=by decide
def ZcP (u:ByteArray):Bool:=decide (u=⟨#[]⟩)||Zbl u
structure RevOK (clock q:Int) (r:Revision):Prop where
 text:r.text.size≤8192
 note:r.note.size≤200
 user:ZcP r.user=true
 minute0:0≤r.minute
 minute1:r.minute≤clock
 seq0:1≤r.seq
 seq1:r.seq≤q
def ZzK (a b:Revision):Prop:=a.minute≤b.minute∧a.seq≤b.seq
structure HistOK (clock q:Int) (l:List Revision):Prop where
 len1:1≤l.length
 len2:l.length≤40
 num:∀ (i:Nat) r,l[i]? = some r→r.number=(i:Int)+1
 all:∀ r ∈ l,RevOK clock q r
 mono:l.Pairwise ZzK
structure StoOK (clock q:Int) (p:Stored):Prop where
 title:p.title.valid=true
 hist:HistOK clock q p.history
structure PropOK (clock top:Int) (p:Proposal):Prop where
 id1:p.id≤top
 user:ZcP p.user=true
 title:p.title.valid=true
 base0:0≤p.base
 base1:p.base≤40
 text:p.text.size≤8192
 note:p.note.size≤200
 minute0:0≤p.minute
 minute1:p.minute≤clock
def wlt (a b:Watch):Prop:=ZlL a.user b.user∨(a.user=b.user∧tlt a.title b.title)
def Zm6 (p:Stored):ByteArray:=(p.history.getLast?.map (·.text)).getD ⟨#[]⟩
structure VS (t0:ByteArray) (q:Int) (s:State):Prop where
 seq0:0≤s.seq
 clock0:0≤s.clock
 clock1:s.clock≤52595999
 plen:s.pages.length≤200
 glen:s.gone.length≤100
 pages:∀ p ∈ s.pages,StoOK s.clock q p
 gone:∀ p ∈ s.gone,StoOK s.clock q p
 sorted:s.pages.Pairwise fun a b=>tlt a.title b.title
 rule:∀ p ∈ s.pages,p.title=policyT→Zm6 p=t0
 prlen:s.proposals.length≤40
 prop0:0≤s.proposed
 prop1:s.proposed≤1073741824
 props:∀ p ∈ s.proposals,PropOK s.clock s.proposed p
 ids:∀ p ∈ s.proposals,1≤p.id
 prsort:s.proposals.Pairwise fun a b=>a.id<b.id
 wlen:s.watches.length≤100
 watches:∀ w ∈ s.watches,Zbl w.user=true∧w.title.valid=true
 wsort:s.watches.Pairwise wlt
 llen:s.lasts.length≤60
 lasts:∀ w ∈ s.lasts,Zbl w.user=true∧1≤w.seq∧w.seq≤q
 lsort:s.lasts.Pairwise fun a b=>ZlL a.user b.user
theorem ZnW (u:ByteArray):Zfh u=some (ZcP u):=by
 unfold Zfh letk Zba ZcP
 by_cases h:u=(⟨#[]⟩:ByteArray)
 ·simp [h]
 ·simp [h]
theorem ZgD (u:ByteArray):ZcU u=some (ZcP u):=by
 unfold ZcU letk Zba ZcP
 by_cases h:u=(⟨#[]⟩:ByteArray)
 ·simp [h]
 ·simp [h]
theorem ZV {α:Type} {x:Option α} {v:α} (h:Tot x fun r=>r=v):x=some v:=by
 obtain ⟨w,h1,h2⟩:=h
 rw [h1,h2]
theorem Zs {β:Type} {b:Bool} {x y:Option β} {R:β→Prop} (h:b=false) (k:Tot y R):Tot (if b=true then x else y) R:=by rw [if_neg (by rw [h];simp)];exact k
theorem ZH {β:Type} {b:Bool} {x y:Option β} {R:β→Prop} (h:b=true) (k:Tot x R):Tot (if b=true then x else y) R:=by rw [if_pos h];exact k
theorem Zin {α:Type} {R:α→α→Prop} {l:List α} (h:l.Pairwise R) {i j:Nat} {a b:α} (hij:i<j) (ha:l[i]? = some a) (hb:l[j]? = some b):R a b:=by
 obtain ⟨h1,rfl⟩:=List.getElem?_eq_some_iff.1 ha
 obtain ⟨h2,rfl⟩:=List.getElem?_eq_some_iff.1 hb
 exact List.pairwise_iff_getElem.1 h i j h1 h2 hij
theorem Zqg (s:State) (q:Int) (l:List Revision) (hq:s.seq=q) (h:HistOK s.clock q l):Zeh s l=some true:=by
 subst hq
 have h1:=h.len1
 have h2:=h.len2
 refine ZV ?_
 unfold Zeh
 refine Zx (fun k=>Tot (k false) fun r=>r=true) ?_ fun k hk=>?_
 ·refine Zs rfl ?_
  refine Zj (fun a:Int×Int×Int=>(0≤a.2.2∧a.2.2≤(l.length:Int))∧(a.2.2=0→a.1=0∧a.2.1=1)∧∀ r,0<a.2.2→l[(a.2.2 - 1).toNat]? = some r→a.1=r.minute∧a.2.1=r.seq) (fun a=>((l.length:Int) - a.2.2).toNat) ⟨by simp,by simp,fun r h=>by simp at h⟩ (by first | omega | (dsimp only;omega)) ?_
  rintro ⟨m,q,i⟩ rec ⟨⟨h3,h4⟩,h5,h6⟩ ih
  dsimp only at h3 h4 h5 h6 ⊢
  refine Zc (fun hi=>?_) fun hi=>Zb rfl
  refine Zl h3 hi fun e he hg=>?_
  have hr:=h.all e he
  have hn:=h.num _ _ hg
  have e1:w64 (i+1)=i+1:=Zg (by omega) (by omega)
  have hm:m≤e.minute∧q≤e.seq:=by
   rcases Int.lt_or_eq_of_le h3 with h0 | h0
   ·obtain ⟨r,hr'⟩:∃ r,l[(i - 1).toNat]? = some r:=⟨_,List.getElem?_eq_getElem (by omega)⟩
    obtain ⟨rfl,rfl⟩:=h6 r h0 hr'
    exact Zin h.mono (by omega) hr' hg
   ·obtain ⟨rfl,rfl⟩:=h5 h0.symm
    exact ⟨hr.minute0,hr.seq0⟩
  have a1:=hr.text
  have a2:=hr.note
  have a3:=hr.minute1
  have a4:=hr.seq1
  refine Zx (fun k=>Tot (k false) fun r=>r=true) ?_ fun k hk=>?_
  ·refine Zs rfl ?_
   rw [e1]
   refine ih _ ⟨⟨by dsimp only;omega,by dsimp only;omega⟩,fun h=>by dsimp only at h;omega,fun r _ hr'=>?_⟩ (by first | omega | (dsimp only;omega))
   dsimp only at hr' ⊢
   rw [show i+1 - 1=i by omega,hg] at hr'
   injection hr' with hr'
   subst hr'
   exact ⟨rfl,rfl⟩
  ·rw [e1]
   refine ZQ (fun c=>absurd (by omega) c) fun _=>?_
   refine Zc (fun c=>absurd c (by omega)) fun _=>?_
   refine Zc (fun c=>absurd c (by omega)) fun _=>?_
   refine Za (ZnW _) ?_
   refine Zs (by rw [hr.user];rfl) ?_
   refine Zc (fun c=>absurd c (by omega)) fun _=>?_
   refine Zc (fun c=>absurd c (by omega)) fun _=>?_
   refine Zc (fun c=>absurd c (by omega)) fun _=>?_
   rw [decide_eq_false (by omega)]
   exact hk
 ·refine Zc (fun c=>absurd c (by omega)) fun _=>?_
  rw [decide_eq_false (by omega)]
  exact hk
theorem ZrB (t0:ByteArray) (q:Int) (s:State) (h:VS t0 q s):ZdW s=some true:=by
 have h1:=h.prlen
 have h2:=h.prop0
 have h3:=h.prop1
 refine ZV ?_
 unfold ZdW
 refine Zx (fun k=>Tot (k false) fun r=>r=true) ?_ fun k hk=>?_
 ·refine Zs rfl ?_
  refine Zj (fun a:Int×Int=>(0≤a.2∧a.2≤(s.proposals.length:Int))∧(a.2=0→a.1=0)∧∀ p,0<a.2→s.proposals[(a.2 - 1).toNat]? = some p→a.1=p.id) (fun a=>((s.proposals.length:Int) - a.2).toNat) ⟨by simp,by simp,fun r h=>by simp at h⟩ (by first | omega | (dsimp only;omega)) ?_
  rintro ⟨m,i⟩ rec ⟨⟨h3,h4⟩,h5,h6⟩ ih
  dsimp only at h3 h4 h5 h6 ⊢
  refine Zc (fun hi=>?_) fun hi=>Zb rfl
  refine Zl h3 hi fun e he hg=>?_
  have hr:=h.props e he
  have hid:=h.ids e he
  have e1:w64 (i+1)=i+1:=Zg (by omega) (by omega)
  have hm:m<e.id:=by
   rcases Int.lt_or_eq_of_le h3 with h0 | h0
   ·obtain ⟨r,hr'⟩:∃ r,s.proposals[(i - 1).toNat]? = some r:=⟨_,List.getElem?_eq_getElem (by omega)⟩
    obtain rfl:=h6 r h0 hr'
    exact Zin h.prsort (by omega) hr' hg
   ·obtain rfl:=h5 h0.symm
    omega
  have a1:=hr.text
  have a2:=hr.note
  have a3:=hr.minute1
  have a4:=hr.minute0
  have a5:=hr.base0
  have a6:=hr.base1
  have a7:=hr.id1
  refine Zx (fun k=>Tot (k false) fun r=>r=true) ?_ fun k hk=>?_
  ·refine Zs rfl ?_
   rw [e1]
   refine ih _ ⟨⟨by dsimp only;omega,by dsimp only;omega⟩,fun h=>by dsimp only at h;omega,fun r _ hr'=>?_⟩ (by first | omega | (dsimp only;omega))
   dsimp only at hr' ⊢
   rw [show i+1 - 1=i by omega,hg] at hr'
   injection hr' with hr'
   subst hr'
   rfl
  ·refine Zc (fun c=>absurd c (by omega)) fun _=>?_
   refine Zc (fun c=>absurd c (by omega)) fun _=>?_
   refine Za (ZnW _) ?_
   refine Zs (by rw [hr.user];rfl) ?_
   refine Za (v:=true) (by unfold ZbD;rw [hr.title]) ?_
   refine Zs rfl ?_
   refine Zc (fun c=>absurd c (by omega)) fun _=>?_
   refine Zc (fun c=>absurd c (by omega)) fun _=>?_
   refine Zc (fun c=>absurd c (by omega)) fun _=>?_
   refine Zc (fun c=>absurd c (by omega)) fun _=>?_
   refine Zc (fun c=>absurd c (by omega)) fun _=>?_
   rw [decide_eq_false (by omega)]
   exact hk
 ·refine Zc (fun c=>absurd c (by omega)) fun _=>?_
  refine Zc (fun c=>absurd c (by omega)) fun _=>?_
  rw [decide_eq_false (by omega)]
  exact hk
theorem Zsc (a b:Watch):Tot (Zfi a b) fun r=>r=true↔wlt a b:=by
 unfold Zfi
 refine ZJ ?_
 refine Zaw (fun h=>Zb ⟨fun _=>.inl h,fun _=>rfl⟩) fun h=>?_
 refine Zc (fun h2=>?_) fun h2=>?_
 ·refine Za (v:=Title.cmp a.title b.title) rfl ?_
  refine Zb ?_
  rw [decide_eq_true_eq]
  refine ⟨fun c=>.inr ⟨h2,c⟩,fun c=>?_⟩
  rcases c with c | c
  ·unfold ZlL at c
   rw [h] at c
   cases c
  ·exact c.2
 ·refine Zb ⟨(fun c=>by cases c),fun c=>?_⟩
  rcases c with c | c
  ·unfold ZlL at c
   rw [h] at c
   cases c
  ·exact absurd c.1 h2
theorem Zx7 (t0:ByteArray) (s:State) (h:VS t0 s.seq s):Zh7 s=some true:=by
 have h1:=h.wlen
 have h2:=h.llen
 refine ZV ?_
 unfold Zh7
 refine Zx (fun k=>Tot (k false) fun r=>r=true) ?_ fun k hk=>?_
 ·refine Zs rfl ?_
  refine Zj (fun i:Int=>0≤i∧i≤(s.watches.length:Int)) (fun i=>((s.watches.length:Int) - i).toNat) ⟨by omega,by omega⟩ (by first | omega | (dsimp only;omega)) ?_
  rintro i rec ⟨h3,h4⟩ ih
  refine Zc (fun hi=>?_) fun hi=>?_
  ·refine Zl h3 hi fun e he hg=>?_
   have hw:=h.watches e he
   have e1:w64 (i+1)=i+1:=Zg (by omega) (by omega)
   have e2:w64 (i - 1)=i - 1:=Zg (by omega) (by omega)
   refine Zx (fun k=>Tot (k false) fun r=>r=true) ?_ fun k hk=>?_
   ·refine Zs rfl ?_
    rw [e1]
    exact ih _ ⟨by omega,by omega⟩ (by omega)
   ·refine Za (v:=true) (by unfold Zba;rw [hw.1]) ?_
    refine Zs rfl ?_
    refine Za (v:=true) (by unfold ZbD;rw [hw.2]) ?_
    refine Zs rfl ?_
    refine Zc (fun h0=>?_) fun _=>hk
    rw [e2]
    refine Zl (by omega) (by omega) fun e' _ hg'=>?_
    obtain ⟨b,hb1,hb2⟩:=Zsc e' e
    refine Za hb1 ?_
    rw [hb2.2 (Zin h.wsort (by omega) hg' hg)]
    exact hk
  ·refine Zj (fun i:Int=>0≤i∧i≤(s.lasts.length:Int)) (fun i=>((s.lasts.length:Int) - i).toNat) ⟨by omega,by omega⟩ (by first | omega | (dsimp only;omega)) ?_
   rintro i rec ⟨h3,h4⟩ ih
   refine Zc (fun hi=>?_) fun hi=>Zb rfl
   refine Zl h3 hi fun e he hg=>?_
   obtain ⟨w1,w2,w3⟩:=h.lasts e he
   have e1:w64 (i+1)=i+1:=Zg (by omega) (by omega)
   have e2:w64 (i - 1)=i - 1:=Zg (by omega) (by omega)
   refine Zx (fun k=>Tot (k false) fun r=>r=true) ?_ fun k hk=>?_
   ·refine Zs rfl ?_
    rw [e1]
    exact ih _ ⟨by omega,by omega⟩ (by omega)
   ·refine Za (v:=true) (by unfold Zba;rw [w1]) ?_
    refine Zs rfl ?_
    refine Zc (fun c=>absurd c (by omega)) fun _=>?_
    refine Zc (fun c=>absurd c (by omega)) fun _=>?_
    refine Zc (fun h0=>?_) fun _=>hk
    rw [e2]
    refine Zl (by omega) (by omega) fun e' _ hg'=>?_
    rw [show ltS e'.user e.user=true from Zin h.lsort (by omega) hg' hg]
    exact hk
 ·refine Zc (fun c=>absurd c (by omega)) fun _=>?_
  rw [decide_eq_false (by omega)]
  exact hk
theorem Zio (l:List Stored) (t:Title) (hl:l.length≤1000000):Tot (Zcd l t) fun r=>(r = -1∧∀ p ∈ l,p.title≠t)∨∃ (n:Nat) (p:Stored),r=n∧l[n]? = some p∧p.title=t:=by
 unfold Zcd
 refine Zj (fun i:Int=>(0≤i∧i≤(l.length:Int))∧∀ (j:Nat) p,(j:Int)<i→l[j]? = some p→p.title≠t) (fun i=>((l.length:Int) - i).toNat) ⟨⟨by omega,by omega⟩,fun j p h=>by omega⟩ (by first | omega | (dsimp only;omega)) ?_
 rintro i rec ⟨⟨h3,h4⟩,h5⟩ ih
 refine Zc (fun hi=>?_) fun hi=>?_
 ·refine Zl h3 hi fun e he hg=>?_
  have e1:w64 (i+1)=i+1:=Zg (by omega) (by omega)
  refine Zc (fun c=>Zb (.inr ⟨i.toNat,e,by omega,hg,c⟩)) fun c=>?_
  rw [e1]
  refine ih _ ⟨⟨by omega,by omega⟩,fun j p hj hp=>?_⟩ (by omega)
  by_cases hji:(j:Int)<i
  ·exact h5 j p hji hp
  ·have:j=i.toNat:=by omega
   rw [this,hg] at hp
   injection hp with hp
   rw [← hp]
   exact c
 ·refine Zb (.inl ⟨rfl,fun p hp=>?_⟩)
  obtain ⟨j,hj⟩:=List.getElem?_of_mem hp
  have:=(List.getElem?_eq_some_iff.1 hj).1
  exact h5 j p (by omega) hj
theorem Zm7 (p:Stored) (h0:1≤p.history.length) (hl:p.history.length≤1000000):∃ r,p.history.getLast? = some r∧Zdi p=some r:=by
 obtain ⟨r,hr⟩:∃ r,p.history[p.history.length - 1]? = some r:=⟨_,List.getElem?_eq_getElem (by omega)⟩
 refine ⟨r,by rw [List.getLast?_eq_getElem?,hr],ZV ?_⟩
 unfold Zdi
 refine Zc (fun c=>absurd c (by omega)) fun _=>?_
 rw [Zg (by omega) (by omega)]
 refine Zl (by omega) (by omega) fun e _ hg=>Zb ?_
 rw [show ((p.history.length:Int) - 1).toNat=p.history.length - 1 by omega,hr] at hg
 injection hg with hg
 exact hg.symm
theorem Zu7 (s:State) (t:Title) (hl:s.pages.length≤1000000):Tot (Zce s t) fun r=>(r.2=false∧∀ p ∈ s.pages,p.title≠t)∨(r.2=true∧r.1 ∈ s.pages∧r.1.title=t):=by
 unfold Zce
 refine Zf (Zio s.pages t hl) fun r hr=>?_
 rcases hr with ⟨rfl,h⟩ | ⟨n,p,rfl,h1,h2⟩
 ·exact Zc (fun _=>Zb (.inl ⟨rfl,h⟩)) fun c=>absurd (by omega) c
 ·refine Zc (fun c=>absurd c (by omega)) fun _=>?_
  have:=(List.getElem?_eq_some_iff.1 h1).1
  refine Zl (by omega) (by omega) fun e he hg=>Zb (.inr ⟨rfl,he,?_⟩)
  rw [Int.toNat_natCast,h1] at hg
  injection hg with hg
  rw [← hg]
  exact h2
theorem Zx8 (t0:ByteArray) (s:State) (h:VS t0 s.seq s) (hp:∃ p n,Zai t0=some (p,n,0)):ZhB s=some true:=by
 have h1:=h.plen
 have h2:=h.glen
 refine ZV ?_
 unfold ZhB
 refine Zx (fun k=>Tot (k false) fun r=>r=true) ?_ fun k hk=>?_
 ·refine Zs rfl ?_
  refine Zj (fun i:Int=>0≤i∧i≤(s.pages.length:Int)) (fun i=>((s.pages.length:Int) - i).toNat) ⟨by omega,by omega⟩ (by first | omega | (dsimp only;omega)) ?_
  rintro i rec ⟨h3,h4⟩ ih
  refine Zc (fun hi=>?_) fun hi=>?_
  ·refine Zl h3 hi fun e he hg=>?_
   have hw:=h.pages e he
   have e1:w64 (i+1)=i+1:=Zg (by omega) (by omega)
   have e2:w64 (i - 1)=i - 1:=Zg (by omega) (by omega)
   refine Zx (fun k=>Tot (k false) fun r=>r=true) ?_ fun k hk=>?_
   ·refine Zs rfl ?_
    rw [e1]
    exact ih _ ⟨by omega,by omega⟩ (by omega)
   ·refine Za (v:=true) (by unfold ZbD;rw [hw.title]) ?_
    refine Zs rfl ?_
    refine Za (Zqg s _ _ rfl hw.hist) ?_
    refine Zs rfl ?_
    refine Zc (fun h0=>?_) fun _=>hk
    rw [e2]
    refine Zl (by omega) (by omega) fun e' _ hg'=>?_
    refine Za (v:=Title.cmp e'.title e.title) rfl ?_
    have:tlt e'.title e.title:=Zin h.sorted (by omega) hg' hg
    unfold tlt at this
    rw [decide_eq_false (by omega)]
    exact hk
  ·refine Zj (fun i:Int=>0≤i∧i≤(s.gone.length:Int)) (fun i=>((s.gone.length:Int) - i).toNat) ⟨by omega,by omega⟩ (by first | omega | (dsimp only;omega)) ?_
   rintro i rec ⟨h3,h4⟩ ih
   refine Zc (fun hi=>?_) fun hi=>?_
   ·have e1:w64 (i+1)=i+1:=Zg (by omega) (by omega)
    refine Zx (fun k=>Tot (k false) fun r=>r=true) ?_ fun k hk=>?_
    ·refine Zs rfl ?_
     rw [e1]
     exact ih _ ⟨by omega,by omega⟩ (by omega)
    ·refine Zl h3 hi fun e he hg=>?_
     have hw:=h.gone e he
     refine Za (v:=true) (by unfold ZbD;rw [hw.title]) ?_
     refine Zs rfl ?_
     refine Zl h3 hi fun e' he' hg'=>?_
     rw [hg] at hg'
     injection hg' with hg'
     subst hg'
     refine Za (Zqg s _ _ rfl hw.hist) ?_
     exact hk
   ·refine Za (v:=policyT) rfl ?_
    refine Zf (Zu7 s policyT (by omega)) fun r hr=>?_
    rcases hr with ⟨hr,_⟩ | ⟨hr,hm,ht⟩
    ·rw [hr]
     exact Zs rfl (Zb rfl)
    ·rw [hr]
     refine ZH rfl ?_
     have hh:=(h.pages _ hm).hist
     obtain ⟨c,hc1,hc2⟩:=Zm7 r.1 hh.len1 (by have:=hh.len2;omega)
     refine Za hc2 ?_
     have:=h.rule _ hm ht
     unfold Zm6 at this
     rw [hc1] at this
     obtain ⟨p,n,hp⟩:=hp
     refine Za (v:=(p,n,0)) (by rw [show c.text=t0 from this];exact hp) ?_
     exact Zb rfl
 ·refine Zc (fun c=>absurd c (by omega)) fun _=>?_
  rw [decide_eq_false (by omega)]
  exact hk
theorem ZrC (t0:ByteArray) (s:State) (h:VS t0 s.seq s) (hs:s.seq≤1073741824) (hp:∃ p n,Zai t0=some (p,n,0)):Zgi s=some true:=by
 have h1:=h.seq0
 have h2:=h.clock0
 have h3:=h.clock1
 refine ZV ?_
 unfold Zgi
 refine Zx (fun k=>Tot (k false) fun r=>r=true) ?_ fun k hk=>?_
 ·refine Zs rfl ?_
  refine ZJ ?_
  refine Za (Zx8 t0 s h hp) ?_
  refine ZH rfl ?_
  refine Za (ZrB t0 _ s h) ?_
  refine ZH rfl ?_
  refine Za (Zx7 t0 s h) ?_
  exact Zb rfl
 ·refine Zc (fun c=>absurd c (by omega)) fun _=>?_
  refine Zc (fun c=>absurd c (by omega)) fun _=>?_
  refine Zc (fun c=>absurd c (by omega)) fun _=>?_
  rw [decide_eq_false (by omega)]
  exact hk
theorem Zib {α:Type} (l:List α):([]:List α)++l=l:=rfl
theorem Zdb {α:Type} {l:List α} {n:Nat} {e:α} (h:l[n]? = some e):l.take n ++ [e]=l.take (n+1):=by
 rw [List.take_add_one,h]
 rfl
theorem ZfE {α:Type} (l:List α) {a:Int} {n:Nat} (ha:a=n) (h:n≤l.length):ZjA l a (l.length:Int)=some (l.drop n):=by
 subst ha
 exact ZuL h
theorem Zdf (l:List Stored) (p:Stored) (hl:l.length≤1000000):Tot (ZcS l p) fun r=>∃ n,n≤l.length∧r=l.take n++p::l.drop n∧(∀ y ∈ l.take n,tlt y.title p.title)∧∀ y,l[n]? = some y→¬ tlt y.title p.title:=by
 unfold ZcS
 refine Zj (fun a:Int×List Stored=>∃ n:Nat,a.1=n∧n≤l.length∧a.2=l.take n∧∀ y ∈ l.take n,tlt y.title p.title) (fun a=>((l.length:Int) - a.1).toNat) ⟨0,rfl,Nat.zero_le _,rfl,fun y h=>by simp at h⟩ (by first | omega | (dsimp only;omega)) ?_
 rintro ⟨i,out⟩ rec ⟨n,hi,hn,ho,hlt⟩ ih
 dsimp only at hi ho
 subst hi ho
 refine Zx (fun k=>(∀ e,l[n]? = some e→tlt e.title p.title→Tot (k true) fun r=>∃ n,n≤l.length∧r=l.take n++p::l.drop n∧(∀ y ∈ l.take n,tlt y.title p.title)∧∀ y,l[n]? = some y→¬ tlt y.title p.title)∧
  ((∀ y,l[n]? = some y→¬ tlt y.title p.title)→Tot (k false) fun r=>∃ n,n≤l.length∧r=l.take n++p::l.drop n∧(∀ y ∈ l.take n,tlt y.title p.title)∧∀ y,l[n]? = some y→¬ tlt y.title p.title)) ⟨fun e he hep=>?_,fun hne=>?_⟩ fun k hk=>?_
 ·have hln:=(List.getElem?_eq_some_iff.1 he).1
  refine ZH rfl ?_
  refine Zl (by omega) (by omega) fun e' _ hg'=>?_
  rw [Int.toNat_natCast,he] at hg'
  injection hg' with hg'
  subst hg'
  refine ZK 2000000 (by simp;omega) (by decide) (by decide) ?_
  rw [Zdb he,Zg (by omega) (by omega)]
  refine ih _ ⟨n+1,by dsimp only;omega,hln,rfl,fun y hy=>?_⟩ (by first | omega | (dsimp only;omega))
  rw [← Zdb he] at hy
  rcases List.mem_append.1 hy with hy | hy
  ·exact hlt y hy
  ·simp at hy
   rw [hy]
   exact hep
 ·refine Zs rfl ?_
  refine ZK 2000000 (by simp;omega) (by decide) (by decide) ?_
  refine Za (ZfE l rfl hn) ?_
  refine ZK 2000000 (by simp;omega) (by decide) (by decide) ?_
  exact Zb ⟨n,hn,by simp,hlt,hne⟩
 ·refine Zc (fun h=>?_) fun h=>hk.2 fun y hy=>?_
  ·refine Zl (by omega) h fun e _ hg=>?_
   rw [Int.toNat_natCast] at hg
   refine Za (v:=Title.cmp e.title p.title) rfl ?_
   by_cases hc:Title.cmp e.title p.title<0
   ·rw [decide_eq_true hc]
    exact hk.1 e hg hc
   ·rw [decide_eq_false hc]
    refine hk.2 fun y hy=>?_
    rw [hg] at hy
    injection hy with hy
    rw [← hy]
    exact hc
  ·have:=(List.getElem?_eq_some_iff.1 hy).1
   omega
theorem Zic (l:List Stored) (n:Nat) (hn:n<l.length) (hl:l.length≤1000000):Zdj l n=some (l.take n++l.drop (n+1)):=by
 refine ZV ?_
 unfold Zdj
 refine Za (ZxU (Nat.le_of_lt hn)) ?_
 refine ZK 2000000 (by simp;omega) (by decide) (by decide) ?_
 rw [Zg (by omega) (by omega)]
 refine Za (ZfE l (n:=n+1) (by omega) hn) ?_
 refine ZK 2000000 (by simp;omega) (by decide) (by decide) ?_
 exact Zb rfl
theorem Zwy (l:List Proposal) (t:Title) (hl:l.length≤1000000):Tot (Zit l t) fun r=>r.Sublist l:=by
 unfold Zit
 refine Zj (fun a:Int×List Proposal=>∃ n:Nat,a.1=n∧n≤l.length∧a.2.Sublist (l.take n)) (fun a=>((l.length:Int) - a.1).toNat) ⟨0,rfl,Nat.zero_le _,List.Sublist.refl _⟩ (by first | omega | (dsimp only;omega)) ?_
 rintro ⟨i,out⟩ rec ⟨n,hi,hn,ho⟩ ih
 dsimp only at hi ho
 subst hi
 have hlen:=ho.length_le
 rw [List.length_take] at hlen
 refine Zc (fun h=>?_) fun h=>?_
 ·refine ZJ ?_
  refine Zl (by omega) h fun e _ hg=>?_
  rw [Int.toNat_natCast] at hg
  rw [Zg (by omega) (by omega)]
  refine ZQ (fun _=>?_) fun _=>?_
  ·refine Zl (by omega) h fun e' _ hg'=>?_
   rw [Int.toNat_natCast,hg] at hg'
   injection hg' with hg'
   subst hg'
   refine ZK 2000000 (by simp;omega) (by decide) (by decide) ?_
   refine ih _ ⟨n+1,by dsimp only;omega,by omega,?_⟩ (by first | omega | (dsimp only;omega))
   dsimp only
   rw [← Zdb hg]
   exact List.Sublist.append ho (List.Sublist.refl _)
  ·refine ih _ ⟨n+1,by dsimp only;omega,by omega,?_⟩ (by first | omega | (dsimp only;omega))
   dsimp only
   rw [← Zdb hg]
   exact ho.trans (List.sublist_append_left ..)
 ·refine Zb (ho.trans (List.take_sublist ..))
theorem ZuI (s:State) (c:Change) (hl:s.proposals.length≤1000000):Tot (ZgV s c) fun r=>r.2=0→∃ l,l.Sublist s.proposals∧r.1=⟨s.seq,s.clock,s.pages,s.gone,l,s.proposed,s.watches,s.lasts⟩:=by
 unfold ZgV
 generalize hL:s.proposals=l at hl ⊢
 refine Zj (fun a:Int×List Proposal=>∃ n:Nat,a.1=n∧n≤l.length∧a.2.Sublist (l.take n)) (fun a=>((l.length:Int) - a.1).toNat) ⟨0,rfl,Nat.zero_le _,List.Sublist.refl _⟩ (by first | omega | (dsimp only;omega)) ?_
 rintro ⟨i,out⟩ rec ⟨n,hi,hn,ho⟩ ih
 dsimp only at hi ho
 subst hi
 have hlen:=ho.length_le
 rw [List.length_take] at hlen
 refine Zc (fun h=>?_) fun h=>?_
 ·refine ZJ ?_
  refine Zl (by omega) h fun e _ hg=>?_
  rw [Int.toNat_natCast] at hg
  rw [Zg (by omega) (by omega)]
  refine ZQ (fun _=>?_) fun _=>?_
  ·refine Zl (by omega) h fun e' _ hg'=>?_
   rw [Int.toNat_natCast,hg] at hg'
   injection hg' with hg'
   subst hg'
   refine ZK 2000000 (by simp;omega) (by decide) (by decide) ?_
   refine ih _ ⟨n+1,by dsimp only;omega,by omega,?_⟩ (by first | omega | (dsimp only;omega))
   dsimp only
   rw [← Zdb hg]
   exact List.Sublist.append ho (List.Sublist.refl _)
  ·refine ih _ ⟨n+1,by dsimp only;omega,by omega,?_⟩ (by first | omega | (dsimp only;omega))
   dsimp only
   rw [← Zdb hg]
   exact ho.trans (List.sublist_append_left ..)
 ·refine Zc (fun _=>Zb (fun h=>by cases h)) fun _=>Zb fun _=>⟨out,?_,rfl⟩
  exact ho.trans (List.take_sublist ..)
theorem ZnT (s:State) (t:Title) (hl:s.gone.length≤1000000):Tot (ZeD s t) fun r=>r = -1∨∃ (n:Nat) (p:Stored),r=n∧s.gone[n]? = some p∧p.title=t:=by
 unfold ZeD
 refine Zj (fun i:Int=>-1≤i∧i<(s.gone.length:Int)) (fun i=>(i+1).toNat) ⟨?_,?_⟩ ?_ ?_
 ·rw [Zg (by omega) (by omega)];omega
 ·rw [Zg (by omega) (by omega)];omega
 ·rw [Zg (by omega) (by omega)];omega
 rintro i rec ⟨h3,h4⟩ ih
 refine Zc (fun hi=>?_) fun hi=>Zb (.inl rfl)
 refine Zl hi h4 fun e he hg=>?_
 refine Zc (fun c=>Zb (.inr ⟨i.toNat,e,by omega,hg,c⟩)) fun c=>?_
 rw [Zg (by omega) (by omega)]
 exact ih _ ⟨by omega,by omega⟩ (by omega)
theorem ZxR (n:Int):Tot (ZcM n) fun r=>r.size≤8:=by
 unfold ZcM
 refine ZJ ?_
 have fin:∀ e ∈ ([(⟨#[]⟩:ByteArray),(⟨#[84,97,108,107]⟩:ByteArray),(⟨#[85,115,101,114]⟩:ByteArray),(⟨#[84,101,109,112,108,97,116,101]⟩:ByteArray),(⟨#[67,97,116,101,103,111,114,121]⟩:ByteArray),(⟨#[80,114,111,106,101,99,116]⟩:ByteArray)]:List ByteArray),e.size≤8:=by decide
 refine Zc (fun _=>ZH rfl (Zb (by decide))) fun h=>?_
 by_cases hc:((([(⟨#[]⟩:ByteArray),(⟨#[84,97,108,107]⟩:ByteArray),(⟨#[85,115,101,114]⟩:ByteArray),(⟨#[84,101,109,112,108,97,116,101]⟩:ByteArray),(⟨#[67,97,116,101,103,111,114,121]⟩:ByteArray),(⟨#[80,114,111,106,101,99,116]⟩:ByteArray)]:List ByteArray).length:Int)≤n)
 ·rw [decide_eq_true hc]
  exact ZH rfl (Zb (by decide))
 ·rw [decide_eq_false hc]
  refine Zs rfl ?_
  refine Zl (by omega) (by omega) fun e he _=>Zb (fin e he)
theorem Zs1 (t:Title) (h:t.valid=true):Tot (ZeJ t) fun r=>r.size≤8192:=by
 have hn:t.name.size≤100:=by
  unfold Title.valid at h
  simp only [Bool.and_eq_true,decide_eq_true_eq] at h
  exact h.1.1.1.1.2
 have f:Tot (ZhZ t) fun r=>r.size≤200:=by
  unfold ZhZ
  refine Za (v:=true) (by unfold ZbD;rw [h]) ?_
  refine Zs rfl ?_
  refine Zc (fun _=>Zb (by omega)) fun _=>?_
  refine Zf (ZxR _) fun r hr=>?_
  refine Zf2 (by show r.size+1≤_;omega) fun e1=>?_
  have e1':(r++(⟨#[58]⟩:ByteArray)).size=r.size+1:=e1
  refine Zf2 (by rw [e1'];omega) fun e2=>Zb ?_
  rw [e2,e1']
  omega
 unfold ZeJ
 refine Zf f fun r hr=>?_
 have e0:(⟨#[35,82,69,68,73,82,69,67,84,32,91,91]⟩:ByteArray).size=12:=rfl
 refine Zf2 (by rw [e0];omega) fun e1=>?_
 rw [e0] at e1
 refine Zf2 (by rw [e1];show 12+r.size+2≤_;omega) fun e2=>Zb ?_
 rw [e2,e1]
 show 12+r.size+2≤_
 omega
structure ImpOK (l:List Revision):Prop where
 len1:1≤l.length
 len2:l.length≤40
 num:∀ (i:Nat) r,l[i]? = some r→r.number=(i:Int)+1
 user:∀ r ∈ l,ZcP r.user=true∧0≤r.minute
 mono:l.Pairwise fun a b=>a.minute≤b.minute
structure CV (c:Change):Prop where
 kind1:1≤c.kind
 kind2:c.kind≤10
 user:ZcP c.user=true
 title:c.kind≠6→c.kind≠10→c.title.valid=true
 watch:c.kind=7∨c.kind=8→c.user≠⟨#[]⟩
 dest:c.kind=4→c.to.valid=true
 tick:c.kind=6→1≤c.n
 prop:c.kind=9→0≤c.n∧c.n≤40
 imp:c.kind=5→ImpOK c.history
 text:c.text.size≤8192
 note:c.note.size≤200
 hist:∀ r ∈ c.history,r.text.size≤8192∧r.note.size≤200
theorem ZyX (c:Change):Tot (Zg2 c) fun b=>b=true→1≤c.kind∧c.kind≤10:=by
 unfold Zg2
 refine Zx (fun k=>∀ b,Tot (k b) fun b=>b=true→1≤c.kind∧c.kind≤10) (fun x1=>?_) fun k hk=>?_
 ·refine Zx (fun k=>∀ b,Tot (k b) fun b=>b=true→1≤c.kind∧c.kind≤10) (fun x2=>?_) fun k hk=>?_
  ·refine Zx (fun k=>∀ b,Tot (k b) fun b=>b=true→1≤c.kind∧c.kind≤10) (fun x3=>?_) fun k hk=>?_
   ·refine Zx (fun k=>(Tot (k true) fun b=>b=true→1≤c.kind∧c.kind≤10)∧((1≤c.kind∧c.kind≤10)→Tot (k false) fun b=>b=true→1≤c.kind∧c.kind≤10)) ⟨ZH rfl (Zb fun h=>by cases h),fun hr=>?_⟩ fun k hk=>?_
    ·refine Zs rfl ?_
     refine Zx (fun k=>∀ b,Tot (k b) fun b=>b=true→1≤c.kind∧c.kind≤10) (fun x5=>?_) fun k hk=>?_
     ·refine Zaw (fun _=>Zb fun _=>hr) fun _=>?_
      refine Zx (fun k=>∀ b,Tot (k b) fun b=>b=true→1≤c.kind∧c.kind≤10) (fun x6=>?_) fun k hk=>?_
      ·refine Zaw (fun _=>Zb fun _=>hr) fun _=>?_
       refine Zx (fun k=>∀ b,Tot (k b) fun b=>b=true→1≤c.kind∧c.kind≤10) (fun x7=>Zb fun _=>hr) fun k hk=>?_
       repeat' (first | exact hk _ | refine Zaw (fun _=>?_) fun _=>?_)
      ·repeat' (first | exact hk _ | refine Zaw (fun _=>?_) fun _=>?_)
     ·repeat' (first | exact hk _ | refine Zaw (fun _=>?_) fun _=>?_)
    ·refine Zc (fun _=>hk.1) fun h1=>?_
     by_cases h2:10<c.kind
     ·rw [decide_eq_true h2];exact hk.1
     ·rw [decide_eq_false h2];exact hk.2 ⟨by omega,by omega⟩
   ·repeat' (first | exact hk _ | refine Zaw (fun _=>?_) fun _=>?_)
  ·repeat' (first | exact hk _ | refine Zaw (fun _=>?_) fun _=>?_)
 ·repeat' (first | exact hk _ | refine Zaw (fun _=>?_) fun _=>?_)
theorem ZyY {α:Type} {R:α→α→Prop} (tr:∀ a b c,R a b→R b c→R a c) {l:List α} (h:∀ (j:Nat) a b,l[j]? = some a→l[j+1]? = some b→R a b):l.Pairwise R:=by
 rw [List.pairwise_iff_getElem]
 have key:∀ (d i:Nat) (h1:i<l.length) (h2:i+d+1<l.length),R l[i] l[i+d+1]:=fun d=>by
  induction d with
  | zero=>exact fun i h1 h2=>h i _ _ (List.getElem?_eq_getElem h1) (List.getElem?_eq_getElem h2)
  | succ d ih=>exact fun i h1 h2=>tr _ _ _ (ih i h1 (by omega)) (h (i+d+1) _ _ (List.getElem?_eq_getElem (by omega)) (List.getElem?_eq_getElem h2))
 intro i j hi hj hij
 have:=key (j - i - 1) i hi (by omega)
 simpa [show i+(j - i - 1)+1=j by omega] using this
theorem ZzF (l:List Revision):Tot (ZfC l) fun b=>b=true→ImpOK l:=by
 unfold ZfC
 refine Zx (fun k=>(Tot (k true) fun b=>b=true→ImpOK l)∧((1≤l.length∧l.length≤40)→Tot (k false) fun b=>b=true→ImpOK l)) ⟨ZH rfl (Zb fun h=>by cases h),fun hl=>?_⟩ fun k hk=>?_
 ·refine Zs rfl ?_
  refine Zj (fun i:Int=>(0≤i∧i≤(l.length:Int))∧∀ (j:Nat) r,(j:Int)<i→l[j]? = some r→r.number=(j:Int)+1∧(ZcP r.user=true∧0≤r.minute)∧∀ r',l[j - 1]? = some r'→r'.minute≤r.minute) (fun i=>((l.length:Int) - i).toNat) ⟨⟨by omega,by omega⟩,fun j r h=>by omega⟩ (by first | omega | (dsimp only;omega)) ?_
  rintro i rec ⟨⟨h3,h4⟩,h5⟩ ih
  refine Zc (fun hi=>?_) fun hi=>Zb fun _=>?_
  ·refine Zl h3 hi fun e he hg=>?_
   have e1:w64 (i+1)=i+1:=Zg (by omega) (by omega)
   have e2:w64 (i - 1)=i - 1:=Zg (by omega) (by omega)
   refine Zx (fun k=>(Tot (k true) fun b=>b=true→ImpOK l)∧((e.number=i+1∧(ZcP e.user=true∧0≤e.minute)∧∀ r',l[i.toNat - 1]? = some r'→r'.minute≤e.minute)→Tot (k false) fun b=>b=true→ImpOK l)) ⟨ZH rfl (Zb fun h=>by cases h),fun hf=>?_⟩ fun k hk=>?_
   ·refine Zs rfl ?_
    rw [e1]
    refine ih _ ⟨⟨by omega,by omega⟩,fun j r hj hr=>?_⟩ (by omega)
    by_cases hji:(j:Int)<i
    ·exact h5 j r hji hr
    ·obtain rfl:j=i.toNat:=by omega
     rw [hg] at hr
     injection hr with hr
     subst hr
     exact ⟨by rw [hf.1];omega,hf.2⟩
   ·rw [e1]
    refine ZQ (fun _=>hk.1) fun c1=>?_
    refine ZQ (fun _=>hk.1) fun c2=>?_
    refine Za (ZgD _) ?_
    refine Zaw (fun _=>hk.1) fun c3=>?_
    refine Zc (fun _=>hk.1) fun c4=>?_
    refine Zc (fun _=>hk.1) fun c5=>?_
    have c3':ZcP e.user=true:=by simpa using c3
    refine Zc (fun h0=>?_) fun h0=>?_
    ·rw [e2]
     refine Zl (by omega) (by omega) fun e' _ hg'=>?_
     by_cases c6:e.minute<e'.minute
     ·rw [decide_eq_true c6];exact hk.1
     ·rw [decide_eq_false c6]
      refine hk.2 ⟨c1,⟨c3',by omega⟩,fun r' hr'=>?_⟩
      rw [show (i - 1).toNat=i.toNat - 1 by omega,hr'] at hg'
      injection hg' with hg'
      rw [hg']
      omega
    ·refine hk.2 ⟨c1,⟨c3',by omega⟩,fun r' hr'=>?_⟩
     have:i=0:=by omega
     subst this
     have hg0:l[0]? = some e:=hg
     rw [show (0:Int).toNat - 1=0 from rfl,hg0] at hr'
     injection hr' with hr'
     rw [hr']
     omega
  ·refine ⟨hl.1,hl.2,fun j r hr=>(h5 j r ?_ hr).1,fun r hr=>?_,ZyY (R:=fun a b:Revision=>a.minute≤b.minute) (fun a b c h1 h2=>Int.le_trans h1 h2) fun j a b ha hb=>?_⟩
   ·have:=(List.getElem?_eq_some_iff.1 hr).1
    omega
   ·obtain ⟨j,hj⟩:=List.getElem?_of_mem hr
    have:=(List.getElem?_eq_some_iff.1 hj).1
    exact (h5 j r (by omega) hj).2.1
   ·have:=(List.getElem?_eq_some_iff.1 hb).1
    exact (h5 (j+1) b (by omega) hb).2.2 a ha
 ·refine Zc (fun _=>hk.1) fun h1=>?_
  by_cases h2:40<(l.length:Int)
  ·rw [decide_eq_true h2];exact hk.1
  ·rw [decide_eq_false h2];exact hk.2 ⟨by omega,by omega⟩
structure WV (c:Change):Prop where
 user:ZcP c.user=true
 title:c.kind≠6→c.kind≠10→c.title.valid=true
 watch:c.kind=7∨c.kind=8→c.user≠⟨#[]⟩
 dest:c.kind=4→c.to.valid=true
 tick:c.kind=6→1≤c.n
 prop:c.kind=9→0≤c.n∧c.n≤40
 imp:c.kind=5→ImpOK c.history
theorem ZvY (c:Change):Tot (ZbH c) fun b=>b=true→WV c:=by
 unfold ZbH
 refine Zx (fun k=>(Tot (k true) fun b=>b=true→WV c)∧(ZcP c.user=true→(c.kind≠6→c.kind≠10→c.title.valid=true)→Tot (k false) fun b=>b=true→WV c)) ⟨ZH rfl (Zb fun h=>by cases h),fun hu ht=>?_⟩ fun k hk=>?_
 ·refine Zs rfl ?_
  refine Zx (fun k=>(c.kind=7∨c.kind=8→Tot (k true) fun b=>b=true→WV c)∧(¬ (c.kind=7∨c.kind=8)→Tot (k false) fun b=>b=true→WV c)) ⟨fun hw=>?_,fun hw=>?_⟩ fun k hk=>?_
  ·refine ZH rfl (Zb fun h=>?_)
   have h':c.user≠⟨#[]⟩:=by simpa using h
   exact ⟨hu,ht,fun _=>h',fun e=>by omega,fun e=>by omega,fun e=>by omega,fun e=>by omega⟩
  ·refine Zs rfl ?_
   refine Zc (fun h4=>?_) fun h4=>?_
   ·refine Zx (fun k=>(c.to.valid=true→∀ b,Tot (k b) fun b=>b=true→WV c)∧Tot (k false) fun b=>b=true→WV c) ⟨fun hv b=>Zb fun _=>⟨hu,ht,fun e=>absurd e hw,fun _=>hv,fun e=>by omega,fun e=>by omega,fun e=>by omega⟩,Zb fun h=>by cases h⟩ fun k hk=>?_
    refine Za (v:=c.to.valid) rfl ?_
    refine Zaw (fun hv=>?_) fun _=>hk.2
    exact Zc (fun _=>hk.1 hv _) fun _=>hk.1 hv _
   refine Zc (fun h6=>?_) fun h6=>?_
   ·refine Zx (fun k=>(1≤c.n→∀ b,Tot (k b) fun b=>b=true→WV c)∧Tot (k false) fun b=>b=true→WV c) ⟨fun hv b=>Zb fun _=>⟨hu,ht,fun e=>absurd e hw,fun e=>by omega,fun _=>hv,fun e=>by omega,fun e=>by omega⟩,Zb fun h=>by cases h⟩ fun k hk=>?_
    exact Zc (fun h=>hk.1 h _) fun _=>hk.2
   refine Zc (fun h9=>?_) fun h9=>?_
   ·refine Zx (fun k=>(0≤c.n→Tot (k (decide (c.n≤40))) fun b=>b=true→WV c)∧Tot (k false) fun b=>b=true→WV c) ⟨fun hv=>Zb fun h=>⟨hu,ht,fun e=>absurd e hw,fun e=>by omega,fun e=>by omega,fun _=>⟨hv,of_decide_eq_true h⟩,fun e=>by omega⟩,Zb fun h=>by cases h⟩ fun k hk=>?_
    exact Zc (fun h=>hk.1 h) fun _=>hk.2
   refine Zc (fun h10=>?_) fun h10=>?_
   ·refine Zx (fun k=>∀ b,Tot (k b) fun b=>b=true→WV c) (fun b=>Zb fun _=>⟨hu,ht,fun e=>absurd e hw,fun e=>by omega,fun e=>by omega,fun e=>by omega,fun e=>by omega⟩) fun k hk=>?_
    exact Zc (fun h=>hk _) fun _=>hk _
   refine Zc (fun h5=>?_) fun h5=>?_
   ·refine Zf (ZzF c.history) fun b hb=>Zb fun h=>?_
    exact ⟨hu,ht,fun e=>absurd e hw,fun e=>by omega,fun e=>by omega,fun e=>by omega,fun _=>hb h⟩
   ·exact Zb fun _=>⟨hu,ht,fun e=>absurd e hw,fun e=>by omega,fun e=>by omega,fun e=>by omega,fun e=>by omega⟩
  ·refine Zc (fun h=>?_) fun h=>?_
   ·rw [decide_eq_true h];exact hk.1 (.inl h)
   ·by_cases h8:c.kind=8
    ·rw [decide_eq_true h8];exact hk.1 (.inr h8)
    ·rw [decide_eq_false h8];exact hk.2 (by omega)
 ·have usr:(c.kind≠6→c.kind≠10→c.title.valid=true)→Tot ((ZcU c.user).bind fun r=>k (!r)) fun b=>b=true→WV c:=fun ht=>by
   refine Za (ZgD _) ?_
   rcases Bool.eq_false_or_eq_true (ZcP c.user) with hu | hu
   ·rw [hu];exact hk.2 hu ht
   ·rw [hu];exact hk.1
  refine ZQ (fun h6=>?_) fun h6=>usr fun a=>absurd h6 a
  refine ZQ (fun h10=>?_) fun h10=>usr fun _ a=>absurd h10 a
  refine Za (v:=c.title.valid) rfl ?_
  refine Zaw (fun _=>hk.1) fun hv=>usr fun _ _=>by simpa using hv
theorem ZmG (c:Change) (hl:c.history.length≤1000000):Tot (Zby c) fun e=>e=0→CV c:=by
 unfold Zby
 refine Zf (ZyX c) fun b hb=>?_
 refine Zaw (fun _=>Zb fun h=>by cases h) fun hb'=>?_
 refine Zf (ZvY c) fun b2 hb2=>?_
 refine Zaw (fun _=>Zb fun h=>by cases h) fun hb2'=>?_
 have f:=hb (by simpa using hb')
 have w:=hb2 (by simpa using hb2')
 refine Zx (fun k=>(Tot (k true) fun e=>e=0→CV c)∧(c.text.size≤8192→c.note.size≤200→Tot (k false) fun e=>e=0→CV c)) ⟨ZH rfl (Zb fun h=>by cases h),fun a1 a2=>?_⟩ fun k hk=>?_
 ·refine Zs rfl ?_
  refine Zj (fun i:Int=>(0≤i∧i≤(c.history.length:Int))∧∀ (j:Nat) r,(j:Int)<i→c.history[j]? = some r→r.text.size≤8192∧r.note.size≤200) (fun i=>((c.history.length:Int) - i).toNat) ⟨⟨by omega,by omega⟩,fun j r h=>by omega⟩ (by first | omega | (dsimp only;omega)) ?_
  rintro i rec ⟨⟨h3,h4⟩,h5⟩ ih
  refine Zc (fun hi=>?_) fun hi=>Zb fun _=>?_
  ·have e1:w64 (i+1)=i+1:=Zg (by omega) (by omega)
   refine Zx (fun k=>(Tot (k true) fun e=>e=0→CV c)∧((∀ e,c.history[i.toNat]? = some e→e.text.size≤8192∧e.note.size≤200)→Tot (k false) fun e=>e=0→CV c)) ⟨ZH rfl (Zb fun h=>by cases h),fun hf=>?_⟩ fun k hk=>?_
   ·refine Zs rfl ?_
    rw [e1]
    refine ih _ ⟨⟨by omega,by omega⟩,fun j r hj hr=>?_⟩ (by omega)
    by_cases hji:(j:Int)<i
    ·exact h5 j r hji hr
    ·obtain rfl:j=i.toNat:=by omega
     exact hf r hr
   ·refine Zl h3 hi fun e he hg=>?_
    refine Zc (fun _=>hk.1) fun c1=>?_
    refine Zl h3 hi fun e' he' hg'=>?_
    rw [hg] at hg'
    injection hg' with hg'
    subst hg'
    by_cases c2:200<(e.note.size:Int)
    ·rw [decide_eq_true c2];exact hk.1
    ·rw [decide_eq_false c2]
     refine hk.2 fun e'' he''=>?_
     rw [hg] at he''
     injection he'' with he''
     subst he''
     exact ⟨by omega,by omega⟩
  ·refine ⟨f.1,f.2,w.user,w.title,w.watch,w.dest,w.tick,w.prop,w.imp,a1,a2,fun r hr=>?_⟩
   obtain ⟨j,hj⟩:=List.getElem?_of_mem hr
   have:=(List.getElem?_eq_some_iff.1 hj).1
   exact h5 j r (by omega) hj
 ·refine Zc (fun _=>hk.1) fun h1=>?_
  by_cases h2:200<(c.note.size:Int)
  ·rw [decide_eq_true h2];exact hk.1
  ·rw [decide_eq_false h2];exact hk.2 (by omega) (by omega)
theorem RevOK.mono {c q c' q':Int} {r:Revision} (h:RevOK c q r) (hc:c≤c') (hq:q≤q'):RevOK c' q' r:=⟨h.text,h.note,h.user,h.minute0,Int.le_trans h.minute1 hc,h.seq0,Int.le_trans h.seq1 hq⟩
theorem HistOK.mono' {c q c' q':Int} {l:List Revision} (h:HistOK c q l) (hc:c≤c') (hq:q≤q'):HistOK c' q' l:=⟨h.len1,h.len2,h.num,fun r hr=>(h.all r hr).mono hc hq,h.mono⟩
theorem StoOK.mono {c q c' q':Int} {p:Stored} (h:StoOK c q p) (hc:c≤c') (hq:q≤q'):StoOK c' q' p:=⟨h.title,h.hist.mono' hc hq⟩
theorem PropOK.mono {c t c' t':Int} {p:Proposal} (h:PropOK c t p) (hc:c≤c') (ht:t≤t'):PropOK c' t' p:=⟨Int.le_trans h.id1 ht,h.user,h.title,h.base0,h.base1,h.text,h.note,h.minute0,Int.le_trans h.minute1 hc⟩
theorem VS.mono {t0:ByteArray} {q q':Int} {s:State} (h:VS t0 q s) (hq:q≤q'):VS t0 q' s:=
 ⟨h.seq0,h.clock0,h.clock1,h.plen,h.glen,fun p hp=>(h.pages p hp).mono (Int.le_refl _) hq,fun p hp=>(h.gone p hp).mono (Int.le_refl _) hq,h.sorted,h.rule,h.prlen,h.prop0,h.prop1,h.props,h.ids,h.prsort,h.wlen,h.watches,h.wsort,h.llen,fun w hw=>⟨(h.lasts w hw).1,(h.lasts w hw).2.1,Int.le_trans (h.lasts w hw).2.2 hq⟩,h.lsort⟩
theorem VS.withPages {t0:ByteArray} {q:Int} {s:State} (h:VS t0 q s) {l:List Stored} (h1:l.length≤200) (h2:∀ p ∈ l,StoOK s.clock q p) (h3:l.Pairwise fun a b=>tlt a.title b.title) (h4:∀ p ∈ l,p.title=policyT→Zm6 p=t0):VS t0 q ⟨s.seq,s.clock,l,s.gone,s.proposals,s.proposed,s.watches,s.lasts⟩:=
 ⟨h.seq0,h.clock0,h.clock1,h1,h.glen,h2,h.gone,h3,h4,h.prlen,h.prop0,h.prop1,h.props,h.ids,h.prsort,h.wlen,h.watches,h.wsort,h.llen,h.lasts,h.lsort⟩
theorem VS.withGone {t0:ByteArray} {q:Int} {s:State} (h:VS t0 q s) {l:List Stored} (h1:l.length≤100) (h2:∀ p ∈ l,StoOK s.clock q p):VS t0 q ⟨s.seq,s.clock,s.pages,l,s.proposals,s.proposed,s.watches,s.lasts⟩:=
 ⟨h.seq0,h.clock0,h.clock1,h.plen,h1,h.pages,h2,h.sorted,h.rule,h.prlen,h.prop0,h.prop1,h.props,h.ids,h.prsort,h.wlen,h.watches,h.wsort,h.llen,h.lasts,h.lsort⟩
theorem VS.withProps {t0:ByteArray} {q:Int} {s:State} (h:VS t0 q s) {l:List Proposal} (hs:l.Sublist s.proposals):VS t0 q ⟨s.seq,s.clock,s.pages,s.gone,l,s.proposed,s.watches,s.lasts⟩:=
 ⟨h.seq0,h.clock0,h.clock1,h.plen,h.glen,h.pages,h.gone,h.sorted,h.rule,Nat.le_trans hs.length_le h.prlen,h.prop0,h.prop1,fun p hp=>h.props p (hs.subset hp),fun p hp=>h.ids p (hs.subset hp),h.prsort.sublist hs,h.wlen,h.watches,h.wsort,h.llen,h.lasts,h.lsort⟩
def Zm9 (t0:ByteArray) (q:Int) (s:State) (r:State×Int):Prop:=r.2=0→VS t0 q r.1∧r.1.seq=s.seq∧s.clock≤r.1.clock∧r.1.clock≤s.clock+2000
theorem ZdG {t0:ByteArray} {q:Int} {s:State} {r:State×Int} (h:VS t0 q r.1) (h1:r.1.seq=s.seq) (h2:r.1.clock=s.clock):Zm9 t0 q s r:=fun _=>⟨h,h1,by omega,by omega⟩
theorem ZbC {t0:ByteArray} {q:Int} {s s':State} {e:Int} (h:e≠0):Zm9 t0 q s (s',e):=by
 unfold Zm9
 intro h'
 exact absurd h' h
theorem Zpf {t0:ByteArray} {q clock:Int} {l:List Stored} {p:Stored} {n:Nat} (h2:∀ p ∈ l,StoOK clock q p) (h3:l.Pairwise fun a b=>tlt a.title b.title) (h4:∀ p ∈ l,p.title=policyT→Zm6 p=t0)
  (hp:StoOK clock q p) (hne:∀ y ∈ l,y.title≠p.title) (hr:p.title≠policyT) (i1:∀ y ∈ l.take n,tlt y.title p.title) (i2:∀ y,l[n]? = some y→¬ tlt y.title p.title) :
  (∀ y ∈ l.take n++p::l.drop n,StoOK clock q y)∧((l.take n++p::l.drop n).Pairwise fun a b=>tlt a.title b.title)∧∀ y ∈ l.take n++p::l.drop n,y.title=policyT→Zm6 y=t0:=by
 have tr:∀ a b c:Stored,tlt a.title b.title→tlt b.title c.title→tlt a.title c.title:=fun a b c k1 k2=>ZcN k1 k2
 have h5:∀ y,l[n]? = some y→tlt p.title y.title:=fun y hy=>(Zie (hne y (List.mem_of_getElem? hy))).resolve_left (i2 y hy)
 have h6:(l.take n++p::l.drop n).Pairwise fun a b:Stored=>tlt a.title b.title:=ZkS (lt:=fun a b:Stored=>tlt a.title b.title) tr h3 i1 h5
 refine ⟨fun y hy=>?_,h6,fun y hy e=>?_⟩
 ·rcases Zm1 hy with rfl | hy
  ·exact hp
  ·exact h2 y hy
 ·rcases Zm1 hy with rfl | hy
  ·exact absurd e hr
  ·exact h4 y hy e
theorem Zwo {t0:ByteArray} {q:Int} {s:State} (h:VS t0 q s) (hq:1≤q) {t:Title} {u no tx:ByteArray} (ht:t.valid=true) (hu:ZcP u=true) (h1:tx.size≤8192) (h2:no.size≤200):StoOK s.clock q ⟨t,[⟨1,u,no,tx,s.clock,q⟩]⟩:=
 ⟨ht,by simp,by simp,fun i r hr=>by
  cases i with
  | zero=>injection hr with hr;subst hr;rfl
  | succ i=>simp at hr,fun r hr=>by
  simp at hr
  subst hr
  exact ⟨h1,h2,hu,h.clock0,Int.le_refl _,hq,Int.le_refl _⟩,List.pairwise_singleton ..⟩
theorem Zzt {t0:ByteArray} {q:Int} {s:State} {c:Change} (h:VS t0 q s) (hq:1≤q) (hv:CV c) (ht:c.title.valid=true) (hne:c.title≠policyT):Tot (Zej s c q) (Zm9 t0 q s):=by
 have hl:=h.plen
 unfold Zej
 refine Zf (Zio s.pages c.title (by omega)) fun r hr=>?_
 rcases hr with ⟨rfl,hno⟩ | ⟨n,p,rfl,hp,hpt⟩
 ·refine Zc (fun _=>?_) fun hc=>absurd (by omega) hc
  refine Zc (fun _=>Zb (ZbC (by decide))) fun hlt=>?_
  refine Zf (Zdf s.pages _ (by omega)) fun r hr=>?_
  obtain ⟨n,hn,rfl,i1,i2⟩:=hr
  obtain ⟨o1,o2,o3⟩:=Zpf h.pages h.sorted h.rule (Zwo h hq ht hv.user hv.text hv.note) hno hne i1 i2
  exact Zb (ZdG (h.withPages (by rw [Zjw hn];omega) o1 o2 o3) rfl rfl)
 ·refine Zc (fun hc=>absurd hc (by omega)) fun _=>?_
  have hn:=(List.getElem?_eq_some_iff.1 hp).1
  refine Zl (by omega) (by omega) fun e he hg=>?_
  rw [Int.toNat_natCast,hp] at hg
  injection hg with hg
  subst hg
  have hst:=h.pages p he
  have hl2:=hst.hist.len2
  refine Zc (fun _=>Zb (ZbC (by decide))) fun hlt=>?_
  refine ZK 2000000 (by simp;omega) (by decide) (by decide) ?_
  refine ZK 2000000 (by simp;omega) (by decide) (by decide) ?_
  refine ZK 2000000 (by simp;omega) (by decide) (by decide) ?_
  rw [Zib,Zib]
  refine Zl (by omega) (by omega) fun e8 _ hg8=>?_
  rw [Int.toNat_natCast,hp] at hg8
  injection hg8 with hg8
  subst hg8
  have e1:w64 ((p.history.length:Int)+1)=(p.history.length:Int)+1:=Zg (by omega) (by omega)
  rw [e1]
  unfold ZaS
  rw [Int.toNat_natCast]
  have hnew:StoOK s.clock q ⟨p.title,p.history ++ [⟨(p.history.length:Int)+1,c.user,c.note,c.text,s.clock,q⟩]⟩:=by
   refine ⟨hst.title,by simp,by simp;omega,fun i r hr=>?_,fun r hr=>?_,?_⟩
   ·rcases Nat.lt_or_ge i p.history.length with hi | hi
    ·rw [List.getElem?_append_left hi] at hr
     exact hst.hist.num i r hr
    ·rw [List.getElem?_append_right hi] at hr
     have:i - p.history.length=0:=by
      have:=(List.getElem?_eq_some_iff.1 hr).1
      simp at this
      omega
     rw [this] at hr
     injection hr with hr
     subst hr
     show (p.history.length:Int)+1=_
     omega
   ·rcases List.mem_append.1 hr with hr | hr
    ·exact hst.hist.all r hr
    ·simp at hr
     subst hr
     exact ⟨hv.text,hv.note,hv.user,h.clock0,Int.le_refl _,hq,Int.le_refl _⟩
   ·refine List.pairwise_append.2 ⟨hst.hist.mono,List.pairwise_singleton ..,fun a ha b hb=>?_⟩
    simp at hb
    subst hb
    exact ⟨(hst.hist.all a ha).minute1,(hst.hist.all a ha).seq1⟩
  refine Zb (ZdG (h.withPages (by simpa using hl) (fun y hy=>?_) ?_ fun y hy e=>?_) rfl rfl)
  ·rcases List.mem_or_eq_of_mem_set hy with hy | rfl
   ·exact h.pages y hy
   ·exact hnew
  ·have hs:=h.sorted
   have key:(s.pages.set n ⟨p.title,p.history ++ [⟨(p.history.length:Int)+1,c.user,c.note,c.text,s.clock,q⟩]⟩).map (·.title)=s.pages.map (·.title):=by
    rw [List.map_set]
    apply List.ext_getElem?
    intro j
    rw [List.getElem?_set]
    split
    ·rename_i hj
     subst hj
     have hpe:=(List.getElem?_eq_some_iff.1 hp).2
     simp [hn,hpe]
    ·rfl
   rw [← List.pairwise_map (f:=Stored.title) (R:=tlt)] at hs ⊢
   rw [key]
   exact hs
  ·rcases List.mem_or_eq_of_mem_set hy with hy | rfl
   ·exact h.rule y hy e
   ·exact absurd (hpt.symm.trans e) hne
theorem Zzu {l:List Stored} (h:l.Pairwise fun a b=>tlt a.title b.title) {n:Nat} {p y:Stored} (hp:l[n]? = some p) (hy:y ∈ l.take n++l.drop (n+1)):y.title≠p.title:=by
 intro e
 rcases List.mem_append.1 hy with hy | hy
 ·obtain ⟨j,hj⟩:=List.getElem?_of_mem hy
  rw [List.getElem?_take] at hj
  split at hj
  ·have:=Zin h (by assumption) hj hp
   rw [e] at this
   exact ZL _ this
  ·cases hj
 ·obtain ⟨j,hj⟩:=List.getElem?_of_mem hy
  rw [List.getElem?_drop] at hj
  have:=Zin h (by omega) hp hj
  rw [e] at this
  exact ZL _ this
theorem Zvi {t0:ByteArray} {q:Int} {s:State} {c:Change} (h:VS t0 q s):Tot (ZcT s c) (Zm9 t0 q s):=by
 have hl:=h.plen
 have hg:=h.glen
 have hpr:=h.prlen
 unfold ZcT
 refine Zf (Zio s.pages c.title (by omega)) fun r hr=>?_
 rcases hr with ⟨rfl,hno⟩ | ⟨n,p,rfl,hp,hpt⟩
 ·refine Zc (fun _=>Zb (ZbC (by decide))) fun hc=>absurd (by omega) hc
 ·refine Zc (fun hc=>absurd hc (by omega)) fun _=>?_
  have hn:=(List.getElem?_eq_some_iff.1 hp).1
  refine Zc (fun _=>Zb (ZbC (by decide))) fun hlt=>?_
  refine ZK 2000000 (by simp;omega) (by decide) (by decide) ?_
  refine Zl (by omega) (by omega) fun e he hg'=>?_
  refine ZK 2000000 (by simp;omega) (by decide) (by decide) ?_
  refine Za (Zic s.pages n hn (by omega)) ?_
  refine Zf (Zwy s.proposals c.title (by omega)) fun d hd=>?_
  rw [Zib]
  have h1:=h.withPages (l:=s.pages.take n++s.pages.drop (n+1)) (by have:=ZoX hn;omega) (fun y hy=>h.pages y (Zjv hy)) (h.sorted.sublist (Zha _ _)) fun y hy=>h.rule y (Zjv hy)
  have h2:=h1.withGone (l:=s.gone ++ [e]) (by simp;omega) (fun y hy=>by
   rcases List.mem_append.1 hy with hy | hy
   ·exact h.gone y hy
   ·simp at hy
    subst hy
    exact h.pages _ he)
  exact Zb (ZdG (h2.withProps hd) rfl rfl)
theorem Ztn {t0:ByteArray} {q:Int} {s:State} {c:Change} (h:VS t0 q s) (hne:c.title≠policyT):Tot (Zch s c) (Zm9 t0 q s):=by
 have hl:=h.plen
 have hg:=h.glen
 unfold Zch
 refine Zf (ZnT s c.title (by omega)) fun i hi=>?_
 refine Zf (Zio s.pages c.title (by omega)) fun r hr=>?_
 rcases hr with ⟨rfl,hno⟩ | ⟨n,p,rfl,hp,hpt⟩
 ·refine Zc (fun hc=>absurd hc (by omega)) fun _=>?_
  rcases hi with rfl | ⟨n,p,rfl,hp,hpt⟩
  ·exact Zc (fun _=>Zb (ZbC (by decide))) fun hc=>absurd (by omega) hc
  ·refine Zc (fun hc=>absurd hc (by omega)) fun _=>?_
   refine Zc (fun _=>Zb (ZbC (by decide))) fun hlt=>?_
   have hn:=(List.getElem?_eq_some_iff.1 hp).1
   refine Zl (by omega) (by omega) fun e he hg'=>?_
   rw [Int.toNat_natCast,hp] at hg'
   injection hg' with hg'
   subst hg'
   refine Zf (Zdf s.pages p (by omega)) fun r hr=>?_
   obtain ⟨m,hm,rfl,i1,i2⟩:=hr
   refine Za (Zic s.gone n hn (by omega)) ?_
   obtain ⟨o1,o2,o3⟩:=Zpf h.pages h.sorted h.rule (h.gone p he) (by rw [hpt];exact hno) (by rw [hpt];exact hne) i1 i2
   have h1:=h.withPages (by rw [Zjw hm];omega) o1 o2 o3
   exact Zb (ZdG (h1.withGone (l:=s.gone.take n++s.gone.drop (n+1)) (by have:=ZoX hn;omega) fun y hy=>h.gone y (Zjv hy)) rfl rfl)
 ·exact Zc (fun _=>Zb (ZbC (by decide))) fun hc=>absurd (by omega) hc
theorem Zys {t0:ByteArray} {q:Int} {s:State} {c:Change} (h:VS t0 q s) (hq:1≤q) (hv:CV c) (ht:c.title.valid=true) (hto:c.to.valid=true) (hne:c.title≠policyT) (hne2:c.to≠policyT):Tot (Ze7 s c q) (Zm9 t0 q s):=by
 have hl:=h.plen
 have hpr:=h.prlen
 unfold Ze7
 refine Zf (Zio s.pages c.title (by omega)) fun r hr=>?_
 rcases hr with ⟨rfl,hno⟩ | ⟨n,p,rfl,hp,hpt⟩
 ·refine Zc (fun _=>Zb (ZbC (by decide))) fun hc=>absurd (by omega) hc
 ·refine Zc (fun hc=>absurd hc (by omega)) fun _=>?_
  have hn:=(List.getElem?_eq_some_iff.1 hp).1
  have hmem:=List.mem_of_getElem? hp
  refine Zf (Zio s.pages c.to (by omega)) fun r hr=>?_
  rcases hr with ⟨rfl,hno⟩ | ⟨n',p',rfl,hp',hpt'⟩
  ·refine Zc (fun hc=>absurd hc (by omega)) fun _=>?_
   have hdiff:c.to≠c.title:=fun e=>hno p hmem (hpt.trans e.symm)
   refine Zx (fun k=>Tot (k true) (Zm9 t0 q s)∧((c.n=1→s.pages.length<200)→Tot (k false) (Zm9 t0 q s))) ⟨ZH rfl (Zb (ZbC (by decide))),fun hlen=>?_⟩ fun k hk=>?_
   ·refine Zs rfl ?_
    refine Zl (by omega) (by omega) fun e he hg'=>?_
    rw [Int.toNat_natCast,hp] at hg'
    injection hg' with hg'
    subst hg'
    refine Za (Zic s.pages n hn (by omega)) ?_
    have hd1:=ZoX hn
    refine Zf (Zdf _ _ (by omega)) fun r hr=>?_
    obtain ⟨m,hm,rfl,i1,i2⟩:=hr
    have hst:=h.pages p he
    obtain ⟨o1,o2,o3⟩:=Zpf (t0:=t0) (q:=q) (clock:=s.clock) (l:=s.pages.take n++s.pages.drop (n+1)) (fun y hy=>h.pages y (Zjv hy)) (h.sorted.sublist (Zha _ _)) (fun y hy=>h.rule y (Zjv hy)) (p:=⟨c.to,p.history⟩) ⟨hto,hst.hist⟩ (fun y hy=>hno y (Zjv hy)) hne2 i1 i2
    have hmemI:∀ y ∈ (s.pages.take n++s.pages.drop (n+1)).take m++(⟨c.to,p.history⟩:Stored)::(s.pages.take n++s.pages.drop (n+1)).drop m,y.title≠c.title:=fun y hy=>by
     rcases Zm1 hy with rfl | hy
     ·exact hdiff
     ·rw [← hpt]
      exact Zzu h.sorted hp hy
    have hlenI:=Zjw (x:=(⟨c.to,p.history⟩:Stored)) hm
    generalize (s.pages.take n++s.pages.drop (n+1)).take m++(⟨c.to,p.history⟩:Stored)::(s.pages.take n++s.pages.drop (n+1)).drop m=L at *
    refine Zx (fun k=>∀ L':List Stored,L'.length≤200→(∀ p ∈ L',StoOK s.clock q p)→(L'.Pairwise fun a b=>tlt a.title b.title)→(∀ p ∈ L',p.title=policyT→Zm6 p=t0)→Tot (k L') (Zm9 t0 q s)) (fun L' a1 a2 a3 a4=>?_) fun k hk=>?_
    ·refine Zf (Zwy s.proposals c.title (by omega)) fun d hd=>?_
     exact Zb (ZdG ((h.withPages a1 a2 a3 a4).withProps hd) rfl rfl)
    ·refine Zc (fun h1=>?_) fun h1=>hk L (by omega) o1 o2 o3
     have:=hlen h1
     refine Zf (Zs1 c.to hto) fun x hx=>?_
     refine Zf (Zdf L _ (by omega)) fun r hr=>?_
     obtain ⟨m2,hm2,rfl,j1,j2⟩:=hr
     obtain ⟨w1,w2,w3⟩:=Zpf o1 o2 o3 (Zwo h hq ht hv.user hx (by decide)) hmemI hne j1 j2
     exact hk _ (by rw [Zjw hm2];omega) w1 w2 w3
   ·refine Zc (fun h1=>?_) fun h1=>hk.2 fun e=>absurd e h1
    by_cases h2:200≤(s.pages.length:Int)
    ·rw [decide_eq_true h2];exact hk.1
    ·rw [decide_eq_false h2];exact hk.2 fun _=>by omega
  ·exact Zc (fun _=>Zb (ZbC (by decide))) fun hc=>absurd (by omega) hc
theorem Zyt {t0:ByteArray} {q:Int} {s:State} {c:Change} (h:VS t0 q s) (hq:1≤q) (hv:CV c) (hi:ImpOK c.history) (ht:c.title.valid=true) (hne:c.title≠policyT):Tot (Ze5 s c q) (Zm9 t0 q s):=by
 have hl:=h.plen
 have hi1:=hi.len1
 have hi2:=hi.len2
 unfold Ze5
 refine Zf (Zio s.pages c.title (by omega)) fun r hr=>?_
 rcases hr with ⟨rfl,hno⟩ | ⟨n,p,rfl,hp,hpt⟩
 ·refine Zc (fun hc=>absurd hc (by omega)) fun _=>?_
  rw [Zg (by omega) (by omega)]
  refine Zl (by omega) (by omega) fun e he hge=>?_
  rw [show ((c.history.length:Int) - 1).toNat=c.history.length - 1 by omega] at hge
  refine Zc (fun _=>Zb (ZbC (by decide))) fun hcl=>?_
  refine Zc (fun _=>Zb (ZbC (by decide))) fun hlt=>?_
  refine ZK 2000000 (by simp;omega) (by decide) (by decide) ?_
  rw [Zib]
  have hmin:∀ r ∈ c.history,r.minute≤s.clock:=fun r hr=>by
   obtain ⟨j,hj⟩:=List.getElem?_of_mem hr
   have hjl:=(List.getElem?_eq_some_iff.1 hj).1
   rcases Nat.lt_or_ge j (c.history.length - 1) with hjj | hjj
   ·have:=Zin hi.mono hjj hj hge
    omega
   ·have:j=c.history.length - 1:=by omega
    rw [this,hge] at hj
    injection hj with hj
    rw [← hj]
    omega
  refine Zj (fun a:Int×List Revision=>∃ n:Nat,a.1=n∧n≤c.history.length∧a.2.length=c.history.length∧∀ (j:Nat),a.2[j]? = (c.history[j]?).map fun r=>if j<n then ⟨r.number,r.user,r.note,r.text,r.minute,q⟩ else r) (fun a=>((c.history.length:Int) - a.1).toNat) ⟨0,rfl,Nat.zero_le _,rfl,fun j=>by simp⟩ (by first | omega | (dsimp only;omega)) ?_
  rintro ⟨i,out⟩ rec ⟨n,hin,hn,hlen,hget⟩ ih
  dsimp only at hin hlen hget
  subst hin
  refine Zc (fun hlt2=>?_) fun hlt2=>?_
  ·refine Zl (by omega) hlt2 fun x hx hgx=>?_
   rw [Int.toNat_natCast] at hgx
   rw [Zg (by omega) (by omega)]
   refine ih _ ⟨n+1,by dsimp only;omega,by omega,by unfold ZaS;simpa using hlen,fun j=>?_⟩ (by first | omega | (dsimp only;omega))
   unfold ZaS
   rw [Int.toNat_natCast,List.getElem?_set]
   have hx2:=hget n
   rw [hgx] at hx2
   split
   ·rename_i hj
    subst hj
    cases hc:c.history[n]? with
    | none=>rw [hc] at hx2;cases hx2
    | some y=>
      rw [hc] at hx2
      simp at hx2
      subst hx2
      rw [if_pos (by omega)]
      simp
   ·rename_i hj
    rw [hget j]
    congr 1
    funext r
    by_cases hjn:j<n
    ·rw [if_pos hjn,if_pos (by omega)]
    ·rw [if_neg hjn,if_neg (by omega)]
  ·have hnn:n=c.history.length:=by omega
   have hst:StoOK s.clock q ⟨c.title,out⟩:=by
    have get:∀ (j:Nat) r,out[j]? = some r→∃ r0,c.history[j]? = some r0∧r=⟨r0.number,r0.user,r0.note,r0.text,r0.minute,q⟩:=fun j r hr=>by
     rw [hget j] at hr
     cases hc:c.history[j]? with
     | none=>rw [hc] at hr;cases hr
     | some y=>
       have:=(List.getElem?_eq_some_iff.1 hc).1
       rw [hc] at hr
       simp only [Option.map_some,if_pos (show j<n by omega),Option.some.injEq] at hr
       exact ⟨y,rfl,hr.symm⟩
    refine ⟨ht,by rw [hlen];exact hi1,by rw [hlen];exact hi2,fun j r hr=>?_,fun r hr=>?_,?_⟩
    ·obtain ⟨r0,h1,rfl⟩:=get j r hr
     exact hi.num j r0 h1
    ·obtain ⟨j,hj⟩:=List.getElem?_of_mem hr
     obtain ⟨r0,h1,rfl⟩:=get j r hj
     have hm:=List.mem_of_getElem? h1
     exact ⟨(hv.hist r0 hm).1,(hv.hist r0 hm).2,(hi.user r0 hm).1,(hi.user r0 hm).2,hmin r0 hm,hq,Int.le_refl _⟩
    ·rw [List.pairwise_iff_getElem]
     intro a b ha hb hab
     obtain ⟨ra,h1,e1⟩:=get a _ (List.getElem?_eq_getElem ha)
     obtain ⟨rb,h2,e2⟩:=get b _ (List.getElem?_eq_getElem hb)
     have:=Zin hi.mono hab h1 h2
     rw [e1,e2]
     exact ⟨this,Int.le_refl _⟩
   refine Zf (Zdf s.pages _ (by omega)) fun r hr=>?_
   obtain ⟨m,hm,rfl,i1,i2⟩:=hr
   obtain ⟨o1,o2,o3⟩:=Zpf h.pages h.sorted h.rule hst hno hne i1 i2
   exact Zb (ZdG (h.withPages (by rw [Zjw hm];omega) o1 o2 o3) rfl rfl)
 ·exact Zc (fun _=>Zb (ZbC (by decide))) fun hc=>absurd (by omega) hc
theorem Zu2 {a b c:Watch} (h:wlt a b) (k:wlt b c):wlt a c:=by
 rcases h with h | ⟨h1,h2⟩<;>rcases k with k | ⟨k1,k2⟩
 ·exact .inl (ZkQ h k)
 ·exact .inl (k1 ▸ h)
 ·exact .inl (h1 ▸ k)
 ·exact .inr ⟨h1.trans k1,ZcN h2 k2⟩
theorem Zu3 {a b:Watch} (h:a≠b):wlt a b∨wlt b a:=by
 by_cases e:a.user=b.user
 ·rcases Zie (a:=a.title) (b:=b.title) (fun e2=>h (by cases a;cases b;simp_all)) with h2 | h2
  ·exact .inl (.inr ⟨e,h2⟩)
  ·exact .inr (.inr ⟨e.symm,h2⟩)
 ·rcases ZkR e with h2 | h2
  ·exact .inl (.inl h2)
  ·exact .inr (.inl h2)
theorem Zu4 {u:ByteArray} (h:ZcP u=true) (h0:u≠⟨#[]⟩):Zbl u=true:=by
 unfold ZcP at h
 rw [decide_eq_false h0] at h
 simpa using h
theorem VS.withWatches {t0:ByteArray} {q:Int} {s:State} (h:VS t0 q s) {l:List Watch} (h1:l.length≤100) (h2:∀ w ∈ l,Zbl w.user=true∧w.title.valid=true) (h3:l.Pairwise wlt):VS t0 q ⟨s.seq,s.clock,s.pages,s.gone,s.proposals,s.proposed,l,s.lasts⟩:=
 ⟨h.seq0,h.clock0,h.clock1,h.plen,h.glen,h.pages,h.gone,h.sorted,h.rule,h.prlen,h.prop0,h.prop1,h.props,h.ids,h.prsort,h1,h2,h3,h.llen,h.lasts,h.lsort⟩
theorem VS.withLasts {t0:ByteArray} {q:Int} {s:State} (h:VS t0 q s) {l:List Last} (h1:l.length≤60) (h2:∀ w ∈ l,Zbl w.user=true∧1≤w.seq∧w.seq≤q) (h3:l.Pairwise fun a b=>ZlL a.user b.user):VS t0 q ⟨s.seq,s.clock,s.pages,s.gone,s.proposals,s.proposed,s.watches,l⟩:=
 ⟨h.seq0,h.clock0,h.clock1,h.plen,h.glen,h.pages,h.gone,h.sorted,h.rule,h.prlen,h.prop0,h.prop1,h.props,h.ids,h.prsort,h.wlen,h.watches,h.wsort,h1,h2,h3⟩
theorem Zwm (a b c:Watch) (h1:wlt a b) (h2:wlt b c):wlt a c:=Zu2 h1 h2
theorem Zx5 {t0:ByteArray} {q:Int} {s:State} {c:Change} (h:VS t0 q s) (hu:Zbl c.user=true) (ht:c.title.valid=true):Tot (ZcK s c) (Zm9 t0 q s):=by
 have hl:=h.wlen
 unfold ZcK
 refine Zj (fun a:Int×List Watch=>∃ n:Nat,a.1=n∧n≤s.watches.length∧a.2=s.watches.take n∧∀ y ∈ s.watches.take n,wlt y ⟨c.user,c.title⟩) (fun a=>((s.watches.length:Int) - a.1).toNat) ⟨0,rfl,Nat.zero_le _,rfl,fun y h=>by simp at h⟩ (by first | omega | (dsimp only;omega)) ?_
 rintro ⟨i,out⟩ rec ⟨n,hi,hn,ho,hlt⟩ ih
 dsimp only at hi ho
 subst hi ho
 refine Zx (fun k=>(∀ e,s.watches[n]? = some e→wlt e ⟨c.user,c.title⟩→Tot (k true) (Zm9 t0 q s))∧((∀ y,s.watches[n]? = some y→¬ wlt y ⟨c.user,c.title⟩)→Tot (k false) (Zm9 t0 q s))) ⟨fun e he hep=>?_,fun hne=>?_⟩ fun k hk=>?_
 ·have hln:=(List.getElem?_eq_some_iff.1 he).1
  refine ZH rfl ?_
  refine Zl (by omega) (by omega) fun e' _ hg'=>?_
  rw [Int.toNat_natCast,he] at hg'
  injection hg' with hg'
  subst hg'
  refine ZK 2000000 (by simp;omega) (by decide) (by decide) ?_
  rw [Zdb he,Zg (by omega) (by omega)]
  refine ih _ ⟨n+1,by dsimp only;omega,hln,rfl,fun y hy=>?_⟩ (by first | omega | (dsimp only;omega))
  rw [← Zdb he] at hy
  rcases List.mem_append.1 hy with hy | hy
  ·exact hlt y hy
  ·simp at hy
   rw [hy]
   exact hep
 ·refine Zs rfl ?_
  refine Zx (fun k=>(n<s.watches.length→Tot (k true) (Zm9 t0 q s))∧((∀ y,s.watches[n]? = some y→y≠⟨c.user,c.title⟩)→Tot (k false) (Zm9 t0 q s))) ⟨fun hnl=>?_,fun hnw=>?_⟩ fun k hk=>?_
  ·refine Zc (fun _=>?_) fun _=>?_
   ·refine Zs rfl ?_
    rw [Zg (by omega) (by omega)]
    refine Za (ZfE s.watches (n:=n+1) (by omega) hnl) ?_
    refine ZK 2000000 (by simp;omega) (by decide) (by decide) ?_
    exact Zb (ZdG (h.withWatches (by have:=ZoX hnl;omega) (fun y hy=>h.watches y (Zjv hy)) (h.wsort.sublist (Zha _ _))) rfl rfl)
   ·exact ZH rfl (Zb (ZbC (by decide)))
  ·refine Zc (fun _=>?_) fun _=>?_
   ·exact ZH rfl (Zb (ZbC (by decide)))
   ·refine Zs rfl ?_
    refine Zc (fun _=>Zb (ZbC (by decide))) fun hlen=>?_
    refine ZK 2000000 (by simp;omega) (by decide) (by decide) ?_
    refine Za (ZfE s.watches rfl hn) ?_
    refine ZK 2000000 (by simp;omega) (by decide) (by decide) ?_
    rw [List.append_assoc]
    refine Zb (ZdG (h.withWatches ?_ (fun y hy=>?_) (ZkS (lt:=wlt) (x:=⟨c.user,c.title⟩) Zwm h.wsort hlt fun y hy=>(Zu3 (hnw y hy)).resolve_left (hne y hy))) rfl rfl)
    ·have:=Zjw (x:=(⟨c.user,c.title⟩:Watch)) hn
     simp only [List.cons_append,List.nil_append]
     omega
    ·rcases Zm1 hy with rfl | hy
     ·exact ⟨hu,ht⟩
     ·exact h.watches y hy
  ·refine Zc (fun h1=>?_) fun h1=>hk.2 fun y hy=>?_
   ·refine Zl (by omega) h1 fun e _ hg=>?_
    rw [Int.toNat_natCast] at hg
    by_cases he:e=⟨c.user,c.title⟩
    ·rw [decide_eq_true he]
     exact hk.1 (by omega)
    ·rw [decide_eq_false he]
     refine hk.2 fun y hy=>?_
     rw [hg] at hy
     injection hy with hy
     rw [← hy]
     exact he
   ·have:=(List.getElem?_eq_some_iff.1 hy).1
    omega
 ·refine Zc (fun h1=>?_) fun h1=>hk.2 fun y hy=>?_
  ·refine Zl (by omega) h1 fun e _ hg=>?_
   rw [Int.toNat_natCast] at hg
   refine Zf (Zsc e ⟨c.user,c.title⟩) fun b hb=>?_
   cases b
   ·refine hk.2 fun y hy=>?_
    rw [hg] at hy
    injection hy with hy
    rw [← hy]
    intro hw
    have:=hb.2 hw
    cases this
   ·exact hk.1 e hg (hb.1 rfl)
  ·have:=(List.getElem?_eq_some_iff.1 hy).1
   omega
theorem Zx6 (a b c:Last) (h1:ZlL a.user b.user) (h2:ZlL b.user c.user):ZlL a.user c.user:=ZkQ h1 h2
theorem Zrz {t0:ByteArray} {q:Int} {s:State} {u:ByteArray} (h:VS t0 q s) (hq:1≤q) (hu:ZcP u=true):Tot (ZdF s u q) fun r=>r.2=0→VS t0 q r.1∧r.1.seq=s.seq∧r.1.clock=s.clock:=by
 have hl:=h.llen
 unfold ZdF
 refine Zc (fun _=>Zb fun _=>⟨h,rfl,rfl⟩) fun h0=>?_
 have hn0:=Zu4 hu h0
 refine Zj (fun a:Int×List Last=>∃ n:Nat,a.1=n∧n≤s.lasts.length∧a.2=s.lasts.take n∧∀ y ∈ s.lasts.take n,ZlL y.user u) (fun a=>((s.lasts.length:Int) - a.1).toNat) ⟨0,rfl,Nat.zero_le _,rfl,fun y h=>by simp at h⟩ (by first | omega | (dsimp only;omega)) ?_
 rintro ⟨i,out⟩ rec ⟨n,hi,hn,ho,hlt⟩ ih
 dsimp only at hi ho
 subst hi ho
 refine Zx (fun k=>(∀ e,s.lasts[n]? = some e→ZlL e.user u→Tot (k true) fun r=>r.2=0→VS t0 q r.1∧r.1.seq=s.seq∧r.1.clock=s.clock)∧((∀ y,s.lasts[n]? = some y→¬ ZlL y.user u)→Tot (k false) fun r=>r.2=0→VS t0 q r.1∧r.1.seq=s.seq∧r.1.clock=s.clock)) ⟨fun e he hep=>?_,fun hne=>?_⟩ fun k hk=>?_
 ·have hln:=(List.getElem?_eq_some_iff.1 he).1
  refine ZH rfl ?_
  refine Zl (by omega) (by omega) fun e' _ hg'=>?_
  rw [Int.toNat_natCast,he] at hg'
  injection hg' with hg'
  subst hg'
  refine ZK 2000000 (by simp;omega) (by decide) (by decide) ?_
  rw [Zdb he,Zg (by omega) (by omega)]
  refine ih _ ⟨n+1,by dsimp only;omega,hln,rfl,fun y hy=>?_⟩ (by first | omega | (dsimp only;omega))
  rw [← Zdb he] at hy
  rcases List.mem_append.1 hy with hy | hy
  ·exact hlt y hy
  ·simp at hy
   rw [hy]
   exact hep
 ·refine Zs rfl ?_
  refine Zx (fun k=>(∀ e,s.lasts[n]? = some e→e.user=u→Tot (k true) fun r=>r.2=0→VS t0 q r.1∧r.1.seq=s.seq∧r.1.clock=s.clock)∧((∀ y,s.lasts[n]? = some y→y.user≠u)→Tot (k false) fun r=>r.2=0→VS t0 q r.1∧r.1.seq=s.seq∧r.1.clock=s.clock)) ⟨fun e he heu=>?_,fun hnw=>?_⟩ fun k hk=>?_
  ·have hln:=(List.getElem?_eq_some_iff.1 he).1
   refine ZJ ?_
   refine Zs rfl ?_
   refine Zs rfl ?_
   refine ZK 2000000 (by simp;omega) (by decide) (by decide) ?_
   refine ZJ ?_
   refine ZH rfl ?_
   rw [Zg (by omega) (by omega)]
   refine Za (ZfE s.lasts (n:=n+1) (by omega) hln) ?_
   refine ZK 2000000 (by simp;omega) (by decide) (by decide) ?_
   rw [List.append_assoc]
   refine Zb fun _=>⟨h.withLasts ?_ (fun y hy=>?_) (Zs4 (lt:=fun a b:Last=>ZlL a.user b.user) (x:=⟨u,q⟩) (y:=e) h.lsort he (fun z hz=>by rw [heu] at hz;exact hz) (fun z hz=>by rw [heu] at hz;exact hz)),rfl,rfl⟩
   ·simp
    omega
   ·rcases List.mem_append.1 hy with hy | hy
    ·exact h.lasts y (List.mem_of_mem_take hy)
    ·rcases List.mem_cons.1 hy with rfl | hy
     ·exact ⟨hn0,hq,Int.le_refl _⟩
     ·exact h.lasts y (List.mem_of_mem_drop hy)
  ·refine Zx (fun k=>Tot (k true) (fun r=>r.2=0→VS t0 q r.1∧r.1.seq=s.seq∧r.1.clock=s.clock)∧(s.lasts.length<60→Tot (k false) fun r=>r.2=0→VS t0 q r.1∧r.1.seq=s.seq∧r.1.clock=s.clock)) ⟨ZH rfl (Zb fun e=>by cases e),fun hlen=>?_⟩ fun k hk=>?_
   ·refine Zs rfl ?_
    refine ZK 2000000 (by simp;omega) (by decide) (by decide) ?_
    refine ZJ ?_
    refine Zs rfl ?_
    refine Za (ZfE s.lasts rfl hn) ?_
    refine ZK 2000000 (by simp;omega) (by decide) (by decide) ?_
    rw [List.append_assoc]
    refine Zb fun _=>⟨h.withLasts ?_ (fun y hy=>?_) (ZkS (lt:=fun a b:Last=>ZlL a.user b.user) Zx6 h.lsort hlt fun y hy=>(ZkR (hnw y hy)).resolve_left (hne y hy)),rfl,rfl⟩
    ·have:=Zjw (x:=(⟨u,q⟩:Last)) hn
     simp only [List.cons_append,List.nil_append]
     omega
    ·rcases Zm1 hy with rfl | hy
     ·exact ⟨hn0,hq,Int.le_refl _⟩
     ·exact h.lasts y hy
   ·refine ZH rfl ?_
    by_cases h2:60≤(s.lasts.length:Int)
    ·rw [decide_eq_true h2];exact hk.1
    ·rw [decide_eq_false h2];exact hk.2 (by omega)
  ·refine Zc (fun h1=>?_) fun h1=>hk.2 fun y hy=>?_
   ·refine Zl (by omega) h1 fun e _ hg=>?_
    rw [Int.toNat_natCast] at hg
    by_cases he:e.user=u
    ·rw [decide_eq_true he]
     exact hk.1 e hg he
    ·rw [decide_eq_false he]
     refine hk.2 fun y hy=>?_
     rw [hg] at hy
     injection hy with hy
     rw [← hy]
     exact he
   ·have:=(List.getElem?_eq_some_iff.1 hy).1
    omega
 ·refine Zc (fun h1=>?_) fun h1=>hk.2 fun y hy=>?_
  ·refine Zl (by omega) h1 fun e _ hg=>?_
   rw [Int.toNat_natCast] at hg
   rcases Bool.eq_false_or_eq_true (ltS e.user u) with hb | hb
   ·rw [hb];exact hk.1 e hg hb
   ·rw [hb]
    refine hk.2 fun y hy=>?_
    rw [hg] at hy
    injection hy with hy
    rw [← hy]
    intro hw
    unfold ZlL at hw
    rw [hb] at hw
    cases hw
  ·have:=(List.getElem?_eq_some_iff.1 hy).1
   omega
theorem Zu5 {t0:ByteArray} {q:Int} {s:State} {c:Change} (h:VS t0 q s) (hv:CV c) (h9:c.kind=9):Tot (Zcf s c) (Zm9 t0 q s):=by
 have hl:=h.prlen
 have h0:=h.prop0
 have h1:=h.prop1
 have hn:=hv.prop h9
 have ht:=hv.title (by omega) (by omega)
 unfold Zcf
 refine Zx (fun k=>Tot (k true) (Zm9 t0 q s)∧(s.proposals.length<40→s.proposed<1073741824→Tot (k false) (Zm9 t0 q s))) ⟨ZH rfl (Zb (ZbC (by decide))),fun a1 a2=>?_⟩ fun k hk=>?_
 ·refine Zs rfl ?_
  refine ZK 2000000 (by simp;omega) (by decide) (by decide) ?_
  refine ZK 2000000 (by simp;omega) (by decide) (by decide) ?_
  rw [Zib,Zg (by omega) (by omega)]
  have c0:=h.clock0
  refine Zb (ZdG ⟨h.seq0,h.clock0,h.clock1,h.plen,h.glen,h.pages,h.gone,h.sorted,h.rule,by simp;omega,by show 0≤s.proposed+1;omega,by show s.proposed+1≤_;omega,fun p hp=>?_,fun p hp=>?_,?_,h.wlen,h.watches,h.wsort,h.llen,h.lasts,h.lsort⟩ rfl rfl)
  ·rcases List.mem_append.1 hp with hp | hp
   ·exact (h.props p hp).mono (Int.le_refl _) (by show s.proposed≤s.proposed+1;omega)
   ·simp at hp
    subst hp
    exact ⟨Int.le_refl _,hv.user,ht,hn.1,hn.2,hv.text,hv.note,h.clock0,Int.le_refl _⟩
  ·rcases List.mem_append.1 hp with hp | hp
   ·exact h.ids p hp
   ·simp at hp
    subst hp
    show 1≤s.proposed+1
    omega
  ·refine List.pairwise_append.2 ⟨h.prsort,List.pairwise_singleton ..,fun a ha b hb=>?_⟩
   simp at hb
   subst hb
   have:=(h.props a ha).id1
   show a.id<s.proposed+1
   omega
 ·refine Zc (fun _=>hk.1) fun a=>?_
  by_cases h2:1073741824≤s.proposed
  ·rw [decide_eq_true h2];exact hk.1
  ·rw [decide_eq_false h2];exact hk.2 (by omega) (by omega)
theorem Zu6 {t0:ByteArray} {q:Int} {s:State} {c:Change} (h:VS t0 q s) (hq:1≤q) (hv:CV c) (hc:c.tame):Tot (ZbE s c q) (Zm9 t0 q s):=by
 have k1:=hv.kind1
 have k2:=hv.kind2
 have c0:=h.clock0
 have c1:=h.clock1
 unfold ZbE
 refine Zc (fun e=>?_) fun e1=>?_
 ·exact Zf (Zzt h hq hv (hv.title (by omega) (by omega)) hc.title) fun r hr=>Zb hr
 refine Zc (fun e=>?_) fun e2=>?_
 ·exact Zf (Zvi h) fun r hr=>Zb hr
 refine Zc (fun e=>?_) fun e3=>?_
 ·exact Zf (Ztn h hc.title) fun r hr=>Zb hr
 refine Zc (fun e=>?_) fun e4=>?_
 ·exact Zf (Zys h hq hv (hv.title (by omega) (by omega)) (hv.dest e) hc.title hc.to) fun r hr=>Zb hr
 refine Zc (fun e=>?_) fun e5=>?_
 ·exact Zf (Zyt h hq hv (hv.imp e) (hv.title (by omega) (by omega)) hc.title) fun r hr=>Zb hr
 refine Zc (fun e=>?_) fun e6=>?_
 ·have n1:=hv.tick e
  have n2:=hc.n1
  rw [Zg (by omega) (by omega)]
  refine Zc (fun _=>Zb (ZbC (by decide))) fun hlt=>?_
  rw [Zg (by omega) (by omega)]
  have hcl:s.clock≤s.clock+c.n:=by omega
  refine Zb fun _=>⟨⟨h.seq0,by show 0≤s.clock+c.n;omega,by show s.clock+c.n≤_;omega,h.plen,h.glen,fun p hp=>(h.pages p hp).mono hcl (Int.le_refl _),fun p hp=>(h.gone p hp).mono hcl (Int.le_refl _),h.sorted,h.rule,h.prlen,h.prop0,h.prop1,fun p hp=>(h.props p hp).mono hcl (Int.le_refl _),h.ids,h.prsort,h.wlen,h.watches,h.wsort,h.llen,h.lasts,h.lsort⟩,rfl,hcl,?_⟩
  show s.clock+c.n≤s.clock+2000
  omega
 refine Zx (fun k=>(c.kind=7∨c.kind=8→Tot (k true) (Zm9 t0 q s))∧(¬ (c.kind=7∨c.kind=8)→Tot (k false) (Zm9 t0 q s))) ⟨fun hw=>?_,fun hw=>?_⟩ fun k hk=>?_
 ·refine ZH rfl ?_
  exact Zf (Zx5 h (Zu4 hv.user (hv.watch hw)) (hv.title (by omega) (by omega))) fun r hr=>Zb hr
 ·refine Zs rfl ?_
  refine Zc (fun e=>?_) fun e9=>?_
  ·exact Zf (Zu5 h hv e) fun r hr=>Zb hr
  ·refine Zf (ZuI s c (by have:=h.prlen;omega)) fun r hr=>Zb ?_
   intro h0
   obtain ⟨l,hs,e⟩:=hr h0
   rw [e]
   exact ⟨h.withProps hs,rfl,Int.le_refl _,by show s.clock≤s.clock+2000;omega⟩
 ·refine Zc (fun e=>?_) fun e7=>?_
  ·rw [decide_eq_true e];exact hk.1 (.inl e)
  ·by_cases e8:c.kind=8
   ·rw [decide_eq_true e8];exact hk.1 (.inr e8)
   ·rw [decide_eq_false e8];exact hk.2 (by omega)
theorem Zhf (c:Change) (hc:c.tame):Tot (ZaA c) fun _=>True:=by
 unfold ZaA
 refine Zc (fun e=>?_) fun e=>?_
 ·refine Za (v:=policyT) rfl ?_
  exact ZQ (fun _=>Zb trivial) fun e2=>absurd e2 hc.title
 refine Zx (fun k=>∀ b,Tot (k b) fun _=>True) (fun b=>?_) fun k hk=>?_
 ·refine Zaw (fun _=>?_) fun _=>?_
  ·refine Za (v:=policyT) rfl ?_
   exact Zb trivial
  ·refine Zc (fun e4=>?_) fun e4=>Zb trivial
   refine Zx (fun k=>∀ b,Tot (k b) fun _=>True) (fun b=>Zb trivial) fun k hk=>?_
   refine Za (v:=policyT) rfl ?_
   refine Zc (fun _=>hk _) fun _=>?_
   refine Za (v:=policyT) rfl ?_
   exact hk _
 ·exact Zc (fun _=>hk _) fun _=>Zc (fun _=>hk _) fun _=>hk _
theorem ZrA {t0:ByteArray} {s:State} {l:List Change} (h:VS t0 s.seq s) (hs:s.seq<1073741824) (hp:∃ p n,Zai t0=some (p,n,0)) (hl:∀ c ∈ l,c.tame) (hn:l.length≤16):Tot (Zao s l) fun r=>r.2=0→VS t0 r.1.seq r.1∧r.1.seq=s.seq+1∧s.clock≤r.1.clock∧r.1.clock≤s.clock+2000 * (l.length:Int):=by
 have s0:=h.seq0
 unfold Zao
 refine Za (ZrC t0 s h (by omega) hp) ?_
 refine Zs rfl ?_
 have e1:w64 (s.seq+1)=s.seq+1:=Zg (by omega) (by omega)
 refine Zx (fun k=>Tot (k true) (fun r=>r.2=0→VS t0 r.1.seq r.1∧r.1.seq=s.seq+1∧s.clock≤r.1.clock∧r.1.clock≤s.clock+2000 * (l.length:Int))∧Tot (k false) (fun r=>r.2=0→VS t0 r.1.seq r.1∧r.1.seq=s.seq+1∧s.clock≤r.1.clock∧r.1.clock≤s.clock+2000 * (l.length:Int))) ⟨ZH rfl (Zb fun e=>by cases e),?_⟩ fun k hk=>?_
 ·refine Zs rfl ?_
  refine Zj (fun a:Int×Int×Int×List Stored×List Stored×List Proposal×Int×List Watch×List Last=>∃ n:Nat,a.1=n∧n≤l.length∧VS t0 (s.seq+1) ⟨a.2.1,a.2.2.1,a.2.2.2.1,a.2.2.2.2.1,a.2.2.2.2.2.1,a.2.2.2.2.2.2.1,a.2.2.2.2.2.2.2.1,a.2.2.2.2.2.2.2.2⟩∧a.2.1=s.seq∧s.clock≤a.2.2.1∧a.2.2.1≤s.clock+2000 * (n:Int)) (fun a=>((l.length:Int) - a.1).toNat) ⟨0,rfl,Nat.zero_le _,h.mono (by omega),rfl,Int.le_refl _,by simp⟩ (by first | omega | (dsimp only;omega)) ?_
  rintro ⟨i,sq,cl,pg,gn,pr,pd,wt,ls⟩ rec ⟨n,hi,hn',hV,hsq,hc0,hc1⟩ ih
  dsimp only at hi hV hsq hc0 hc1
  subst hi hsq
  rw [e1]
  refine Zc (fun hlt=>?_) fun hlt=>?_
  ·refine Zl (by omega) hlt fun c hcm hg=>?_
   have get:∀ {f:Change→Option (State×Int)} {R:State×Int→Prop},Tot (f c) R→Tot ((atI l (n:Int)).bind f) R:=fun hf=>Za (ZbX (by simpa using hg)) hf
   have tame:=hl c hcm
   refine Zf (ZmG c (by have:=tame.hist;omega)) fun e he=>?_
   refine ZQ (fun hne=>Zb fun e0=>absurd e0 hne) fun h0=>?_
   have cv:=he h0
   refine get ?_
   refine Zf (Zu6 hV (by omega) cv tame) fun r hr=>?_
   refine ZQ (fun hne=>Zb fun e0=>absurd e0 hne) fun h0=>?_
   obtain ⟨k1,k2,k3,k4⟩:=hr h0
   refine get ?_
   refine Zf (Zhf c tame) fun b _=>?_
   refine Zaw (fun _=>Zb fun e0=>by cases e0) fun _=>?_
   refine get ?_
   refine Zf (Zrz k1 (by omega) cv.user) fun r2 hr2=>?_
   refine ZQ (fun hne=>Zb fun e0=>absurd e0 hne) fun h0=>?_
   obtain ⟨m1,m2,m3⟩:=hr2 h0
   rw [Zg (by omega) (by omega)]
   refine ih _ ⟨n+1,by dsimp only;omega,by omega,m1,?_,?_,?_⟩ (by first | omega | (dsimp only;omega))
   ·dsimp only at k2 ⊢
    omega
   ·dsimp only at k3 ⊢
    omega
   ·dsimp only at k4 ⊢
    omega
  ·refine Zc (fun hc=>absurd hc (by omega)) fun _=>Zb fun _=>?_
   refine ⟨⟨by show 0≤s.seq+1;omega,hV.clock0,hV.clock1,hV.plen,hV.glen,hV.pages,hV.gone,hV.sorted,hV.rule,hV.prlen,hV.prop0,hV.prop1,hV.props,hV.ids,hV.prsort,hV.wlen,hV.watches,hV.wsort,hV.llen,hV.lasts,hV.lsort⟩,rfl,hc0,?_⟩
   show cl≤_
   have:(n:Int)≤l.length:=by omega
   omega
 ·refine Zc (fun _=>hk.1) fun h1=>?_
  rw [decide_eq_false (by omega)]
  exact hk.2
def polS0:Policy:=⟨[],[],[]⟩
def polS1:Policy:=⟨polS0.groups,polS0.rules.concat ⟨true,1,⟨#[97,108,108]⟩,⟨1,⟨0,⟨#[]⟩⟩⟩⟩,polS0.guards⟩
def polS2:Policy:=⟨polS1.groups,polS1.rules.concat ⟨true,2,⟨#[97,108,108]⟩,⟨1,⟨0,⟨#[]⟩⟩⟩⟩,polS1.guards⟩
def polS3:Policy:=⟨polS2.groups,polS2.rules.concat ⟨true,3,⟨#[97,108,108]⟩,⟨1,⟨0,⟨#[]⟩⟩⟩⟩,polS2.guards⟩
def polS4:Policy:=⟨polS3.groups,polS3.rules.concat ⟨true,4,⟨#[97,108,108]⟩,⟨1,⟨0,⟨#[]⟩⟩⟩⟩,polS3.guards⟩
def polS5:Policy:=⟨polS4.groups,polS4.rules.concat ⟨true,5,⟨#[97,108,108]⟩,⟨1,⟨0,⟨#[]⟩⟩⟩⟩,polS4.guards⟩
def polS6:Policy:=⟨polS5.groups.concat ⟨⟨#[115,116,97,102,102]⟩,[⟨#[97,110,110]⟩]⟩,polS5.rules,polS5.guards⟩
def polS7:Policy:=⟨polS6.groups,polS6.rules.concat ⟨false,1,⟨#[97,108,108]⟩,⟨3,⟨0,⟨#[65]⟩⟩⟩⟩,polS6.guards⟩
def Zne:Policy:=⟨polS7.groups,polS7.rules.concat ⟨true,1,⟨#[115,116,97,102,102]⟩,⟨3,⟨0,⟨#[65,47,67]⟩⟩⟩⟩,polS7.guards⟩
def polS9:Policy:=⟨polS6.groups,polS6.rules,polS6.guards.concat ⟨false,⟨#[115,116,97,102,102]⟩,⟨0,⟨#[65]⟩⟩,⟨#[83]⟩⟩⟩
def polS10:Policy:=⟨polS9.groups,polS9.rules,polS9.guards.concat ⟨true,⟨#[115,116,97,102,102]⟩,⟨3,⟨#[84]⟩⟩,⟨#[]⟩⟩⟩
def ZiS:Policy:=⟨polS10.groups,polS10.rules,polS10.guards.concat ⟨false,⟨#[115,116,97,102,102]⟩,⟨0,⟨#[66]⟩⟩,⟨#[]⟩⟩⟩
def polS12:Policy:=⟨polS0.groups.concat ⟨⟨#[115,116,97,102,102]⟩,[⟨#[97,110,110]⟩,⟨#[64,109,111,114,101]⟩]⟩,polS0.rules,polS0.guards⟩
def polS13:Policy:=⟨polS12.groups.concat ⟨⟨#[109,111,114,101]⟩,[⟨#[98,111,98]⟩]⟩,polS12.rules,polS12.guards⟩
def polS14:Policy:=⟨polS13.groups,polS13.rules.concat ⟨true,1,⟨#[97,108,108]⟩,⟨2,⟨0,⟨#[]⟩⟩⟩⟩,polS13.guards⟩
def polS15:Policy:=⟨polS14.groups,polS14.rules.concat ⟨true,1,⟨#[97,108,108]⟩,⟨2,⟨3,⟨#[]⟩⟩⟩⟩,polS14.guards⟩
def polS16:Policy:=⟨polS15.groups,polS15.rules.concat ⟨true,1,⟨#[97,108,108]⟩,⟨2,⟨4,⟨#[]⟩⟩⟩⟩,polS15.guards⟩
def polS17:Policy:=⟨polS16.groups,polS16.rules.concat ⟨true,2,⟨#[117,115,101,114,115]⟩,⟨2,⟨0,⟨#[]⟩⟩⟩⟩,polS16.guards⟩
def polS18:Policy:=⟨polS17.groups,polS17.rules.concat ⟨true,2,⟨#[115,116,97,102,102]⟩,⟨2,⟨4,⟨#[]⟩⟩⟩⟩,polS17.guards⟩
def polS19:Policy:=⟨polS18.groups,polS18.rules.concat ⟨true,5,⟨#[115,116,97,102,102]⟩,⟨1,⟨0,⟨#[]⟩⟩⟩⟩,polS18.guards⟩
def polS20:Policy:=⟨polS19.groups,polS19.rules.concat ⟨true,3,⟨#[115,116,97,102,102]⟩,⟨1,⟨0,⟨#[]⟩⟩⟩⟩,polS19.guards⟩
def polS21:Policy:=⟨polS20.groups,polS20.rules.concat ⟨true,4,⟨#[115,116,97,102,102]⟩,⟨1,⟨0,⟨#[]⟩⟩⟩⟩,polS20.guards⟩
def polS22:Policy:=⟨polS21.groups,polS21.rules.concat ⟨true,1,⟨#[115,116,97,102,102]⟩,⟨1,⟨0,⟨#[]⟩⟩⟩⟩,polS21.guards⟩
def ZiT:Policy:=⟨polS22.groups,polS22.rules.concat ⟨true,2,⟨#[115,116,97,102,102]⟩,⟨1,⟨0,⟨#[]⟩⟩⟩⟩,polS22.guards⟩
def polS24:Policy:=⟨polS5.groups,polS5.rules.concat ⟨false,1,⟨#[97,108,108]⟩,⟨3,⟨0,⟨#[66]⟩⟩⟩⟩,polS5.guards⟩
def ZiU:Policy:=⟨polS24.groups,polS24.rules.concat ⟨false,1,⟨#[97,108,108]⟩,⟨3,⟨4,⟨#[89]⟩⟩⟩⟩,polS24.guards⟩
def polS26:Policy:=⟨polS5.groups,polS5.rules.concat ⟨false,2,⟨#[97,108,108]⟩,⟨3,⟨0,⟨#[66]⟩⟩⟩⟩,polS5.guards⟩
def ZiV:Policy:=⟨polS26.groups,polS26.rules.concat ⟨false,1,⟨#[117,115,101,114,115]⟩,⟨3,⟨0,⟨#[68]⟩⟩⟩⟩,polS26.guards⟩
def polS28:Policy:=⟨polS6.groups,polS6.rules.concat ⟨false,5,⟨#[97,108,108]⟩,⟨1,⟨0,⟨#[]⟩⟩⟩⟩,polS6.guards⟩
def polS29:Policy:=⟨polS28.groups,polS28.rules.concat ⟨true,5,⟨#[115,116,97,102,102]⟩,⟨2,⟨0,⟨#[]⟩⟩⟩⟩,polS28.guards⟩
def polS30:Policy:=⟨polS29.groups,polS29.rules,polS29.guards.concat ⟨false,⟨#[115,116,97,102,102]⟩,⟨0,⟨#[65]⟩⟩,⟨#[]⟩⟩⟩
def ZiW:Policy:=⟨polS30.groups,polS30.rules,polS30.guards.concat ⟨false,⟨#[115,116,97,102,102]⟩,⟨0,⟨#[68]⟩⟩,⟨#[]⟩⟩⟩
inductive StmR:Policy→List ByteArray→Policy→Prop
 | nil {p:Policy}:StmR p [] p
 | cons {p q r:Policy} {l:ByteArray} {ls:List ByteArray} (h:Zr p l=some (q,true)) (k:StmR q ls r):StmR p (l::ls) r
theorem ZfN {s:ByteArray} {lines:List ByteArray} {p:Policy} (hs:decide ((8192:Int)<(s.size:Int))=false) (hL:Zkf s=some lines) (hn:decide (lines.length≤1000)=true) (h:StmR ⟨[],[],[]⟩ lines p) (hv:ZfV p=some 0):Zai s=some (p,0,0):=by
 have hn':lines.length≤1000:=of_decide_eq_true hn
 refine ZV ?_
 unfold Zai
 refine Zs hs ?_
 refine Za hL ?_
 refine Zj (fun a:Int×List Group×List Rule×List Guard=>∃ n:Nat,a.1=n∧n≤lines.length∧StmR ⟨a.2.1,a.2.2.1,a.2.2.2⟩ (lines.drop n) p) (fun a=>((lines.length:Int) - a.1).toNat) ⟨0,rfl,Nat.zero_le _,h⟩ (by first | omega | (dsimp only;omega)) ?_
 rintro ⟨i,gs,rs,us⟩ rec ⟨n,hi,hn2,hst⟩ ih
 dsimp only at hi hst
 subst hi
 refine Zc (fun hlt=>?_) fun hlt=>?_
 ·refine Zl (by omega) hlt fun e _ hg=>?_
  rw [Int.toNat_natCast] at hg
  rw [Zm0 hg] at hst
  cases hst with
  | cons h1 h2=>
    refine Za h1 ?_
    refine Zs rfl ?_
    rw [Zg (by omega) (by omega)]
    exact ih _ ⟨n+1,by dsimp only;omega,by omega,h2⟩ (by first | omega | (dsimp only;omega))
 ·rw [List.drop_of_length_le (by omega)] at hst
  cases hst
  refine Za hv ?_
  exact Zs rfl (Zb rfl)
inductive StmP:Policy→List ByteArray→Policy→Prop
 | nil {p:Policy}:StmP p [] p
 | cons {p q r:Policy} {l:ByteArray} {ls:List ByteArray} (h:Zm p l=some (true,q)) (k:StmP q ls r):StmP p (l::ls) r
theorem ZeO {s:ByteArray} {lines:List ByteArray} {p:Policy} (hs:decide ((8192:Int)<(s.size:Int))=false) (hL:strings_Split s ⟨#[10]⟩=some lines) (hn:decide (lines.length≤1000)=true) (h:StmP ⟨[],[],[]⟩ lines p) (hv:ZdX p=some 0):Zat s=some (p,0,0):=by
 have hn':lines.length≤1000:=of_decide_eq_true hn
 refine ZV ?_
 unfold Zat
 refine Zs hs ?_
 refine Za hL ?_
 refine Zj (fun a:Int×List Group×List Rule×List Guard=>∃ n:Nat,a.1=n∧n≤lines.length∧StmP ⟨a.2.1,a.2.2.1,a.2.2.2⟩ (lines.drop n) p) (fun a=>((lines.length:Int) - a.1).toNat) ⟨0,rfl,Nat.zero_le _,h⟩ (by first | omega | (dsimp only;omega)) ?_
 rintro ⟨i,gs,rs,us⟩ rec ⟨n,hi,hn2,hst⟩ ih
 dsimp only at hi hst
 subst hi
 refine Zc (fun hlt=>?_) fun hlt=>?_
 ·refine Zl (by omega) hlt fun e _ hg=>?_
  rw [Int.toNat_natCast] at hg
  rw [Zm0 hg] at hst
  cases hst with
  | cons h1 h2=>
    refine Za h1 ?_
    refine Zs rfl ?_
    rw [Zg (by omega) (by omega)]
    exact ih _ ⟨n+1,by dsimp only;omega,by omega,h2⟩ (by first | omega | (dsimp only;omega))
 ·rw [List.drop_of_length_le (by omega)] at hst
  cases hst
  refine Za hv ?_
  exact Zs rfl (Zb rfl)
end Go.Proofs.YtjoneoobolnnbaaGreatDoor
namespace Go.Proofs.YtjoneoobolnnbaaGreatDoor
theorem Zl4:Zm polS0 ⟨#[97,108,108,111,119,32,114,101,97,100,32,97,108,108,32,60,97,108,108,62]⟩=some (true,polS1):=by kernel_rfl
theorem Zl5:Zm polS3 ⟨#[97,108,108,111,119,32,100,101,108,101,116,101,32,97,108,108,32,60,97,108,108,62]⟩=some (true,polS4):=by kernel_rfl
theorem Ztp:Zm polS5 ⟨#[103,114,111,117,112,32,115,116,97,102,102,32,97,110,110]⟩=some (true,polS6):=by kernel_rfl
theorem Zyx:Zm Zne ⟨#[]⟩=some (true,Zne):=by kernel_rfl
theorem ZwI:Zm polS10 ⟨#[103,117,97,114,100,32,115,116,97,102,102,32,66]⟩=some (true,ZiS):=by kernel_rfl
theorem ZwJ:Zm polS12 ⟨#[103,114,111,117,112,32,109,111,114,101,32,98,111,98]⟩=some (true,polS13):=by kernel_rfl
theorem ZwK:Zm polS15 ⟨#[97,108,108,111,119,32,114,101,97,100,32,97,108,108,32,60,67,97,116,101,103,111,114,121,62]⟩=some (true,polS16):=by kernel_rfl
theorem ZwL:Zm polS18 ⟨#[97,108,108,111,119,32,114,101,118,105,101,119,32,115,116,97,102,102,32,60,97,108,108,62]⟩=some (true,polS19):=by kernel_rfl
theorem ZwM:Zm polS21 ⟨#[97,108,108,111,119,32,114,101,97,100,32,115,116,97,102,102,32,60,97,108,108,62]⟩=some (true,polS22):=by kernel_rfl
theorem ZwN:Zm polS5 ⟨#[100,101,110,121,32,114,101,97,100,32,97,108,108,32,66]⟩=some (true,polS24):=by kernel_rfl
theorem ZwO:Zm polS5 ⟨#[100,101,110,121,32,101,100,105,116,32,97,108,108,32,66]⟩=some (true,polS26):=by kernel_rfl
theorem ZwP:Zm polS6 ⟨#[100,101,110,121,32,114,101,118,105,101,119,32,97,108,108,32,60,97,108,108,62]⟩=some (true,polS28):=by kernel_rfl
theorem ZwQ:Zm polS30 ⟨#[103,117,97,114,100,32,115,116,97,102,102,32,68]⟩=some (true,ZiW):=by kernel_rfl
theorem ZmE:Zm polS1 ⟨#[97,108,108,111,119,32,101,100,105,116,32,97,108,108,32,60,97,108,108,62]⟩=some (true,polS2):=by kernel_rfl
theorem ZmF:Zm polS4 ⟨#[97,108,108,111,119,32,114,101,118,105,101,119,32,97,108,108,32,60,97,108,108,62]⟩=some (true,polS5):=by kernel_rfl
theorem ZyW:Zm polS6 ⟨#[100,101,110,121,32,114,101,97,100,32,97,108,108,32,65]⟩=some (true,polS7):=by kernel_rfl
theorem Zxg:Zm polS6 ⟨#[103,117,97,114,100,32,115,116,97,102,102,32,65,32,124,32,83]⟩=some (true,polS9):=by kernel_rfl
theorem Zxh:Zm ZiS ⟨#[]⟩=some (true,ZiS):=by kernel_rfl
theorem Zxi:Zm polS13 ⟨#[97,108,108,111,119,32,114,101,97,100,32,97,108,108,32,60,77,97,105,110,62]⟩=some (true,polS14):=by kernel_rfl
theorem Zxj:Zm polS16 ⟨#[97,108,108,111,119,32,101,100,105,116,32,117,115,101,114,115,32,60,77,97,105,110,62]⟩=some (true,polS17):=by kernel_rfl
theorem Zxk:Zm polS19 ⟨#[97,108,108,111,119,32,109,111,118,101,32,115,116,97,102,102,32,60,97,108,108,62]⟩=some (true,polS20):=by kernel_rfl
theorem Zxl:Zm polS22 ⟨#[97,108,108,111,119,32,101,100,105,116,32,115,116,97,102,102,32,60,97,108,108,62]⟩=some (true,ZiT):=by kernel_rfl
theorem Zxm:Zm polS24 ⟨#[100,101,110,121,32,114,101,97,100,32,97,108,108,32,67,97,116,101,103,111,114,121,58,89]⟩=some (true,ZiU):=by kernel_rfl
theorem Zxn:Zm polS26 ⟨#[100,101,110,121,32,114,101,97,100,32,117,115,101,114,115,32,68]⟩=some (true,ZiV):=by kernel_rfl
theorem Zxo:Zm polS28 ⟨#[97,108,108,111,119,32,114,101,118,105,101,119,32,115,116,97,102,102,32,60,77,97,105,110,62]⟩=some (true,polS29):=by kernel_rfl
theorem Zxp:Zm ZiW ⟨#[]⟩=some (true,ZiW):=by kernel_rfl
theorem ZmW:Zm polS2 ⟨#[97,108,108,111,119,32,109,111,118,101,32,97,108,108,32,60,97,108,108,62]⟩=some (true,polS3):=by kernel_rfl
theorem Zwx:Zm polS5 ⟨#[]⟩=some (true,polS5):=by kernel_rfl
theorem Zy5:Zm polS7 ⟨#[97,108,108,111,119,32,114,101,97,100,32,115,116,97,102,102,32,65,47,67]⟩=some (true,Zne):=by kernel_rfl
theorem ZxH:Zm polS9 ⟨#[115,116,114,105,99,116,32,115,116,97,102,102,32,84,101,109,112,108,97,116,101,58,84]⟩=some (true,polS10):=by kernel_rfl
theorem ZxI:Zm polS0 ⟨#[103,114,111,117,112,32,115,116,97,102,102,32,97,110,110,32,64,109,111,114,101]⟩=some (true,polS12):=by kernel_rfl
theorem ZxJ:Zm polS14 ⟨#[97,108,108,111,119,32,114,101,97,100,32,97,108,108,32,60,84,101,109,112,108,97,116,101,62]⟩=some (true,polS15):=by kernel_rfl
theorem ZxK:Zm polS17 ⟨#[97,108,108,111,119,32,101,100,105,116,32,115,116,97,102,102,32,60,67,97,116,101,103,111,114,121,62]⟩=some (true,polS18):=by kernel_rfl
theorem ZxL:Zm polS20 ⟨#[97,108,108,111,119,32,100,101,108,101,116,101,32,115,116,97,102,102,32,60,97,108,108,62]⟩=some (true,polS21):=by kernel_rfl
theorem ZxM:Zm ZiT ⟨#[]⟩=some (true,ZiT):=by kernel_rfl
theorem ZxN:Zm ZiU ⟨#[]⟩=some (true,ZiU):=by kernel_rfl
theorem ZxO:Zm ZiV ⟨#[]⟩=some (true,ZiV):=by kernel_rfl
theorem ZxP:Zm polS29 ⟨#[103,117,97,114,100,32,115,116,97,102,102,32,65]⟩=some (true,polS30):=by kernel_rfl
end Go.Proofs.YtjoneoobolnnbaaGreatDoor
