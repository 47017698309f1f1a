/- More rules for functions as Lean functions: rows under another key, rows made public, tests on bools, bits. No program is named. | The plain side of functions as Lean functions: lemmas to reckon them. No program is named. | A variable of the package is read; and what it is that a function as a Lean function returns something. No program is named. | Function values as Lean functions; functions that hand back a new object; functions that turn an object with rows: held against Lean functions. No program is named. | Rows whose cells lead to other objects of the call: elements, lengths, parts, append. No program is named. | Rows whose cells lead to other objects: stores, append, fronts, literals. No program is named. | Rows whose cells lead to other objects: fronts of them, literals, and a plain row taken as one. No program is named. | The objects of one function under the names of another. No program is named. | Functions that turn many objects which lead to each other. No program is named. | A function that turns many objects which lead to each other: run its body. No program is named. | The rules for rows whose cells lead to other objects, and for calls that turn many objects. No program is named. | Calls that turn many objects which lead to each other: the rule. No program is named. | Objects get new keys and new names. No program is named. | The parser's objects: elements on a stack of pointers, the top one under fixed keys. No program is named. | Lists as nodes have them, read. No program is named. | Maps of the call's own: made, written, read. No program is named. | The rules for maps. No program is named. | Functions of the program as Lean functions. Written by fxgen.py. | New names where function values that came in lie in slots. No program is named. | A slice that is not empty is not nil. No program is named. | On as far as it goes by itself, but for arrays that are built. No program is named. | make([]T, 0, c): a new row of no elements. No program is named. | A call with function values that hands back a new object. No program is named. | Short forms of what fx prints. No program is named. | Functions that turn a row in place and have plain arguments behind it. No program is named. | Stores of whole elements behind another store; functions that turn a row, held against Lean functions. No program is named. | make([]T, n): a new row of n zeros, where a nil list counts as an empty one. No program is named. | What stands behind a place of a row of the call's own: it is looked at and cleared while the row is turned. No program is named. | Functions that turn the row that is their first argument and hand back a front of it. No program is named. | A run that stops at structs that are written out. No program is named. | A call that turns an object with rows, where one of the object's own rows is handed in too (and is open to others from then on). No program is named. | Steps that take a value out of a function's Lean form, in short. No program is named. | Rows looked at from a place on, cleared, cut short, at lists of any type. No program is named. | A call that turns the row that is its first argument and only looks at the others, function values among them. No program is named. | Queues: a row of the call's own whose front is cut off and whose end grows. No program is named. | The rules for queues. No program is named. -/
import Derived.Test.YtpffimahajgiaaaGreatDoorVV02
import Derived.ChangeMaps5
import Derived.Lib.SliceRun
import Derived.Laws.BytesArg
namespace Go.Proofs.YtpffimahajgiaaaGreatDoor
namespace VL
open Go.RowKit
section
variable {tm:List (Nat×PV)} {ob:List (Nat×Option (Gen×VObj))} {ng:Nat}
theorem ZkG (t:Nat) {g:Gen} {E k:Nat} {els:List (List PV)} (h1:Zai ob t=some (g,.row E k false els)):Shift (mkS tm ob ng) (mkS tm ((t,some (g,.row E k true els))::ob) ng):=fun r a x hX=>by
 refine ⟨x,rfl,hX.defers,hX.size,hX.gr,hX.gens,hX.tm,fun t' g' o' ho=>?_,fun t1 t2 g1 g2 o1 o2 b hne k1 k2 hb=>?_,hX.flt,hX.f0,hX.fnew,hX.rho,hX.inv,hX.keep⟩
 ·change (if t'=t then some (g,VObj.row E k true els) else Zai ob t')=some (g',o') at ho
  split at ho
  ·injection ho with ho
   injection ho with e1 e2
   subst e1 e2
   obtain ⟨hG,p1,p2,vs,p3,p4,p5⟩:=hX.ob t _ _ h1
   exact ⟨hG,p1,p2,vs,p3,p4,fun b hb=>⟨(p5 b hb).1,fun o hF=>by cases ((p5 b hb).2 o hF).1⟩⟩
  ·exact hX.ob t' _ _ ho
 ·change (if t1=t then some (g,VObj.row E k true els) else Zai ob t1)=some (g1,o1) at k1
  change (if t2=t then some (g,VObj.row E k true els) else Zai ob t2)=some (g2,o2) at k2
  have f1:∃ o1',Zai ob t1=some (g1,o1'):=by
   split at k1
   ·rename_i e;subst e;injection k1 with k1;injection k1 with e3 e4;subst e3;exact ⟨_,h1⟩
   ·exact ⟨_,k1⟩
  have f2:∃ o2',Zai ob t2=some (g2,o2'):=by
   split at k2
   ·rename_i e;subst e;injection k2 with k2;injection k2 with e3 e4;subst e3;exact ⟨_,h1⟩
   ·exact ⟨_,k2⟩
  obtain ⟨_,f1⟩:=f1
  obtain ⟨_,f2⟩:=f2
  exact hX.apart t1 t2 _ _ _ _ b hne f1 f2 hb
end
class BoolT (P:Program) (T:TypeId):Prop where
 eq:P.underlying T=some .bool
def Zoa (op:BinOp) (k:IntKind) (a b:Int):Int:=match op with
 | .and=>k.wrap (BitVec.ofInt k.bits a &&& BitVec.ofInt k.bits b).toNat
 | .or=>k.wrap (BitVec.ofInt k.bits a ||| BitVec.ofInt k.bits b).toNat
 | .xor=>k.wrap (BitVec.ofInt k.bits a ^^^ BitVec.ofInt k.bits b).toNat
 | _=>k.wrap (BitVec.ofInt k.bits a &&& ~~~BitVec.ofInt k.bits b).toNat
section
variable {P:Program} [WInv P] {ops:Array Oper} {draw:Bool} {i:Nat} {L:List Oper} {acc:List (List Nat×List Nat)} {K:FS→Prop} {tm:List (Nat×PV)} {ob:List (Nat×Option (Gen×VObj))} {ng:Nat}
 {d:Option Tmp} {ty T T':TypeId} {pos:String} {after:Array Edge} {gd:Option (Nat×Bool)} {x y:Operand}
theorem ZkH [h:BoolT P T] (hw:ZR ops (mkS tm ob ng) ⟨d,.binOp .eql T x y T',ty,pos,after,gd⟩=some true) {a b:Bool} (hx:evL tm x = .bool a) (hy:evL tm y = .bool b)
  (kk:GoL P ops draw (i+1) L (acc ++ [(Zaj (mkS tm ob ng) ⟨d,.binOp .eql T x y T',ty,pos,after,gd⟩,[])]) (mkS (Zbg d (.bool (a == b)) tm) ob ng) K):GoL P ops draw i (⟨d,.binOp .eql T x y T',ty,pos,after,gd⟩::L) acc (mkS tm ob ng) K:=by
 refine Zb6 rfl (fun _ _ h=>by cases h) hw hx hy (v:=.bool a) (w:=.bool b) (r:=.bool (a == b)) rfl rfl (fun ρ W h1 h2=>?_) rfl kk
 simp [execOp,h1,h2,eqGuard,binOp,run_equal_bool W T a b h.eq]
end
theorem ZaA {P:Program} [WInv P] {β:Type} {F:Option β} {R:β→PV} {O:β→List PV} {f:FuncId} {fn:Func} {c:Code} {args:List PV} {j:Nat} {os:List PV} {r:β} (hF:F=some r) (hmix:P.follows .mixedOrders=true) (hf:P.funcs[f]? = some fn) (hg:isGo P f=true) (hb:fn.body=some c) (hok:(decide (args.length≤fn.ntmps)&&ZaY fn.ntmps c)=true)
  (h:∀ r,F=some r→PWs P [c] (ZoI P fn.results.toList (R r) j (O r)) (mkS (ZdA 0 args) [(j,some ((0,j),.box os))] 1)):Contract P f args (some (j,os)) (R r) (O r):=ZgR hmix hf hg hb hok (h r hF)
end VL
end Go.Proofs.YtpffimahajgiaaaGreatDoor
namespace Go.Proofs.YtpffimahajgiaaaGreatDoor
namespace VL
open Go.RowKit
theorem ZaT {n:Int} (h1 : -9223372036854775808≤n) (h2:n≤9223372036854775807):w64 n=n:=by
 show IntKind.wrap .i64 n=n
 rw [IntKind.wrap_i64]
 omega
theorem Zmm {α:Type} {l:List α} {n:Nat} {e:α} (h:l[n]? = some e):atI l (n:Int)=some e:=by rw [Zm3,h]
theorem ZnE {α:Type} {w:Nat} {a b:List α} (h:(a.length+b.length) * w≤140737488355328) (h2:a.length+b.length≤9223372036854775807):Zc8 w a b=some (a++b):=by
 unfold Zc8
 rw [if_pos ⟨h,h2⟩]
theorem Zlc {α:Type} {w:Nat} {a b:List α} (n:Nat) (h:a.length+b.length≤n) (h2:n * w≤140737488355328) (h3:n≤9223372036854775807):Zc8 w a b=some (a++b):=
 ZnE (Nat.le_trans (Nat.mul_le_mul_right w h) h2) (Nat.le_trans h h3)
theorem ZnF {a b:ByteArray} (h:a.size+b.size≤9223372036854775807):ZaW a b=some (a++b):=by
 unfold ZaW
 rw [if_pos h]
theorem ZmC {s:ByteArray} {n:Nat} (h:n<s.size):atS s (n:Int)=some ((s[n]).toNat:Int):=by
 unfold atS
 rw [if_pos (by omega)]
 simp [h]
end VL
end Go.Proofs.YtpffimahajgiaaaGreatDoor
namespace Go.Proofs.YtpffimahajgiaaaGreatDoor
namespace VL
open Go.RowKit
def Tot {α:Type} (x:Option α) (Q:α→Prop):Prop:=∃ v,x=some v∧Q v
section
variable {α β γ:Type}
theorem Tot.mono {x:Option α} {Q R:α→Prop} (h:Tot x Q) (g:∀ v,Q v→R v):Tot x R:=by
 obtain ⟨v,h1,h2⟩:=h
 exact ⟨v,h1,g v h2⟩
theorem ZU {v:α} {Q:α→Prop} (h:Q v):Tot (some v) Q:=⟨v,rfl,h⟩
theorem ZG {x:Option α} {f:α→Option β} {Q:α→Prop} {R:β→Prop} (h:Tot x Q) (k:∀ v,Q v→Tot (f v) R):Tot (x.bind f) R:=by
 obtain ⟨v,h1,h2⟩:=h
 obtain ⟨r,h3,h4⟩:=k v h2
 exact ⟨r,by rw [h1];exact h3,h4⟩
theorem ZT {x:Option α} {f:α→Option β} {v:α} {R:β→Prop} (h:x=some v) (k:Tot (f v) R):Tot (x.bind f) R:=by
 rw [h];exact k
theorem ZaE {b:Bool} {x y:Option β} {R:β→Prop} (h1:b=true→Tot x R) (h2:b=false→Tot y R):Tot (if b=true then x else y) R:=by
 cases b
 ·exact h2 rfl
 ·exact h1 rfl
theorem ZK {p:Prop} [Decidable p] {x y:Option β} {R:β→Prop} (h1:p→Tot x R) (h2:¬ p→Tot y R):Tot (if decide p=true then x else y) R:=by
 by_cases h:p
 ·rw [if_pos (decide_eq_true h)];exact h1 h
 ·rw [if_neg (by simpa using h)];exact h2 h
theorem Zkt {p:Prop} [Decidable p] {x y:Option β} {R:β→Prop} (h1:¬ p→Tot x R) (h2:p→Tot y R):Tot (if (!decide p)=true then x else y) R:=by
 by_cases h:p
 ·rw [if_neg (by simpa using h)];exact h2 h
 ·rw [if_pos (by simpa using h)];exact h1 h
theorem Zar {k:γ} {f:γ→Option β} {R:β→Prop} (S:γ→Prop) (hk:S k) (hf:∀ q,S q→Tot (f q) R):Tot (letk k f) R:=hf k hk
theorem ZaH {F:(α→Option β)→α→Option β} {a:α} {R:β→Prop} (J:α→Prop) (m:α→Nat) (h0:J a) (hm:m a≤4611686018427387900) (h:∀ a rec,J a→(∀ a',J a'→m a'<m a→Tot (rec a') R)→Tot (F rec a) R):Tot (Zbf Zdy F a) R:=
 Zkj J m R h Zdy a h0 (by unfold Zdy;omega)
theorem ZaX {l:List α} {i:Int} {f:α→Option β} {R:β→Prop} (h0:0≤i) (h1:i<(l.length:Int)) (k:∀ e,e ∈ l→l[i.toNat]? = some e→Tot (f e) R):Tot ((atI l i).bind f) R:=by
 obtain ⟨n,rfl⟩:∃ n:Nat,i=(n:Int):=⟨i.toNat,by omega⟩
 have hl:n<l.length:=by omega
 have e:l[n]? = some l[n]:=List.getElem?_eq_getElem hl
 refine ZT (v:=l[n]) (Zmm e) (k _ (List.getElem_mem hl) (by simp))
theorem Zm7 {s:ByteArray} {i:Int} {f:Int→Option β} {R:β→Prop} (h0:0≤i) (h1:i<(s.size:Int)) (k:∀ c:Int,0≤c→c<256→atS s i=some c→Tot (f c) R):Tot ((atS s i).bind f) R:=by
 obtain ⟨n,rfl⟩:∃ n:Nat,i=(n:Int):=⟨i.toNat,by omega⟩
 have hl:n<s.size:=by omega
 refine ZT (ZmC hl) (k _ (by omega) ?_ (ZmC hl))
 have:=(s[n]).toNat_lt
 omega
theorem ZlV {l:List α} {a b:Int} {f:List α→Option β} {R:β→Prop} (h0:0≤a) (h1:a≤b) (h2:b≤(l.length:Int)) (k:∀ m:List α,m=(l.drop a.toNat).take (b.toNat - a.toNat)→(m.length:Int)=b - a→Tot (f m) R):Tot ((Zfx l a b).bind f) R:=by
 refine ZT (v:=(l.drop a.toNat).take (b.toNat - a.toNat)) (by unfold Zfx;rw [if_pos ⟨h0,h1,h2⟩]) (k _ rfl ?_)
 simp
 omega
theorem ZlW {s:ByteArray} {a b:Int} {f:ByteArray→Option β} {R:β→Prop} (h0:0≤a) (h1:a≤b) (h2:b≤(s.size:Int)) (k:∀ m:ByteArray,m=s.extract a.toNat b.toNat→(m.size:Int)=b - a→Tot (f m) R):Tot ((ZlJ s a b).bind f) R:=by
 refine ZT (v:=s.extract a.toNat b.toNat) (by unfold ZlJ;rw [if_pos ⟨h0,h1,h2⟩]) (k _ rfl ?_)
 rw [ByteArray.size_extract]
 omega
theorem ZaU {w:Nat} {a b:List α} {f:List α→Option β} {R:β→Prop} (n:Nat) (h:a.length+b.length≤n) (h2:n * w≤140737488355328) (h3:n≤9223372036854775807) (k:Tot (f (a++b)) R):Tot ((Zc8 w a b).bind f) R:=
 ZT (Zlc n h h2 h3) k
theorem Zb4 {a b:ByteArray} {f:ByteArray→Option β} {R:β→Prop} (h:a.size+b.size≤9223372036854775807) (k:(a++b).size=a.size+b.size→Tot (f (a++b)) R):Tot ((ZaW a b).bind f) R:=
 ZT (ZnF h) (k (by rw [ByteArray.size_append]))
theorem ZlX {k:IntKind} {a b:Int} {f:Int→Option β} {R:β→Prop} (h:b≠0) (g:Tot (f (Int.tmod a b)) R):Tot ((ZnS k a b).bind f) R:=
 ZT (by unfold ZnS;rw [if_neg h]) g
end
end VL
end Go.Proofs.YtpffimahajgiaaaGreatDoor
namespace Go.Proofs.YtpffimahajgiaaaGreatDoor
namespace VL
open Go.RowKit
theorem Zif {P:Program} [WInv P] {β:Type} {F:Option β} {O:β→VObj} {f:FuncId} {fn:Func} {c:Code} {args:List PV} {r:β} (hF:F=some r) (hmix:P.follows .mixedOrders=true) (hf:P.funcs[f]? = some fn) (hg:isGo P f=true) (hb:fn.body=some c) (hok:(decide (args.length≤fn.ntmps)&&ZaY fn.ntmps c)=true)
  (h:∀ r,F=some r→PWs P [c] (Zos P fn.results.toList (O r)) (mkS (ZdA 0 args) [] 1)):ContractN P f args (O r):=Zgk hmix hf hg hb hok (h r hF)
end VL
end Go.Proofs.YtpffimahajgiaaaGreatDoor
namespace Go.Proofs.YtpffimahajgiaaaGreatDoor
namespace VL
open Go.RowKit
section
variable {P:Program} [WInv P] {ops:Array Oper} {o:Oper} {i:Nat} {s:FS} {T:TypeId} {e e':Operand} {E a1 a2 t k n off:Nat} {a3:List PV} {te ti:TI} {g:Gen} {els new:List (List PV)} {el:List PV}
omit [WInv P] in
theorem Zfb {s':FS} (h:Agree ops o s s') (he:e ∈ o.op.operands) (hq:quiet o.op=false) (hs:Ze1 o.op=false) (hk:t ∈ Za3 (ev s e)):ZaJ s'.ob t g=ZaJ s.ob t g:=ZaB (h.key he hq hs t (Zcy (ZgL hk))).symm g
end
end VL
end Go.Proofs.YtpffimahajgiaaaGreatDoor
namespace Go.Proofs.YtpffimahajgiaaaGreatDoor
namespace VL
open Go.RowKit
end VL
end Go.Proofs.YtpffimahajgiaaaGreatDoor

namespace Go.Proofs.YtpffimahajgiaaaGreatDoor
namespace VL
open Go.RowKit Go.ChangeMaps
def Zbw {α β:Type} [DecidableEq α]:List (α×β)→α→Option β
 | [],_=>none
 | (k,b)::r,a=>if a=k then some b else Zbw r a
def Zb0 {α β:Type} [DecidableEq α]:List (α×β)→α→β→List (α×β)
 | [],a,b=>[(a,b)]
 | (k,c)::r,a,b=>if a=k then (a,b)::r else (k,c)::Zb0 r a b
theorem ZfZ {α β:Type} [DecidableEq α] {a:α} {b:β}:∀ {M:List (α×β)},a ∉ M.map (·.1)→Zb0 M a b=M ++ [(a,b)]
 | [],_=>rfl
 | (k,c)::r,h=>by
  simp only [List.map_cons,List.mem_cons,not_or] at h
  simp only [Zb0,if_neg h.1,ZfZ h.2,List.cons_append]
theorem Zf0 {α β:Type} [DecidableEq α] {a:α} {b:β}:∀ {M:List (α×β)} {j:Nat},(M.map (·.1))[j]? = some a→a ∉ (M.map (·.1)).take j→Zb0 M a b=M.set j (a,b)
 | [],j,h,_=>by simp at h
 | (k,c)::r,0,h,_=>by
  simp only [List.map_cons,List.getElem?_cons_zero,Option.some.injEq] at h
  simp only [Zb0,if_pos h.symm,List.set_cons_zero]
 | (k,c)::r,j+1,h,h'=>by
  simp only [List.map_cons,List.getElem?_cons_succ,List.take_succ_cons,List.mem_cons,not_or] at h h'
  simp only [Zb0,if_neg h'.1,Zf0 h h'.2,List.set_cons_succ]
theorem Zf1 {α β:Type} [DecidableEq α] {a:α}:∀ {M:List (α×β)},a ∉ M.map (·.1)→Zbw M a=none
 | [],_=>rfl
 | (k,c)::r,h=>by
  simp only [List.map_cons,List.mem_cons,not_or] at h
  simp only [Zbw,if_neg h.1,Zf1 h.2]
theorem Zf2 {α β:Type} [DecidableEq α] {a:α}:∀ {M:List (α×β)} {j:Nat},(M.map (·.1))[j]? = some a→a ∉ (M.map (·.1)).take j→Zbw M a=(M[j]?).map (·.2)
 | [],j,h,_=>by simp at h
 | (k,c)::r,0,h,_=>by
  simp only [List.map_cons,List.getElem?_cons_zero,Option.some.injEq] at h
  simp only [Zbw,if_pos h.symm,List.getElem?_cons_zero,Option.map_some]
 | (k,c)::r,j+1,h,h'=>by
  simp only [List.map_cons,List.getElem?_cons_succ,List.take_succ_cons,List.mem_cons,not_or] at h h'
  simp only [Zbw,if_neg h'.1,Zf2 h h'.2,List.getElem?_cons_succ]
class KeyE (P:Program) (K:TypeId) {α:Type} [DecidableEq α] (f:α→PV) (val:outParam (α→List Value)):Prop where
 desc:∃ fs,P.underlying K=some (.struct fs)
 plain:∀ a,VL.plain (f a)=some (.agg (val a).toArray)
 eq:∀ a b W,(Op.equal K (.agg (val a).toArray) (.agg (val b).toArray)).run P W = .ok (decide (a=b)) W
 check:∀ em a W,(Instr.checkKey em 10000 K (.agg (val a).toArray)).run P W = .ok () W
 stays:∀ a,Instr.sameBits 10000 (.agg (val a).toArray) (.agg (val a).toArray)=true
class ElE {β:Type} (h:β→PV) (val:outParam (β→Value)):Prop where
 plain:∀ b,VL.plain (h b)=some (val b)
 back:∀ b,ZbW (val b)=h b
section
variable {P:Program} {K:TypeId} {α:Type} [DecidableEq α] {f:α→PV} {val:α→List Value}
theorem ZiT (H:KeyE P K f val):∀ (ks:List α) (es:List MapEntry),es.map (·.key)=ks.map (fun a=>.agg (val a).toArray)→∀ (a:α) (i:Nat) (W:World),
  ((Instr.findAsking K (.agg (val a).toArray) es i).run P W = .ok none W∧a ∉ ks)∨
    ∃ j e,(Instr.findAsking K (.agg (val a).toArray) es i).run P W = .ok (some (i+j,e.val)) W∧es[j]? = some e∧ks[j]? = some a∧a ∉ ks.take j
 | [],[],_,a,i,W=>.inl ⟨rfl,by simp⟩
 | [],e::es,h,_,_,_=>by simp at h
 | k::ks,[],h,_,_,_=>by simp at h
 | k::ks,e::es,h,a,i,W=>by
   simp only [List.map_cons,List.cons.injEq] at h
   have he:=H.eq a k W
   unfold Instr.findAsking
   rw [h.1,Sem.run_bind,he]
   by_cases hk:a=k
   ·refine .inr ⟨0,e,?_,rfl,by rw [hk];rfl,by simp⟩
    simp [hk]
   ·rcases ZiT H ks es h.2 a (i+1) W with ⟨h1,h2⟩ | ⟨j,e',h1,h2,h3,h4⟩
    ·refine .inl ⟨?_,by simp [hk,h2]⟩
     simp [hk,h1]
    ·refine .inr ⟨j+1,e',?_,h2,h3,by simp [hk,h4]⟩
     simp [hk,h1]
     omega
theorem ZiU (H:KeyE P K f val) (ks:List α) (es:List MapEntry) (h:es.map (·.key)=ks.map (fun a=>.agg (val a).toArray)) (a:α) (W:World) :
  ((Instr.findKey K (.agg (val a).toArray) es).run P W = .ok none W∧a ∉ ks)∨
    ∃ j e,(Instr.findKey K (.agg (val a).toArray) es).run P W = .ok (some (j,e.val)) W∧es[j]? = some e∧ks[j]? = some a∧a ∉ ks.take j:=by
 obtain ⟨fs,hd⟩:=H.desc
 have key:(Instr.findKey K (.agg (val a).toArray) es).run P W=(Instr.findAsking K (.agg (val a).toArray) es 0).run P W:=by
  unfold Instr.findKey
  rw [Sem.run_bind,run_underlying hd,Result.andThen_ok]
  cases es with
  | nil=>rfl
  | cons e es=>rfl
 rw [key]
 rcases ZiT H ks es h a 0 W with h1 | ⟨j,e,h1,h2⟩
 ·exact .inl h1
 ·exact .inr ⟨j,e,by rw [h1,Nat.zero_add],h2⟩
end
def mpI (P:Program) (T:TypeId):Option (TypeId×Value):=match P.underlying T with
 | some (.map K E)=>match P.info? E with
   | some i=>i.zero.map fun z=>(K,z)
   | none=>none
 | _=>none
theorem ZiV {P:Program} {T K:TypeId} {z:Value} (h:mpI P T=some (K,z)):∃ E i,P.underlying T=some (.map K E)∧P.info? E=some i∧i.zero=some z:=by
 unfold mpI at h
 split at h
 ·rename_i K' E h1
  split at h
  ·rename_i i h2
   rw [Option.map_eq_some_iff] at h
   obtain ⟨z',h3,h4⟩:=h
   cases h4
   exact ⟨E,i,h1,h2,h3⟩
  ·cases h
 ·cases h
section
variable {P:Program} {r:Run} {o:Oper} {i:Nat} {s:FS}
theorem Zjo {T d:Nat} (ho:o.op = .makeMap T none):OpOK P r o i s ⟨.mp d (s.ng,i),[(d,some ((s.ng,i),.mp []))]⟩:=by
 intro S a x Q hX hi hd
 have hold:∀ b,b<x.W.heap.size→(x.W.alloc (.map #[] 0)).heap[b]? = x.W.heap[b]?:=fun b hb=>heap_alloc_old x.W _ hb
 obtain ⟨y,hy1,hy2⟩:=hX.newObj hi hd (d:=o.dst) (t:=d) (v0:=.map (some x.W.heap.size)) (v:=.map (some x.W.heap.size)) (val:=.mp d (s.ng,i)) (o:=.mp []) (W':=x.W.alloc (.map #[] 0)) rfl rfl rfl (by simp) (fun b hb _=>hold b hb) (fun b o v hF hv=>by
   rw [World.cell?_of_block (hold b (hX.flt b o hF))];exact hv) (fun b hb=>.inl (by
   have:x.W.heap.size=b:=by simpa [blk] using hb
   omega)) (fun y k hF hW hρ=>⟨x.W.heap.size,#[],0,hρ,by rw [hW];exact heap_alloc_new x.W _,rfl,MapKept.stamped_empty 0,.inl hX.gr.size,fun o ho=>by
   rw [hF] at ho
   exact absurd (hX.flt _ _ ho) (Nat.lt_irrefl _)⟩) (fun y k hW hG hρ=>.mp d (s.ng,i) _ hG hρ)
 refine Zan (v:=.map (some x.W.heap.size)) (W':=x.W.alloc (.map #[] 0)) ?_ ⟨y,hy1,hy2⟩
 unfold execOp
 rw [ho]
 rfl
variable {T K E t:Nat} {g:Gen} {α β:Type} [DecidableEq α] {f:α→PV} {val:α→List Value} {h:β→PV} {hv:β→Value} {M:List (α×β)} {e e' e2:Operand} {a0:α} {b0:β}
theorem ZiW (H:KeyE P K f val) (H2:ElE h hv) {S:Nat→Prop} {a:Act} {x:Ctx} (hX:RstX r S s a x) (he:ev s e = .mp t g) (hob:ZaJ s.ob t g=some (.mp (M.map fun q=>(f q.1,h q.2)))) :
  ∃ b es clock,a.eval e = .map (some b)∧x.ρ g = .map (some b)∧x.G g∧x.W.heap[b]? = some (.map es clock)∧es.toList.map (·.key)=(M.map (·.1)).map (fun a=>.agg (val a).toArray)∧es.toList.map (·.val)=M.map (fun q=>hv q.2)∧MapKept.Stamped es clock∧(r.W0.heap.size≤b∨r.D b)∧∀ o,¬ x.F b o:=by
 have hr:=Zay hX e
 obtain ⟨hg,b,es,clock,h1,h2,h3,h4,h5,h6⟩:=hX.ob t g _ (ZaD hob)
 rw [he] at hr
 generalize a.eval e=v at hr
 cases hr with
 | mp _ _ b' hG hρ=>
   rw [h1] at hρ
   injection hρ with hρ
   injection hρ with hρ
   subst hρ
   have e0:es.toList.map (fun e=>(some e.key,some e.val))=M.map fun q=>(some (.agg (val q.1).toArray),some (hv q.2)):=by
    rw [← h3,List.map_map]
    refine List.map_congr_left fun q _=>?_
    simp only [Function.comp,H.plain,H2.plain]
   refine ⟨b,es,clock,rfl,h1,hg,h2,?_,?_,h4,h5,h6⟩
   ·have:=congrArg (List.map fun q:Option Value×Option Value=>q.1.getD undef) e0
    simpa [List.map_map,Function.comp_def] using this
   ·have:=congrArg (List.map fun q:Option Value×Option Value=>q.2.getD undef) e0
    simpa [List.map_map,Function.comp_def] using this
theorem Zky (H:KeyE P K f val) (H2:ElE h hv) (ho:o.op = .mapUpdate T e e' e2) (ht:P.underlying T=some (.map K E)) (he:ev s e = .mp t g) (hob:ZaJ s.ob t g=some (.mp (M.map fun q=>(f q.1,h q.2)))) (he':ev s e'=f a0) (he2:ev s e2=h b0) :
  OpOK P r o i s ⟨.un,[(t,some (g,.mp ((Zb0 M a0 b0).map fun q=>(f q.1,h q.2))))]⟩:=by
 intro S a x Q hX hi hd
 obtain ⟨b,es,clock,hev,hρ,hg,hh,hk,hvs,hst,hB,hF⟩:=ZiW H H2 hX he hob
 have v1:a.eval e' = .agg (val a0).toArray:=Zc0 (H.plain a0) (by rw [← he'];exact Zay hX e')
 have v2:a.eval e2=hv b0:=Zc0 (H2.plain b0) (by rw [← he2];exact Zay hX e2)
 have hob2:=ZaD hob
 have hlen:es.toList.length=M.length:=by have:=congrArg List.length hvs;simpa using this
 have fin:∀ (es':Array MapEntry) (clock':Nat),(Instr.mapUpdate T (.map (some b)) (.agg (val a0).toArray) (hv b0)).run P x.W = .ok () (setBlock x.W b (.map es' clock'))→MapKept.Stamped es' clock'→
   ((Zb0 M a0 b0).map fun q=>(f q.1,h q.2)).map (fun e=>(plain e.1,plain e.2))=es'.toList.map (fun e=>(some e.key,some e.val))→o.wp P a x.W (fun a' W'=>∃ y:Ctx,y.W=W'∧RstX r (fun j=>S j∨j=i) (s.app o.dst ⟨.un,[(t,some (g,.mp ((Zb0 M a0 b0).map fun q=>(f q.1,h q.2))))]⟩) a' y) Q:=fun es' clock' hrun hst' hm=>by
  have hne:∀ b' o',x.F b' o'→b'≠b:=fun b' o' hFF e=>hF o' (e ▸ hFF)
  have hoth:∀ b',b'≠b→(setBlock x.W b (.map es' clock')).heap[b']? = x.W.heap[b']?:=fun b' hb'=>heap_setBlock_other hh _ hb'
  have hsz:(setBlock x.W b (.map es' clock')).heap.size=x.W.heap.size:=by simp [setBlock]
  have k2:Step x ⟨x.G,x.F,setBlock x.W b (.map es' clock'),x.ρ⟩:=⟨fun _ h=>⟨h,rfl⟩,fun _ _ h=>h,fun b' o' v' hFF hv'=>by
   rw [World.cell?_of_block (hoth b' (hne b' o' hFF))];exact hv'⟩
  refine Zel (W':=setBlock x.W b (.map es' clock')) ?_ ⟨⟨x.G,x.F,setBlock x.W b (.map es' clock'),x.ρ⟩,rfl,?_⟩
  ·unfold execOp
   rw [ho]
   simp [hev,v1,v2,hrun]
  ·exact hX.change k2 hd rfl rfl rfl (by rw [hsz];exact Nat.le_refl _) (fun b' hb' hne'=>hoth b' fun e=>hne' g _ hob2 (by rw [hρ,e];rfl)) (fun _ _ h=>.inl h) (fun b' o' hb'=>by show b'<(setBlock x.W b (.map es' clock')).heap.size;rw [hsz];exact hX.flt b' o' hb')
    (fun g' hg'=>(hX.gens g' hg').imp id fun ⟨e1,e2⟩=>⟨e1,.inl e2⟩) hg ⟨b,es',clock',hρ,heap_setBlock_same hh _,hm,hst',hB,hF⟩ (fun b' hb'=>.inr ⟨g,_,hob2,hb'⟩) (.un _)
 have hpl:∀ q:α×β,(plain (f q.1),plain (h q.2))=(some (.agg (val q.1).toArray),some (hv q.2)):=fun q=>by rw [H.plain,H2.plain]
 have hes:es.toList.map (fun e=>(some e.key,some e.val))=M.map fun q=>((some (.agg (val q.1).toArray),some (hv q.2)):Option Value×Option Value):=by
  apply List.ext_getElem?
  intro j
  have a1:=congrArg (fun l=>l[j]?) hk
  have a2:=congrArg (fun l=>l[j]?) hvs
  simp only [List.getElem?_map] at a1 a2 ⊢
  cases h1:es.toList[j]?<;>cases h2:M[j]?<;>simp_all
 rcases ZiU H (M.map (·.1)) es.toList hk a0 x.W with ⟨h1,h2⟩ | ⟨j,e0,h1,h2,h3,h4⟩
 ·refine fin (es.push ⟨.agg (val a0).toArray,hv b0,clock⟩) (clock+1) ?_ (MapKept.stamped_push hst fun y hy hk'=>h2 ?_) ?_
  ·simp [Instr.mapUpdate,run_underlying ht,MapKept.run_getObj_map hh,H.check,h1,MapKept.run_setObj_map _ hh,Result.andThen,setBlock]
  ·have hm:(.agg (val a0).toArray:Value) ∈ es.toList.map (·.key):=List.mem_map.2 ⟨y,hy,hk'⟩
   rw [hk] at hm
   obtain ⟨a1,ha1,ha2⟩:=List.mem_map.1 hm
   have:=H.eq a1 a1 x.W
   have h3:=H.eq a0 a1 x.W
   rw [← ha2,this] at h3
   have h4:a0=a1:=by simpa using h3
   rw [h4];exact ha1
  ·rw [ZfZ h2]
   simp only [List.map_append,List.map_map,Array.toList_push,hes,List.map_cons,List.map_nil,Function.comp_def,H.plain,H2.plain]
 ·have hj:es[j]? = some e0:=by simpa using h2
  have hke:e0.key = .agg (val a0).toArray:=by
   have a1:=congrArg (fun l=>l[j]?) hk
   simp only [List.getElem?_map,h2,Option.map_some] at a1
   rw [List.getElem?_map] at h3
   cases hM:M[j]? with
   | none=>rw [hM] at h3;cases h3
   | some q=>
     rw [hM] at a1 h3
     simp only [Option.map_some,Option.some.injEq] at a1 h3
     rw [a1,h3]
  refine fin (es.modify j fun e=>{ e with key:=.agg (val a0).toArray,val:=hv b0 }) clock ?_ (MapKept.stamped_modify hst _ _ (fun _ _=>rfl) fun e' _ he'=>?_) ?_
  ·have hks:(Instr.keyThatStays (.agg (val a0).toArray) (.agg (val a0).toArray)).run P x.W = .ok (.agg (val a0).toArray) x.W:=by
    unfold Instr.keyThatStays
    rw [if_pos (H.stays a0)]
    rfl
   simp [Instr.mapUpdate,run_underlying ht,MapKept.run_getObj_map hh,H.check,h1,hj,hke,hks,MapKept.run_setObj_map _ hh,Result.andThen,setBlock]
  ·rw [hj] at he'
   cases he'
   exact hke.symm
  ·rw [Zf0 h3 h4,Array.toList_modify,modify_eq_set _ _ _ _ h2,List.map_set,List.map_set,List.map_set,hes,List.map_map]
   simp only [Function.comp_def,H.plain,H2.plain]
theorem Zkz (H:KeyE P K f val) (H2:ElE h hv) {z:β} (ho:o.op = .lookup T e e' false) (ht:mpI P T=some (K,hv z)) (he:ev s e = .mp t g) (hob:ZaJ s.ob t g=some (.mp (M.map fun q=>(f q.1,h q.2)))) (he':ev s e'=f a0) :
  OpOK P r o i s ⟨h ((Zbw M a0).getD z),[]⟩:=by
 intro S a x Q hX hi hd
 obtain ⟨b,es,clock,hev,hρ,hg,hh,hk,hvs,hst,hB,hF⟩:=ZiW H H2 hX he hob
 have v1:a.eval e' = .agg (val a0).toArray:=Zc0 (H.plain a0) (by rw [← he'];exact Zay hX e')
 obtain ⟨E,inf,q1,q2,q3⟩:=ZiV ht
 have hrep:∀ b,Rep x (h b) (hv b):=fun b=>by
  rw [← H2.back]
  exact Zfj x _
 have fin:∀ v,(Instr.lookup T (.map (some b)) (.agg (val a0).toArray) false).run P x.W = .ok v x.W→v=hv ((Zbw M a0).getD z)→o.wp P a x.W (fun a' W'=>∃ y:Ctx,y.W=W'∧RstX r (fun j=>S j∨j=i) (s.app o.dst ⟨h ((Zbw M a0).getD z),[]⟩) a' y) Q:=fun v hrun hrep'=>by
  subst hrep'
  refine Zan (v:=hv ((Zbw M a0).getD z)) (W':=x.W) ?_ (hX.val hd (hrep _))
  unfold execOp
  rw [ho]
  simp [hev,v1,hrun]
 rcases ZiU H (M.map (·.1)) es.toList hk a0 x.W with ⟨h1,h2⟩ | ⟨j,e0,h1,h2,h3,h4⟩
 ·rw [Zf1 h2] at fin ⊢
  refine fin (hv z) ?_ rfl
  simp [Instr.lookup,run_underlying q1,MapKept.run_getObj_map hh,H.check,h1,Result.andThen,zeroValue,typeInfo,q2,q3]
 ·rw [Zf2 h3 h4] at fin ⊢
  cases hM:M[j]? with
  | none=>rw [List.getElem?_map,hM] at h3;cases h3
  | some q=>
    rw [hM] at fin
    have a2:=congrArg (fun l=>l[j]?) hvs
    simp only [List.getElem?_map,h2,hM,Option.map_some,Option.some.injEq] at a2
    refine fin e0.val ?_ a2
    simp [Instr.lookup,run_underlying q1,MapKept.run_getObj_map hh,H.check,h1,Result.andThen]
end
end VL
end Go.Proofs.YtpffimahajgiaaaGreatDoor
namespace Go.Proofs.YtpffimahajgiaaaGreatDoor
namespace VL
open Go.RowKit
class MpT (P:Program) (T:TypeId) (K:outParam TypeId) (z:outParam Value):Prop where
 eq:mpI P T=some (K,z)
def Zf3 {α β:Type} (f:α→PV) (h:β→PV) (M:List (α×β)):List (PV×PV):=M.map fun q=>(f q.1,h q.2)
section
variable {P:Program} [WInv P] {ops:Array Oper} {draw:Bool} {i:Nat} {L:List Oper} {acc:List (List Nat×List Nat)} {K0:FS→Prop} {tm:List (Nat×PV)} {ob:List (Nat×Option (Gen×VObj))} {ng:Nat}
 {d:Option Tmp} {ty:TypeId} {pos:String} {after:Array Edge} {gd:Option (Nat×Bool)} {T K:TypeId} {x y v:Operand} {t:Nat} {g:Gen} {α β:Type} [DecidableEq α] {f:α→PV} {val:α→List Value} {h:β→PV} {hv:β→Value} {M:List (α×β)}
omit [DecidableEq α] in
theorem ZkI {dd:Nat} (f:α→PV) (h:β→PV) (hw:ZR ops (mkS tm ob ng) ⟨some dd,.makeMap T none,ty,pos,after,gd⟩=some true)
  (k:GoL P ops draw (i+1) L (acc ++ [(Zaj (mkS tm ob ng) ⟨some dd,.makeMap T none,ty,pos,after,gd⟩,[dd])]) (mkS ((dd,.mp dd (ng,i))::tm) ((dd,some ((ng,i),.mp (Zf3 f h [])))::ob) ng) K0):GoL P ops draw i (⟨some dd,.makeMap T none,ty,pos,after,gd⟩::L) acc (mkS tm ob ng) K0:=by
 refine Zfg (u:=⟨.mp dd (ng,i),[(dd,some ((ng,i),.mp []))]⟩) (.any hw fun s' r hA hI=>?_) ?_
 ·have e3:ng=s'.ng:=hA.ng
  rw [e3]
  exact Zjo rfl
 ·rw [Zch]
  exact k
theorem Zl8 (f:α→PV) (h:β→PV) (a0:α) (b0:β) {z0:Value} [hT:MpT P T K z0] [H:KeyE P K f val] [H2:ElE h hv] (hw:ZR ops (mkS tm ob ng) ⟨d,.mapUpdate T x y v,ty,pos,after,gd⟩=some true) (hx:evL tm x = .mp t g) (hb:ZaJ (Zai ob) t g=some (.mp (Zf3 f h M))) (hy:evL tm y=f a0) (hv':evL tm v=h b0)
  (k:GoL P ops draw (i+1) L (acc ++ [(Zaj (mkS tm ob ng) ⟨d,.mapUpdate T x y v,ty,pos,after,gd⟩,[t])]) (mkS (Zbg d .un tm) ((t,some (g,.mp (Zf3 f h (Zb0 M a0 b0))))::ob) ng) K0):GoL P ops draw i (⟨d,.mapUpdate T x y v,ty,pos,after,gd⟩::L) acc (mkS tm ob ng) K0:=by
 obtain ⟨E,inf,q1,_⟩:=ZiV hT.eq
 refine Zfg (u:=⟨.un,[(t,some (g,.mp (Zf3 f h (Zb0 M a0 b0))))]⟩) (.any hw fun s' r hA hI=>?_) ?_
 ·have e1:ev s' x = .mp t g:=by rw [← hA.ev x (by simp [Op.operands])];exact (congrFun (Zax tm ob ng) x).trans hx
  have e2:ev s' y=f a0:=by rw [← hA.ev y (by simp [Op.operands])];exact (congrFun (Zax tm ob ng) y).trans hy
  have e3:ev s' v=h b0:=by rw [← hA.ev v (by simp [Op.operands])];exact (congrFun (Zax tm ob ng) v).trans hv'
  refine Zky H H2 rfl q1 e1 ?_ e2 e3
  rw [Zfb hA (e:=x) (by simp [Op.operands]) rfl rfl (by rw [Zax,hx];simp [Za3])]
  exact hb
 ·rw [Zch]
  exact k
theorem Zl9 (f:α→PV) (h:β→PV) (a0:α) (z:β) {z0:Value} [hT:MpT P T K z0] [H:KeyE P K f val] [H2:ElE h hv] (hz:hv z=z0) (hw:ZR ops (mkS tm ob ng) ⟨d,.lookup T x y false,ty,pos,after,gd⟩=some true) (hx:evL tm x = .mp t g) (hb:ZaJ (Zai ob) t g=some (.mp (Zf3 f h M))) (hy:evL tm y=f a0)
  (k:GoL P ops draw (i+1) L (acc ++ [(Zaj (mkS tm ob ng) ⟨d,.lookup T x y false,ty,pos,after,gd⟩,[])]) (mkS (Zbg d (h ((Zbw M a0).getD z)) tm) ob ng) K0):GoL P ops draw i (⟨d,.lookup T x y false,ty,pos,after,gd⟩::L) acc (mkS tm ob ng) K0:=by
 refine Zfg (u:=⟨h ((Zbw M a0).getD z),[]⟩) (.any hw fun s' r hA hI=>?_) ?_
 ·have e1:ev s' x = .mp t g:=by rw [← hA.ev x (by simp [Op.operands])];exact (congrFun (Zax tm ob ng) x).trans hx
  have e2:ev s' y=f a0:=by rw [← hA.ev y (by simp [Op.operands])];exact (congrFun (Zax tm ob ng) y).trans hy
  refine Zkz H H2 rfl (by rw [hz];exact hT.eq) e1 ?_ e2
  rw [Zfb hA (e:=x) (by simp [Op.operands]) rfl rfl (by rw [Zax,hx];simp [Za3])]
  exact hb
 ·rw [Zch]
  exact k
end
instance:ElE PV.bool Value.bool:=⟨fun _=>rfl,fun _=>rfl⟩
end VL
end Go.Proofs.YtpffimahajgiaaaGreatDoor
set_option linter.unusedVariables false
set_option maxHeartbeats 4000000
set_option maxRecDepth 100000
namespace Go.Proofs.YtpffimahajgiaaaGreatDoor
open VL
instance:VL.BoolT Tryz.prog 4:=⟨by kernel_rfl⟩
instance:VL.StrT Tryz.prog 9:=⟨by kernel_rfl⟩
instance:VL.MpT Tryz.prog 139 36 (.bool false):=⟨by kernel_rfl⟩
structure TapeF where
 l:List Int
 pos:Int
def TapeF.cs (x:TapeF):List PV:=[.sl (List.map csI x.l),.int .i64 x.pos]
end Go.Proofs.YtpffimahajgiaaaGreatDoor

namespace Go.Proofs.YtpffimahajgiaaaGreatDoor
namespace VL
section
variable {P:Program} [WInv P] {α β:Type} {cs:List Code} {Q:Ex→FS→Prop} {s:FS} {tm:List (Nat×PV)} {ob:List (Nat×Option (Gen×VObj))} {ng:Nat}
theorem rg {draw:Bool} {id:Nat} {l:List Oper} {q:Prop} (k:q) (h:q→GoL P l.toArray draw 0 l [] s fun s'=>PWs P cs Q ⟨s'.tm,s'.ob,s'.ng+1⟩:=by
 (intro k)
 (refine Zac ?_)
 (exact k)):PWs P (.region id l.toArray draw::cs) Q s:=Zb (h k)
theorem bl {id:Nat} {c:Code} {q:Prop} (k:q) (h:q→PWs P [c] (Zho id (PWs P cs Q) Q) s:=by
 (intro k)
 (refine Zac ?_)
 (exact k)):PWs P (.block id c::cs) Q s:=Zf (h k)
theorem cS {A B:Option β} {r:β} {c:Operand} {x y:Code} {t:Bool} {q1 q2:Prop} (hF:(if t=true then A else B)=some r) (hc:evL tm c = .bool t) (k1:A=some r→q1) (k2:B=some r→q2)
  (h1:q1→PWs P (x::cs) Q (mkS tm ob ng):=by
 (intro k)
 (refine Zac ?_)
 (exact k)) (h2:q2→PWs P (y::cs) Q (mkS tm ob ng):=by
 (intro k)
 (refine Zac ?_)
 (exact k)):PWs P (.cond c x y::cs) Q (mkS tm ob ng):=
 ZkD hc (fun h=>h1 (k1 (ifT h hF))) fun h=>h2 (k2 (ifF h hF))
theorem kS (t:Nat) {A B:Option β} {r:β} {ops:Array Oper} {draw:Bool} {i:Nat} {L:List Oper} {acc:List (List Nat×List Nat)} {K:FS→Prop} {b:Bool} {q1 q2:Prop} (hF:(if b=true then A else B)=some r) (hx:look tm t = .bool b) (k1:A=some r→q1) (k2:B=some r→q2)
  (h1:q1→GoL P ops draw i L acc (mkS ((t,.bool true)::tm) ob ng) K:=by
 (intro k)
 (refine Zac ?_)
 (exact k)) (h2:q2→GoL P ops draw i L acc (mkS ((t,.bool false)::tm) ob ng) K:=by
 (intro k)
 (refine Zac ?_)
 (exact k)):GoL P ops draw i L acc (mkS tm ob ng) K:=
 ZnV t hx (fun h=>h1 (k1 (ifT h hF))) fun h=>h2 (k2 (ifF h hF))
theorem cF {F:Option β} (R:β→PV) {f:FuncId} {fn:Func} {c:Code} {args:List PV} {r:β} (hF:F=some r) (hmix:P.follows .mixedOrders=true) (hf:P.funcs[f]? = some fn)
  (h:∀ r,F=some r→PWs P [c] (Znl P fn.results.toList (R r)) (mkS (ZdA 0 args) [] 1)) (hg:isGo P f=true:=by kernel_rfl) (hb:fn.body=some c:=by exact rfl) (hok:(decide (args.length≤fn.ntmps)&&ZaY fn.ntmps c)=true:=by kernel_rfl):ZH P f args (R r):=
 Zjh hF hmix hf hg hb hok h
omit [WInv P] in
theorem rQ {res:PV} {rs:List ResultVar} {ps qs:List PV} {us:List (Nat×Option (Gen×VObj))} (h1:ZeM P s rs=some ps:=by exact rfl) (h2:Zds s.ob ps=some (qs,us):=by exact rfl) (h3:Zgj qs=res:=by exact rfl):Znl P rs res .ret s:=ZZ h1 h2 h3
def sg (σ:List (Nat×Nat×Nat)):List (Gen×Gen):=σ.map fun q=>((1,q.1),q.2)
theorem sR (σ:List (Nat×Nat×Nat)) {tm':List (Nat×PV)} {ob':List (Nat×Option (Gen×VObj))} {ng':Nat} (h1:Zlr (sg σ) tm tm':=by
 (repeat (refine ⟨rfl,?_⟩))
 (exact trivial)) (h2:Zi5 (sg σ) ob ob':=by
 (repeat (refine ⟨⟨rfl,rfl⟩,?_⟩))
 (exact trivial)) (h3:(decide (0<ng')&&(sg σ).all fun q=>decide (q.1.1<ng'))=true:=by exact rfl):Shift (mkS tm ob ng) (mkS tm' ob' ng'):=
 ZV (sg σ) h1 h2 h3
theorem jn {St:α→Nat→FS} {J:α→Prop} (a:α) (h1:J a) (h3:Shift s (St a 2)):Zl0 St J Q .normal s:=Zku a 2 h1 h3
theorem rn {St:α→Nat→FS} {J:α→Prop} {m:α→Nat} {a:α} (a':α) (h1:J a') (h3:Shift s (St a' 2)) (h2:m a'<m a:=by exact Nat.lt_succ_self _):Zhp St J m a Q .normal s:=Zab a' 2 h1 h2 h3
theorem jL {K:α→Option β} {f:(α→Option β)→Option β} {r:β} {c c2:Code} {q1:(α→Option β)→Prop} {q2:α→Prop} (hF:letk K f=some r) (St:α→FS) (h1:∀ k,f k=some r→q1 k) (h2:∀ x,K x=some r→q2 x)
  (g1:∀ k:α→Option β,q1 k→PWs P [c] (Zl0 (fun a _=>St a) (fun x=>k x=some r) Q) s:=by
 (intro k h)
 (refine Zac ?_)
 (exact h)) (g2:∀ x,q2 x→PWs P (c2::cs) Q (St x):=by
 (intro x h)
 (try dsimp only)
 (refine Zac ?_)
 (exact h)):PWs P (c::c2::cs) Q s:=
 Zbv (fun a _=>St a) (fun x=>K x=some r) (g1 K (h1 K hF)) fun a _ hJ=>g2 a (h2 a hJ)
end
end VL
end Go.Proofs.YtpffimahajgiaaaGreatDoor
namespace Go.Proofs.YtpffimahajgiaaaGreatDoor
namespace VL
open Go.RowKit
theorem ZgM {α:Type} (l:List α) (q:Int) (x:α):(ZlK l q x).length=l.length:=List.length_set ..
end VL
end Go.Proofs.YtpffimahajgiaaaGreatDoor
namespace Go.Proofs.YtpffimahajgiaaaGreatDoor
namespace VL
open Go.RowKit
def dn:PV→PV
 | .nil=>.sl []
 | p=>p
theorem Zn1 {x:Ctx} {p:PV} {v:Value} (h:Rep x p v):Rep x (dn p) v:=by
 cases h with
 | nil=>exact .sl [] none 0 0 0 0 0 (fun _ _=>.int .i64 0) rfl (Nat.le_refl _) (by omega) (by simp) (by omega) (by simp) (by simp)
 | bool b=>exact .bool b
 | int k n=>exact .int k n
 | str s=>exact .str s
 | un v=>exact .un v
 | agg ps cs hl h=>exact .agg ps cs hl h
 | tup ps cs hl h=>exact .tup ps cs hl h
 | sl els A n c k b off f h1 h2 h3 h4 h5 h6 h7=>exact .sl els A n c k b off f h1 h2 h3 h4 h5 h6 h7
 | ptr t g off b h1 h2=>exact .ptr t g off b h1 h2
 | elp t g i k off b h1 h2=>exact .elp t g i k off b h1 h2
 | row t g A n c h1 h2=>exact .row t g A n c h1 h2
 | suf t g i k A A' n c c' h1 h2 h3 h4 h5=>exact .suf t g i k A A' n c c' h1 h2 h3 h4 h5
 | mp t g b h1 h2=>exact .mp t g b h1 h2
 | cel cs b off f h1 h2=>exact .cel cs b off f h1 h2
 | fn f ps cs hl h=>exact .fn f ps cs hl h
section
variable {P:Program} {r:Run} {o:Oper} {i:Nat} {s:FS}
theorem ZlT {T E d n:Nat} {e e':Operand} {te:TI} {sz b:Nat} {zz zc:List PV} {kl kc:IntKind} (ho:o.op = .makeSlice T e e') (hdst:o.dst=some d) (ht:tyI P T=some ⟨.slice E,sz,b,zz⟩) (hte:tyI P E=some te) (hl:ev s e = .int kl (n:Int)) (hc:ev s e' = .int kc (n:Int)) (hb:te.bytes * n≤140737488355328) (hm:n≤9223372036854775807)
  (hz:te.zero.map dn=zc) (hp:∀ p ∈ zc,p.pure=true) (hlen:te.zero.length=te.size) (hpos:0<te.size) :
  OpOK P r o i s ⟨.row d (s.ng,i),[(d,some ((s.ng,i),.row E te.size false (List.replicate n zc)))]⟩:=by
 intro S a x Q hX hi hd
 obtain ⟨inf,zv,h1,_⟩:=Zav ht
 obtain ⟨inf',z',h1',h2',h3',h4',h5',h6'⟩:=Zav hte
 have q1:a.eval e = .int kl (n:Int):=by
  have:=Zay hX e
  rw [hl] at this
  generalize a.eval e=v at this
  cases this
  rfl
 have q2:a.eval e' = .int kc (n:Int):=by
  have:=Zay hX e'
  rw [hc] at this
  generalize a.eval e'=v at this
  cases this
  rfl
 have hzs:z'.cells.size=te.size:=by rw [← hlen,h6'];simp
 have hzl:zc.length=te.size:=by rw [← hz,List.length_map,hlen]
 have hrun:=run_make (P:=P) (w:=x.W) T E inf' z' h1 h2' h3' kl kc n n (by omega) (Int.le_refl _) (by
  rw [h5',← Int.natCast_mul];omega) (by omega)
 simp only [Int.toNat_natCast,h4'] at hrun
 have hk:∀ e ∈ List.replicate n zc,e.length=te.size:=fun e he=>by rw [List.eq_of_mem_replicate he,hzl]
 have hreps:ZlQ x (List.replicate n zc).flatten (madeCells z'.cells (n * te.size)):=by
  refine ⟨by rw [Zbd _ hk];simp [madeCells],fun j p v hp hv=>?_⟩
  have hjl:j<n * te.size:=by
   have:=(List.getElem?_eq_some_iff.1 hp).1
   rw [Zbd _ hk] at this
   simpa using this
  have hi':j / te.size<n:=Nat.div_lt_of_lt_mul (by rw [Nat.mul_comm];exact hjl)
  have hj':j % te.size<te.size:=Nat.mod_lt _ hpos
  have hem:j / te.size * te.size+j % te.size=j:=by rw [Nat.mul_comm];exact Nat.div_add_mod j _
  have he:(List.replicate n zc)[j / te.size]? = some zc:=by rw [List.getElem?_replicate,if_pos hi']
  have hj2:j % te.size<z'.cells.size:=by rw [hzs];exact hj'
  have hq:zc[j % te.size]? = some (dn (Za0 z'.cells[j % te.size])):=by rw [← hz,h6'];simp [hj2]
  have:=Zeo (k:=te.size) (List.replicate n zc) hk _ _ _ _ he hq
  rw [hem,hp] at this
  injection this with this
  subst this
  simp only [madeCells] at hv
  rw [Array.getElem?_map,Array.getElem?_range,if_pos hjl,hzs] at hv
  simp only [Option.map_some,Option.some.injEq] at hv
  rw [getElem!_pos z'.cells (j % te.size) hj2] at hv
  subst hv
  exact Zn1 (ZbF x _)
 obtain ⟨y,hy1,hy2⟩:=Zh3 hX hi (hd d hdst) (E:=E) (k:=te.size) (n:=n) (els:=List.replicate n zc) (vs:=madeCells z'.cells (n * te.size)) (by simp) hk
  (fun e he p hpp=>by rw [List.eq_of_mem_replicate he] at hpp;exact hp p hpp) hm hreps
 rw [hdst]
 refine Zan (v:=.slice (some ⟨x.W.heap.size,0,none⟩) n n) (W':=x.W.alloc (.cells (madeCells z'.cells (n * te.size)) E)) ?_ ⟨y,hy1,by rw [hdst];exact hy2⟩
 unfold execOp
 rw [ho]
 simp [q1,q2,hrun]
end
def ZlU (w:Nat) (n:Int):Option Unit:=if 0≤n∧n * (w:Int)≤140737488355328∧n≤9223372036854775807 then some () else none
section
variable {P:Program} [WInv P] {ops:Array Oper} {draw:Bool} {i:Nat} {L:List Oper} {acc:List (List Nat×List Nat)} {K:FS→Prop} {tm:List (Nat×PV)} {ob:List (Nat×Option (Gen×VObj))} {ng:Nat}
 {d:Nat} {ty T:TypeId} {pos:String} {after:Array Edge} {gd:Option (Nat×Bool)} {x y:Operand}
theorem Zkq {α:Type} (f:α→List PV) (z0:α) {E kk by_:Nat} {z:List PV} [Sl P T E kk by_ z] {kl:IntKind} {n:Int} {u:Unit} (hw:ZR ops (mkS tm ob ng) ⟨some d,.makeSlice T x y,ty,pos,after,gd⟩=some true) (hx:evL tm x = .int kl n) {kc:IntKind} (hy:evL tm y = .int kc n) (hs:ZlU by_ n=some u) (hz:z.map dn=f z0) (hp:(f z0).all PV.pure=true)
  (k:GoL P ops draw (i+1) L (acc ++ [(Zaj (mkS tm ob ng) ⟨some d,.makeSlice T x y,ty,pos,after,gd⟩,[d])]) (mkS ((d,.row d (ng,i))::tm) ((d,some ((ng,i),.row E kk false (List.map f (List.replicate n.toNat z0))))::ob) ng) K):GoL P ops draw i (⟨some d,.makeSlice T x y,ty,pos,after,gd⟩::L) acc (mkS tm ob ng) K:=by
 obtain ⟨s1,b,zz,te,q1,q2,q3,q4,q5,q6,q7⟩:=ZcU (P:=P) (T:=T) (E:=E) (k:=kk) (by_:=by_) (z:=z)
 unfold ZlU at hs
 split at hs
 ·rename_i hc
  rw [List.map_replicate] at k
  refine Zfg (u:=⟨.row d (ng,i),[(d,some ((ng,i),.row E kk false (List.replicate n.toNat (f z0))))]⟩) (.any hw fun s' r hA hI=>?_) ?_
  ·have e1:ev s' x = .int kl ((n.toNat:Nat):Int):=by rw [← hA.ev x (by simp [Op.operands]),Int.toNat_of_nonneg hc.1];exact (congrFun (Zax tm ob ng) x).trans hx
   have e2:ev s' y = .int kc ((n.toNat:Nat):Int):=by rw [← hA.ev y (by simp [Op.operands]),Int.toNat_of_nonneg hc.1];exact (congrFun (Zax tm ob ng) y).trans hy
   have e3:s'.ng=ng:=hA.ng.symm
   rw [← e3,← q3]
   refine ZlT rfl rfl q1 q2 e1 e2 ?_ ?_ (by rw [q5];exact hz) (fun p hpp=>List.all_eq_true.1 hp p hpp) (by rw [q5,q7,q3]) (by rw [q3];exact q6)
   ·rw [q4]
    have h1:=hc.2.1
    have:((by_ * n.toNat:Nat):Int)≤140737488355328:=by rw [Int.natCast_mul,Int.toNat_of_nonneg hc.1,Int.mul_comm];exact h1
    omega
   ·have:=hc.2.2
    omega
  ·rw [Zch]
   exact k
 ·cases hs
end
end VL
end Go.Proofs.YtpffimahajgiaaaGreatDoor

namespace Go.Proofs.YtpffimahajgiaaaGreatDoor
namespace VL
section
variable {P:Program} [WInv P] {α β γ:Type} {ops:Array Oper} {draw:Bool} {i:Nat} {L:List Oper} {acc:List (List Nat×List Nat)} {K:FS→Prop} {tm:List (Nat×PV)} {ob:List (Nat×Option (Gen×VObj))} {ng:Nat}
 {d:Option Tmp} {ty T:TypeId} {pos:String} {after:Array Edge} {gd:Option (Nat×Bool)} {x y:Operand} {r:γ} {q:β→Prop}
theorem aC {F:Option β} {G:β→Option γ} {R:β→PV} {f:FuncId} {es:Array Operand} {ts:Array TypeId} {args:List PV} {us:List (Nat×Option (Gen×VObj))} (hF:F.bind G=some r) (hc:∀ v,F=some v→ZH P f args (R v)) (k:∀ v,G v=some r→q v)
  (hw:ZR ops (mkS tm ob ng) ⟨d,.call ⟨.value (.func f),es,ts⟩,ty,pos,after,gd⟩=some true:=by exact rfl) (ha:Zds (Zai ob) (es.toList.map (evL tm))=some (args,us):=by exact rfl)
  (h:∀ v,q v→GoL P ops draw (i+1) L (acc ++ [(Zaj (mkS tm ob ng) ⟨d,.call ⟨.value (.func f),es,ts⟩,ty,pos,after,gd⟩,us.map (·.1))]) (mkS (Zbg d (R v) tm) (us.reverse++ob) ng) K:=by
 (intro v k)
 (refine Zac ?_)
 (exact k)):GoL P ops draw i (⟨d,.call ⟨.value (.func f),es,ts⟩,ty,pos,after,gd⟩::L) acc (mkS tm ob ng) K:=by
 obtain ⟨v,hv,hG⟩:=bnd hF
 exact Zag (hc v hv) hw ha (h v (k v hG))
theorem aL {F:Option β} {G:β→Option γ} {R:β→PV} {f:FuncId} {es:Array Operand} {ts:Array TypeId} {args:List PV} (hF:F.bind G=some r) (hc:∀ v,F=some v→ZH P f args (R v)) (k:∀ v,G v=some r→q v)
  (hw:ZR ops (mkS tm ob ng) ⟨d,.call ⟨.value (.func f),es,ts⟩,ty,pos,after,gd⟩=some true:=by exact rfl) (ha:Zfs (frz (Zai ob)) (es.toList.map (evL tm))=some args:=by exact rfl) (hp:∀ v,(R v).dry=true:=by exact fun _=>rfl)
  (h:∀ v,q v→GoL P ops draw (i+1) L (acc ++ [(Zaj (mkS tm ob ng) ⟨d,.call ⟨.value (.func f),es,ts⟩,ty,pos,after,gd⟩,[])]) (mkS (Zbg d (R v) tm) ob ng) K:=by
 (intro v k)
 (refine Zac ?_)
 (exact k)):GoL P ops draw i (⟨d,.call ⟨.value (.func f),es,ts⟩,ty,pos,after,gd⟩::L) acc (mkS tm ob ng) K:=by
 obtain ⟨v,hv,hG⟩:=bnd hF
 exact Zeg (hc v hv) hw ha (hp v) (h v (k v hG))
theorem aN {dd:Nat} {F:Option β} {G:β→Option γ} {O:β→VObj} {f:FuncId} {es:Array Operand} {ts:Array TypeId} {args:List PV} {us:List (Nat×Option (Gen×VObj))} (hF:F.bind G=some r) (hc:∀ v,F=some v→ContractN P f args (O v)) (k:∀ v,G v=some r→q v)
  (hw:ZR ops (mkS tm ob ng) ⟨some dd,.call ⟨.value (.func f),es,ts⟩,ty,pos,after,gd⟩=some true:=by exact rfl) (ha:Zds (Zai ob) (es.toList.map (evL tm))=some (args,us):=by exact rfl)
  (h:∀ v,q v→GoL P ops draw (i+1) L (acc ++ [(Zaj (mkS tm ob ng) ⟨some dd,.call ⟨.value (.func f),es,ts⟩,ty,pos,after,gd⟩,(us ++ [(dd,some ((ng,i),O v))]).map (·.1))])
   (mkS ((dd,Zd2 (O v) dd (ng,i))::tm) ((us ++ [(dd,some ((ng,i),O v))]).reverse++ob) ng) K:=by
 (intro v k)
 (refine Zac ?_)
 (exact k)):GoL P ops draw i (⟨some dd,.call ⟨.value (.func f),es,ts⟩,ty,pos,after,gd⟩::L) acc (mkS tm ob ng) K:=by
 obtain ⟨v,hv,hG⟩:=bnd hF
 exact ZmV (hc v hv) hw ha (h v (k v hG))
theorem aO {F:Option β} {G:β→Option γ} {R:β→PV} {O:β→List PV} {f:FuncId} {es:Array Operand} {ts:Array TypeId} {post post':List PV} {t:Nat} {g:Gen} {cs qs:List PV} {us2 us3:List (Nat×Option (Gen×VObj))} (hF:F.bind G=some r)
  (hc:∀ v,F=some v→Contract P f (.ptr 0 (0,0) 0::post') (some (0,qs)) (R v) (O v)) (k:∀ v,G v=some r→q v) (hw:ZR ops (mkS tm ob ng) ⟨d,.call ⟨.value (.func f),es,ts⟩,ty,pos,after,gd⟩=some true:=by exact rfl)
  (he:es.toList.map (evL tm) = .ptr t g 0::post:=by exact rfl) (hob:ZaJ (Zai ob) t g=some (.box cs):=by exact rfl) (h2:Zcd (Zai ob) cs=some (qs,us2):=by exact rfl) (h3:Zds (Zai ob) post=some (post',us3):=by exact rfl)
  (h:∀ v,q v→GoL P ops draw (i+1) L (acc ++ [(Zaj (mkS tm ob ng) ⟨d,.call ⟨.value (.func f),es,ts⟩,ty,pos,after,gd⟩,(us2++us3 ++ [(t,some (g,VObj.box (O v)))]).map (·.1))])
   (mkS (Zbg d (R v) tm) ((us2++us3 ++ [(t,some (g,VObj.box (O v)))]).reverse++ob) ng) K:=by
 (intro v k)
 (refine Zac ?_)
 (exact k)):GoL P ops draw i (⟨d,.call ⟨.value (.func f),es,ts⟩,ty,pos,after,gd⟩::L) acc (mkS tm ob ng) K:=by
 obtain ⟨v,hv,hG⟩:=bnd hF
 exact Zba (hc v hv) hw he hob h2 h3 (h v (k v hG))
theorem aI (f:β→List PV) {M:List β} {n:Int} {G:β→Option γ} {E kk by_:Nat} {z:List PV} [Sl P T E kk by_ z] {kd:IntKind} (hF:(atI M n).bind G=some r) (k:∀ v,G v=some r→q v)
  (hw:ZR ops (mkS tm ob ng) ⟨d,.indexAddr T x y,ty,pos,after,gd⟩=some true:=by exact rfl) (hx:evL tm x = .sl (M.map f):=by exact rfl) (hy:evL tm y = .int kd n:=by exact rfl) (hl:∀ e,(f e).length=kk:=by exact fun _=>rfl)
  (h:∀ e,q e→GoL P ops draw (i+1) L (acc ++ [(Zaj (mkS tm ob ng) ⟨d,.indexAddr T x y,ty,pos,after,gd⟩,[])]) (mkS (Zbg d (.cel (f e)) tm) ob ng) K:=by
 (intro v k)
 (refine Zac ?_)
 (exact k)):GoL P ops draw i (⟨d,.indexAddr T x y,ty,pos,after,gd⟩::L) acc (mkS tm ob ng) K:=by
 obtain ⟨v,hv,hG⟩:=bnd hF
 exact ZlO hw hv hx hy (hl v) (h v (k v hG))
theorem aS {a:ByteArray} {n:Int} {G:Int→Option γ} {q:Int→Prop} {kd:IntKind} (hF:(atS a n).bind G=some r) (k:∀ v,G v=some r→q v) [hT:StrT P T]
  (hw:ZR ops (mkS tm ob ng) ⟨d,.index T x y,ty,pos,after,gd⟩=some true:=by exact rfl) (hx:evL tm x = .str a:=by exact rfl) (hy:evL tm y = .int kd n:=by exact rfl)
  (h:∀ c,q c→GoL P ops draw (i+1) L (acc ++ [(Zaj (mkS tm ob ng) ⟨d,.index T x y,ty,pos,after,gd⟩,[])]) (mkS (Zbg d (.int .u8 c) tm) ob ng) K:=by
 (intro v k)
 (refine Zac ?_)
 (exact k)):GoL P ops draw i (⟨d,.index T x y,ty,pos,after,gd⟩::L) acc (mkS tm ob ng) K:=by
 obtain ⟨v,hv,hG⟩:=bnd hF
 exact Zkl StrT.eq hw hv hx hy (h v (k v hG))
theorem sS {a:ByteArray} {l m:Int} {G:ByteArray→Option γ} {q:ByteArray→Prop} {lo hi:Option Operand} (hF:(ZlJ a l m).bind G=some r) (k:∀ v,G v=some r→q v) [hT:StrT P T]
  (hw:ZR ops (mkS tm ob ng) ⟨d,.slice T x lo hi none,ty,pos,after,gd⟩=some true:=by exact rfl) (hx:evL tm x = .str a:=by exact rfl) (hlo:loI tm lo=some l:=by exact rfl) (hhi:hiI tm a.size hi=some m:=by exact rfl)
  (h:∀ b,q b→GoL P ops draw (i+1) L (acc ++ [(Zaj (mkS tm ob ng) ⟨d,.slice T x lo hi none,ty,pos,after,gd⟩,[])]) (mkS (Zbg d (.str b) tm) ob ng) K:=by
 (intro v k)
 (refine Zac ?_)
 (exact k)):GoL P ops draw i (⟨d,.slice T x lo hi none,ty,pos,after,gd⟩::L) acc (mkS tm ob ng) K:=by
 obtain ⟨v,hv,hG⟩:=bnd hF
 exact Zkk StrT.eq hw hv hx hlo hhi (h v (k v hG))
theorem sT {a b:ByteArray} {G:ByteArray→Option γ} {q:ByteArray→Prop} {T':TypeId} (hF:(ZaW a b).bind G=some r) (k:∀ v,G v=some r→q v)
  (hw:ZR ops (mkS tm ob ng) ⟨d,.binOp .add T x y T',ty,pos,after,gd⟩=some true:=by exact rfl) (hx:evL tm x = .str a:=by exact rfl) (hy:evL tm y = .str b:=by exact rfl)
  (h:∀ c,q c→GoL P ops draw (i+1) L (acc ++ [(Zaj (mkS tm ob ng) ⟨d,.binOp .add T x y T',ty,pos,after,gd⟩,[])]) (mkS (Zbg d (.str c) tm) ob ng) K:=by
 (intro v k)
 (refine Zac ?_)
 (exact k)):GoL P ops draw i (⟨d,.binOp .add T x y T',ty,pos,after,gd⟩::L) acc (mkS tm ob ng) K:=by
 obtain ⟨v,hv,hG⟩:=bnd hF
 exact ZnX hw hv hx hy (h v (k v hG))
theorem pR (f:β→List PV) {dd:Nat} {E kk by_:Nat} {z:List PV} [Sl P T E kk by_ z] {M0 M:List β} {G:List β→Option γ} {q:List β→Prop} {t:Nat} {g:Gen} {sh:Bool} {new:List (List PV)} (hF:(Zc8 by_ M0 M).bind G=some r) (k:∀ v,G v=some r→q v)
  (hw:ZR ops (mkS tm ob ng) ⟨some dd,.call ⟨.builtin .append,#[x,y],#[T,T]⟩,ty,pos,after,gd⟩=some true:=by exact rfl) (hf:∀ x,(f x).length=kk:=by exact fun _=>rfl) (hx:evL tm x = .row t g:=by exact rfl) (ho:ZaJ (Zai ob) t g=some (.row E kk sh (M0.map f)):=by exact rfl) (hy:ZeD (Zai ob) (evL tm y)=some new:=by exact rfl) (hm:new=M.map f:=by exact rfl)
  (h:∀ R,q R→GoL P ops draw (i+1) L (acc ++ [(Zaj (mkS tm ob ng) ⟨some dd,.call ⟨.builtin .append,#[x,y],#[T,T]⟩,ty,pos,after,gd⟩,[t])]) (mkS ((dd,.row t (ng,i))::tm) ((t,some ((ng,i),.row E kk sh (R.map f)))::ob) ng) K:=by
 (intro v k)
 (refine Zac ?_)
 (exact k)):GoL P ops draw i (⟨some dd,.call ⟨.builtin .append,#[x,y],#[T,T]⟩,ty,pos,after,gd⟩::L) acc (mkS tm ob ng) K:=by
 obtain ⟨v,hv,hG⟩:=bnd hF
 exact ZnY hw hv hf hx ho hy hm (h v (k v hG))
theorem sM (f:β→List PV) {E kk by_:Nat} {z:List PV} [Sl P T E kk by_ z] {lo hi:Option Operand} {M:List β} {l m:Int} {G:List β→Option γ} {q:List β→Prop} {us:List (Nat×Option (Gen×VObj))} (hF:(Zfx M l m).bind G=some r) (k:∀ v,G v=some r→q v)
  (hw:ZR ops (mkS tm ob ng) ⟨d,.slice T x lo hi none,ty,pos,after,gd⟩=some true:=by exact rfl) (hf:∀ x,(f x).length=kk:=by exact fun _=>rfl) (hx:ZeD (Zai ob) (evL tm x)=some (M.map f):=by exact rfl) (hlo:loI tm lo=some l:=by exact rfl) (hhi:hiI tm M.length hi=some m:=by exact rfl) (hus:Zlk (Zai ob) (evL tm x)=us:=by exact rfl)
  (h:∀ R,q R→GoL P ops draw (i+1) L (acc ++ [(Zaj (mkS tm ob ng) ⟨d,.slice T x lo hi none,ty,pos,after,gd⟩,us.map (·.1))]) (mkS (Zbg d (.sl (R.map f)) tm) (us.reverse++ob) ng) K:=by
 (intro v k)
 (refine Zac ?_)
 (exact k)):GoL P ops draw i (⟨d,.slice T x lo hi none,ty,pos,after,gd⟩::L) acc (mkS tm ob ng) K:=by
 obtain ⟨v,hv,hG⟩:=bnd hF
 exact ZlP hw hv hf hx hlo hhi hus (h v (k v hG))
theorem lM (f:β→List PV) (M:List β) {E kk by_:Nat} {z:List PV} [Sl P T E kk by_ z] {q:Prop} (k:q)
  (hw:ZR ops (mkS tm ob ng) ⟨d,.call ⟨.builtin .len,#[x],#[T]⟩,ty,pos,after,gd⟩=some true:=by exact rfl) (hx:ZeD (Zai ob) (evL tm x)=some (M.map f):=by exact rfl)
  (h:q→GoL P ops draw (i+1) L (acc ++ [(Zaj (mkS tm ob ng) ⟨d,.call ⟨.builtin .len,#[x],#[T]⟩,ty,pos,after,gd⟩,[])]) (mkS (Zbg d (.int .i64 (M.length:Int)) tm) ob ng) K:=by
 (intro k)
 (refine Zac ?_)
 (exact k)):GoL P ops draw i (⟨d,.call ⟨.builtin .len,#[x],#[T]⟩,ty,pos,after,gd⟩::L) acc (mkS tm ob ng) K:=ZnW hw hx (h k)
theorem bM (f:β→List PV) (M:List β) {dd:Nat} {E kk by_:Nat} {z:List PV} [Sl P T E kk by_ z] {n:Nat} {parts:Array (Nat×Operand)} {q:Prop} {cs qs:List PV} {us:List (Nat×Option (Gen×VObj))} (k:q)
  (hw:ZR ops (mkS tm ob ng) ⟨some dd,.buildSlice T n parts,ty,pos,after,gd⟩=some true:=by exact rfl) (hf:Zcp (fun i=>some (i * kk,kk)) (List.replicate n z).flatten (evs tm parts.toList)=some cs:=by exact rfl) (hr:Zcd (Zai ob) cs=some (qs,us):=by exact rfl) (hl:qs.length=n * kk:=by exact rfl) (hm:n * kk≤16777216:=by exact (Nat.le_of_ble_eq_true rfl)) (hc:chunks kk n qs=M.map f:=by exact rfl)
  (h:q→GoL P ops draw (i+1) L (acc ++ [(Zaj (mkS tm ob ng) ⟨some dd,.buildSlice T n parts,ty,pos,after,gd⟩,us.map (·.1) ++ [dd])]) (mkS ((dd,.row dd (ng,i))::tm) ((dd,some ((ng,i),.row E kk false (M.map f)))::(us.reverse++ob)) ng) K:=by
 (intro k)
 (refine Zac ?_)
 (exact k)):GoL P ops draw i (⟨some dd,.buildSlice T n parts,ty,pos,after,gd⟩::L) acc (mkS tm ob ng) K:=Zbn M hw hf hr hl hm hc (h k)
end
end VL
end Go.Proofs.YtpffimahajgiaaaGreatDoor

namespace Go.Proofs.YtpffimahajgiaaaGreatDoor
namespace VL
open Go.RowKit
end VL
end Go.Proofs.YtpffimahajgiaaaGreatDoor
