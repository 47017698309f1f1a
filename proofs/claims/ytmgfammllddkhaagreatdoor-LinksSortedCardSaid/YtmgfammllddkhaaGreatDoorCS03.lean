/- Functions as Lean functions: the words in which they are written, and the rules that hold a body against them. No program is named. | More rules for functions as Lean functions: rows under another key, rows made public, tests on bools, bits. No program is named. | The plain side of functions as Lean functions: lemmas to reckon them. No program is named. | A variable of the package is read; and what it is that a function as a Lean function returns something. No program is named. | One step of a run, whichever it is. No program is named. | What the rules ask of the types. Printed by facts.sh. | The types of the wiki, and how their values lie in cells. No program is named. Written by types.py. | How the data of the wiki are written as values. No program is named. Written by mkpv.py. | Arguments two by two. -/
import Derived.Test.YtmgfammllddkhaaGreatDoorCS02
import Derived.Test.YtmgfammllddkhaaGreatDoorRows
import Derived.Test.YtmgfammllddkhaaGreatDoorCS01
namespace Go.Proofs.YtmgfammllddkhaaGreatDoor
namespace VL
open Go.RowKit
def Zel:Nat:=4611686018427387904
def atI {α:Type} (l:List α) (i:Int):Option α:=if 0≤i then l[i.toNat]? else none
def atS (s:ByteArray) (i:Int):Option Int:=if 0≤i then (s[i.toNat]?).map fun c=>(c.toNat:Int) else none
def ZsR {α:Type} (l:List α) (lo hi:Int):Option (List α):=if 0≤lo∧lo≤hi∧hi≤(l.length:Int) then some ((l.drop lo.toNat).take (hi.toNat - lo.toNat)) else none
def ZfP (s:ByteArray) (lo hi:Int):Option ByteArray:=if 0≤lo∧lo≤hi∧hi≤(s.size:Int) then some (s.extract lo.toNat hi.toNat) else none
def Zjw {α:Type} (w:Nat) (a b:List α):Option (List α):=if (a.length+b.length) * w≤140737488355328∧a.length+b.length≤9223372036854775807 then some (a++b) else none
def Zbk (a b:ByteArray):Option ByteArray:=if a.size+b.size≤9223372036854775807 then some (a++b) else none
def ZeX {α:Type} (l:List α) (i:Int) (x:α):List α:=l.set i.toNat x
def Zt4 (_:IntKind) (a b:Int):Option Int:=if b=0 then none else some (Int.tmod a b)
def ltS (a b:ByteArray):Bool:=Op.bytesLess a.toList b.toList
abbrev w64 (n:Int):Int:=IntKind.wrap .i64 n
abbrev csS (y:ByteArray):List PV:=[.str y]
abbrev csI (y:Int):List PV:=[.int .i64 y]
abbrev csB (y:Int):List PV:=[.int .u8 y]
def letk {γ β:Type} (k:γ) (f:γ→Option β):Option β:=f k
def Zbq {α β:Type}:Nat→((α→Option β)→α→Option β)→α→Option β
 | 0,_,_=>none
 | n+1,f,a=>f (Zbq n f) a
theorem bnd {α β:Type} {x:Option α} {f:α→Option β} {r:β} (h:x.bind f=some r):∃ v,x=some v∧f v=some r:=by
 cases x with
 | none=>cases h
 | some v=>exact ⟨v,rfl,h⟩
theorem ifT {β:Type} {b:Bool} {x y:Option β} {r:β} (hb:b=true) (h:(if b=true then x else y)=some r):x=some r:=by rw [if_pos hb] at h;exact h
theorem ifF {β:Type} {b:Bool} {x y:Option β} {r:β} (hb:b=false) (h:(if b=true then x else y)=some r):y=some r:=by rw [if_neg (by rw [hb];simp)] at h;exact h
theorem Zcr {γ β:Type} {k:γ} {f:γ→Option β} {r:β} {p:Prop} (h:letk k f=some r) (g:∀ q,q=k→f q=some r→p):p:=g k rfl h
theorem ZW {α β:Type} {n:Nat} {f:(α→Option β)→α→Option β} {a:α} {r:β} {p:Prop} (h:Zbq n f a=some r) (g:∀ q m,q=f→Zbq m q a=some r→p):p:=g f n rfl h
theorem ZX {α β:Type} {n:Nat} {f q:(α→Option β)→α→Option β} {a:α} {r:β} (e:q=f) (h:Zbq n q a=some r):∃ m,n=m+1∧f (Zbq m q) a=some r:=by
 cases n with
 | zero=>cases h
 | succ m=>exact ⟨m,rfl,by rw [← e];exact h⟩
theorem Zq6 {α β:Type} {f:(α→Option β)→α→Option β} (J:α→Prop) (m:α→Nat) (spec:α→β) (h:∀ a rec,J a→(∀ a',J a'→m a'<m a→rec a'=some (spec a'))→f rec a=some (spec a)):∀ (n:Nat) (a:α),J a→m a<n→Zbq n f a=some (spec a)
 | 0,_,_,hm=>absurd hm (Nat.not_lt_zero _)
 | n+1,a,ha,hm=>h a _ ha fun a' ha' hm'=>Zq6 J m spec h n a' ha' (by omega)
theorem ZoS {α β:Type} {f:(α→Option β)→α→Option β} (J:α→Prop) (m:α→Nat) (R:β→Prop) (h:∀ a rec,J a→(∀ a',J a'→m a'<m a→∃ b,rec a'=some b∧R b)→∃ b,f rec a=some b∧R b):∀ (n:Nat) (a:α),J a→m a<n→∃ b,Zbq n f a=some b∧R b
 | 0,_,_,hm=>absurd hm (Nat.not_lt_zero _)
 | n+1,a,ha,hm=>h a _ ha fun a' ha' hm'=>ZoS J m R h n a' ha' (by omega)
theorem Zhe {α:Type} {l:List α} {i:Int} {e:α} (h:atI l i=some e):0≤i∧l[i.toNat]? = some e:=by
 unfold atI at h
 split at h
 ·exact ⟨by assumption,h⟩
 ·cases h
theorem ZsS {α:Type} (l:List α) (n:Nat):atI l (n:Int)=l[n]?:=by
 unfold atI
 rw [if_pos (by omega)]
 rfl
theorem Zkq {α β:Type} {f:α→β} {l:List α} {n:Nat} {e:α} (h:l[n]? = some e):(l.map f)[n]? = some (f e):=by rw [List.getElem?_map,h];rfl
theorem Zc4 {α:Type} {w:Nat} {a b c:List α} (h:Zjw w a b=some c):(a.length+b.length) * w≤140737488355328∧a.length+b.length≤9223372036854775807∧c=a++b:=by
 unfold Zjw at h
 split at h
 ·injection h with h
  rename_i q
  exact ⟨q.1,q.2,h.symm⟩
 ·cases h
theorem Zq7 {α:Type} {l m:List α} {lo hi:Int} (h:ZsR l lo hi=some m):0≤lo∧lo≤hi∧hi≤(l.length:Int)∧m=(l.drop lo.toNat).take (hi.toNat - lo.toNat):=by
 unfold ZsR at h
 split at h
 ·injection h with h
  rename_i q
  exact ⟨q.1,q.2.1,q.2.2,h.symm⟩
 ·cases h
theorem Zq8 {l m:ByteArray} {lo hi:Int} (h:ZfP l lo hi=some m):0≤lo∧lo≤hi∧hi≤(l.size:Int)∧l.extract lo.toNat hi.toNat=m:=by
 unfold ZfP at h
 split at h
 ·injection h with h
  rename_i q
  exact ⟨q.1,q.2.1,q.2.2,h⟩
 ·cases h
theorem ZsT {α:Type} {f:α→List PV} {kk:Nat} (hf:∀ x,(f x).length=kk) (l:List α):((l.map f).all fun e=>e.length == kk)=true:=by simp [hf]
def loI (tm:List (Nat×PV)):Option Operand→Option Int
 | none=>some 0
 | some e=>match evL tm e with
   | .int _ n=>some n
   | _=>none
def hiI (tm:List (Nat×PV)) (n:Nat):Option Operand→Option Int
 | none=>some n
 | some e=>match evL tm e with
   | .int _ n=>some n
   | _=>none
theorem Zu1 {tm:List (Nat×PV)} {lo:Option Operand} {l:Int} (h:loI tm lo=some l) (h0:0≤l):loV tm lo=some l.toNat:=by
 cases lo with
 | none=>injection h with h;subst h;rfl
 | some e=>
   simp only [loI] at h
   simp only [loV]
   split at h
   ·rename_i he
    injection h with h
    subst h
    rw [he]
    simp [toNat?,h0]
   ·cases h
theorem Zu2 {tm:List (Nat×PV)} {hi:Option Operand} {n:Nat} {l:Int} (h:hiI tm n hi=some l) (h0:0≤l):hiV tm n hi=some l.toNat:=by
 cases hi with
 | none=>injection h with h;subst h;rfl
 | some e=>
   simp only [hiI] at h
   simp only [hiV]
   split at h
   ·rename_i he
    injection h with h
    subst h
    rw [he]
    simp [toNat?,h0]
   ·cases h
section
variable {P:Program} [WInv P] {ops:Array Oper} {draw:Bool} {i:Nat} {L:List Oper} {acc:List (List Nat×List Nat)} {K:FS→Prop} {tm:List (Nat×PV)} {ob:List (Nat×Option (Gen×VObj))} {ng:Nat}
 {d:Option Tmp} {ty T T':TypeId} {pos:String} {after:Array Edge} {gd:Option (Nat×Bool)} {x y:Operand} {α:Type} {f:α→List PV}
theorem Zt5 (t:Nat) {b:Bool} (hx:look tm t = .bool b) (h1:b=true→GoL P ops draw i L acc (mkS ((t,.bool true)::tm) ob ng) K) (h2:b=false→GoL P ops draw i L acc (mkS ((t,.bool false)::tm) ob ng) K):GoL P ops draw i L acc (mkS tm ob ng) K:=by
 have e:mkS ((t,.bool b)::tm) ob ng=mkS tm ob ng:=by
  unfold mkS
  congr 1
  funext t'
  show (if t'=t then PV.bool b else look tm t')=look tm t'
  split
  ·rename_i h;rw [h,hx]
  ·rfl
 rw [← e]
 cases b
 ·exact h2 rfl
 ·exact h1 rfl
theorem Zt6 {E kk by_:Nat} {z:List PV} [Sl P T E kk by_ z] (hw:Zf ops (mkS tm ob ng) ⟨d,.call ⟨.builtin .len,#[x],#[T]⟩,ty,pos,after,gd⟩=some true) {M:List α} (hx:ZjQ (Zm ob) (evL tm x)=some (M.map f))
  (k:GoL P ops draw (i+1) L (acc ++ [(Zy (mkS tm ob ng) ⟨d,.call ⟨.builtin .len,#[x],#[T]⟩,ty,pos,after,gd⟩,[])]) (mkS (Za3 d (.int .i64 (M.length:Int)) tm) ob ng) K):GoL P ops draw i (⟨d,.call ⟨.builtin .len,#[x],#[T]⟩,ty,pos,after,gd⟩::L) acc (mkS tm ob ng) K:=by
 refine ZgR (n:=M.length) hw ?_ k
 cases hp:evL tm x<;>rw [hp] at hx<;>simp only [ZjQ] at hx<;>try (cases hx;done)
 ·injection hx with hx;simp only [Zq3,hx,List.length_map]
 ·injection hx with hx
  have:M.length=0:=by rw [← List.length_map (f:=f),← hx];rfl
  simp only [Zq3,this]
 ·simp only [Zq3]
  split at hx
  ·rename_i ho
   injection hx with hx
   rw [hx,List.length_map]
  ·cases hx
theorem Zq9 {E kk by_:Nat} {z:List PV} [Sl P T E kk by_ z] (hw:Zf ops (mkS tm ob ng) ⟨d,.indexAddr T x y,ty,pos,after,gd⟩=some true) {M:List α} {e:α} {kd:IntKind} {q:Int} (he:atI M q=some e) (hx:evL tm x = .sl (M.map f)) (hy:evL tm y = .int kd q) (hl:(f e).length=kk)
  (k:GoL P ops draw (i+1) L (acc ++ [(Zy (mkS tm ob ng) ⟨d,.indexAddr T x y,ty,pos,after,gd⟩,[])]) (mkS (Za3 d (.cel (f e)) tm) ob ng) K):GoL P ops draw i (⟨d,.indexAddr T x y,ty,pos,after,gd⟩::L) acc (mkS tm ob ng) K:=by
 obtain ⟨h0,h1⟩:=Zhe he
 exact ZdI (n:=q.toNat) hw hx (by rw [hy];congr 1;omega) (Zkq h1) hl k
theorem ZY {E kk by_:Nat} {z:List PV} [Sl P T E kk by_ z] (hw:Zf ops (mkS tm ob ng) ⟨d,.indexAddr T x y,ty,pos,after,gd⟩=some true) {M:List α} {e:α} {kd:IntKind} {q:Int} {t:Nat} {g:Gen} {E':Nat} {sh:Bool} (he:atI M q=some e) (hx:evL tm x = .row t g) (hb:ZV (Zm ob) t g=some (.row E' kk sh (M.map f))) (hy:evL tm y = .int kd q)
  (k:GoL P ops draw (i+1) L (acc ++ [(Zy (mkS tm ob ng) ⟨d,.indexAddr T x y,ty,pos,after,gd⟩,[])]) (mkS (Za3 d (.elp t g q.toNat kk 0) tm) ob ng) K):GoL P ops draw i (⟨d,.indexAddr T x y,ty,pos,after,gd⟩::L) acc (mkS tm ob ng) K:=by
 obtain ⟨h0,h1⟩:=Zhe he
 exact Zat (n:=q.toNat) hw hx hb (by rw [hy];congr 1;omega) (by rw [List.length_map];exact (List.getElem?_eq_some_iff.1 h1).1) k
theorem ZaG {agg:Bool} {n:Nat} [h:Ld P T agg n] (hw:Zf ops (mkS tm ob ng) ⟨d,.load T x,ty,pos,after,gd⟩=some true) {M:List α} {e:α} {q:Int} {t:Nat} {g:Gen} {E kk off:Nat} {sh:Bool} {v:PV} (he:atI M q=some e) (hx:evL tm x = .elp t g q.toNat kk off) (hb:ZV (Zm ob) t g=some (.row E kk sh (M.map f))) (hv:ZlD agg n ((f e).drop off)=some v)
  (k:GoL P ops draw (i+1) L (acc ++ [(Zy (mkS tm ob ng) ⟨d,.load T x,ty,pos,after,gd⟩,[])]) (mkS (Za3 d v tm) ob ng) K):GoL P ops draw i (⟨d,.load T x,ty,pos,after,gd⟩::L) acc (mkS tm ob ng) K:=by
 obtain ⟨h0,h1⟩:=Zhe he
 refine ZB (cs:=(f e).drop off) hw ?_ hv k
 rw [hx]
 simp only [ZeU,hb,if_true,Zkq h1,Option.map_some]
theorem Zcg {agg:Bool} {n:Nat} [Ld P T agg n] (hw:Zf ops (mkS tm ob ng) ⟨d,.store T x y,ty,pos,after,gd⟩=some true) {M:List α} {e e':α} {q:Int} {t:Nat} {g:Gen} {E kk off:Nat} {p:PV} {ps qs:List PV} {us:List (Nat×Option (Gen×VObj))} (he:atI M q=some e) (hx:evL tm x = .elp t g q.toNat kk off)
  (hb:ZV (Zm ob) t g=some (.row E kk false (M.map f))) (hy:evL tm y=p) (hps:p.cells=ps) (hl:ps.length=n) (hr:Zdq (Zm ob) ps=some (qs,us)) (hf:off+n≤kk) (hus:us.all (fun q=>q.1 != t)=true) (hs:Zam (f e) off qs=f e')
  (k:GoL P ops draw (i+1) L (acc ++ [(Zy (mkS tm ob ng) ⟨d,.store T x y,ty,pos,after,gd⟩,us.map (·.1) ++ [t])]) (mkS (Za3 d .un tm) ((t,some (g,VObj.row E kk false ((ZeX M q e').map f)))::(us.reverse++ob)) ng) K) :
  GoL P ops draw i (⟨d,.store T x y,ty,pos,after,gd⟩::L) acc (mkS tm ob ng) K:=by
 obtain ⟨h0,h1⟩:=Zhe he
 refine ZiX hw hx hb (Zkq h1) hy hps hl hr hf hus ?_
 rw [hs,show (M.map f).set q.toNat (f e')=(ZeX M q e').map f from (List.map_set ..).symm]
 simpa using k
theorem Zlh (hT:P.underlying T=some .string) {lo hi:Option Operand} (hw:Zf ops (mkS tm ob ng) ⟨d,.slice T x lo hi none,ty,pos,after,gd⟩=some true) {a b:ByteArray} {l h:Int} (hs:ZfP a l h=some b) (hx:evL tm x = .str a) (hlo:loI tm lo=some l) (hhi:hiI tm a.size hi=some h)
  (k:GoL P ops draw (i+1) L (acc ++ [(Zy (mkS tm ob ng) ⟨d,.slice T x lo hi none,ty,pos,after,gd⟩,[])]) (mkS (Za3 d (.str b) tm) ob ng) K):GoL P ops draw i (⟨d,.slice T x lo hi none,ty,pos,after,gd⟩::L) acc (mkS tm ob ng) K:=by
 obtain ⟨h0,h1,h2,h3⟩:=Zq8 hs
 exact Zku hT hw hx (Zu1 hlo h0) (Zu2 hhi (by omega)) (by omega) (by omega) h3 k
theorem ZoT (hT:P.underlying T=some .string) (hw:Zf ops (mkS tm ob ng) ⟨d,.index T x y,ty,pos,after,gd⟩=some true) {a:ByteArray} {kd:IntKind} {q c:Int} (hn:atS a q=some c) (hx:evL tm x = .str a) (hy:evL tm y = .int kd q)
  (k:GoL P ops draw (i+1) L (acc ++ [(Zy (mkS tm ob ng) ⟨d,.index T x y,ty,pos,after,gd⟩,[])]) (mkS (Za3 d (.int .u8 c) tm) ob ng) K):GoL P ops draw i (⟨d,.index T x y,ty,pos,after,gd⟩::L) acc (mkS tm ob ng) K:=by
 unfold atS at hn
 split at hn
 ·cases hc:a[q.toNat]? with
  | none=>rw [hc] at hn;cases hn
  | some b=>
    rw [hc] at hn
    injection hn with hn
    subst hn
    exact Zkt hT hw hx (n:=q.toNat) (by rw [hy];congr 1;omega) hc k
 ·cases hn
theorem Zng (hw:Zf ops (mkS tm ob ng) ⟨d,.binOp .add T x y T',ty,pos,after,gd⟩=some true) {a b c:ByteArray} (hs:Zbk a b=some c) (hx:evL tm x = .str a) (hy:evL tm y = .str b)
  (kk:GoL P ops draw (i+1) L (acc ++ [(Zy (mkS tm ob ng) ⟨d,.binOp .add T x y T',ty,pos,after,gd⟩,[])]) (mkS (Za3 d (.str c) tm) ob ng) K):GoL P ops draw i (⟨d,.binOp .add T x y T',ty,pos,after,gd⟩::L) acc (mkS tm ob ng) K:=by
 unfold Zbk at hs
 split at hs
 ·injection hs with hs
  subst hs
  exact Zu5 hw hx hy (by assumption) kk
 ·cases hs
theorem Zt7 {dd:Nat} {E kk by_:Nat} {z:List PV} [Sl P T E kk by_ z] (hw:Zf ops (mkS tm ob ng) ⟨some dd,.call ⟨.builtin .append,#[x,y],#[T,T]⟩,ty,pos,after,gd⟩=some true) {M0 M R:List α} (hs:Zjw by_ M0 M=some R) (hf:∀ x,(f x).length=kk) {t:Nat} {g:Gen} {sh:Bool} {new:List (List PV)} (hx:evL tm x = .row t g) (ho:ZV (Zm ob) t g=some (.row E kk sh (M0.map f))) (hy:ZjQ (Zm ob) (evL tm y)=some new) (hm:new=M.map f)
  (k:GoL P ops draw (i+1) L (acc ++ [(Zy (mkS tm ob ng) ⟨some dd,.call ⟨.builtin .append,#[x,y],#[T,T]⟩,ty,pos,after,gd⟩,[t])]) (mkS ((dd,.row t (ng,i))::tm) ((t,some ((ng,i),.row E kk sh (R.map f)))::ob) ng) K) :
  GoL P ops draw i (⟨some dd,.call ⟨.builtin .append,#[x,y],#[T,T]⟩,ty,pos,after,gd⟩::L) acc (mkS tm ob ng) K:=by
 subst hm
 obtain ⟨h1,h2,rfl⟩:=Zc4 hs
 exact Zbb hw hx ho hy (by simpa using h1) (by simpa using h2) (ZsT hf M) (by rw [← List.map_append];exact k)
theorem Zt8 {len:Nat} [h:Ix P T len] (hw:Zf ops (mkS tm ob ng) ⟨d,.index T x y,ty,pos,after,gd⟩=some true) {p:α→PV} {M:List α} {e:α} {cs:List PV} {vs:List Value} {kd:IntKind} {q:Int} (he:atI M q=some e)
  (hx:evL tm x = .agg cs) (hm:cs=M.map p) (hps:Zbv cs=some vs) (hy:evL tm y = .int kd q) (hl:cs.length=len)
  (k:GoL P ops draw (i+1) L (acc ++ [(Zy (mkS tm ob ng) ⟨d,.index T x y,ty,pos,after,gd⟩,[])]) (mkS (Za3 d (p e) tm) ob ng) K):GoL P ops draw i (⟨d,.index T x y,ty,pos,after,gd⟩::L) acc (mkS tm ob ng) K:=by
 obtain ⟨h0,h1⟩:=Zhe he
 exact Zvq (n:=q.toNat) hw hx hps (by rw [hy];congr 1;omega) hl (by rw [hm];exact Zkq h1) k
theorem Zt9 (hw:Zf ops (mkS tm ob ng) ⟨d,.binOp .rem T x y T',ty,pos,after,gd⟩=some true) {k:IntKind} {a b c:Int} (hs:Zt4 k a b=some c) (hx:evL tm x = .int k a) (hy:evL tm y = .int k b)
  (kk:GoL P ops draw (i+1) L (acc ++ [(Zy (mkS tm ob ng) ⟨d,.binOp .rem T x y T',ty,pos,after,gd⟩,[])]) (mkS (Za3 d (.int k c) tm) ob ng) K):GoL P ops draw i (⟨d,.binOp .rem T x y T',ty,pos,after,gd⟩::L) acc (mkS tm ob ng) K:=by
 unfold Zt4 at hs
 split at hs
 ·cases hs
 ·injection hs with hs
  subst hs
  exact Zu9 hw hx hy (by assumption) kk
end
section
variable {P:Program} [WInv P] {α:Type} {St:α→Nat→FS} {J:α→Prop} {Q:Ex→FS→Prop} {s:FS} {id:Nat}
theorem Zua (h:Q .ret s):Zpd St J Q .ret s:=h
end
class StrT (P:Program) (T:TypeId):Prop where
 eq:P.underlying T=some .string
section
variable {P:Program} [WInv P] {ops:Array Oper} {draw:Bool} {i:Nat} {L:List Oper} {acc:List (List Nat×List Nat)} {K:FS→Prop} {tm:List (Nat×PV)} {ob:List (Nat×Option (Gen×VObj))} {ng:Nat}
 {d:Option Tmp} {ty T T':TypeId} {pos:String} {after:Array Edge} {gd:Option (Nat×Bool)} {x y:Operand} {α:Type} {f:α→List PV}
theorem Zub [h:StrT P T] (hw:Zf ops (mkS tm ob ng) ⟨d,.call ⟨.builtin .len,#[x],#[T]⟩,ty,pos,after,gd⟩=some true) {a:ByteArray} (hx:evL tm x = .str a)
  (k:GoL P ops draw (i+1) L (acc ++ [(Zy (mkS tm ob ng) ⟨d,.call ⟨.builtin .len,#[x],#[T]⟩,ty,pos,after,gd⟩,[])]) (mkS (Za3 d (.int .i64 (a.size:Int)) tm) ob ng) K):GoL P ops draw i (⟨d,.call ⟨.builtin .len,#[x],#[T]⟩,ty,pos,after,gd⟩::L) acc (mkS tm ob ng) K:=Zfq h.eq hw hx k
theorem Zc5 {dd:Nat} {E kk by_:Nat} {z:List PV} [Sl P T E kk by_ z] {n:Nat} {parts:Array (Nat×Operand)} (M:List α) (hw:Zf ops (mkS tm ob ng) ⟨some dd,.buildSlice T n parts,ty,pos,after,gd⟩=some true) {cs qs:List PV} {us:List (Nat×Option (Gen×VObj))}
  (hf:Zdj (fun i=>some (i * kk,kk)) (List.replicate n z).flatten (evs tm parts.toList)=some cs) (hr:Zdq (Zm ob) cs=some (qs,us)) (hl:qs.length=n * kk) (hm:n * kk≤16777216) (hc:chunks kk n qs=M.map f)
  (k:GoL P ops draw (i+1) L (acc ++ [(Zy (mkS tm ob ng) ⟨some dd,.buildSlice T n parts,ty,pos,after,gd⟩,us.map (·.1) ++ [dd])]) (mkS ((dd,.row dd (ng,i))::tm) ((dd,some ((ng,i),.row E kk false (M.map f)))::(us.reverse++ob)) ng) K) :
  GoL P ops draw i (⟨some dd,.buildSlice T n parts,ty,pos,after,gd⟩::L) acc (mkS tm ob ng) K:=
 Zae hw hf hr hl hm hc (by simpa using k)
end
theorem Zq {p q:Prop} (k:q) (h:q→p:=by
 (intro k)
 (repeat (first
  | refine ZB rfl rfl rfl ?_
  | refine Zn rfl (by (conv=>lhs;whnf);try rfl) ?_
  | refine Zp rfl (by (conv=>lhs;whnf);try rfl) ?_
  | refine Zi rfl rfl ?_
  | refine ZT rfl rfl rfl rfl (by (conv=>lhs;whnf);try rfl) ?_
  | refine Zh2 rfl rfl rfl rfl (by (conv=>lhs;whnf);try rfl) ?_
  | refine ZeI rfl rfl rfl ?_
  | refine ZaH rfl rfl rfl (by (conv=>lhs;whnf);try rfl) (by (conv=>lhs;whnf);try rfl) (by rfl) (by rfl) (Nat.le_of_ble_eq_true rfl) (by (conv=>lhs;whnf);try rfl) ?_
  | refine Zbr rfl rfl ?_
  | refine Zub rfl rfl ?_
  | refine Zrb rfl rfl ?_
  | refine ZaU rfl rfl (by (conv=>lhs;whnf);try rfl) ?_
  | refine g_field rfl rfl rfl ?_
  | refine ZjD rfl (by (conv=>lhs;whnf);try rfl) (by (conv=>lhs;whnf);try rfl) (by rfl) ?_
  | refine ZcV rfl rfl ?_
  | refine ZaA rfl rfl ?_
  | refine ZsE rfl rfl ?_
  | refine Zj4 rfl rfl ?_
  | refine Zsz rfl rfl ?_
  | refine Zsy rfl rfl rfl rfl ?_
  | refine Zc ?_
  | refine Zb9 (by kernel_rfl) ?_
  | refine Zh ?_
  | refine ZA ?_
  | refine Zba ?_
  | refine Za1 ?_
  | refine Zx ?_
  | refine Zc1 ?_
  | refine ZQ ?_
  | refine ZqR ?_
  | refine bk_other rfl ?_
  | refine ZgE ?_
  | refine ZqS ?_
  | refine jk_exit ?_
  | refine Zua ?_
  | refine pws_label ?_))
 (exact k)):p:=h k
theorem ZnV {P:Program} [WInv P] {β:Type} {F:Option β} {R:β→PV} {f:FuncId} {fn:Func} {c:Code} {args:List PV} {r:β} (hF:F=some r) (hmix:P.follows .mixedOrders=true) (hf:P.funcs[f]? = some fn) (hg:isGo P f=true) (hb:fn.body=some c) (hok:(decide (args.length≤fn.ntmps)&&ZaN fn.ntmps c)=true)
  (h:∀ r,F=some r→PWs P [c] (Zt1 P fn.results.toList (R r)) (mkS (Zc3 0 args) [] 1)):Zo P f args (R r):=ZbC hmix hf hg hb hok (h r hF)
end VL
end Go.Proofs.YtmgfammllddkhaaGreatDoor
namespace Go.Proofs.YtmgfammllddkhaaGreatDoor
namespace VL
open Go.RowKit
def ZuH (op:BinOp) (k:IntKind) (a b:Int):Int:=match op with
 | .and=>k.wrap (BitVec.ofInt k.bits a &&& BitVec.ofInt k.bits b).toNat
 | .or=>k.wrap (BitVec.ofInt k.bits a ||| BitVec.ofInt k.bits b).toNat
 | .xor=>k.wrap (BitVec.ofInt k.bits a ^^^ BitVec.ofInt k.bits b).toNat
 | _=>k.wrap (BitVec.ofInt k.bits a &&& ~~~BitVec.ofInt k.bits b).toNat
def Zsa (k:IntKind) (a b:Int):Option Int:=if b<0 then none else some (a.fdiv (2 ^ (min b.toNat k.bits)))
section
variable {P:Program} [WInv P] {ops:Array Oper} {draw:Bool} {i:Nat} {L:List Oper} {acc:List (List Nat×List Nat)} {K:FS→Prop} {tm:List (Nat×PV)} {ob:List (Nat×Option (Gen×VObj))} {ng:Nat}
 {d:Option Tmp} {ty T T':TypeId} {pos:String} {after:Array Edge} {gd:Option (Nat×Bool)} {x y:Operand}
theorem ZnL (hw:Zf ops (mkS tm ob ng) ⟨d,.binOp .shr T x y T',ty,pos,after,gd⟩=some true) {k k':IntKind} {a b c:Int} (hs:Zsa k a b=some c) (hx:evL tm x = .int k a) (hy:evL tm y = .int k' b)
  (kk:GoL P ops draw (i+1) L (acc ++ [(Zy (mkS tm ob ng) ⟨d,.binOp .shr T x y T',ty,pos,after,gd⟩,[])]) (mkS (Za3 d (.int k c) tm) ob ng) K):GoL P ops draw i (⟨d,.binOp .shr T x y T',ty,pos,after,gd⟩::L) acc (mkS tm ob ng) K:=by
 unfold Zsa at hs
 split at hs
 ·cases hs
 ·injection hs with hs
  subst hs
  exact Zul hw hx hy (by assumption) kk
end
theorem ZcZ {P:Program} [WInv P] {β:Type} {F:Option β} {R:β→PV} {O:β→List PV} {f:FuncId} {fn:Func} {c:Code} {args:List PV} {j:Nat} {os:List PV} {r:β} (hF:F=some r) (hmix:P.follows .mixedOrders=true) (hf:P.funcs[f]? = some fn) (hg:isGo P f=true) (hb:fn.body=some c) (hok:(decide (args.length≤fn.ntmps)&&ZaN fn.ntmps c)=true)
  (h:∀ r,F=some r→PWs P [c] (Zu6 P fn.results.toList (R r) j (O r)) (mkS (Zc3 0 args) [(j,some ((0,j),.box os))] 1)):Contract P f args (some (j,os)) (R r) (O r):=Zkx hmix hf hg hb hok (h r hF)
end VL
end Go.Proofs.YtmgfammllddkhaaGreatDoor
namespace Go.Proofs.YtmgfammllddkhaaGreatDoor
namespace VL
open Go.RowKit
theorem ZaO {n:Int} (h1 : -9223372036854775808≤n) (h2:n≤9223372036854775807):w64 n=n:=by
 show IntKind.wrap .i64 n=n
 rw [IntKind.wrap_i64]
 omega
theorem ZrJ {α:Type} {l:List α} {n:Nat} {e:α} (h:l[n]? = some e):atI l (n:Int)=some e:=by rw [ZsS,h]
theorem Ztl {α:Type} {w:Nat} {a b:List α} (h:(a.length+b.length) * w≤140737488355328) (h2:a.length+b.length≤9223372036854775807):Zjw w a b=some (a++b):=by
 unfold Zjw
 rw [if_pos ⟨h,h2⟩]
theorem ZmN {α:Type} {w:Nat} {a b:List α} (n:Nat) (h:a.length+b.length≤n) (h2:n * w≤140737488355328) (h3:n≤9223372036854775807):Zjw w a b=some (a++b):=
 Ztl (Nat.le_trans (Nat.mul_le_mul_right w h) h2) (Nat.le_trans h h3)
theorem ZmO {a b:ByteArray} (h:a.size+b.size≤9223372036854775807):Zbk a b=some (a++b):=by
 unfold Zbk
 rw [if_pos h]
theorem ZpP {s:ByteArray} {n:Nat} (h:n<s.size):atS s (n:Int)=some ((s[n]).toNat:Int):=by
 unfold atS
 rw [if_pos (by omega)]
 simp [h]
def goL {α β γ:Type} (step:α→γ→(γ→Option β)→Option β) (fin:γ→Option β):List α→γ→Option β
 | [],c=>fin c
 | e::l,c=>step e c (goL step fin l)
theorem ZpQ {α:Type} {l:List α} {n:Nat} {e:α} (h:l[n]? = some e):l.drop n=e::l.drop (n+1):=by
 obtain ⟨hlt,he⟩:=List.getElem?_eq_some_iff.1 h
 rw [List.drop_eq_getElem_cons hlt,he]
theorem ZlG {α β γ σ:Type} {B:(σ→Option β)→σ→Option β} (L:List α) (mk:Nat→γ→σ) (step:α→γ→(γ→Option β)→Option β) (fin:γ→Option β)
  (hs:∀ (n:Nat) (e:α) (rec:σ→Option β) (c:γ),L[n]? = some e→B rec (mk n c)=step e c fun c'=>rec (mk (n+1) c')) (he:∀ (rec:σ→Option β) (c:γ),B rec (mk L.length c)=fin c) :
  ∀ (k n:Nat) (c:γ),n≤L.length→L.length - n<k→Zbq k B (mk n c)=goL step fin (L.drop n) c
 | 0,_,_,_,h=>absurd h (Nat.not_lt_zero _)
 | k+1,n,c,hn,hk=>by
   show B (Zbq k B) (mk n c)=_
   by_cases hlt:n<L.length
   ·obtain ⟨e,hL⟩:∃ e,L[n]? = some e:=⟨_,List.getElem?_eq_getElem hlt⟩
    rw [hs n e _ c hL,ZpQ hL]
    show _=step e c (goL step fin (L.drop (n+1)))
    congr 1
    funext c'
    exact ZlG L mk step fin hs he k (n+1) c' hlt (by omega)
   ·have e:n=L.length:=by omega
    subst e
    rw [he,List.drop_of_length_le (Nat.le_refl _)]
    rfl
theorem ZrK {α β γ σ:Type} {B:(σ→Option β)→σ→Option β} (L:List α) (mk:Nat→γ→σ) (step:α→γ→(γ→Option β)→Option β) (fin:γ→Option β) (hL:L.length≤4611686018427387900) (c:γ)
  (hs:∀ (n:Nat) (e:α) (rec:σ→Option β) (c:γ),L[n]? = some e→n<4611686018427387900→B rec (mk n c)=step e c fun c'=>rec (mk (n+1) c')) (he:∀ (rec:σ→Option β) (c:γ),B rec (mk L.length c)=fin c):Zbq Zel B (mk 0 c)=goL step fin L c:=
 ZlG L mk step fin (fun n e rec c h=>hs n e rec c h (by have:=(List.getElem?_eq_some_iff.1 h).1;omega)) he Zel 0 c (Nat.zero_le _) (by unfold Zel;omega)
end VL
end Go.Proofs.YtmgfammllddkhaaGreatDoor
namespace Go.Proofs.YtmgfammllddkhaaGreatDoor
namespace VL
open Go.RowKit
def Tot {α:Type} (x:Option α) (Q:α→Prop):Prop:=∃ v,x=some v∧Q v
section
variable {α β γ:Type}
theorem Tot.mono {x:Option α} {Q R:α→Prop} (h:Tot x Q) (g:∀ v,Q v→R v):Tot x R:=by
 obtain ⟨v,h1,h2⟩:=h
 exact ⟨v,h1,g v h2⟩
theorem Zd {v:α} {Q:α→Prop} (h:Q v):Tot (some v) Q:=⟨v,rfl,h⟩
theorem Zpv {x:Option α} {v:α} {Q:α→Prop} (e:x=some v) (h:Q v):Tot x Q:=⟨v,e,h⟩
theorem Zu {x:Option α} {f:α→Option β} {Q:α→Prop} {R:β→Prop} (h:Tot x Q) (k:∀ v,Q v→Tot (f v) R):Tot (x.bind f) R:=by
 obtain ⟨v,h1,h2⟩:=h
 obtain ⟨r,h3,h4⟩:=k v h2
 exact ⟨r,by rw [h1];exact h3,h4⟩
theorem Zb {x:Option α} {f:α→Option β} {v:α} {R:β→Prop} (h:x=some v) (k:Tot (f v) R):Tot (x.bind f) R:=by
 rw [h];exact k
theorem ZZ {b:Bool} {x y:Option β} {R:β→Prop} (h1:b=true→Tot x R) (h2:b=false→Tot y R):Tot (if b=true then x else y) R:=by
 cases b
 ·exact h2 rfl
 ·exact h1 rfl
theorem Zj {p:Prop} [Decidable p] {x y:Option β} {R:β→Prop} (h1:p→Tot x R) (h2:¬ p→Tot y R):Tot (if decide p=true then x else y) R:=by
 by_cases h:p
 ·rw [if_pos (decide_eq_true h)];exact h1 h
 ·rw [if_neg (by simpa using h)];exact h2 h
theorem ZdY {p:Prop} [Decidable p] {x y:Option β} {R:β→Prop} (h1:¬ p→Tot x R) (h2:p→Tot y R):Tot (if (!decide p)=true then x else y) R:=by
 by_cases h:p
 ·rw [if_neg (by simpa using h)];exact h2 h
 ·rw [if_pos (by simpa using h)];exact h1 h
theorem Zap {k:γ} {f:γ→Option β} {R:β→Prop} (S:γ→Prop) (hk:S k) (hf:∀ q,S q→Tot (f q) R):Tot (letk k f) R:=hf k hk
theorem ZaM {k:γ} {f:γ→Option β} {R:β→Prop} (h:Tot (f k) R):Tot (letk k f) R:=h
theorem Zan {F:(α→Option β)→α→Option β} {a:α} {R:β→Prop} (J:α→Prop) (m:α→Nat) (h0:J a) (hm:m a≤4611686018427387900) (h:∀ a rec,J a→(∀ a',J a'→m a'<m a→Tot (rec a') R)→Tot (F rec a) R):Tot (Zbq Zel F a) R:=
 ZoS J m R h Zel a h0 (by unfold Zel;omega)
theorem Zfv {l:List α} {i:Int} {f:α→Option β} {R:β→Prop} (h0:0≤i) (h1:i<(l.length:Int)) (k:∀ e,e ∈ l→l[i.toNat]? = some e→Tot (f e) R):Tot ((atI l i).bind f) R:=by
 obtain ⟨n,rfl⟩:∃ n:Nat,i=(n:Int):=⟨i.toNat,by omega⟩
 have hl:n<l.length:=by omega
 have e:l[n]? = some l[n]:=List.getElem?_eq_getElem hl
 refine Zb (v:=l[n]) (ZrJ e) (k _ (List.getElem_mem hl) (by simp))
theorem ZdZ {s:ByteArray} {i:Int} {f:Int→Option β} {R:β→Prop} (h0:0≤i) (h1:i<(s.size:Int)) (k:∀ c:Int,0≤c→c<256→atS s i=some c→Tot (f c) R):Tot ((atS s i).bind f) R:=by
 obtain ⟨n,rfl⟩:∃ n:Nat,i=(n:Int):=⟨i.toNat,by omega⟩
 have hl:n<s.size:=by omega
 refine Zb (ZpP hl) (k _ (by omega) ?_ (ZpP hl))
 have:=(s[n]).toNat_lt
 omega
theorem ZaT {s:ByteArray} {a b:Int} {f:ByteArray→Option β} {R:β→Prop} (h0:0≤a) (h1:a≤b) (h2:b≤(s.size:Int)) (k:∀ m:ByteArray,m=s.extract a.toNat b.toNat→(m.size:Int)=b - a→Tot (f m) R):Tot ((ZfP s a b).bind f) R:=by
 refine Zb (v:=s.extract a.toNat b.toNat) (by unfold ZfP;rw [if_pos ⟨h0,h1,h2⟩]) (k _ rfl ?_)
 rw [ByteArray.size_extract]
 omega
theorem Zic {w:Nat} {a b:List α} {f:List α→Option β} {R:β→Prop} (n:Nat) (h:a.length+b.length≤n) (h2:n * w≤140737488355328) (h3:n≤9223372036854775807) (k:Tot (f (a++b)) R):Tot ((Zjw w a b).bind f) R:=
 Zb (ZmN n h h2 h3) k
theorem Zdx {a b:ByteArray} {f:ByteArray→Option β} {R:β→Prop} (h:a.size+b.size≤9223372036854775807) (k:(a++b).size=a.size+b.size→Tot (f (a++b)) R):Tot ((Zbk a b).bind f) R:=
 Zb (ZmO h) (k (by rw [ByteArray.size_append]))
theorem Zry {k:IntKind} {a b:Int} {f:Int→Option β} {R:β→Prop} (h:b≠0) (g:Tot (f (Int.tmod a b)) R):Tot ((Zt4 k a b).bind f) R:=
 Zb (by unfold Zt4;rw [if_neg h]) g
theorem Zrz {k:IntKind} {a b:Int} {f:Int→Option β} {R:β→Prop} (h:0≤b) (g:Tot (f (a.fdiv (2 ^ (min b.toNat k.bits)))) R):Tot ((Zsa k a b).bind f) R:=
 Zb (by unfold Zsa;rw [if_neg (by omega)]) g
end
end VL
end Go.Proofs.YtmgfammllddkhaaGreatDoor
namespace Go.Proofs.YtmgfammllddkhaaGreatDoor
namespace VL
theorem ZhE {p q:Prop} (k:q) (h:q→p:=by
 (intro k)
 (first
  | refine Zn rfl (by (conv=>lhs;whnf);try rfl) ?_
  | refine ZB rfl rfl rfl ?_
  | refine Zi rfl rfl ?_
  | refine Zp rfl (by (conv=>lhs;whnf);try rfl) ?_
  | refine ZT rfl rfl rfl rfl (by (conv=>lhs;whnf);try rfl) ?_
  | refine Zh2 rfl rfl rfl rfl (by (conv=>lhs;whnf);try rfl) ?_
  | refine ZaA rfl rfl ?_
  | refine Zj4 rfl rfl ?_
  | refine Zsz rfl rfl ?_
  | refine Zsy rfl rfl rfl rfl ?_
  | refine Zul rfl rfl rfl (by decide) ?_
  | refine ZgR rfl rfl ?_
  | refine ZjD rfl (by (conv=>lhs;whnf);try rfl) (by (conv=>lhs;whnf);try rfl) (by rfl) ?_
  | refine ZcV rfl rfl ?_
  | refine ZaH rfl rfl rfl (by (conv=>lhs;whnf);try rfl) (by (conv=>lhs;whnf);try rfl) (by rfl) (by rfl) (Nat.le_of_ble_eq_true rfl) (by (conv=>lhs;whnf);try rfl) ?_
  | refine Zbr rfl rfl ?_
  | refine Zae rfl rfl rfl (by rfl) (by decide) (by (conv=>lhs;whnf);try rfl) ?_
  | refine ZeI rfl rfl rfl ?_
  | refine Zrb rfl rfl ?_
  | refine ZaU rfl rfl (by (conv=>lhs;whnf);try rfl) ?_
  | refine g_field rfl rfl rfl ?_
  | refine Zc ?_
  | refine Zb9 (by kernel_rfl) ?_
  | refine Zh ?_
  | refine Za ?_
  | refine Zai ?_
  | refine ZA ?_
  | refine Zba ?_
  | refine Za1 ?_
  | refine Zx ?_
  | refine Zc1 ?_
  | refine ZqR ?_
  | refine ZQ ?_
  | refine ZgE ?_
  | refine ZqS ?_)
 (exact k)):p:=h k
instance:Ld Tryz.prog 3 false 1:=⟨by kernel_rfl⟩
instance:Kd Tryz.prog 3 .i64:=⟨by kernel_rfl⟩
instance:Ld Tryz.prog 4 false 1:=⟨by kernel_rfl⟩
instance:Ld Tryz.prog 5 false 1:=⟨by kernel_rfl⟩
instance:Kd Tryz.prog 5 .u8:=⟨by kernel_rfl⟩
instance:Ld Tryz.prog 9 false 1:=⟨by kernel_rfl⟩
instance:Ld Tryz.prog 23 false 1:=⟨by kernel_rfl⟩
instance:Sl Tryz.prog 23 42 3 32 [.int .i64 0,.int .i64 0,.str ⟨#[]⟩]:=⟨by kernel_rfl,rfl,rfl⟩
instance:Ld Tryz.prog 24 false 1:=⟨by kernel_rfl⟩
instance:Sl Tryz.prog 24 45 3 40 [.int .i64 0,.str ⟨#[]⟩,.str ⟨#[]⟩]:=⟨by kernel_rfl,rfl,rfl⟩
instance:Ze Tryz.prog 29 [.int .i64 0,.str ⟨#[]⟩]:=⟨by kernel_rfl⟩
instance:Ld Tryz.prog 29 true 2:=⟨by kernel_rfl⟩
instance:EqT Tryz.prog 29:=⟨by kernel_rfl⟩
instance:Fld Tryz.prog 29 0 0 false 1:=⟨by kernel_rfl,rfl⟩
instance:Fld Tryz.prog 29 1 1 false 1:=⟨by kernel_rfl,rfl⟩
instance:St Tryz.prog 29 [some (0,1),some (1,1)] [.int .i64 0,.str ⟨#[]⟩]:=⟨by kernel_rfl⟩
instance:Ld Tryz.prog 35 false 1:=⟨by kernel_rfl⟩
instance:Sl Tryz.prog 35 3 1 8 [.int .i64 0]:=⟨by kernel_rfl,rfl,rfl⟩
instance:Ld Tryz.prog 42 true 3:=⟨by kernel_rfl⟩
instance:EqT Tryz.prog 42:=⟨by kernel_rfl⟩
instance:Fld Tryz.prog 42 0 0 false 1:=⟨by kernel_rfl,rfl⟩
instance:Fld Tryz.prog 42 1 1 true 2:=⟨by kernel_rfl,rfl⟩
instance:St Tryz.prog 42 [some (0,1),some (1,2)] [.int .i64 0,.int .i64 0,.str ⟨#[]⟩]:=⟨by kernel_rfl⟩
instance:Ld Tryz.prog 45 true 3:=⟨by kernel_rfl⟩
instance:EqT Tryz.prog 45:=⟨by kernel_rfl⟩
instance:Fld Tryz.prog 45 0 0 true 2:=⟨by kernel_rfl,rfl⟩
instance:St Tryz.prog 45 [some (0,2),some (2,1)] [.int .i64 0,.str ⟨#[]⟩,.str ⟨#[]⟩]:=⟨by kernel_rfl⟩
instance:Sl Tryz.prog 48 9 1 16 [.str ⟨#[]⟩]:=⟨by kernel_rfl,rfl,rfl⟩
instance:Ld Tryz.prog 57 false 1:=⟨by kernel_rfl⟩
instance:Sl Tryz.prog 57 78 5 80 [.int .i64 0,.int .i64 0,.str ⟨#[]⟩,.nil,.nil]:=⟨by kernel_rfl,rfl,rfl⟩
instance:Fld Tryz.prog 62 0 0 false 1:=⟨by kernel_rfl,rfl⟩
instance:Fld Tryz.prog 62 1 1 false 1:=⟨by kernel_rfl,rfl⟩
instance:St Tryz.prog 62 [some (0,1),some (1,1)] [.nil,.nil]:=⟨by kernel_rfl⟩
instance:Ld Tryz.prog 76 false 1:=⟨by kernel_rfl⟩
instance:Sl Tryz.prog 76 111 3 56 [.bool false,.nil,.nil]:=⟨by kernel_rfl,rfl,rfl⟩
instance:Ze Tryz.prog 78 [.int .i64 0,.int .i64 0,.str ⟨#[]⟩,.nil,.nil]:=⟨by kernel_rfl⟩
instance:Ld Tryz.prog 78 true 5:=⟨by kernel_rfl⟩
instance:Fld Tryz.prog 78 0 0 false 1:=⟨by kernel_rfl,rfl⟩
instance:Fld Tryz.prog 78 1 1 false 1:=⟨by kernel_rfl,rfl⟩
instance:Fld Tryz.prog 78 2 2 false 1:=⟨by kernel_rfl,rfl⟩
instance:Fld Tryz.prog 78 3 3 false 1:=⟨by kernel_rfl,rfl⟩
instance:Fld Tryz.prog 78 4 4 false 1:=⟨by kernel_rfl,rfl⟩
instance:St Tryz.prog 78 [some (0,1),some (1,1),some (2,1),some (3,1),some (4,1)] [.int .i64 0,.int .i64 0,.str ⟨#[]⟩,.nil,.nil]:=⟨by kernel_rfl⟩
instance:Fld Tryz.prog 91 0 0 false 1:=⟨by kernel_rfl,rfl⟩
instance:Fld Tryz.prog 91 1 1 false 1:=⟨by kernel_rfl,rfl⟩
instance:St Tryz.prog 91 [some (0,1),some (1,1)] [.nil,.int .i64 0]:=⟨by kernel_rfl⟩
instance:Sl Tryz.prog 94 105 3 24 [.int .i64 0,.int .i64 0,.int .i64 0]:=⟨by kernel_rfl,rfl,rfl⟩
instance:Ld Tryz.prog 98 false 1:=⟨by kernel_rfl⟩
instance:Fld Tryz.prog 100 0 0 false 1:=⟨by kernel_rfl,rfl⟩
instance:Fld Tryz.prog 100 1 1 false 1:=⟨by kernel_rfl,rfl⟩
instance:Fld Tryz.prog 100 2 2 false 1:=⟨by kernel_rfl,rfl⟩
instance:Fld Tryz.prog 100 3 3 false 1:=⟨by kernel_rfl,rfl⟩
instance:Fld Tryz.prog 100 4 4 false 1:=⟨by kernel_rfl,rfl⟩
instance:St Tryz.prog 100 [some (0,1),some (1,1),some (2,1),some (3,1),some (4,1)] [.int .i64 0,.int .i64 0,.int .i64 0,.nil,.nil]:=⟨by kernel_rfl⟩
instance:Ld Tryz.prog 101 false 1:=⟨by kernel_rfl⟩
instance:Sl Tryz.prog 101 98 1 8 [.un]:=⟨by kernel_rfl,rfl,rfl⟩
instance:Fld Tryz.prog 103 0 0 false 1:=⟨by kernel_rfl,rfl⟩
instance:St Tryz.prog 103 [some (0,1)] [.nil]:=⟨by kernel_rfl⟩
instance:Ze Tryz.prog 105 [.int .i64 0,.int .i64 0,.int .i64 0]:=⟨by kernel_rfl⟩
instance:Ld Tryz.prog 105 true 3:=⟨by kernel_rfl⟩
instance:Fld Tryz.prog 105 0 0 false 1:=⟨by kernel_rfl,rfl⟩
instance:Fld Tryz.prog 105 1 1 false 1:=⟨by kernel_rfl,rfl⟩
instance:Fld Tryz.prog 105 2 2 false 1:=⟨by kernel_rfl,rfl⟩
instance:St Tryz.prog 105 [some (0,1),some (1,1),some (2,1)] [.int .i64 0,.int .i64 0,.int .i64 0]:=⟨by kernel_rfl⟩
instance:Ze Tryz.prog 111 [.bool false,.nil,.nil]:=⟨by kernel_rfl⟩
instance:Ld Tryz.prog 111 true 3:=⟨by kernel_rfl⟩
instance:Fld Tryz.prog 111 0 0 false 1:=⟨by kernel_rfl,rfl⟩
instance:Fld Tryz.prog 111 1 1 false 1:=⟨by kernel_rfl,rfl⟩
instance:Fld Tryz.prog 111 2 2 false 1:=⟨by kernel_rfl,rfl⟩
instance:St Tryz.prog 111 [some (0,1),some (1,1),some (2,1)] [.bool false,.nil,.nil]:=⟨by kernel_rfl⟩
instance:Kd Tryz.prog 114 .u64:=⟨by kernel_rfl⟩
instance:Sl Tryz.prog 141 5 1 1 [.int .u8 0]:=⟨by kernel_rfl,rfl,rfl⟩
instance:Ze Tryz.prog 181 [.str ⟨#[]⟩,.str ⟨#[]⟩,.str ⟨#[]⟩]:=⟨by kernel_rfl⟩
instance:Ld Tryz.prog 181 true 3:=⟨by kernel_rfl⟩
instance:Ix Tryz.prog 181 3:=⟨by kernel_rfl⟩
instance:Az Tryz.prog 181 1 [.str ⟨#[]⟩,.str ⟨#[]⟩,.str ⟨#[]⟩]:=⟨by kernel_rfl,by kernel_rfl⟩
instance:WInv Tryz.prog:=⟨fun W=>(∃ m,W.cell? ⟨0,0,none⟩=some (.int .i64 m))∧True⟩
theorem mix:Tryz.prog.follows .mixedOrders=true:=by kernel_rfl
end VL
end Go.Proofs.YtmgfammllddkhaaGreatDoor

namespace Go.Proofs.YtmgfammllddkhaaGreatDoor
open VL
def Title.cs (x:Title):List PV:=[.int .i64 x.space,.str x.name]
def Title.pv (x:Title):PV:=.agg x.cs
end Go.Proofs.YtmgfammllddkhaaGreatDoor
namespace Go.Proofs.YtmgfammllddkhaaGreatDoor
open VL Go.RowKit
theorem args2 {x:Ctx} {p q:PV} {vs:Array Value} (h:Pre x [p,q] none vs):∃ v w,vs = #[v,w]∧Rep x p v∧Rep x q w:=by
 have hs:vs.size=2:=h.size.symm
 refine ⟨vs[0],vs[1],?_,h.rep 0 p _ rfl (Array.getElem?_eq_getElem (by omega)),h.rep 1 q _ rfl (Array.getElem?_eq_getElem (by omega))⟩
 apply Array.ext
 ·exact hs
 ·intro i h1 h2
  match i,(show i<2 by omega) with
  | 0,_=>rfl
  | 1,_=>rfl
theorem Ztm {x:Ctx} {s:ByteArray} {v:Value} (h:Rep x (.str s) v):v = .string s:=by cases h;rfl
end Go.Proofs.YtmgfammllddkhaaGreatDoor
