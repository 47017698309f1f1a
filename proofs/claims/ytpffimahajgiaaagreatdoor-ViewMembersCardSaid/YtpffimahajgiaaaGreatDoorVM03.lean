/- Arrays and pointers that only look. No program is named. | A guard whose test is not known: both ways. No program is named. | Functions as Lean functions: the words in which they are written, and the rules that hold a body against them. No program is named. | More rules for functions as Lean functions: rows under another key, rows made public, tests on bools, bits. No program is named. | The plain side of functions as Lean functions: lemmas to reckon them. No program is named. | A variable of the package is read; and what it is that a function as a Lean function returns something. No program is named. | One step of a run, whichever it is. No program is named. | What the rules ask of the types. Printed by facts.sh. | The types of the wiki, and how their values lie in cells. No program is named. Written by types.py. | How the data of the wiki are written as values. No program is named. Written by mkpv.py. | Arguments two by two. -/
import Derived.Test.YtpffimahajgiaaaGreatDoorVM02
import Derived.Test.YtpffimahajgiaaaGreatDoorRows
import Derived.Test.YtpffimahajgiaaaGreatDoorVM01
namespace Go.Proofs.YtpffimahajgiaaaGreatDoor
namespace VL
open Go.RowKit
section
variable {P:Program} [WInv P] {ops:Array Oper} {draw:Bool} {i:Nat} {L:List Oper} {acc:List (List Nat×List Nat)} {K:FS->Prop} {tm:List (Nat×PV)} {ob:List (Nat×Option (Gen×VObj))} {ng:Nat}
 {d:Option Tmp} {ty T T':TypeId} {pos:String} {after:Array Edge} {gd:Option (Nat×Bool)} {x y:Operand}
theorem ZtO (hw:Zf ops (mkS tm ob ng) ⟨d,.nilCheck x,ty,pos,after,gd⟩=some true) {cs:List PV} (hv:evL tm x = .cel cs)
  (k:GoL P ops draw (i+1) L (acc ++ [(ZA (mkS tm ob ng) ⟨d,.nilCheck x,ty,pos,after,gd⟩,[])]) (mkS (ZaW d (.cel cs) tm) ob ng) K):GoL P ops draw i (⟨d,.nilCheck x,ty,pos,after,gd⟩::L) acc (mkS tm ob ng) K:=
 ZbZ (us:=[]) hw (.fn (by simp only [act,ZR,hv])) k
theorem Zns {len kk:Nat} [h:Ar P T len kk] (hw:Zf ops (mkS tm ob ng) ⟨d,.indexAddr T x y,ty,pos,after,gd⟩=some true) {cs:List PV} {kd:IntKind} {n:Nat} (hx:evL tm x = .cel cs) (hy:evL tm y = .int kd (n:Int)) (hn:n<len)
  (k:GoL P ops draw (i+1) L (acc ++ [(ZA (mkS tm ob ng) ⟨d,.indexAddr T x y,ty,pos,after,gd⟩,[])]) (mkS (ZaW d (.cel (cs.drop (n * kk))) tm) ob ng) K):GoL P ops draw i (⟨d,.indexAddr T x y,ty,pos,after,gd⟩::L) acc (mkS tm ob ng) K:=by{
refine ZbZ (us:=[]) hw (.fn ?_) k
have:=h.eq
unfold arI at this
split at this
rename_i len' E' s b zz ht
cases hte:tyI P E' with
| none=>rw [hte] at this;cases this
| some te=>
  rw [hte] at this
  simp only [Option.map_some,Option.some.injEq,Prod.mk.injEq] at this
  obtain ⟨rfl,h2⟩:=this
  simp only [act,ht,ZR,hx,hy,Zcn,hte,if_pos hn,h2]
cases this}
end
theorem ZhO {cs xs:List PV} (h:cs.length=xs.length):Zas cs 0 xs=xs:=by
 unfold Zas
 rw [List.take_zero,List.nil_append,Nat.zero_add,<- h,List.drop_length,List.append_nil]
theorem Zmk (f:Nat->Option (Gen×VObj)):∀ (l:List Bool),Zgx (Zn6 f) (l.map PV.bool)=some (l.map PV.bool)
 | []=>rfl
 | b::l=>by
   have:=Zmk f l
   simp only [List.map_cons,Zgx,Zn6,this]
end VL
end Go.Proofs.YtpffimahajgiaaaGreatDoor

namespace Go.Proofs.YtpffimahajgiaaaGreatDoor
namespace VL
open Go.RowKit
def Zcp:Nat:=4611686018427387904
def atI {α:Type} (l:List α) (i:Int):Option α:=if 0<=i then l[i.toNat]? else none
def atS (s:ByteArray) (i:Int):Option Int:=if 0<=i then (s[i.toNat]?).map fun c=>(c.toNat:Int) else none
def Zkf {α:Type} (l:List α) (lo hi:Int):Option (List α):=if 0<=lo/\lo<=hi/\hi<=(l.length:Int) then some ((l.drop lo.toNat).take (hi.toNat-lo.toNat)) else none
def ZfI (s:ByteArray) (lo hi:Int):Option ByteArray:=if 0<=lo/\lo<=hi/\hi<=(s.size:Int) then some (s.extract lo.toNat hi.toNat) else none
def ZeI {α:Type} (w:Nat) (a b:List α):Option (List α):=if (a.length+b.length) * w<=140737488355328/\a.length+b.length<=9223372036854775807 then some (a++b) else none
def Zbs (a b:ByteArray):Option ByteArray:=if a.size+b.size<=9223372036854775807 then some (a++b) else none
def Zfo {α:Type} (l:List α) (i:Int) (x:α):List α:=l.set i.toNat x
def ZwJ (k:IntKind) (a b:Int):Option Int:=if b=0 then none else some (k.wrap (Int.tdiv a b))
def ZvX (_:IntKind) (a b:Int):Option Int:=if b=0 then none else some (Int.tmod a b)
def ltS (a b:ByteArray):Bool:=Op.bytesLess a.toList b.toList
abbrev w64 (n:Int):Int:=IntKind.wrap .i64 n
abbrev csS (y:ByteArray):List PV:=[.str y]
abbrev csI (y:Int):List PV:=[.int .i64 y]
abbrev csB (y:Int):List PV:=[.int .u8 y]
def letk {γ β:Type} (k:γ) (f:γ->Option β):Option β:=f k
def ZaF {α β:Type}:Nat->((α->Option β)->α->Option β)->α->Option β | 0,_,_=>none | n+1,f,a=>f (ZaF n f) a
theorem bnd {α β:Type} {x:Option α} {f:α->Option β} {r:β} (h:x.bind f=some r):∃ v,x=some v/\f v=some r:=by
 cases x with
 | none=>cases h
 | some v=>exact ⟨v,rfl,h⟩
theorem ifT {β:Type} {b:Bool} {x y:Option β} {r:β} (hb:b=true) (h:(if b=true then x else y)=some r):x=some r:=by rw [if_pos hb] at h;exact h
theorem ifF {β:Type} {b:Bool} {x y:Option β} {r:β} (hb:b=false) (h:(if b=true then x else y)=some r):y=some r:=by rw [if_neg (by rw [hb];simp)] at h;exact h
theorem ZbG {γ β:Type} {k:γ} {f:γ->Option β} {r:β} {p:Prop} (h:letk k f=some r) (g:∀ q,q=k->f q=some r->p):p:=g k rfl h
theorem ZB {α β:Type} {n:Nat} {f:(α->Option β)->α->Option β} {a:α} {r:β} {p:Prop} (h:ZaF n f a=some r) (g:∀ q m,q=f->ZaF m q a=some r->p):p:=g f n rfl h
theorem ZC {α β:Type} {n:Nat} {f q:(α->Option β)->α->Option β} {a:α} {r:β} (e:q=f) (h:ZaF n q a=some r):∃ m,n=m+1/\f (ZaF m q) a=some r:=by
 cases n with
 | zero=>cases h
 | succ m=>exact ⟨m,rfl,by rw [<- e];exact h⟩
theorem ZsM {α β:Type} {f:(α->Option β)->α->Option β} (J:α->Prop) (m:α->Nat) (spec:α->β) (h:∀ a rec,J a->(∀ a',J a'->m a'<m a->rec a'=some (spec a'))->f rec a=some (spec a)):∀ (n:Nat) (a:α),J a->m a<n->ZaF n f a=some (spec a)
 | 0,_,_,hm=>absurd hm (Nat.not_lt_zero _)
 | n+1,a,ha,hm=>h a _ ha fun a' ha' hm'=>ZsM J m spec h n a' ha' (by omega)
theorem ZqB {α β:Type} {f:(α->Option β)->α->Option β} (J:α->Prop) (m:α->Nat) (R:β->Prop) (h:∀ a rec,J a->(∀ a',J a'->m a'<m a->∃ b,rec a'=some b/\R b)->∃ b,f rec a=some b/\R b):∀ (n:Nat) (a:α),J a->m a<n->∃ b,ZaF n f a=some b/\R b
 | 0,_,_,hm=>absurd hm (Nat.not_lt_zero _)
 | n+1,a,ha,hm=>h a _ ha fun a' ha' hm'=>ZqB J m R h n a' ha' (by omega)
theorem ZhY {α:Type} {l:List α} {i:Int} {e:α} (h:atI l i=some e):0<=i/\l[i.toNat]? = some e:=by{
unfold atI at h
split at h
exact ⟨by assumption,h⟩
cases h}
theorem ZuT {α:Type} (l:List α) (n:Nat):atI l (n:Int)=l[n]?:=by
 unfold atI
 rw [if_pos (by omega)]
 rfl
theorem Zll {α β:Type} {f:α->β} {l:List α} {n:Nat} {e:α} (h:l[n]? = some e):(l.map f)[n]? = some (f e):=by rw [List.getElem?_map,h];rfl
theorem ZcO {α:Type} {w:Nat} {a b c:List α} (h:ZeI w a b=some c):(a.length+b.length) * w<=140737488355328/\a.length+b.length<=9223372036854775807/\c=a++b:=by{
unfold ZeI at h
split at h
injection h with h
rename_i q
exact ⟨q.1,q.2,h.symm⟩
cases h}
theorem Zou {α:Type} {l m:List α} {lo hi:Int} (h:Zkf l lo hi=some m):0<=lo/\lo<=hi/\hi<=(l.length:Int)/\m=(l.drop lo.toNat).take (hi.toNat-lo.toNat):=by{
unfold Zkf at h
split at h
injection h with h
rename_i q
exact ⟨q.1,q.2.1,q.2.2,h.symm⟩
cases h}
theorem ZsN {l m:ByteArray} {lo hi:Int} (h:ZfI l lo hi=some m):0<=lo/\lo<=hi/\hi<=(l.size:Int)/\l.extract lo.toNat hi.toNat=m:=by{
unfold ZfI at h
split at h
injection h with h
rename_i q
exact ⟨q.1,q.2.1,q.2.2,h⟩
cases h}
theorem ZnD {α:Type} {f:α->List PV} {kk:Nat} (hf:∀ x,(f x).length=kk) (l:List α):((l.map f).all fun e=>e.length == kk)=true:=by simp [hf]
def loI (tm:List (Nat×PV)):Option Operand->Option Int
 | none=>some 0
 | some e=>match evL tm e with
   | .int _ n=>some n
   | _=>none
def hiI (tm:List (Nat×PV)) (n:Nat):Option Operand->Option Int
 | none=>some n
 | some e=>match evL tm e with
   | .int _ n=>some n
   | _=>none
theorem ZvY {tm:List (Nat×PV)} {lo:Option Operand} {l:Int} (h:loI tm lo=some l) (h0:0<=l):loV tm lo=some l.toNat:=by{
cases lo with
| none=>injection h with h;subst h;rfl
| some e=>
  simp only [loI] at h
  simp only [loV]
  split at h
  rename_i he
  injection h with h
  subst h
  rw [he]
  simp [toNat?,h0]
  cases h}
theorem ZvZ {tm:List (Nat×PV)} {hi:Option Operand} {n:Nat} {l:Int} (h:hiI tm n hi=some l) (h0:0<=l):hiV tm n hi=some l.toNat:=by{
cases hi with
| none=>injection h with h;subst h;rfl
| some e=>
  simp only [hiI] at h
  simp only [hiV]
  split at h
  rename_i he
  injection h with h
  subst h
  rw [he]
  simp [toNat?,h0]
  cases h}
section
variable {P:Program} [WInv P] {ops:Array Oper} {draw:Bool} {i:Nat} {L:List Oper} {acc:List (List Nat×List Nat)} {K:FS->Prop} {tm:List (Nat×PV)} {ob:List (Nat×Option (Gen×VObj))} {ng:Nat}
 {d:Option Tmp} {ty T T':TypeId} {pos:String} {after:Array Edge} {gd:Option (Nat×Bool)} {x y:Operand} {α:Type} {f:α->List PV}
theorem Zv0 (t:Nat) {b:Bool} (hx:look tm t = .bool b) (h1:b=true->GoL P ops draw i L acc (mkS ((t,.bool true)::tm) ob ng) K) (h2:b=false->GoL P ops draw i L acc (mkS ((t,.bool false)::tm) ob ng) K):GoL P ops draw i L acc (mkS tm ob ng) K:=by{
have e:mkS ((t,.bool b)::tm) ob ng=mkS tm ob ng:=by
 unfold mkS
 congr 1
 funext t'
 show (if t'=t then PV.bool b else look tm t')=look tm t'
 split
 rename_i h;rw [h,hx]
 rfl
rw [<- e]
cases b
exact h2 rfl
exact h1 rfl}
theorem Zv1 {E kk by_:Nat} {z:List PV} [Sl P T E kk by_ z] (hw:Zf ops (mkS tm ob ng) ⟨d,.call ⟨.builtin .len,#[x],#[T]⟩,ty,pos,after,gd⟩=some true) {M:List α} (hx:ZhI (Zm ob) (evL tm x)=some (M.map f))
  (k:GoL P ops draw (i+1) L (acc ++ [(ZA (mkS tm ob ng) ⟨d,.call ⟨.builtin .len,#[x],#[T]⟩,ty,pos,after,gd⟩,[])]) (mkS (ZaW d (.int .i64 (M.length:Int)) tm) ob ng) K):GoL P ops draw i (⟨d,.call ⟨.builtin .len,#[x],#[T]⟩,ty,pos,after,gd⟩::L) acc (mkS tm ob ng) K:=by{
refine ZhB (n:=M.length) hw ?_ k
cases hp:evL tm x<;>rw [hp] at hx<;>simp only [ZhI] at hx<;>try (cases hx;done)
injection hx with hx;simp only [Zr8,hx,List.length_map]
injection hx with hx
have:M.length=0:=by rw [<- List.length_map (f:=f),<- hx];rfl
simp only [Zr8,this]
simp only [Zr8]
split at hx
rename_i ho
injection hx with hx
rw [hx,List.length_map]
cases hx}
theorem ZsO {E kk by_:Nat} {z:List PV} [Sl P T E kk by_ z] (hw:Zf ops (mkS tm ob ng) ⟨d,.indexAddr T x y,ty,pos,after,gd⟩=some true) {M:List α} {e:α} {kd:IntKind} {q:Int} (he:atI M q=some e) (hx:evL tm x = .sl (M.map f)) (hy:evL tm y = .int kd q) (hl:(f e).length=kk)
  (k:GoL P ops draw (i+1) L (acc ++ [(ZA (mkS tm ob ng) ⟨d,.indexAddr T x y,ty,pos,after,gd⟩,[])]) (mkS (ZaW d (.cel (f e)) tm) ob ng) K):GoL P ops draw i (⟨d,.indexAddr T x y,ty,pos,after,gd⟩::L) acc (mkS tm ob ng) K:=by
 obtain ⟨h0,h1⟩:=ZhY he
 exact Zd9 (n:=q.toNat) hw hx (by rw [hy];congr 1;omega) (Zll h1) hl k
theorem Zaa {E kk by_:Nat} {z:List PV} [Sl P T E kk by_ z] (hw:Zf ops (mkS tm ob ng) ⟨d,.indexAddr T x y,ty,pos,after,gd⟩=some true) {M:List α} {e:α} {kd:IntKind} {q:Int} {t:Nat} {g:Gen} {E':Nat} {sh:Bool} (he:atI M q=some e) (hx:evL tm x = .row t g) (hb:ZX (Zm ob) t g=some (.row E' kk sh (M.map f))) (hy:evL tm y = .int kd q)
  (k:GoL P ops draw (i+1) L (acc ++ [(ZA (mkS tm ob ng) ⟨d,.indexAddr T x y,ty,pos,after,gd⟩,[])]) (mkS (ZaW d (.elp t g q.toNat kk 0) tm) ob ng) K):GoL P ops draw i (⟨d,.indexAddr T x y,ty,pos,after,gd⟩::L) acc (mkS tm ob ng) K:=by
 obtain ⟨h0,h1⟩:=ZhY he
 exact Zaz (n:=q.toNat) hw hx hb (by rw [hy];congr 1;omega) (by rw [List.length_map];exact (List.getElem?_eq_some_iff.1 h1).1) k
theorem ZaJ {agg:Bool} {n:Nat} [h:Ld P T agg n] (hw:Zf ops (mkS tm ob ng) ⟨d,.load T x,ty,pos,after,gd⟩=some true) {M:List α} {e:α} {q:Int} {t:Nat} {g:Gen} {E kk off:Nat} {sh:Bool} {v:PV} (he:atI M q=some e) (hx:evL tm x = .elp t g q.toNat kk off) (hb:ZX (Zm ob) t g=some (.row E kk sh (M.map f))) (hv:Zne agg n ((f e).drop off)=some v)
  (k:GoL P ops draw (i+1) L (acc ++ [(ZA (mkS tm ob ng) ⟨d,.load T x,ty,pos,after,gd⟩,[])]) (mkS (ZaW d v tm) ob ng) K):GoL P ops draw i (⟨d,.load T x,ty,pos,after,gd⟩::L) acc (mkS tm ob ng) K:=by{
obtain ⟨h0,h1⟩:=ZhY he
refine ZH (cs:=(f e).drop off) hw ?_ hv k
rw [hx]
simp only [ZeZ,hb,if_true,Zll h1,Option.map_some]}
theorem Zcx {agg:Bool} {n:Nat} [Ld P T agg n] (hw:Zf ops (mkS tm ob ng) ⟨d,.store T x y,ty,pos,after,gd⟩=some true) {M:List α} {e e':α} {q:Int} {t:Nat} {g:Gen} {E kk off:Nat} {p:PV} {ps qs:List PV} {us:List (Nat×Option (Gen×VObj))} (he:atI M q=some e) (hx:evL tm x = .elp t g q.toNat kk off)
  (hb:ZX (Zm ob) t g=some (.row E kk false (M.map f))) (hy:evL tm y=p) (hps:p.cells=ps) (hl:ps.length=n) (hr:ZdJ (Zm ob) ps=some (qs,us)) (hf:off+n<=kk) (hus:us.all (fun q=>q.1 != t)=true) (hs:Zas (f e) off qs=f e')
  (k:GoL P ops draw (i+1) L (acc ++ [(ZA (mkS tm ob ng) ⟨d,.store T x y,ty,pos,after,gd⟩,us.map (·.1) ++ [t])]) (mkS (ZaW d .un tm) ((t,some (g,VObj.row E kk false ((Zfo M q e').map f)))::(us.reverse++ob)) ng) K) :
  GoL P ops draw i (⟨d,.store T x y,ty,pos,after,gd⟩::L) acc (mkS tm ob ng) K:=by{
obtain ⟨h0,h1⟩:=ZhY he
refine Zkb hw hx hb (Zll h1) hy hps hl hr hf hus ?_
rw [hs,show (M.map f).set q.toNat (f e')=(Zfo M q e').map f from (List.map_set ..).symm]
simpa using k}
theorem ZsP {E kk by_:Nat} {z:List PV} [Sl P T E kk by_ z] {lo hi:Option Operand} (hw:Zf ops (mkS tm ob ng) ⟨d,.slice T x lo hi none,ty,pos,after,gd⟩=some true) {M R:List α} {l h:Int} {us:List (Nat×Option (Gen×VObj))} (hs:Zkf M l h=some R) (hf:∀ x,(f x).length=kk)
  (hx:ZhI (Zm ob) (evL tm x)=some (M.map f)) (hlo:loI tm lo=some l) (hhi:hiI tm M.length hi=some h) (hus:Zr9 (Zm ob) (evL tm x)=us)
  (k:GoL P ops draw (i+1) L (acc ++ [(ZA (mkS tm ob ng) ⟨d,.slice T x lo hi none,ty,pos,after,gd⟩,us.map (·.1))]) (mkS (ZaW d (.sl (R.map f)) tm) (us.reverse++ob) ng) K):GoL P ops draw i (⟨d,.slice T x lo hi none,ty,pos,after,gd⟩::L) acc (mkS tm ob ng) K:=by
 obtain ⟨h0,h1,h2,rfl⟩:=Zou hs
 refine Zvq (l:=l.toNat) (h:=h.toNat) hw hx (ZvY hlo h0) (by rw [List.length_map];exact ZvZ hhi (by omega)) (by omega) (by rw [List.length_map];omega) (ZnD hf M) hus ?_ k
 rw [List.map_take,List.map_drop]
theorem Zmz (hT:P.underlying T=some .string) {lo hi:Option Operand} (hw:Zf ops (mkS tm ob ng) ⟨d,.slice T x lo hi none,ty,pos,after,gd⟩=some true) {a b:ByteArray} {l h:Int} (hs:ZfI a l h=some b) (hx:evL tm x = .str a) (hlo:loI tm lo=some l) (hhi:hiI tm a.size hi=some h)
  (k:GoL P ops draw (i+1) L (acc ++ [(ZA (mkS tm ob ng) ⟨d,.slice T x lo hi none,ty,pos,after,gd⟩,[])]) (mkS (ZaW d (.str b) tm) ob ng) K):GoL P ops draw i (⟨d,.slice T x lo hi none,ty,pos,after,gd⟩::L) acc (mkS tm ob ng) K:=by
 obtain ⟨h0,h1,h2,h3⟩:=ZsN hs
 exact ZlE hT hw hx (ZvY hlo h0) (ZvZ hhi (by omega)) (by omega) (by omega) h3 k
theorem ZqC (hT:P.underlying T=some .string) (hw:Zf ops (mkS tm ob ng) ⟨d,.index T x y,ty,pos,after,gd⟩=some true) {a:ByteArray} {kd:IntKind} {q c:Int} (hn:atS a q=some c) (hx:evL tm x = .str a) (hy:evL tm y = .int kd q)
  (k:GoL P ops draw (i+1) L (acc ++ [(ZA (mkS tm ob ng) ⟨d,.index T x y,ty,pos,after,gd⟩,[])]) (mkS (ZaW d (.int .u8 c) tm) ob ng) K):GoL P ops draw i (⟨d,.index T x y,ty,pos,after,gd⟩::L) acc (mkS tm ob ng) K:=by{
unfold atS at hn
split at hn
cases hc:a[q.toNat]? with
| none=>rw [hc] at hn;cases hn
| some b=>
  rw [hc] at hn
  injection hn with hn
  subst hn
  exact ZlD hT hw hx (n:=q.toNat) (by rw [hy];congr 1;omega) hc k
cases hn}
theorem Zov (hw:Zf ops (mkS tm ob ng) ⟨d,.binOp .add T x y T',ty,pos,after,gd⟩=some true) {a b c:ByteArray} (hs:Zbs a b=some c) (hx:evL tm x = .str a) (hy:evL tm y = .str b)
  (kk:GoL P ops draw (i+1) L (acc ++ [(ZA (mkS tm ob ng) ⟨d,.binOp .add T x y T',ty,pos,after,gd⟩,[])]) (mkS (ZaW d (.str c) tm) ob ng) K):GoL P ops draw i (⟨d,.binOp .add T x y T',ty,pos,after,gd⟩::L) acc (mkS tm ob ng) K:=by{
unfold Zbs at hs
split at hs
injection hs with hs
subst hs
exact ZwO hw hx hy (by assumption) kk
cases hs}
theorem ZkQ {dd:Nat} {E kk by_:Nat} {z:List PV} [Sl P T E kk by_ z] (hw:Zf ops (mkS tm ob ng) ⟨some dd,.call ⟨.builtin .append,#[x,y],#[T,T]⟩,ty,pos,after,gd⟩=some true) {M R:List α} (hs:ZeI by_ [] M=some R) (hf:∀ x,(f x).length=kk) {new:List (List PV)} (hx:evL tm x = .nil) (hy:ZhI (Zm ob) (evL tm y)=some new) (hm:new=M.map f)
  (k:GoL P ops draw (i+1) L (acc ++ [(ZA (mkS tm ob ng) ⟨some dd,.call ⟨.builtin .append,#[x,y],#[T,T]⟩,ty,pos,after,gd⟩,[dd])]) (mkS ((dd,.row dd (ng,i))::tm) ((dd,some ((ng,i),.row E kk false (R.map f)))::ob) ng) K) :
  GoL P ops draw i (⟨some dd,.call ⟨.builtin .append,#[x,y],#[T,T]⟩,ty,pos,after,gd⟩::L) acc (mkS tm ob ng) K:=by
 subst hm
 obtain ⟨h1,h2,rfl⟩:=ZcO hs
 exact Zng hw hx hy (by simpa using h1) (by simpa using h2) (ZnD hf _) k
theorem Zv2 {dd:Nat} {E kk by_:Nat} {z:List PV} [Sl P T E kk by_ z] (hw:Zf ops (mkS tm ob ng) ⟨some dd,.call ⟨.builtin .append,#[x,y],#[T,T]⟩,ty,pos,after,gd⟩=some true) {M0 M R:List α} (hs:ZeI by_ M0 M=some R) (hf:∀ x,(f x).length=kk) {t:Nat} {g:Gen} {sh:Bool} {new:List (List PV)} (hx:evL tm x = .row t g) (ho:ZX (Zm ob) t g=some (.row E kk sh (M0.map f))) (hy:ZhI (Zm ob) (evL tm y)=some new) (hm:new=M.map f)
  (k:GoL P ops draw (i+1) L (acc ++ [(ZA (mkS tm ob ng) ⟨some dd,.call ⟨.builtin .append,#[x,y],#[T,T]⟩,ty,pos,after,gd⟩,[t])]) (mkS ((dd,.row t (ng,i))::tm) ((t,some ((ng,i),.row E kk sh (R.map f)))::ob) ng) K) :
  GoL P ops draw i (⟨some dd,.call ⟨.builtin .append,#[x,y],#[T,T]⟩,ty,pos,after,gd⟩::L) acc (mkS tm ob ng) K:=by
 subst hm
 obtain ⟨h1,h2,rfl⟩:=ZcO hs
 exact Zbj hw hx ho hy (by simpa using h1) (by simpa using h2) (ZnD hf M) (by rw [<- List.map_append];exact k)
theorem ZuU {len:Nat} [h:Ix P T len] (hw:Zf ops (mkS tm ob ng) ⟨d,.index T x y,ty,pos,after,gd⟩=some true) {p:α->PV} {M:List α} {e:α} {cs:List PV} {vs:List Value} {kd:IntKind} {q:Int} (he:atI M q=some e)
  (hx:evL tm x = .agg cs) (hm:cs=M.map p) (hps:Zbz cs=some vs) (hy:evL tm y = .int kd q) (hl:cs.length=len)
  (k:GoL P ops draw (i+1) L (acc ++ [(ZA (mkS tm ob ng) ⟨d,.index T x y,ty,pos,after,gd⟩,[])]) (mkS (ZaW d (p e) tm) ob ng) K):GoL P ops draw i (⟨d,.index T x y,ty,pos,after,gd⟩::L) acc (mkS tm ob ng) K:=by
 obtain ⟨h0,h1⟩:=ZhY he
 exact Zw7 (n:=q.toNat) hw hx hps (by rw [hy];congr 1;omega) hl (by rw [hm];exact Zll h1) k
theorem Zv3 (hw:Zf ops (mkS tm ob ng) ⟨d,.binOp .rem T x y T',ty,pos,after,gd⟩=some true) {k:IntKind} {a b c:Int} (hs:ZvX k a b=some c) (hx:evL tm x = .int k a) (hy:evL tm y = .int k b)
  (kk:GoL P ops draw (i+1) L (acc ++ [(ZA (mkS tm ob ng) ⟨d,.binOp .rem T x y T',ty,pos,after,gd⟩,[])]) (mkS (ZaW d (.int k c) tm) ob ng) K):GoL P ops draw i (⟨d,.binOp .rem T x y T',ty,pos,after,gd⟩::L) acc (mkS tm ob ng) K:=by{
unfold ZvX at hs
split at hs
cases hs
injection hs with hs
subst hs
exact ZwU hw hx hy (by assumption) kk}
theorem Zv4 (hw:Zf ops (mkS tm ob ng) ⟨d,.binOp .quo T x y T',ty,pos,after,gd⟩=some true) {k:IntKind} {a b c:Int} (hs:ZwJ k a b=some c) (hx:evL tm x = .int k a) (hy:evL tm y = .int k b)
  (kk:GoL P ops draw (i+1) L (acc ++ [(ZA (mkS tm ob ng) ⟨d,.binOp .quo T x y T',ty,pos,after,gd⟩,[])]) (mkS (ZaW d (.int k c) tm) ob ng) K):GoL P ops draw i (⟨d,.binOp .quo T x y T',ty,pos,after,gd⟩::L) acc (mkS tm ob ng) K:=by{
unfold ZwJ at hs
split at hs
cases hs
injection hs with hs
subst hs
exact ZwV hw hx hy (by assumption) kk}
end
section
variable {P:Program} [WInv P] {α:Type} {St:α->Nat->FS} {J:α->Prop} {Q:Ex->FS->Prop} {s:FS} {id:Nat}
theorem Zv5 (h:Q .ret s):ZqQ St J Q .ret s:=h
end
class StrT (P:Program) (T:TypeId):Prop where
 eq:P.underlying T=some .string
section
variable {P:Program} [WInv P] {ops:Array Oper} {draw:Bool} {i:Nat} {L:List Oper} {acc:List (List Nat×List Nat)} {K:FS->Prop} {tm:List (Nat×PV)} {ob:List (Nat×Option (Gen×VObj))} {ng:Nat}
 {d:Option Tmp} {ty T T':TypeId} {pos:String} {after:Array Edge} {gd:Option (Nat×Bool)} {x y:Operand} {α:Type} {f:α->List PV}
theorem Zv6 [h:StrT P T] (hw:Zf ops (mkS tm ob ng) ⟨d,.call ⟨.builtin .len,#[x],#[T]⟩,ty,pos,after,gd⟩=some true) {a:ByteArray} (hx:evL tm x = .str a)
  (k:GoL P ops draw (i+1) L (acc ++ [(ZA (mkS tm ob ng) ⟨d,.call ⟨.builtin .len,#[x],#[T]⟩,ty,pos,after,gd⟩,[])]) (mkS (ZaW d (.int .i64 (a.size:Int)) tm) ob ng) K):GoL P ops draw i (⟨d,.call ⟨.builtin .len,#[x],#[T]⟩,ty,pos,after,gd⟩::L) acc (mkS tm ob ng) K:=Zf3 h.eq hw hx k
theorem ZbS {dd:Nat} {E kk by_:Nat} {z:List PV} [Sl P T E kk by_ z] {n:Nat} {parts:Array (Nat×Operand)} (M:List α) (hw:Zf ops (mkS tm ob ng) ⟨some dd,.buildSlice T n parts,ty,pos,after,gd⟩=some true) {cs qs:List PV} {us:List (Nat×Option (Gen×VObj))}
  (hf:Zdw (fun i=>some (i * kk,kk)) (List.replicate n z).flatten (evs tm parts.toList)=some cs) (hr:ZdJ (Zm ob) cs=some (qs,us)) (hl:qs.length=n * kk) (hm:n * kk<=16777216) (hc:chunks kk n qs=M.map f)
  (k:GoL P ops draw (i+1) L (acc ++ [(ZA (mkS tm ob ng) ⟨some dd,.buildSlice T n parts,ty,pos,after,gd⟩,us.map (·.1) ++ [dd])]) (mkS ((dd,.row dd (ng,i))::tm) ((dd,some ((ng,i),.row E kk false (M.map f)))::(us.reverse++ob)) ng) K) :
  GoL P ops draw i (⟨some dd,.buildSlice T n parts,ty,pos,after,gd⟩::L) acc (mkS tm ob ng) K:=
 Zam hw hf hr hl hm hc (by simpa using k)
end
theorem Zn {p q:Prop} (k:q) (h:q->p:=by
 (intro k)
 (repeat (first
  | refine ZH rfl rfl rfl ?_
  | refine Zq rfl (by (conv=>lhs;whnf);try rfl) ?_
  | refine Zr rfl (by (conv=>lhs;whnf);try rfl) ?_
  | refine Zl rfl rfl ?_
  | refine Zae rfl rfl rfl rfl (by (conv=>lhs;whnf);try rfl) ?_
  | refine ZiM rfl rfl rfl rfl (by (conv=>lhs;whnf);try rfl) ?_
  | refine Zfi rfl rfl rfl ?_
  | refine ZaN rfl rfl rfl (by (conv=>lhs;whnf);try rfl) (by (conv=>lhs;whnf);try rfl) (by rfl) (by rfl) (Nat.le_of_ble_eq_true rfl) (by (conv=>lhs;whnf);try rfl) ?_
  | refine Zby rfl rfl ?_
  | refine Zv6 rfl rfl ?_
  | refine Zte rfl rfl ?_
  | refine Za3 rfl rfl (by (conv=>lhs;whnf);try rfl) ?_
  | refine g_field rfl rfl rfl ?_
  | refine ZkC rfl (by (conv=>lhs;whnf);try rfl) (by (conv=>lhs;whnf);try rfl) (by rfl) ?_
  | refine Zdp rfl rfl ?_
  | refine ZaK rfl rfl ?_
  | refine ZtO rfl rfl ?_
  | refine Zle rfl rfl ?_
  | refine Zua rfl rfl ?_
  | refine Zt9 rfl rfl rfl rfl ?_
  | refine Zd ?_
  | refine Zco (by kernel_rfl) ?_
  | refine Zk ?_
  | refine ZF ?_
  | refine Zbi ?_
  | refine Za8 ?_
  | refine ZD ?_
  | refine Zde ?_
  | refine Zac ?_
  | refine Zrc ?_
  | refine bk_other rfl ?_
  | refine ZgZ ?_
  | refine Zrd ?_
  | refine jk_exit ?_
  | refine Zv5 ?_
  | refine pws_label ?_))
 (exact k)):p:=h k
theorem Zpc {P:Program} [WInv P] {β:Type} {F:Option β} {R:β->PV} {f:FuncId} {fn:Func} {c:Code} {args:List PV} {r:β} (hF:F=some r) (hmix:P.follows .mixedOrders=true) (hf:P.funcs[f]? = some fn) (hg:isGo P f=true) (hb:fn.body=some c) (hok:(decide (args.length<=fn.ntmps)&&ZaU fn.ntmps c)=true)
  (h:∀ r,F=some r->PWs P [c] (ZvC P fn.results.toList (R r)) (mkS (Zdg 0 args) [] 1)):Zg P f args (R r):=ZbM hmix hf hg hb hok (h r hF)
end VL
end Go.Proofs.YtpffimahajgiaaaGreatDoor
namespace Go.Proofs.YtpffimahajgiaaaGreatDoor
namespace VL
open Go.RowKit
section
variable {tm:List (Nat×PV)} {ob:List (Nat×Option (Gen×VObj))} {ng:Nat}
theorem Zq5 (t:Nat) {g:Gen} {E k:Nat} {els:List (List PV)} (h1:Zm ob t=some (g,.row E k false els)):Shift (mkS tm ob ng) (mkS tm ((t,some (g,.row E k true els))::ob) ng):=fun r a x hX=>by
 refine ⟨x,rfl,hX.defers,hX.size,hX.gr,hX.gens,hX.tm,fun t' g' o' ho=>?_,fun t1 t2 g1 g2 o1 o2 b hne k1 k2 hb=>?_,hX.flt,hX.f0,hX.fnew,hX.rho,hX.inv,hX.keep⟩
 ·change (if t'=t then some (g,VObj.row E k true els) else Zm ob t')=some (g',o') at ho
  split at ho
  ·injection ho with ho
   injection ho with e1 e2
   subst e1 e2
   obtain ⟨hG,p1,p2,vs,p3,p4,p5⟩:=hX.ob t _ _ h1
   exact ⟨hG,p1,p2,vs,p3,p4,fun b hb=>⟨(p5 b hb).1,fun o hF=>by cases ((p5 b hb).2 o hF).1⟩⟩
  ·exact hX.ob t' _ _ ho
 ·change (if t1=t then some (g,VObj.row E k true els) else Zm ob t1)=some (g1,o1) at k1
  change (if t2=t then some (g,VObj.row E k true els) else Zm ob t2)=some (g2,o2) at k2
  have f1:∃ o1',Zm ob t1=some (g1,o1'):=by
   split at k1
   ·rename_i e;subst e;injection k1 with k1;injection k1 with e3 e4;subst e3;exact ⟨_,h1⟩
   ·exact ⟨_,k1⟩
  have f2:∃ o2',Zm ob t2=some (g2,o2'):=by
   split at k2
   ·rename_i e;subst e;injection k2 with k2;injection k2 with e3 e4;subst e3;exact ⟨_,h1⟩
   ·exact ⟨_,k2⟩
  obtain ⟨_,f1⟩:=f1
  obtain ⟨_,f2⟩:=f2
  exact hX.apart t1 t2 _ _ _ _ b hne f1 f2 hb
end
class BoolT (P:Program) (T:TypeId):Prop where
 eq:P.underlying T=some .bool
def Zwj (op:BinOp) (k:IntKind) (a b:Int):Int:=match op with | .and=>k.wrap (BitVec.ofInt k.bits a &&& BitVec.ofInt k.bits b).toNat | .or=>k.wrap (BitVec.ofInt k.bits a ||| BitVec.ofInt k.bits b).toNat | .xor=>k.wrap (BitVec.ofInt k.bits a ^^^ BitVec.ofInt k.bits b).toNat | _=>k.wrap (BitVec.ofInt k.bits a &&& ~~~BitVec.ofInt k.bits b).toNat
def Ztf (k:IntKind) (a b:Int):Option Int:=if b<0 then none else some (a.fdiv (2 ^ (min b.toNat k.bits)))
section
variable {P:Program} [WInv P] {ops:Array Oper} {draw:Bool} {i:Nat} {L:List Oper} {acc:List (List Nat×List Nat)} {K:FS->Prop} {tm:List (Nat×PV)} {ob:List (Nat×Option (Gen×VObj))} {ng:Nat}
 {d:Option Tmp} {ty T T':TypeId} {pos:String} {after:Array Edge} {gd:Option (Nat×Bool)} {x y:Operand}
theorem ZoG (hw:Zf ops (mkS tm ob ng) ⟨d,.binOp .shr T x y T',ty,pos,after,gd⟩=some true) {k k':IntKind} {a b c:Int} (hs:Ztf k a b=some c) (hx:evL tm x = .int k a) (hy:evL tm y = .int k' b)
  (kk:GoL P ops draw (i+1) L (acc ++ [(ZA (mkS tm ob ng) ⟨d,.binOp .shr T x y T',ty,pos,after,gd⟩,[])]) (mkS (ZaW d (.int k c) tm) ob ng) K):GoL P ops draw i (⟨d,.binOp .shr T x y T',ty,pos,after,gd⟩::L) acc (mkS tm ob ng) K:=by{
unfold Ztf at hs
split at hs
cases hs
injection hs with hs
subst hs
exact Zwr hw hx hy (by assumption) kk}
theorem Zq6 [h:BoolT P T] (hw:Zf ops (mkS tm ob ng) ⟨d,.binOp .eql T x y T',ty,pos,after,gd⟩=some true) {a b:Bool} (hx:evL tm x = .bool a) (hy:evL tm y = .bool b)
  (kk:GoL P ops draw (i+1) L (acc ++ [(ZA (mkS tm ob ng) ⟨d,.binOp .eql T x y T',ty,pos,after,gd⟩,[])]) (mkS (ZaW d (.bool (a == b)) tm) ob ng) K):GoL P ops draw i (⟨d,.binOp .eql T x y T',ty,pos,after,gd⟩::L) acc (mkS tm ob ng) K:=by
 refine ZcT rfl (fun _ _ h=>by cases h) hw hx hy (v:=.bool a) (w:=.bool b) (r:=.bool (a == b)) rfl rfl (fun ρ W h1 h2=>?_) rfl kk
 simp [execOp,h1,h2,eqGuard,binOp,run_equal_bool W T a b h.eq]
end
theorem Zbb {P:Program} [WInv P] {β:Type} {F:Option β} {R:β->PV} {O:β->List PV} {f:FuncId} {fn:Func} {c:Code} {args:List PV} {j:Nat} {os:List PV} {r:β} (hF:F=some r) (hmix:P.follows .mixedOrders=true) (hf:P.funcs[f]? = some fn) (hg:isGo P f=true) (hb:fn.body=some c) (hok:(decide (args.length<=fn.ntmps)&&ZaU fn.ntmps c)=true)
  (h:∀ r,F=some r->PWs P [c] (ZwY P fn.results.toList (R r) j (O r)) (mkS (Zdg 0 args) [(j,some ((0,j),.box os))] 1)):Contract P f args (some (j,os)) (R r) (O r):=Zl5 hmix hf hg hb hok (h r hF)
end VL
end Go.Proofs.YtpffimahajgiaaaGreatDoor
namespace Go.Proofs.YtpffimahajgiaaaGreatDoor
namespace VL
open Go.RowKit
theorem ZaH {n:Int} (h1 : -9223372036854775808<=n:=by omega) (h2:n<=9223372036854775807:=by omega):w64 n=n:=by
 show IntKind.wrap .i64 n=n
 rw [IntKind.wrap_i64]
 omega
theorem ZtJ {α:Type} {l:List α} {n:Nat} {e:α} (h:l[n]? = some e):atI l (n:Int)=some e:=by rw [ZuT,h]
theorem Zvr {α:Type} {w:Nat} {a b:List α} (h:(a.length+b.length) * w<=140737488355328) (h2:a.length+b.length<=9223372036854775807):ZeI w a b=some (a++b):=by
 unfold ZeI
 rw [if_pos ⟨h,h2⟩]
theorem Zl3 {α:Type} {w:Nat} {a b:List α} (n:Nat) (h:a.length+b.length<=n) (h2:n * w<=140737488355328) (h3:n<=9223372036854775807):ZeI w a b=some (a++b):=
 Zvr (Nat.le_trans (Nat.mul_le_mul_right w h) h2) (Nat.le_trans h h3)
theorem Zn4 {a b:ByteArray} (h:a.size+b.size<=9223372036854775807):Zbs a b=some (a++b):=by
 unfold Zbs
 rw [if_pos h]
theorem ZrY {s:ByteArray} {n:Nat} (h:n<s.size):atS s (n:Int)=some ((s[n]).toNat:Int):=by
 unfold atS
 rw [if_pos (by omega)]
 simp [h]
def goL {α β γ:Type} (step:α->γ->(γ->Option β)->Option β) (fin:γ->Option β):List α->γ->Option β | [],c=>fin c | e::l,c=>step e c (goL step fin l)
theorem ZrZ {α:Type} {l:List α} {n:Nat} {e:α} (h:l[n]? = some e):l.drop n=e::l.drop (n+1):=by
 obtain ⟨hlt,he⟩:=List.getElem?_eq_some_iff.1 h
 rw [List.drop_eq_getElem_cons hlt,he]
theorem Zni {α β γ σ:Type} {B:(σ->Option β)->σ->Option β} (L:List α) (mk:Nat->γ->σ) (step:α->γ->(γ->Option β)->Option β) (fin:γ->Option β)
  (hs:∀ (n:Nat) (e:α) (rec:σ->Option β) (c:γ),L[n]? = some e->B rec (mk n c)=step e c fun c'=>rec (mk (n+1) c')) (he:∀ (rec:σ->Option β) (c:γ),B rec (mk L.length c)=fin c) :
  ∀ (k n:Nat) (c:γ),n<=L.length->L.length-n<k->ZaF k B (mk n c)=goL step fin (L.drop n) c
 | 0,_,_,_,h=>absurd h (Nat.not_lt_zero _)
 | k+1,n,c,hn,hk=>by
   show B (ZaF k B) (mk n c)=_
   by_cases hlt:n<L.length
   obtain ⟨e,hL⟩:∃ e,L[n]? = some e:=⟨_,List.getElem?_eq_getElem hlt⟩
   rw [hs n e _ c hL,ZrZ hL]
   show _=step e c (goL step fin (L.drop (n+1)))
   congr 1
   funext c'
   exact Zni L mk step fin hs he k (n+1) c' hlt (by omega)
   have e:n=L.length:=by omega
   subst e
   rw [he,List.drop_of_length_le (Nat.le_refl _)]
   rfl
theorem ZtK {α β γ σ:Type} {B:(σ->Option β)->σ->Option β} (L:List α) (mk:Nat->γ->σ) (step:α->γ->(γ->Option β)->Option β) (fin:γ->Option β) (hL:L.length<=4611686018427387900) (c:γ)
  (hs:∀ (n:Nat) (e:α) (rec:σ->Option β) (c:γ),L[n]? = some e->n<4611686018427387900->B rec (mk n c)=step e c fun c'=>rec (mk (n+1) c')) (he:∀ (rec:σ->Option β) (c:γ),B rec (mk L.length c)=fin c):ZaF Zcp B (mk 0 c)=goL step fin L c:=
 Zni L mk step fin (fun n e rec c h=>hs n e rec c h (by have:=(List.getElem?_eq_some_iff.1 h).1;omega)) he Zcp 0 c (Nat.zero_le _) (by unfold Zcp;omega)
end VL
end Go.Proofs.YtpffimahajgiaaaGreatDoor
namespace Go.Proofs.YtpffimahajgiaaaGreatDoor
namespace VL
open Go.RowKit
def Tot {α:Type} (x:Option α) (Q:α->Prop):Prop:=∃ v,x=some v/\Q v
section
variable {α β γ:Type}
theorem Tot.mono {x:Option α} {Q R:α->Prop} (h:Tot x Q) (g:∀ v,Q v->R v):Tot x R:=by
 obtain ⟨v,h1,h2⟩:=h
 exact ⟨v,h1,g v h2⟩
theorem Zc {v:α} {Q:α->Prop} (h:Q v):Tot (some v) Q:=⟨v,rfl,h⟩
theorem ZqK {x:Option α} {v:α} {Q:α->Prop} (e:x=some v) (h:Q v):Tot x Q:=⟨v,e,h⟩
theorem Zi {x:Option α} {f:α->Option β} {Q:α->Prop} {R:β->Prop} (h:Tot x Q) (k:∀ v,Q v->Tot (f v) R):Tot (x.bind f) R:=by
 obtain ⟨v,h1,h2⟩:=h
 obtain ⟨r,h3,h4⟩:=k v h2
 exact ⟨r,by rw [h1];exact h3,h4⟩
theorem Zb {x:Option α} {f:α->Option β} {v:α} {R:β->Prop} (h:x=some v) (k:Tot (f v) R):Tot (x.bind f) R:=by
 rw [h];exact k
theorem ZN {b:Bool} {x y:Option β} {R:β->Prop} (h1:b=true->Tot x R) (h2:b=false->Tot y R):Tot (if b=true then x else y) R:=by
 cases b
 exact h2 rfl
 exact h1 rfl
theorem Zh {p:Prop} [Decidable p] {x y:Option β} {R:β->Prop} (h1:p->Tot x R) (h2:¬ p->Tot y R):Tot (if decide p=true then x else y) R:=by
 by_cases h:p
 rw [if_pos (decide_eq_true h)];exact h1 h
 rw [if_neg (by simpa using h)];exact h2 h
theorem ZeU {p:Prop} [Decidable p] {x y:Option β} {R:β->Prop} (h1:¬ p->Tot x R) (h2:p->Tot y R):Tot (if (!decide p)=true then x else y) R:=by
 by_cases h:p
 rw [if_neg (by simpa using h)];exact h2 h
 rw [if_pos (by simpa using h)];exact h1 h
theorem ZZ {k:γ} {f:γ->Option β} {R:β->Prop} (S:γ->Prop) (hk:S k) (hf:∀ q,S q->Tot (f q) R):Tot (letk k f) R:=hf k hk
theorem ZaM {k:γ} {f:γ->Option β} {R:β->Prop} (h:Tot (f k) R):Tot (letk k f) R:=h
theorem ZS {F:(α->Option β)->α->Option β} {a:α} {R:β->Prop} (J:α->Prop) (m:α->Nat) (h0:J a) (hm:m a<=4611686018427387900) (h:∀ a rec,J a->(∀ a',J a'->m a'<m a->Tot (rec a') R)->Tot (F rec a) R):Tot (ZaF Zcp F a) R:=
 ZqB J m R h Zcp a h0 (by unfold Zcp;omega)
theorem Zcb {l:List α} {i:Int} {f:α->Option β} {R:β->Prop} (h0:0<=i) (h1:i<(l.length:Int)) (k:∀ e,e ∈ l->l[i.toNat]? = some e->Tot (f e) R):Tot ((atI l i).bind f) R:=by{
obtain ⟨n,rfl⟩:∃ n:Nat,i=(n:Int):=⟨i.toNat,by omega⟩
have hl:n<l.length:=by omega
have e:l[n]? = some l[n]:=List.getElem?_eq_getElem hl
refine Zb (v:=l[n]) (ZtJ e) (k _ (List.getElem_mem hl) (by simp))}
theorem ZdN {s:ByteArray} {i:Int} {f:Int->Option β} {R:β->Prop} (h0:0<=i) (h1:i<(s.size:Int)) (k:∀ c:Int,0<=c->c<256->atS s i=some c->Tot (f c) R):Tot ((atS s i).bind f) R:=by{
obtain ⟨n,rfl⟩:∃ n:Nat,i=(n:Int):=⟨i.toNat,by omega⟩
have hl:n<s.size:=by omega
refine Zb (ZrY hl) (k _ (by omega) ?_ (ZrY hl))
have:=(s[n]).toNat_lt
omega}
theorem ZsS {l:List α} {a b:Int} {f:List α->Option β} {R:β->Prop} (h0:0<=a) (h1:a<=b) (h2:b<=(l.length:Int)) (k:∀ m:List α,m=(l.drop a.toNat).take (b.toNat-a.toNat)->(m.length:Int)=b-a->Tot (f m) R):Tot ((Zkf l a b).bind f) R:=by
 refine Zb (v:=(l.drop a.toNat).take (b.toNat-a.toNat)) (by unfold Zkf;rw [if_pos ⟨h0,h1,h2⟩]) (k _ rfl ?_)
 simp
 omega
theorem ZaT {s:ByteArray} {a b:Int} {f:ByteArray->Option β} {R:β->Prop} (h0:0<=a) (h1:a<=b) (h2:b<=(s.size:Int)) (k:∀ m:ByteArray,m=s.extract a.toNat b.toNat->(m.size:Int)=b-a->Tot (f m) R):Tot ((ZfI s a b).bind f) R:=by
 refine Zb (v:=s.extract a.toNat b.toNat) (by unfold ZfI;rw [if_pos ⟨h0,h1,h2⟩]) (k _ rfl ?_)
 rw [ByteArray.size_extract]
 omega
theorem ZbC {w:Nat} {a b:List α} {f:List α->Option β} {R:β->Prop} (n:Nat) (h:a.length+b.length<=n) (h2:n * w<=140737488355328) (h3:n<=9223372036854775807) (k:Tot (f (a++b)) R):Tot ((ZeI w a b).bind f) R:=
 Zb (Zl3 n h h2 h3) k
theorem Zcy {a b:ByteArray} {f:ByteArray->Option β} {R:β->Prop} (h:a.size+b.size<=9223372036854775807) (k:(a++b).size=a.size+b.size->Tot (f (a++b)) R):Tot ((Zbs a b).bind f) R:=
 Zb (Zn4 h) (k (by rw [ByteArray.size_append]))
theorem ZsT {k:IntKind} {a b:Int} {f:Int->Option β} {R:β->Prop} (h:b≠0) (g:Tot (f (Int.tmod a b)) R):Tot ((ZvX k a b).bind f) R:=
 Zb (by unfold ZvX;rw [if_neg h]) g
theorem ZsU {k:IntKind} {a b:Int} {f:Int->Option β} {R:β->Prop} (h:0<=b) (g:Tot (f (a.fdiv (2 ^ (min b.toNat k.bits)))) R):Tot ((Ztf k a b).bind f) R:=
 Zb (by unfold Ztf;rw [if_neg (by omega)]) g
end
end VL
end Go.Proofs.YtpffimahajgiaaaGreatDoor
namespace Go.Proofs.YtpffimahajgiaaaGreatDoor
namespace VL
theorem ZhZ {p q:Prop} (k:q) (h:q->p:=by
 (intro k)
 (first
  | refine Zq rfl (by (conv=>lhs;whnf);try rfl) ?_
  | refine ZH rfl rfl rfl ?_
  | refine Zl rfl rfl ?_
  | refine Zr rfl (by (conv=>lhs;whnf);try rfl) ?_
  | refine Zae rfl rfl rfl rfl (by (conv=>lhs;whnf);try rfl) ?_
  | refine ZiM rfl rfl rfl rfl (by (conv=>lhs;whnf);try rfl) ?_
  | refine ZaK rfl rfl ?_
  | refine Zle rfl rfl ?_
  | refine Zua rfl rfl ?_
  | refine Zt9 rfl rfl rfl rfl ?_
  | refine Zwr rfl rfl rfl (by decide) ?_
  | refine ZhB rfl rfl ?_
  | refine ZkC rfl (by (conv=>lhs;whnf);try rfl) (by (conv=>lhs;whnf);try rfl) (by rfl) ?_
  | refine Zdp rfl rfl ?_
  | refine ZaN rfl rfl rfl (by (conv=>lhs;whnf);try rfl) (by (conv=>lhs;whnf);try rfl) (by rfl) (by rfl) (Nat.le_of_ble_eq_true rfl) (by (conv=>lhs;whnf);try rfl) ?_
  | refine Zby rfl rfl ?_
  | refine Zam rfl rfl rfl (by rfl) (by decide) (by (conv=>lhs;whnf);try rfl) ?_
  | refine Zfi rfl rfl rfl ?_
  | refine Zte rfl rfl ?_
  | refine Za3 rfl rfl (by (conv=>lhs;whnf);try rfl) ?_
  | refine g_field rfl rfl rfl ?_
  | refine Zd ?_
  | refine Zco (by kernel_rfl) ?_
  | refine Zk ?_
  | refine Za ?_
  | refine Zaq ?_
  | refine ZF ?_
  | refine Zbi ?_
  | refine Za8 ?_
  | refine ZD ?_
  | refine Zde ?_
  | refine Zrc ?_
  | refine Zac ?_
  | refine ZgZ ?_
  | refine Zrd ?_)
 (exact k)):p:=h k
instance:Ld Tryz.prog 3 false 1:=⟨by kernel_rfl⟩
instance:Kd Tryz.prog 3 .i64:=⟨by kernel_rfl⟩
instance:Ld Tryz.prog 4 false 1:=⟨by kernel_rfl⟩
instance:Ld Tryz.prog 5 false 1:=⟨by kernel_rfl⟩
instance:Kd Tryz.prog 5 .u8:=⟨by kernel_rfl⟩
instance:Ld Tryz.prog 9 false 1:=⟨by kernel_rfl⟩
instance:Ld Tryz.prog 22 false 1:=⟨by kernel_rfl⟩
instance:Sl Tryz.prog 22 54 4 48 [.int .i64 0,.str ⟨#[]⟩,.str ⟨#[]⟩,.int .i64 0]:=⟨by kernel_rfl,rfl,rfl⟩
instance:Ld Tryz.prog 23 false 1:=⟨by kernel_rfl⟩
instance:Sl Tryz.prog 23 67 2 40 [.str ⟨#[]⟩,.nil]:=⟨by kernel_rfl,rfl,rfl⟩
instance:Ld Tryz.prog 24 false 1:=⟨by kernel_rfl⟩
instance:Sl Tryz.prog 24 83 6 64 [.bool false,.int .i64 0,.str ⟨#[]⟩,.int .i64 0,.int .i64 0,.str ⟨#[]⟩]:=⟨by kernel_rfl,rfl,rfl⟩
instance:Ld Tryz.prog 25 false 1:=⟨by kernel_rfl⟩
instance:Sl Tryz.prog 25 128 5 64 [.bool false,.str ⟨#[]⟩,.int .i64 0,.str ⟨#[]⟩,.str ⟨#[]⟩]:=⟨by kernel_rfl,rfl,rfl⟩
instance:Ze Tryz.prog 27 [.nil,.nil,.nil]:=⟨by kernel_rfl⟩
instance:Ld Tryz.prog 27 true 3:=⟨by kernel_rfl⟩
instance:Fld Tryz.prog 27 0 0 false 1:=⟨by kernel_rfl,rfl⟩
instance:Fld Tryz.prog 27 1 1 false 1:=⟨by kernel_rfl,rfl⟩
instance:Fld Tryz.prog 27 2 2 false 1:=⟨by kernel_rfl,rfl⟩
instance:Ld Tryz.prog 28 false 1:=⟨by kernel_rfl⟩
instance:Sl Tryz.prog 28 9 1 16 [.str ⟨#[]⟩]:=⟨by kernel_rfl,rfl,rfl⟩
instance:Ld Tryz.prog 29 false 1:=⟨by kernel_rfl⟩
instance:Sl Tryz.prog 29 65 7 72 [.int .i64 0,.int .i64 0,.str ⟨#[]⟩,.int .i64 0,.bool false,.str ⟨#[]⟩,.int .i64 0]:=⟨by kernel_rfl,rfl,rfl⟩
instance:Ze Tryz.prog 31 [.nil,.nil,.nil,.nil,.nil,.int .i64 0,.nil]:=⟨by kernel_rfl⟩
instance:Ld Tryz.prog 31 true 7:=⟨by kernel_rfl⟩
instance:Fld Tryz.prog 31 0 0 false 1:=⟨by kernel_rfl,rfl⟩
instance:Fld Tryz.prog 31 1 1 true 3:=⟨by kernel_rfl,rfl⟩
instance:Fld Tryz.prog 31 2 4 false 1:=⟨by kernel_rfl,rfl⟩
instance:Fld Tryz.prog 31 3 5 false 1:=⟨by kernel_rfl,rfl⟩
instance:Fld Tryz.prog 31 4 6 false 1:=⟨by kernel_rfl,rfl⟩
instance:St Tryz.prog 31 [some (0,1),some (1,3),some (4,1),some (5,1),some (6,1)] [.nil,.nil,.nil,.nil,.nil,.int .i64 0,.nil]:=⟨by kernel_rfl⟩
instance:Ld Tryz.prog 32 false 1:=⟨by kernel_rfl⟩
instance:Sl Tryz.prog 32 3 1 8 [.int .i64 0]:=⟨by kernel_rfl,rfl,rfl⟩
instance:Ze Tryz.prog 34 [.int .i64 0,.str ⟨#[]⟩]:=⟨by kernel_rfl⟩
instance:Ld Tryz.prog 34 true 2:=⟨by kernel_rfl⟩
instance:EqT Tryz.prog 34:=⟨by kernel_rfl⟩
instance:Fld Tryz.prog 34 0 0 false 1:=⟨by kernel_rfl,rfl⟩
instance:Fld Tryz.prog 34 1 1 false 1:=⟨by kernel_rfl,rfl⟩
instance:St Tryz.prog 34 [some (0,1),some (1,1)] [.int .i64 0,.str ⟨#[]⟩]:=⟨by kernel_rfl⟩
instance:Ld Tryz.prog 36 true 4:=⟨by kernel_rfl⟩
instance:EqT Tryz.prog 36:=⟨by kernel_rfl⟩
instance:Fld Tryz.prog 36 0 0 false 1:=⟨by kernel_rfl,rfl⟩
instance:Fld Tryz.prog 36 1 1 true 2:=⟨by kernel_rfl,rfl⟩
instance:Fld Tryz.prog 36 2 3 false 1:=⟨by kernel_rfl,rfl⟩
instance:St Tryz.prog 36 [some (0,1),some (1,2),some (3,1)] [.int .i64 0,.int .i64 0,.str ⟨#[]⟩,.int .i64 0]:=⟨by kernel_rfl⟩
instance:Ld Tryz.prog 49 false 1:=⟨by kernel_rfl⟩
instance:Sl Tryz.prog 49 102 3 32 [.int .i64 0,.int .i64 0,.str ⟨#[]⟩]:=⟨by kernel_rfl,rfl,rfl⟩
instance:Ld Tryz.prog 50 false 1:=⟨by kernel_rfl⟩
instance:Sl Tryz.prog 50 56 3 40 [.int .i64 0,.str ⟨#[]⟩,.str ⟨#[]⟩]:=⟨by kernel_rfl,rfl,rfl⟩
instance:Ze Tryz.prog 54 [.int .i64 0,.str ⟨#[]⟩,.str ⟨#[]⟩,.int .i64 0]:=⟨by kernel_rfl⟩
instance:Ld Tryz.prog 54 true 4:=⟨by kernel_rfl⟩
instance:Fld Tryz.prog 54 0 0 true 2:=⟨by kernel_rfl,rfl⟩
instance:Fld Tryz.prog 54 1 2 false 1:=⟨by kernel_rfl,rfl⟩
instance:Fld Tryz.prog 54 2 3 false 1:=⟨by kernel_rfl,rfl⟩
instance:St Tryz.prog 54 [some (0,2),some (2,1),some (3,1)] [.int .i64 0,.str ⟨#[]⟩,.str ⟨#[]⟩,.int .i64 0]:=⟨by kernel_rfl⟩
instance:Ld Tryz.prog 56 true 3:=⟨by kernel_rfl⟩
instance:EqT Tryz.prog 56:=⟨by kernel_rfl⟩
instance:Fld Tryz.prog 56 0 0 true 2:=⟨by kernel_rfl,rfl⟩
instance:St Tryz.prog 56 [some (0,2),some (2,1)] [.int .i64 0,.str ⟨#[]⟩,.str ⟨#[]⟩]:=⟨by kernel_rfl⟩
instance:Ze Tryz.prog 59 [.bool false,.str ⟨#[]⟩,.int .i64 0]:=⟨by kernel_rfl⟩
instance:Ld Tryz.prog 59 true 3:=⟨by kernel_rfl⟩
instance:EqT Tryz.prog 59:=⟨by kernel_rfl⟩
instance:Fld Tryz.prog 59 0 0 false 1:=⟨by kernel_rfl,rfl⟩
instance:Fld Tryz.prog 59 1 1 false 1:=⟨by kernel_rfl,rfl⟩
instance:Fld Tryz.prog 59 2 2 false 1:=⟨by kernel_rfl,rfl⟩
instance:St Tryz.prog 59 [some (0,1),some (1,1),some (2,1)] [.bool false,.str ⟨#[]⟩,.int .i64 0]:=⟨by kernel_rfl⟩
instance:Ze Tryz.prog 65 [.int .i64 0,.int .i64 0,.str ⟨#[]⟩,.int .i64 0,.bool false,.str ⟨#[]⟩,.int .i64 0]:=⟨by kernel_rfl⟩
instance:Ld Tryz.prog 65 true 7:=⟨by kernel_rfl⟩
instance:Fld Tryz.prog 65 0 0 true 4:=⟨by kernel_rfl,rfl⟩
instance:Fld Tryz.prog 65 1 4 true 3:=⟨by kernel_rfl,rfl⟩
instance:Ze Tryz.prog 67 [.str ⟨#[]⟩,.nil]:=⟨by kernel_rfl⟩
instance:Ld Tryz.prog 67 true 2:=⟨by kernel_rfl⟩
instance:Fld Tryz.prog 67 0 0 false 1:=⟨by kernel_rfl,rfl⟩
instance:Fld Tryz.prog 67 1 1 false 1:=⟨by kernel_rfl,rfl⟩
instance:St Tryz.prog 67 [some (0,1),some (1,1)] [.str ⟨#[]⟩,.nil]:=⟨by kernel_rfl⟩
instance:Fld Tryz.prog 70 0 0 false 1:=⟨by kernel_rfl,rfl⟩
instance:Fld Tryz.prog 70 1 1 false 1:=⟨by kernel_rfl,rfl⟩
instance:St Tryz.prog 70 [some (0,1),some (1,1)] [.nil,.int .i64 0]:=⟨by kernel_rfl⟩
instance:Sl Tryz.prog 75 34 2 24 [.int .i64 0,.str ⟨#[]⟩]:=⟨by kernel_rfl,rfl,rfl⟩
instance:Ld Tryz.prog 81 true 3:=⟨by kernel_rfl⟩
instance:St Tryz.prog 81 [some (0,1),some (1,2)] [.int .i64 0,.int .i64 0,.str ⟨#[]⟩]:=⟨by kernel_rfl⟩
instance:Ze Tryz.prog 83 [.bool false,.int .i64 0,.str ⟨#[]⟩,.int .i64 0,.int .i64 0,.str ⟨#[]⟩]:=⟨by kernel_rfl⟩
instance:Ld Tryz.prog 83 true 6:=⟨by kernel_rfl⟩
instance:Fld Tryz.prog 83 3 3 true 3:=⟨by kernel_rfl,rfl⟩
instance:St Tryz.prog 83 [some (0,1),some (1,1),some (2,1),some (3,3)] [.bool false,.int .i64 0,.str ⟨#[]⟩,.int .i64 0,.int .i64 0,.str ⟨#[]⟩]:=⟨by kernel_rfl⟩
instance:Ld Tryz.prog 93 false 1:=⟨by kernel_rfl⟩
instance:Sl Tryz.prog 93 166 5 80 [.int .i64 0,.int .i64 0,.str ⟨#[]⟩,.nil,.nil]:=⟨by kernel_rfl,rfl,rfl⟩
instance:Fld Tryz.prog 98 0 0 false 1:=⟨by kernel_rfl,rfl⟩
instance:Fld Tryz.prog 98 1 1 false 1:=⟨by kernel_rfl,rfl⟩
instance:St Tryz.prog 98 [some (0,1),some (1,1)] [.nil,.nil]:=⟨by kernel_rfl⟩
instance:Ld Tryz.prog 102 true 3:=⟨by kernel_rfl⟩
instance:EqT Tryz.prog 102:=⟨by kernel_rfl⟩
instance:St Tryz.prog 102 [some (0,1),some (1,2)] [.int .i64 0,.int .i64 0,.str ⟨#[]⟩]:=⟨by kernel_rfl⟩
instance:Ze Tryz.prog 112 [.str ⟨#[]⟩,.str ⟨#[]⟩,.str ⟨#[]⟩,.str ⟨#[]⟩,.str ⟨#[]⟩,.str ⟨#[]⟩]:=⟨by kernel_rfl⟩
instance:Ld Tryz.prog 112 true 6:=⟨by kernel_rfl⟩
instance:Ix Tryz.prog 112 6:=⟨by kernel_rfl⟩
instance:Az Tryz.prog 112 1 [.str ⟨#[]⟩,.str ⟨#[]⟩,.str ⟨#[]⟩,.str ⟨#[]⟩,.str ⟨#[]⟩,.str ⟨#[]⟩]:=⟨by kernel_rfl,by kernel_rfl⟩
instance:Sl Tryz.prog 119 5 1 1 [.int .u8 0]:=⟨by kernel_rfl,rfl,rfl⟩
instance:Ze Tryz.prog 128 [.bool false,.str ⟨#[]⟩,.int .i64 0,.str ⟨#[]⟩,.str ⟨#[]⟩]:=⟨by kernel_rfl⟩
instance:Ld Tryz.prog 128 true 5:=⟨by kernel_rfl⟩
instance:St Tryz.prog 128 [some (0,1),some (1,1),some (2,2),some (4,1)] [.bool false,.str ⟨#[]⟩,.int .i64 0,.str ⟨#[]⟩,.str ⟨#[]⟩]:=⟨by kernel_rfl⟩
instance:Kd Tryz.prog 131 .u64:=⟨by kernel_rfl⟩
instance:Sl Tryz.prog 150 162 3 24 [.int .i64 0,.int .i64 0,.int .i64 0]:=⟨by kernel_rfl,rfl,rfl⟩
instance:Ld Tryz.prog 154 false 1:=⟨by kernel_rfl⟩
instance:Ld Tryz.prog 155 false 1:=⟨by kernel_rfl⟩
instance:Sl Tryz.prog 155 170 3 56 [.bool false,.nil,.nil]:=⟨by kernel_rfl,rfl,rfl⟩
instance:Fld Tryz.prog 157 0 0 false 1:=⟨by kernel_rfl,rfl⟩
instance:Fld Tryz.prog 157 1 1 false 1:=⟨by kernel_rfl,rfl⟩
instance:Fld Tryz.prog 157 2 2 false 1:=⟨by kernel_rfl,rfl⟩
instance:Fld Tryz.prog 157 3 3 false 1:=⟨by kernel_rfl,rfl⟩
instance:Fld Tryz.prog 157 4 4 false 1:=⟨by kernel_rfl,rfl⟩
instance:St Tryz.prog 157 [some (0,1),some (1,1),some (2,1),some (3,1),some (4,1)] [.int .i64 0,.int .i64 0,.int .i64 0,.nil,.nil]:=⟨by kernel_rfl⟩
instance:Ld Tryz.prog 158 false 1:=⟨by kernel_rfl⟩
instance:Sl Tryz.prog 158 154 1 8 [.un]:=⟨by kernel_rfl,rfl,rfl⟩
instance:Fld Tryz.prog 160 0 0 false 1:=⟨by kernel_rfl,rfl⟩
instance:St Tryz.prog 160 [some (0,1)] [.nil]:=⟨by kernel_rfl⟩
instance:Ze Tryz.prog 162 [.int .i64 0,.int .i64 0,.int .i64 0]:=⟨by kernel_rfl⟩
instance:Ld Tryz.prog 162 true 3:=⟨by kernel_rfl⟩
instance:Fld Tryz.prog 162 0 0 false 1:=⟨by kernel_rfl,rfl⟩
instance:Fld Tryz.prog 162 1 1 false 1:=⟨by kernel_rfl,rfl⟩
instance:Fld Tryz.prog 162 2 2 false 1:=⟨by kernel_rfl,rfl⟩
instance:St Tryz.prog 162 [some (0,1),some (1,1),some (2,1)] [.int .i64 0,.int .i64 0,.int .i64 0]:=⟨by kernel_rfl⟩
instance:Ze Tryz.prog 166 [.int .i64 0,.int .i64 0,.str ⟨#[]⟩,.nil,.nil]:=⟨by kernel_rfl⟩
instance:Ld Tryz.prog 166 true 5:=⟨by kernel_rfl⟩
instance:Fld Tryz.prog 166 0 0 false 1:=⟨by kernel_rfl,rfl⟩
instance:Fld Tryz.prog 166 1 1 false 1:=⟨by kernel_rfl,rfl⟩
instance:Fld Tryz.prog 166 2 2 false 1:=⟨by kernel_rfl,rfl⟩
instance:Fld Tryz.prog 166 3 3 false 1:=⟨by kernel_rfl,rfl⟩
instance:Fld Tryz.prog 166 4 4 false 1:=⟨by kernel_rfl,rfl⟩
instance:St Tryz.prog 166 [some (0,1),some (1,1),some (2,1),some (3,1),some (4,1)] [.int .i64 0,.int .i64 0,.str ⟨#[]⟩,.nil,.nil]:=⟨by kernel_rfl⟩
instance:Ze Tryz.prog 170 [.bool false,.nil,.nil]:=⟨by kernel_rfl⟩
instance:Ld Tryz.prog 170 true 3:=⟨by kernel_rfl⟩
instance:Fld Tryz.prog 170 0 0 false 1:=⟨by kernel_rfl,rfl⟩
instance:Fld Tryz.prog 170 1 1 false 1:=⟨by kernel_rfl,rfl⟩
instance:Fld Tryz.prog 170 2 2 false 1:=⟨by kernel_rfl,rfl⟩
instance:St Tryz.prog 170 [some (0,1),some (1,1),some (2,1)] [.bool false,.nil,.nil]:=⟨by kernel_rfl⟩
instance:Ze Tryz.prog 246 [.str ⟨#[]⟩,.str ⟨#[]⟩,.str ⟨#[]⟩]:=⟨by kernel_rfl⟩
instance:Ld Tryz.prog 246 true 3:=⟨by kernel_rfl⟩
instance:Ix Tryz.prog 246 3:=⟨by kernel_rfl⟩
instance:Az Tryz.prog 246 1 [.str ⟨#[]⟩,.str ⟨#[]⟩,.str ⟨#[]⟩]:=⟨by kernel_rfl,by kernel_rfl⟩
instance:WInv Tryz.prog:=⟨fun W=>(∃ m,W.cell? ⟨0,0,none⟩=some (.int .i64 m))/\True⟩
theorem mix:Tryz.prog.follows .mixedOrders=true:=by kernel_rfl
end VL
end Go.Proofs.YtpffimahajgiaaaGreatDoor
namespace Go.Proofs.YtpffimahajgiaaaGreatDoor
open Go.RowKit
structure Scope where
 kind:Int
 title:Title
 deriving DecidableEq
structure Rule where
 allow:Bool
 right:Int
 group:ByteArray
 scope:Scope
 deriving DecidableEq
structure Guard where
 strict:Bool
 group:ByteArray
 title:Title
 section_:ByteArray
 deriving DecidableEq
structure Group where
 name:ByteArray
 members:List ByteArray
 deriving DecidableEq
structure Policy where
 groups:List Group
 rules:List Rule
 guards:List Guard
 deriving DecidableEq
structure Page where
 title:Title
 text:ByteArray
 revision:Int
 deriving DecidableEq
structure View where
 pages:List Page
 policy:Policy
 groups:List ByteArray
 clock:Int
 fixed:List Asked
 deriving DecidableEq
end Go.Proofs.YtpffimahajgiaaaGreatDoor
namespace Go.Proofs.YtpffimahajgiaaaGreatDoor
open VL
def Title.cs (x:Title):List PV:=[.int .i64 x.space,.str x.name]
def Title.pv (x:Title):PV:=.agg x.cs
def Key.cs (x:Key):List PV:=[.int .i64 x.kind,.int .i64 x.title.space,.str x.title.name,.int .i64 x.n]
def Key.pv (x:Key):PV:=.agg x.cs
def Answer.cs (x:Answer):List PV:=[.bool x.ok,.str x.text,.int .i64 x.n]
def Answer.pv (x:Answer):PV:=.agg x.cs
def Asked.cs (x:Asked):List PV:=[.int .i64 x.key.kind,.int .i64 x.key.title.space,.str x.key.title.name,.int .i64 x.key.n,.bool x.answer.ok,.str x.answer.text,.int .i64 x.answer.n]
def Rule.cs (x:Rule):List PV:=[.bool x.allow,.int .i64 x.right,.str x.group,.int .i64 x.scope.kind,.int .i64 x.scope.title.space,.str x.scope.title.name]
def Guard.cs (x:Guard):List PV:=[.bool x.strict,.str x.group,.int .i64 x.title.space,.str x.title.name,.str x.section_]
def Group.cs (x:Group):List PV:=[.str x.name,.sl (x.members.map fun y=>[.str y])]
def Group.pv (x:Group):PV:=.agg x.cs
def Policy.cs (x:Policy):List PV:=[.sl (x.groups.map Group.cs),.sl (x.rules.map Rule.cs),.sl (x.guards.map Guard.cs)]
def Policy.pv (x:Policy):PV:=.agg x.cs
def Page.cs (x:Page):List PV:=[.int .i64 x.title.space,.str x.title.name,.str x.text,.int .i64 x.revision]
def View.cs (x:View):List PV:=[.sl (x.pages.map Page.cs),.sl (x.policy.groups.map Group.cs),.sl (x.policy.rules.map Rule.cs),.sl (x.policy.guards.map Guard.cs),.sl (x.groups.map fun y=>[.str y]),.int .i64 x.clock,.sl (x.fixed.map Asked.cs)]
def View.pv (x:View):PV:=.agg x.cs
end Go.Proofs.YtpffimahajgiaaaGreatDoor
namespace Go.Proofs.YtpffimahajgiaaaGreatDoor
open VL Go.RowKit
theorem args2 {x:Ctx} {p q:PV} {vs:Array Value} (h:Pre x [p,q] none vs):∃ v w,vs = #[v,w]/\Rep x p v/\Rep x q w:=by{
have hs:vs.size=2:=h.size.symm
refine ⟨vs[0],vs[1],?_,h.rep 0 p _ rfl (Array.getElem?_eq_getElem (by omega)),h.rep 1 q _ rfl (Array.getElem?_eq_getElem (by omega))⟩
apply Array.ext
exact hs
intro i h1 h2
match i,(show i<2 by omega) with
| 0,_=>rfl
| 1,_=>rfl}
theorem ZpV {x:Ctx} {s:ByteArray} {v:Value} (h:Rep x (.str s) v):v = .string s:=by cases h;rfl
end Go.Proofs.YtpffimahajgiaaaGreatDoor
