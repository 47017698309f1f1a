/- Functions as -/
import Derived.Test.YtmgfammllddkhaaGreatDoorCU02
import Derived.Shelf.GgSortFunc.RowK
set_option linter.unusedSimpArgs false
set_option linter.unusedVariables false
set_option maxHeartbeats 4000000
set_option maxRecDepth 100000
namespace Go.Proofs.YtmgfammllddkhaaGreatDoor
namespace VL
open Go.RowKit
def A9:Nat:=4611686018427387904
def atI {α:Type} (l:Q3 α) (i:Int):Q2 α:=if 0<=i then l[i.toNat]? else none
def atS (s:Q1) (i:Int):Q2 Int:=if 0<=i then (s[i.toNat]?).map fun c=>(c.toNat:Int) else none
def CJ {α:Type} (l:Q3 α) (lo hi:Int):Q2 (Q3 α):=if 0<=lo/\lo<=hi/\hi<=(l.length:Int) then some ((l.drop lo.toNat).take (hi.toNat-lo.toNat)) else none
def AJ (s:Q1) (lo hi:Int):Q2 Q1:=if 0<=lo/\lo<=hi/\hi<=(s.size:Int) then some (s.extract lo.toNat hi.toNat) else none
def AA {α:Type} (w:Nat) (a b:Q3 α):Q2 (Q3 α):=if (a.length+b.length) * w<=140737488355328/\a.length+b.length<=9223372036854775807 then some (a++b) else none
def A7 (a b:Q1):Q2 Q1:=if a.size+b.size<=9223372036854775807 then some (a++b) else none
def AQ {α:Type} (l:Q3 α) (i:Int) (x:α):Q3 α:=l.set i.toNat x
def ST (_:IntKind) (a b:Int):Q2 Int:=if b=0 then none else some (Int.tmod a b)
abbrev w64 (n:Int):Int:=IntKind.wrap .i64 n
abbrev csS (y:Q1):Q3 PV:=[.str y]
abbrev csI (y:Int):Q3 PV:=[.int .i64 y]
abbrev csB (y:Int):Q3 PV:=[.int .u8 y]
def letk {γ β:Type} (k:γ) (f:γ->Q2 β):Q2 β:=f k
def A4 {α β:Type}:Nat->((α->Q2 β)->α->Q2 β)->α->Q2 β | 0,_,_=>none | n+1,f,a=>f (A4 n f) a
theorem bnd {α β:Type} {x:Q2 α} {f:α->Q2 β} {r:β} (h:x.bind f=some r):∃ v,x=some v/\f v=some r:=by
 cases x with
 | none=>cases h
 | some v=>exact ⟨v,rfl,h⟩
theorem ifT {β:Type} {b:Bool} {x y:Q2 β} {r:β} (hb:b=true) (h:(if b=true then x else y)=some r):x=some r:=by rw [if_pos hb] at h;exact h
theorem ifF {β:Type} {b:Bool} {x y:Q2 β} {r:β} (hb:b=false) (h:(if b=true then x else y)=some r):y=some r:=by rw [if_neg (by rw [hb];simp)] at h;exact h
theorem ER {γ β:Type} {k:γ} {f:γ->Q2 β} {r:β} {p:Prop} (h:letk k f=some r) (g:∀ q,q=k->f q=some r->p):p:=g k rfl h
theorem Zy {α β:Type} {n:Nat} {f:(α->Q2 β)->α->Q2 β} {a:α} {r:β} {p:Prop} (h:A4 n f a=some r) (g:∀ q m,q=f->A4 m q a=some r->p):p:=g f n rfl h
theorem Zz {α β:Type} {n:Nat} {f q:(α->Q2 β)->α->Q2 β} {a:α} {r:β} (e:q=f) (h:A4 n q a=some r):∃ m,n=m+1/\f (A4 m q) a=some r:=by
 cases n with
 | zero=>cases h
 | succ m=>exact ⟨m,rfl,by rw [<- e];exact h⟩
theorem xL {α β:Type} {f:(α->Q2 β)->α->Q2 β} (J:α->Prop) (m:α->Nat) (spec:α->β) (h:∀ a rec,J a->(∀ a',J a'->m a'<m a->rec a'=some (spec a'))->f rec a=some (spec a)):∀ (n:Nat) (a:α),J a->m a<n->A4 n f a=some (spec a)
 | 0,_,_,hm=>absurd hm (Nat.not_lt_zero _)
 | n+1,a,ha,hm=>h a _ ha fun a' ha' hm'=>xL J m spec h n a' ha' (by omega)
theorem jR {α β:Type} {f:(α->Q2 β)->α->Q2 β} (J:α->Prop) (m:α->Nat) (R:β->Prop) (h:∀ a rec,J a->(∀ a',J a'->m a'<m a->∃ b,rec a'=some b/\R b)->∃ b,f rec a=some b/\R b):∀ (n:Nat) (a:α),J a->m a<n->∃ b,A4 n f a=some b/\R b
 | 0,_,_,hm=>absurd hm (Nat.not_lt_zero _)
 | n+1,a,ha,hm=>h a _ ha fun a' ha' hm'=>jR J m R h n a' ha' (by omega)
theorem P2 {α:Type} {l:Q3 α} {i:Int} {e:α} (h:atI l i=some e):0<=i/\l[i.toNat]? = some e:=by{
unfold atI at h
split at h
exact ⟨by assumption,h⟩
cases h}
theorem xM {α:Type} (l:Q3 α) (n:Nat):atI l (n:Int)=l[n]?:=by
 unfold atI
 rw [if_pos (by omega)]
 rfl
theorem VR {α β:Type} {f:α->β} {l:Q3 α} {n:Nat} {e:α} (h:l[n]? = some e):(l.map f)[n]? = some (f e):=by rw [Yw,h];rfl
theorem GJ {α:Type} {w:Nat} {a b c:Q3 α} (h:AA w a b=some c):(a.length+b.length) * w<=140737488355328/\a.length+b.length<=9223372036854775807/\c=a++b:=by{
unfold AA at h
split at h
injection h with h
rename_i q
exact ⟨q.1,q.2,h.symm⟩
cases h}
theorem jS {α:Type} {l m:Q3 α} {lo hi:Int} (h:CJ l lo hi=some m):0<=lo/\lo<=hi/\hi<=(l.length:Int)/\m=(l.drop lo.toNat).take (hi.toNat-lo.toNat):=by{
unfold CJ at h
split at h
injection h with h
rename_i q
exact ⟨q.1,q.2.1,q.2.2,h.symm⟩
cases h}
theorem xN {l m:Q1} {lo hi:Int} (h:AJ l lo hi=some m):0<=lo/\lo<=hi/\hi<=(l.size:Int)/\l.extract lo.toNat hi.toNat=m:=by{
unfold AJ at h
split at h
injection h with h
rename_i q
exact ⟨q.1,q.2.1,q.2.2,h⟩
cases h}
theorem bX {α:Type} {f:α->Q3 PV} {kk:Nat} (hf:∀ x,(f x).length=kk) (l:Q3 α):((l.map f).all fun e=>e.length == kk)=true:=by simp [hf]
def loI (tm:Q3 (Nat×PV)):Q2 Operand->Q2 Int
 | none=>some 0
 | some e=>match evL tm e with
   | .int _ n=>some n
   | _=>none
def hiI (tm:Q3 (Nat×PV)) (n:Nat):Q2 Operand->Q2 Int
 | none=>some n
 | some e=>match evL tm e with
   | .int _ n=>some n
   | _=>none
theorem jT {tm:Q3 (Nat×PV)} {lo:Q2 Operand} {l:Int} (h:loI tm lo=some l) (h0:0<=l):loV tm lo=some l.toNat:=by{
cases lo with
| none=>injection h with h;subst h;rfl
| some e=>
  simp only [loI] at h
  simp only [loV]
  split at h
  rename_i he
  cases h
  rw [he]
  simp [toNat?,h0]
  cases h}
theorem jU {tm:Q3 (Nat×PV)} {hi:Q2 Operand} {n:Nat} {l:Int} (h:hiI tm n hi=some l) (h0:0<=l):hiV tm n hi=some l.toNat:=by{
cases hi with
| none=>injection h with h;subst h;rfl
| some e=>
  simp only [hiI] at h
  simp only [hiV]
  split at h
  rename_i he
  cases h
  rw [he]
  simp [toNat?,h0]
  cases h}
section
variable {P:Program} [WInv P] {ops:Array Oper} {draw:Bool} {i:Nat} {L:Q3 Oper} {acc:Q3 (Q3 Nat×Q3 Nat)} {K:FS->Prop} {tm:Q3 (Nat×PV)} {ob:Q3 (Nat×Q2 (Gen×VObj))} {ng:Nat}
 {d:Q2 Tmp} {ty T T':TypeId} {pos:String} {after:Array Edge} {gd:Q2 (Nat×Bool)} {x y:Operand} {α:Type} {f:α->Q3 PV}
theorem xO (t:Nat) {b:Bool} (hx:look tm t = .bool b) (h1:b=true->GoL P ops draw i L acc (mkS ((t,.bool true)::tm) ob ng) K) (h2:b=false->GoL P ops draw i L acc (mkS ((t,.bool false)::tm) ob ng) K):GoL P ops draw i L acc (mkS tm ob ng) K:=by{
have e:mkS ((t,.bool b)::tm) ob ng=mkS tm ob ng:=by
 unfold mkS
 congr 1
 funext t'
 show (if t'=t then PV.bool b else look tm t')=look tm t'
 split
 rename_i h;rw [h,hx]
 rfl
rw [<- e]
cases b
exact h2 rfl
exact h1 rfl}
theorem xP {E kk by_:Nat} {z:Q3 PV} [Sl P T E kk by_ z] (hw:Zh ops (mkS tm ob ng) ⟨d,.call ⟨.builtin .len,#[x],#[T]⟩,ty,pos,after,gd⟩=some true) {M:Q3 α} (hx:BT (Zn ob) (evL tm x)=some (M.map f))
  (k:GoL P ops draw (i+1) L (acc ++ [(ZE (mkS tm ob ng) ⟨d,.call ⟨.builtin .len,#[x],#[T]⟩,ty,pos,after,gd⟩,[])]) (mkS (A6 d (.int .i64 (M.length:Int)) tm) ob ng) K):GoL P ops draw i (⟨d,.call ⟨.builtin .len,#[x],#[T]⟩,ty,pos,after,gd⟩::L) acc (mkS tm ob ng) K:=by{
refine iQ (n:=M.length) hw ?_ k
cases hp:evL tm x<;>rw [hp] at hx<;>simp only [BT] at hx<;>try (cases hx;done)
injection hx with hx;simp only [IV,hx,Yv]
injection hx with hx
have:M.length=0:=by rw [<- Yv (f:=f),<- hx];rfl
simp only [IV,this]
simp only [IV]
split at hx
rename_i ho
injection hx with hx
rw [hx,Yv]
cases hx}
theorem xQ {E kk by_:Nat} {z:Q3 PV} [Sl P T E kk by_ z] (hw:Zh ops (mkS tm ob ng) ⟨d,.indexAddr T x y,ty,pos,after,gd⟩=some true) {M:Q3 α} {e:α} {kd:IntKind} {q:Int} (he:atI M q=some e) (hx:evL tm x = .sl (M.map f)) (hy:evL tm y = .int kd q) (hl:(f e).length=kk)
  (k:GoL P ops draw (i+1) L (acc ++ [(ZE (mkS tm ob ng) ⟨d,.indexAddr T x y,ty,pos,after,gd⟩,[])]) (mkS (A6 d (.cel (f e)) tm) ob ng) K):GoL P ops draw i (⟨d,.indexAddr T x y,ty,pos,after,gd⟩::L) acc (mkS tm ob ng) K:=by
 obtain ⟨h0,h1⟩:=P2 he
 exact OS (n:=q.toNat) hw hx (by rw [hy];congr 1;omega) (VR h1) hl k
theorem ZT {E kk by_:Nat} {z:Q3 PV} [Sl P T E kk by_ z] (hw:Zh ops (mkS tm ob ng) ⟨d,.indexAddr T x y,ty,pos,after,gd⟩=some true) {M:Q3 α} {e:α} {kd:IntKind} {q:Int} {t:Nat} {g:Gen} {E':Nat} {sh:Bool} (he:atI M q=some e) (hx:evL tm x = .row t g) (hb:A8 (Zn ob) t g=some (.row E' kk sh (M.map f))) (hy:evL tm y = .int kd q)
  (k:GoL P ops draw (i+1) L (acc ++ [(ZE (mkS tm ob ng) ⟨d,.indexAddr T x y,ty,pos,after,gd⟩,[])]) (mkS (A6 d (.elp t g q.toNat kk 0) tm) ob ng) K):GoL P ops draw i (⟨d,.indexAddr T x y,ty,pos,after,gd⟩::L) acc (mkS tm ob ng) K:=by
 obtain ⟨h0,h1⟩:=P2 he
 exact EO (n:=q.toNat) hw hx hb (by rw [hy];congr 1;omega) (by rw [Yv];exact (Yd.1 h1).1) k
theorem B9 {agg:Bool} {n:Nat} [h:Ld P T agg n] (hw:Zh ops (mkS tm ob ng) ⟨d,.load T x,ty,pos,after,gd⟩=some true) {M:Q3 α} {e:α} {q:Int} {t:Nat} {g:Gen} {E kk off:Nat} {sh:Bool} {v:PV} (he:atI M q=some e) (hx:evL tm x = .elp t g q.toNat kk off) (hb:A8 (Zn ob) t g=some (.row E kk sh (M.map f))) (hv:JV agg n ((f e).drop off)=some v)
  (k:GoL P ops draw (i+1) L (acc ++ [(ZE (mkS tm ob ng) ⟨d,.load T x,ty,pos,after,gd⟩,[])]) (mkS (A6 d v tm) ob ng) K):GoL P ops draw i (⟨d,.load T x,ty,pos,after,gd⟩::L) acc (mkS tm ob ng) K:=by{
obtain ⟨h0,h1⟩:=P2 he
refine ZL (cs:=(f e).drop off) hw ?_ hv k
rw [hx]
simp only [GI,hb,if_true,VR h1,Yo]}
theorem FM {agg:Bool} {n:Nat} [Ld P T agg n] (hw:Zh ops (mkS tm ob ng) ⟨d,.store T x y,ty,pos,after,gd⟩=some true) {M:Q3 α} {e e':α} {q:Int} {t:Nat} {g:Gen} {E kk off:Nat} {p:PV} {ps qs:Q3 PV} {us:Q3 (Nat×Q2 (Gen×VObj))} (he:atI M q=some e) (hx:evL tm x = .elp t g q.toNat kk off)
  (hb:A8 (Zn ob) t g=some (.row E kk false (M.map f))) (hy:evL tm y=p) (hps:p.cells=ps) (hl:ps.length=n) (hr:AI (Zn ob) ps=some (qs,us)) (hf:off+n<=kk) (hus:us.all (fun q=>q.1 != t)=true) (hs:AN (f e) off qs=f e')
  (k:GoL P ops draw (i+1) L (acc ++ [(ZE (mkS tm ob ng) ⟨d,.store T x y,ty,pos,after,gd⟩,us.map (·.1) ++ [t])]) (mkS (A6 d .un tm) ((t,some (g,VObj.row E kk false ((AQ M q e').map f)))::(us.reverse++ob)) ng) K) :
  GoL P ops draw i (⟨d,.store T x y,ty,pos,after,gd⟩::L) acc (mkS tm ob ng) K:=by{
obtain ⟨h0,h1⟩:=P2 he
refine iM hw hx hb (VR h1) hy hps hl hr hf hus ?_
rw [hs,show (M.map f).set q.toNat (f e')=(AQ M q e').map f from (List.map_set ..).symm]
simpa using k}
theorem xR {E kk by_:Nat} {z:Q3 PV} [Sl P T E kk by_ z] {lo hi:Q2 Operand} (hw:Zh ops (mkS tm ob ng) ⟨d,.slice T x lo hi none,ty,pos,after,gd⟩=some true) {M R:Q3 α} {l h:Int} {us:Q3 (Nat×Q2 (Gen×VObj))} (hs:CJ M l h=some R) (hf:∀ x,(f x).length=kk)
  (hx:BT (Zn ob) (evL tm x)=some (M.map f)) (hlo:loI tm lo=some l) (hhi:hiI tm M.length hi=some h) (hus:IW (Zn ob) (evL tm x)=us)
  (k:GoL P ops draw (i+1) L (acc ++ [(ZE (mkS tm ob ng) ⟨d,.slice T x lo hi none,ty,pos,after,gd⟩,us.map (·.1))]) (mkS (A6 d (.sl (R.map f)) tm) (us.reverse++ob) ng) K):GoL P ops draw i (⟨d,.slice T x lo hi none,ty,pos,after,gd⟩::L) acc (mkS tm ob ng) K:=by
 obtain ⟨h0,h1,h2,rfl⟩:=jS hs
 refine w0 (l:=l.toNat) (h:=h.toNat) hw hx (jT hlo h0) (by rw [Yv];exact jU hhi (by omega)) (by omega) (by rw [Yv];omega) (bX hf M) hus ?_ k
 rw [List.map_take,List.map_drop]
theorem jV (hT:P.underlying T=some .string) {lo hi:Q2 Operand} (hw:Zh ops (mkS tm ob ng) ⟨d,.slice T x lo hi none,ty,pos,after,gd⟩=some true) {a b:Q1} {l h:Int} (hs:AJ a l h=some b) (hx:evL tm x = .str a) (hlo:loI tm lo=some l) (hhi:hiI tm a.size hi=some h)
  (k:GoL P ops draw (i+1) L (acc ++ [(ZE (mkS tm ob ng) ⟨d,.slice T x lo hi none,ty,pos,after,gd⟩,[])]) (mkS (A6 d (.str b) tm) ob ng) K):GoL P ops draw i (⟨d,.slice T x lo hi none,ty,pos,after,gd⟩::L) acc (mkS tm ob ng) K:=by
 obtain ⟨h0,h1,h2,h3⟩:=xN hs
 exact bG hT hw hx (jT hlo h0) (jU hhi (by omega)) (by omega) (by omega) h3 k
theorem xS (hT:P.underlying T=some .string) (hw:Zh ops (mkS tm ob ng) ⟨d,.index T x y,ty,pos,after,gd⟩=some true) {a:Q1} {kd:IntKind} {q c:Int} (hn:atS a q=some c) (hx:evL tm x = .str a) (hy:evL tm y = .int kd q)
  (k:GoL P ops draw (i+1) L (acc ++ [(ZE (mkS tm ob ng) ⟨d,.index T x y,ty,pos,after,gd⟩,[])]) (mkS (A6 d (.int .u8 c) tm) ob ng) K):GoL P ops draw i (⟨d,.index T x y,ty,pos,after,gd⟩::L) acc (mkS tm ob ng) K:=by{
unfold atS at hn
split at hn
cases hc:a[q.toNat]? with
| none=>rw [hc] at hn;cases hn
| some b=>
  rw [hc] at hn
  cases hn
  exact bF hT hw hx (n:=q.toNat) (by rw [hy];congr 1;omega) hc k
cases hn}
theorem VS (hw:Zh ops (mkS tm ob ng) ⟨d,.binOp .add T x y T',ty,pos,after,gd⟩=some true) {a b c:Q1} (hs:A7 a b=some c) (hx:evL tm x = .str a) (hy:evL tm y = .str b)
  (kk:GoL P ops draw (i+1) L (acc ++ [(ZE (mkS tm ob ng) ⟨d,.binOp .add T x y T',ty,pos,after,gd⟩,[])]) (mkS (A6 d (.str c) tm) ob ng) K):GoL P ops draw i (⟨d,.binOp .add T x y T',ty,pos,after,gd⟩::L) acc (mkS tm ob ng) K:=by{
unfold A7 at hs
split at hs
cases hs
exact wE hw hx hy (by assumption) kk
cases hs}
theorem J4 {dd:Nat} {E kk by_:Nat} {z:Q3 PV} [Sl P T E kk by_ z] (hw:Zh ops (mkS tm ob ng) ⟨some dd,.call ⟨.builtin .append,#[x,y],#[T,T]⟩,ty,pos,after,gd⟩=some true) {M R:Q3 α} (hs:AA by_ [] M=some R) (hf:∀ x,(f x).length=kk) {new:Q3 (Q3 PV)} (hx:evL tm x = .nil) (hy:BT (Zn ob) (evL tm y)=some new) (hm:new=M.map f)
  (k:GoL P ops draw (i+1) L (acc ++ [(ZE (mkS tm ob ng) ⟨some dd,.call ⟨.builtin .append,#[x,y],#[T,T]⟩,ty,pos,after,gd⟩,[dd])]) (mkS ((dd,.row dd (ng,i))::tm) ((dd,some ((ng,i),.row E kk false (R.map f)))::ob) ng) K) :
  GoL P ops draw i (⟨some dd,.call ⟨.builtin .append,#[x,y],#[T,T]⟩,ty,pos,after,gd⟩::L) acc (mkS tm ob ng) K:=by
 subst hm
 obtain ⟨h1,h2,rfl⟩:=GJ hs
 exact w8 hw hx hy (by simpa using h1) (by simpa using h2) (bX hf _) k
theorem xT {dd:Nat} {E kk by_:Nat} {z:Q3 PV} [Sl P T E kk by_ z] (hw:Zh ops (mkS tm ob ng) ⟨some dd,.call ⟨.builtin .append,#[x,y],#[T,T]⟩,ty,pos,after,gd⟩=some true) {M0 M R:Q3 α} (hs:AA by_ M0 M=some R) (hf:∀ x,(f x).length=kk) {t:Nat} {g:Gen} {sh:Bool} {new:Q3 (Q3 PV)} (hx:evL tm x = .row t g) (ho:A8 (Zn ob) t g=some (.row E kk sh (M0.map f))) (hy:BT (Zn ob) (evL tm y)=some new) (hm:new=M.map f)
  (k:GoL P ops draw (i+1) L (acc ++ [(ZE (mkS tm ob ng) ⟨some dd,.call ⟨.builtin .append,#[x,y],#[T,T]⟩,ty,pos,after,gd⟩,[t])]) (mkS ((dd,.row t (ng,i))::tm) ((t,some ((ng,i),.row E kk sh (R.map f)))::ob) ng) K) :
  GoL P ops draw i (⟨some dd,.call ⟨.builtin .append,#[x,y],#[T,T]⟩,ty,pos,after,gd⟩::L) acc (mkS tm ob ng) K:=by
 subst hm
 obtain ⟨h1,h2,rfl⟩:=GJ hs
 exact IZ hw hx ho hy (by simpa using h1) (by simpa using h2) (bX hf M) (by rw [<- YR];exact k)
theorem jW {len:Nat} [h:Ix P T len] (hw:Zh ops (mkS tm ob ng) ⟨d,.index T x y,ty,pos,after,gd⟩=some true) {p:α->PV} {M:Q3 α} {e:α} {cs:Q3 PV} {vs:Q3 Value} {kd:IntKind} {q:Int} (he:atI M q=some e)
  (hx:evL tm x = .agg cs) (hm:cs=M.map p) (hps:BU cs=some vs) (hy:evL tm y = .int kd q) (hl:cs.length=len)
  (k:GoL P ops draw (i+1) L (acc ++ [(ZE (mkS tm ob ng) ⟨d,.index T x y,ty,pos,after,gd⟩,[])]) (mkS (A6 d (p e) tm) ob ng) K):GoL P ops draw i (⟨d,.index T x y,ty,pos,after,gd⟩::L) acc (mkS tm ob ng) K:=by
 obtain ⟨h0,h1⟩:=P2 he
 exact wK (n:=q.toNat) hw hx hps (by rw [hy];congr 1;omega) hl (by rw [hm];exact VR h1) k
theorem xU (hw:Zh ops (mkS tm ob ng) ⟨d,.binOp .rem T x y T',ty,pos,after,gd⟩=some true) {k:IntKind} {a b c:Int} (hs:ST k a b=some c) (hx:evL tm x = .int k a) (hy:evL tm y = .int k b)
  (kk:GoL P ops draw (i+1) L (acc ++ [(ZE (mkS tm ob ng) ⟨d,.binOp .rem T x y T',ty,pos,after,gd⟩,[])]) (mkS (A6 d (.int k c) tm) ob ng) K):GoL P ops draw i (⟨d,.binOp .rem T x y T',ty,pos,after,gd⟩::L) acc (mkS tm ob ng) K:=by{
unfold ST at hs
split at hs
cases hs
cases hs
exact wI hw hx hy (by assumption) kk}
end
section
variable {P:Program} [WInv P] {α:Type} {St:α->Nat->FS} {J:α->Prop} {Q:Ex->FS->Prop} {s:FS} {id:Nat}
theorem xV (h:Q .ret s):SO St J Q .ret s:=h
end
class StrT (P:Program) (T:TypeId):Prop where
 eq:P.underlying T=some .string
section
variable {P:Program} [WInv P] {ops:Array Oper} {draw:Bool} {i:Nat} {L:Q3 Oper} {acc:Q3 (Q3 Nat×Q3 Nat)} {K:FS->Prop} {tm:Q3 (Nat×PV)} {ob:Q3 (Nat×Q2 (Gen×VObj))} {ng:Nat}
 {d:Q2 Tmp} {ty T T':TypeId} {pos:String} {after:Array Edge} {gd:Q2 (Nat×Bool)} {x y:Operand} {α:Type} {f:α->Q3 PV}
theorem xW [h:StrT P T] (hw:Zh ops (mkS tm ob ng) ⟨d,.call ⟨.builtin .len,#[x],#[T]⟩,ty,pos,after,gd⟩=some true) {a:Q1} (hx:evL tm x = .str a)
  (k:GoL P ops draw (i+1) L (acc ++ [(ZE (mkS tm ob ng) ⟨d,.call ⟨.builtin .len,#[x],#[T]⟩,ty,pos,after,gd⟩,[])]) (mkS (A6 d (.int .i64 (a.size:Int)) tm) ob ng) K):GoL P ops draw i (⟨d,.call ⟨.builtin .len,#[x],#[T]⟩,ty,pos,after,gd⟩::L) acc (mkS tm ob ng) K:=IE h.eq hw hx k
theorem CR {dd:Nat} {E kk by_:Nat} {z:Q3 PV} [Sl P T E kk by_ z] {n:Nat} {parts:Array (Nat×Operand)} (M:Q3 α) (hw:Zh ops (mkS tm ob ng) ⟨some dd,.buildSlice T n parts,ty,pos,after,gd⟩=some true) {cs qs:Q3 PV} {us:Q3 (Nat×Q2 (Gen×VObj))}
  (hf:C5 (fun i=>some (i * kk,kk)) (List.replicate n z).flatten (evs tm parts.toList)=some cs) (hr:AI (Zn ob) cs=some (qs,us)) (hl:qs.length=n * kk) (hm:n * kk<=16777216) (hc:chunks kk n qs=M.map f)
  (k:GoL P ops draw (i+1) L (acc ++ [(ZE (mkS tm ob ng) ⟨some dd,.buildSlice T n parts,ty,pos,after,gd⟩,us.map (·.1) ++ [dd])]) (mkS ((dd,.row dd (ng,i))::tm) ((dd,some ((ng,i),.row E kk false (M.map f)))::(us.reverse++ob)) ng) K) :
  GoL P ops draw i (⟨some dd,.buildSlice T n parts,ty,pos,after,gd⟩::L) acc (mkS tm ob ng) K:=
 iR hw hf hr hl hm hc (by simpa using k)
end
theorem Zi {p q:Prop} (k:q) (h:q->p:=by
 (intro k)
 (repeat (first
  | refine ZL rfl rfl rfl ?_
  | refine Zr rfl (by (conv=>lhs;whnf);try rfl) ?_
  | refine Zs rfl (by (conv=>lhs;whnf);try rfl) ?_
  | refine Zm rfl rfl ?_
  | refine MY rfl rfl rfl rfl (by (conv=>lhs;whnf);try rfl) ?_
  | refine LE rfl rfl rfl rfl (by (conv=>lhs;whnf);try rfl) ?_
  | refine SM rfl rfl rfl ?_
  | refine SL rfl rfl rfl (by (conv=>lhs;whnf);try rfl) (by (conv=>lhs;whnf);try rfl) (by rfl) (by rfl) (Yk rfl) (by (conv=>lhs;whnf);try rfl) ?_
  | refine iS rfl rfl ?_
  | refine xW rfl rfl ?_
  | refine iU rfl rfl ?_
  | refine ID rfl rfl (by (conv=>lhs;whnf);try rfl) ?_
  | refine iP rfl rfl rfl ?_
  | refine iL rfl (by (conv=>lhs;whnf);try rfl) (by (conv=>lhs;whnf);try rfl) (by rfl) ?_
  | refine SK rfl rfl ?_
  | refine iW rfl rfl ?_
  | refine jP rfl rfl ?_
  | refine iT rfl rfl ?_
  | refine iZ rfl rfl ?_
  | refine iX rfl rfl rfl rfl ?_
  | refine Zf ?_
  | refine iV (by kernel_rfl) ?_
  | refine Zl ?_
  | refine ZJ ?_
  | refine LB ?_
  | refine iE ?_
  | refine ZG ?_
  | refine iF ?_
  | refine iG ?_
  | refine iH ?_
  | refine vY rfl ?_
  | refine iJ ?_
  | refine iK ?_
  | refine jk_exit ?_
  | refine xV ?_
  | refine pws_label ?_))
 (exact k)):p:=h k
theorem xX {P:Program} [WInv P] {β:Type} {F:Q2 β} {R:β->PV} {f:FuncId} {fn:Func} {c:Code} {args:Q3 PV} {r:β} (hF:F=some r) (hmix:P.follows .mixedOrders=true) (hf:P.funcs[f]? = some fn) (hg:isGo P f=true) (hb:fn.body=some c) (hok:(decide (args.length<=fn.ntmps)&&B6 fn.ntmps c)=true)
  (h:∀ r,F=some r->PWs P [c] (MX P fn.results.toList (R r)) (mkS (C4 0 args) [] 1)):Zg P f args (R r):=LD hmix hf hg hb hok (h r hF)
abbrev Q5 (n:Int):PV:=.int .i64 n
abbrev Q6:PV:=.ptr 0 (0,0) 0
abbrev Q8 {α:Type} (f:α->Q3 PV) (l:Q3 α):Q3 (Q3 PV):=l.map f
open Go.RowKit
class BoolT (P:Program) (T:TypeId):Prop where
 eq:P.underlying T=some .bool
def jX (op:BinOp) (k:IntKind) (a b:Int):Int:=match op with | .and=>k.wrap (BitVec.ofInt k.bits a &&& BitVec.ofInt k.bits b).toNat | .or=>k.wrap (BitVec.ofInt k.bits a ||| BitVec.ofInt k.bits b).toNat | .xor=>k.wrap (BitVec.ofInt k.bits a ^^^ BitVec.ofInt k.bits b).toNat | _=>k.wrap (BitVec.ofInt k.bits a &&& ~~~BitVec.ofInt k.bits b).toNat
def K1 (k:IntKind) (a b:Int):Q2 Int:=if b<0 then none else some (a.fdiv (2 ^ (min b.toNat k.bits)))
section
variable {P:Program} [WInv P] {ops:Array Oper} {draw:Bool} {i:Nat} {L:Q3 Oper} {acc:Q3 (Q3 Nat×Q3 Nat)} {K:FS->Prop} {tm:Q3 (Nat×PV)} {ob:Q3 (Nat×Q2 (Gen×VObj))} {ng:Nat}
 {d:Q2 Tmp} {ty T T':TypeId} {pos:String} {after:Array Edge} {gd:Q2 (Nat×Bool)} {x y:Operand}
theorem VT (hw:Zh ops (mkS tm ob ng) ⟨d,.binOp .shr T x y T',ty,pos,after,gd⟩=some true) {k k':IntKind} {a b c:Int} (hs:K1 k a b=some c) (hx:evL tm x = .int k a) (hy:evL tm y = .int k' b)
  (kk:GoL P ops draw (i+1) L (acc ++ [(ZE (mkS tm ob ng) ⟨d,.binOp .shr T x y T',ty,pos,after,gd⟩,[])]) (mkS (A6 d (.int k c) tm) ob ng) K):GoL P ops draw i (⟨d,.binOp .shr T x y T',ty,pos,after,gd⟩::L) acc (mkS tm ob ng) K:=by{
unfold K1 at hs
split at hs
cases hs
cases hs
exact iY hw hx hy (by assumption) kk}
theorem xY [h:BoolT P T] (hw:Zh ops (mkS tm ob ng) ⟨d,.binOp .eql T x y T',ty,pos,after,gd⟩=some true) {a b:Bool} (hx:evL tm x = .bool a) (hy:evL tm y = .bool b)
  (kk:GoL P ops draw (i+1) L (acc ++ [(ZE (mkS tm ob ng) ⟨d,.binOp .eql T x y T',ty,pos,after,gd⟩,[])]) (mkS (A6 d (.bool (a == b)) tm) ob ng) K):GoL P ops draw i (⟨d,.binOp .eql T x y T',ty,pos,after,gd⟩::L) acc (mkS tm ob ng) K:=by
 refine J0 rfl (fun _ _ h=>by cases h) hw hx hy (v:=.bool a) (w:=.bool b) (r:=.bool (a == b)) rfl rfl (fun ρ W h1 h2=>?_) rfl kk
 simp [execOp,h1,h2,eqGuard,binOp,run_equal_bool W T a b h.eq]
end
theorem DB {P:Program} [WInv P] {β:Type} {F:Q2 β} {R:β->PV} {O:β->Q3 PV} {f:FuncId} {fn:Func} {c:Code} {args:Q3 PV} {j:Nat} {os:Q3 PV} {r:β} (hF:F=some r) (hmix:P.follows .mixedOrders=true) (hf:P.funcs[f]? = some fn)
  (h:∀ r,F=some r->PWs P [c] (VK P fn.results.toList (R r) j (O r)) (mkS (C4 0 args) [(j,some ((0,j),.box os))] 1)) (hg:isGo P f=true:=by kernel_rfl) (hb:fn.body=some c:=by rfl) (hok:(decide (args.length<=fn.ntmps)&&B6 fn.ntmps c)=true:=by kernel_rfl):Contract P f args (some (j,os)) (R r) (O r):=wH hmix hf hg hb hok (h r hF)
open Go.RowKit
theorem ZH {n:Int} (h1 : -9223372036854775808<=n:=by omega) (h2:n<=9223372036854775807:=by omega):w64 n=n:=by
 show IntKind.wrap .i64 n=n
 rw [IntKind.wrap_i64]
 omega
theorem xZ {α:Type} {l:Q3 α} {n:Nat} {e:α} (h:l[n]? = some e):atI l (n:Int)=some e:=by rw [xM,h]
theorem y3 {α:Type} {w:Nat} {a b:Q3 α} (h:(a.length+b.length) * w<=140737488355328) (h2:a.length+b.length<=9223372036854775807):AA w a b=some (a++b):=by
 unfold AA
 rw [if_pos ⟨h,h2⟩]
theorem J5 {α:Type} {w:Nat} {a b:Q3 α} (n:Nat) (h:a.length+b.length<=n) (h2:n * w<=140737488355328) (h3:n<=9223372036854775807):AA w a b=some (a++b):=
 y3 (YX (GX w h) h2) (YX h h3)
theorem VU {a b:Q1} (h:a.size+b.size<=9223372036854775807):A7 a b=some (a++b):=by
 unfold A7
 rw [if_pos h]
theorem y4 {s:Q1} {n:Nat} (h:n<s.size):atS s (n:Int)=some ((s[n]).toNat:Int):=by
 unfold atS
 rw [if_pos (by omega)]
 simp [h]
def goL {α β γ:Type} (step:α->γ->(γ->Q2 β)->Q2 β) (fin:γ->Q2 β):Q3 α->γ->Q2 β | [],c=>fin c | e::l,c=>step e c (goL step fin l)
theorem y5 {α:Type} {l:Q3 α} {n:Nat} {e:α} (h:l[n]? = some e):l.drop n=e::l.drop (n+1):=by
 obtain ⟨hlt,he⟩:=Yd.1 h
 rw [Yt hlt,he]
theorem jY {α β γ σ:Type} {B:(σ->Q2 β)->σ->Q2 β} (L:Q3 α) (mk:Nat->γ->σ) (step:α->γ->(γ->Q2 β)->Q2 β) (fin:γ->Q2 β)
  (hs:∀ (n:Nat) (e:α) (rec:σ->Q2 β) (c:γ),L[n]? = some e->B rec (mk n c)=step e c fun c'=>rec (mk (n+1) c')) (he:∀ (rec:σ->Q2 β) (c:γ),B rec (mk L.length c)=fin c) :
  ∀ (k n:Nat) (c:γ),n<=L.length->L.length-n<k->A4 k B (mk n c)=goL step fin (L.drop n) c
 | 0,_,_,_,h=>absurd h (Nat.not_lt_zero _)
 | k+1,n,c,hn,hk=>by
   show B (A4 k B) (mk n c)=_
   by_cases hlt:n<L.length
   obtain ⟨e,hL⟩:∃ e,L[n]? = some e:=⟨_,Yc hlt⟩
   rw [hs n e _ c hL,y5 hL]
   show _=step e c (goL step fin (L.drop (n+1)))
   congr 1
   funext c'
   exact jY L mk step fin hs he k (n+1) c' hlt (by omega)
   have e:n=L.length:=by omega
   subst e
   rw [he,List.drop_of_length_le (Yn _)]
   rfl
theorem y6 {α β γ σ:Type} {B:(σ->Q2 β)->σ->Q2 β} (L:Q3 α) (mk:Nat->γ->σ) (step:α->γ->(γ->Q2 β)->Q2 β) (fin:γ->Q2 β) (hL:L.length<=4611686018427387900) (c:γ)
  (hs:∀ (n:Nat) (e:α) (rec:σ->Q2 β) (c:γ),L[n]? = some e->n<4611686018427387900->B rec (mk n c)=step e c fun c'=>rec (mk (n+1) c')) (he:∀ (rec:σ->Q2 β) (c:γ),B rec (mk L.length c)=fin c):A4 A9 B (mk 0 c)=goL step fin L c:=
 jY L mk step fin (fun n e rec c h=>hs n e rec c h (by have:=(Yd.1 h).1;omega)) he A9 0 c (YJ _) (by unfold A9;omega)
open Go.RowKit
def Tot {α:Type} (x:Q2 α) (Q:α->Prop):Prop:=∃ v,x=some v/\Q v
section
variable {α β γ:Type}
theorem Tot.mono {x:Q2 α} {Q R:α->Prop} (h:Tot x Q) (g:∀ v,Q v->R v):Tot x R:=by
 obtain ⟨v,h1,h2⟩:=h
 exact ⟨v,h1,g v h2⟩
theorem Zd {v:α} {Q:α->Prop} (h:Q v):Tot (some v) Q:=⟨v,rfl,h⟩
theorem jZ {x:Q2 α} {v:α} {Q:α->Prop} (e:x=some v) (h:Q v):Tot x Q:=⟨v,e,h⟩
theorem ZC {x:Q2 α} {f:α->Q2 β} {Q:α->Prop} {R:β->Prop} (h:Tot x Q) (k:∀ v,Q v->Tot (f v) R):Tot (x.bind f) R:=by
 obtain ⟨v,h1,h2⟩:=h
 obtain ⟨r,h3,h4⟩:=k v h2
 exact ⟨r,by rw [h1];exact h3,h4⟩
theorem Za {x:Q2 α} {f:α->Q2 β} {v:α} {R:β->Prop} (h:x=some v) (k:Tot (f v) R):Tot (x.bind f) R:=by
 rw [h];exact k
theorem Zj {b:Bool} {x y:Q2 β} {R:β->Prop} (h1:b=true->Tot x R) (h2:b=false->Tot y R):Tot (if b=true then x else y) R:=by
 cases b
 exact h2 rfl
 exact h1 rfl
theorem Zb {p:Prop} [Decidable p] {x y:Q2 β} {R:β->Prop} (h1:p->Tot x R) (h2:¬ p->Tot y R):Tot (if decide p=true then x else y) R:=by
 by_cases h:p
 rw [if_pos (Yh h)];exact h1 h
 rw [if_neg (by simpa using h)];exact h2 h
theorem CK {p:Prop} [Decidable p] {x y:Q2 β} {R:β->Prop} (h1:¬ p->Tot x R) (h2:p->Tot y R):Tot (if (!decide p)=true then x else y) R:=by
 by_cases h:p
 rw [if_neg (by simpa using h)];exact h2 h
 rw [if_pos (by simpa using h)];exact h1 h
theorem Zt {k:γ} {f:γ->Q2 β} {R:β->Prop} (S:γ->Prop) (hk:S k) (hf:∀ q,S q->Tot (f q) R):Tot (letk k f) R:=hf k hk
theorem B7 {k:γ} {f:γ->Q2 β} {R:β->Prop} (h:Tot (f k) R):Tot (letk k f) R:=h
theorem ZF {F:(α->Q2 β)->α->Q2 β} {a:α} {R:β->Prop} (J:α->Prop) (m:α->Nat) (h0:J a) (hm:m a<=4611686018427387900) (h:∀ a rec,J a->(∀ a',J a'->m a'<m a->Tot (rec a') R)->Tot (F rec a) R):Tot (A4 A9 F a) R:=
 jR J m R h A9 a h0 (by unfold A9;omega)
theorem SU {l:Q3 α} {i:Int} {f:α->Q2 β} {R:β->Prop} (h0:0<=i) (h1:i<(l.length:Int)) (k:∀ e,e ∈ l->l[i.toNat]? = some e->Tot (f e) R):Tot ((atI l i).bind f) R:=by{
obtain ⟨n,rfl⟩:∃ n:Nat,i=(n:Int):=⟨i.toNat,by omega⟩
have hl:n<l.length:=by omega
have e:l[n]? = some l[n]:=Yc hl
refine Za (v:=l[n]) (xZ e) (k _ (JL hl) (by simp))}
theorem bY {s:Q1} {a b:Int} {f:Q1->Q2 β} {R:β->Prop} (h0:0<=a) (h1:a<=b) (h2:b<=(s.size:Int)) (k:∀ m:Q1,m=s.extract a.toNat b.toNat->(m.size:Int)=b-a->Tot (f m) R):Tot ((AJ s a b).bind f) R:=by
 refine Za (v:=s.extract a.toNat b.toNat) (by unfold AJ;rw [if_pos ⟨h0,h1,h2⟩]) (k _ rfl ?_)
 rw [FA]
 omega
theorem kA {w:Nat} {a b:Q3 α} {f:Q3 α->Q2 β} {R:β->Prop} (n:Nat) (h:a.length+b.length<=n) (h2:n * w<=140737488355328) (h3:n<=9223372036854775807) (k:Tot (f (a++b)) R):Tot ((AA w a b).bind f) R:=
 Za (J5 n h h2 h3) k
theorem K2 {a b:Q1} {f:Q1->Q2 β} {R:β->Prop} (h:a.size+b.size<=9223372036854775807) (k:(a++b).size=a.size+b.size->Tot (f (a++b)) R):Tot ((A7 a b).bind f) R:=
 Za (VU h) (k (by rw [Z7]))
theorem y7 {k:IntKind} {a b:Int} {f:Int->Q2 β} {R:β->Prop} (h:b≠0) (g:Tot (f (Int.tmod a b)) R):Tot ((ST k a b).bind f) R:=
 Za (by unfold ST;rw [if_neg h]) g
theorem y8 {k:IntKind} {a b:Int} {f:Int->Q2 β} {R:β->Prop} (h:0<=b) (g:Tot (f (a.fdiv (2 ^ (min b.toNat k.bits)))) R):Tot ((K1 k a b).bind f) R:=
 Za (by unfold K1;rw [if_neg (by omega)]) g
end
open Go.RowKit
theorem y9 {h:PV->Q2 PV}:∀ {a b a' b':Q3 PV},BK h a=some a'->BK h b=some b'->BK h (a++b)=some (a'++b')
 | [],b,a',b',h1,h2=>by
   cases h1
   exact h2
 | p::ps,b,a',b',h1,h2=>by
   simp only [BK] at h1
   split at h1
   rename_i q qs e1 e2
   cases h1
   show (match h p,BK h (ps++b) with
    | some q,some qs=>some (q::qs)
    | _,_=>none)=_
   rw [e1,y9 e2 h2]
   rfl
   cases h1
theorem kB {f:Nat->Q2 (Gen×VObj)}:∀ (L:Q3 (Q3 PV)),BK (FK f) (L.map PV.cel)=some (L.map PV.cel)
 | []=>rfl
 | cs::L=>by
   show (match FK f (.cel cs),BK (FK f) (L.map PV.cel) with
    | some q,some qs=>some (q::qs)
    | _,_=>none)=_
   rw [kB L]
   rfl
section
variable {P:Program} [WInv P] {ops:Array Oper} {draw:Bool} {i:Nat} {L:Q3 Oper} {acc:Q3 (Q3 Nat×Q3 Nat)} {K:FS->Prop} {tm:Q3 (Nat×PV)} {ob:Q3 (Nat×Q2 (Gen×VObj))} {ng:Nat}
 {d:Q2 Tmp} {ty:TypeId} {pos:String} {after:Array Edge} {gd:Q2 (Nat×Bool)}
theorem P3 {e:Operand} {f:FuncId} {Lc:Q3 (Q3 PV)} {es:Array Operand} {ts:Array TypeId} {args1:Q3 PV} {res:PV} (hc:Contract P f (args1++Lc.map .cel) none res []) (hw:Zh ops (mkS tm ob ng) ⟨d,.call ⟨.value e,es,ts⟩,ty,pos,after,gd⟩=some true)
  (hf:evL tm e = .fn f (Lc.map .cel)) (ha:BK (frz (Zn ob)) (es.toList.map (evL tm))=some args1) (hp:res.dry=true)
  (k:GoL P ops draw (i+1) L (acc ++ [(ZE (mkS tm ob ng) ⟨d,.call ⟨.value e,es,ts⟩,ty,pos,after,gd⟩,[])]) (mkS (A6 d res tm) ob ng) K):GoL P ops draw i (⟨d,.call ⟨.value e,es,ts⟩,ty,pos,after,gd⟩::L) acc (mkS tm ob ng) K:=
 jD hc hw hf ha (kB Lc) hp k
end
theorem yA {P:Program} [WInv P] {β:Type} {F:Q2 β} {O:β->VObj} {f:FuncId} {fn:Func} {c:Code} {args:Q3 PV} {r:β} (hF:F=some r) (hmix:P.follows .mixedOrders=true) (hf:P.funcs[f]? = some fn) (hg:isGo P f=true) (hb:fn.body=some c) (hok:(decide (args.length<=fn.ntmps)&&B6 fn.ntmps c)=true)
  (h:∀ r,F=some r->PWs P [c] (bJ P fn.results.toList (O r)) (mkS (C4 0 args) [] 1)):ContractN P f args (O r):=wQ hmix hf hg hb hok (h r hF)
theorem bZ {P:Program} [WInv P] {β:Type} {F:Q2 β} {R:β->PV} {O:β->Q3 OC} {f:FuncId} {fn:Func} {c:Code} {args:Q3 PV} {oc:Q3 OC} {r:β} (hF:F=some r) (hmix:P.follows .mixedOrders=true) (hf:P.funcs[f]? = some fn) (hg:isGo P f=true) (hb:fn.body=some c) (hok:(decide (args.length<=fn.ntmps)&&B6 fn.ntmps c&&decide (0<1000))=true) (hd:(R r).dry=true)
  (h:∀ r,F=some r->PWs P [c] (SS P fn.results.toList (R r) 0 (O r)) (mkS (C4 0 args) ((0,some ((0,0),.box (CI κ0 ν0 0 oc)))::FL κ0 ν0 0 oc) 1)):ContractP P f args 0 oc (R r) (O r):=xJ hmix hf hg hb hok hd (h r hF)
theorem kC {P:Program} {s:FS} {rs:Q3 ResultVar} {res:PV} {j:Nat} {oc':Q3 OC} {ps cs:Q3 PV} {oq:Q3 (Nat×Gen×OC)} (h1:BC P s rs=some ps) (h2:BD ps=res) (h3:s.ob j=some ((0,j),.box cs)) (h4:J3 s.ob cs=some oq) (h5:okK j oq=true) (h6:oq.map (·.2.2)=oc'):SS P rs res j oc' .normal s:=⟨ps,cs,oq,h1,h2,h3,h4,h5,h6⟩
open Go.RowKit
theorem VV {x:Ctx} {B:Nat} {D:Nat->Prop} {g:Gen} {E k:Nat} {els:Q3 (Q3 PV)} (h:ObRep x B D g (.prow E k els)) {i:Nat} {e:Q3 PV} (hi:els[i]? = some e) :
  ∃ b n c,x.ρ g = .slice (some ⟨b,0,none⟩) n c/\n=els.length/\n<=c/\c<=maxLen/\(B<=b\/D b)/\∀ j p,e[j]? = some p->∃ v,x.W.cell? ⟨b,i * k+j,none⟩=some v/\Rep x p v:=by{
obtain ⟨h1,h2,vs,⟨hl,h3⟩,h4,h5⟩:=h
have hlt:i<els.length:=(Yd.1 hi).1
rcases h3 with ⟨_,hn⟩ | ⟨b,cap,cur,hv,hB,hh,hc,hm,hs,ht⟩
omega
refine ⟨b,_,cap,hv,rfl,hc,hm,(h5 b (by rw [hv];rfl)).1,fun j p hp=>?_⟩
have hf:=I9 els h1 i e j p hi hp
have hlen:(els.flatten).length=els.length * k:=BM els h1
have hlt2:i * k+j<vs.length:=by rw [hl,<- hlen];exact (Yd.1 hf).1
obtain ⟨v,hvv⟩:∃ v,vs[i * k+j]? = some v:=⟨_,Yc hlt2⟩
refine ⟨v,?_,h4 _ p v hf hvv⟩
have hvv':=hvv
rw [<- ht,FB] at hvv'
split at hvv'
rw [cell_of_row x.W b _ cur E (0,0) hh]
simpa using hvv'
cases hvv'}
def G3 (f:Nat->Q2 (Gen×VObj)):PV->Q2 (Q3 (Q3 PV))
 | .sl els=>some els
 | .nil=>some []
 | .row t g=>match A8 f t g with
   | some (.row _ _ _ els)=>some els
   | some (.prow _ _ els)=>some els
   | _=>none
 | _=>none
section
variable {P:Program} {r:Run} {o:Oper} {i:Nat} {s:FS}
theorem c9 {S:Nat->Prop} {a:Act} {x:Ctx} (hX:RstX r S s a x) {p:PV} {v:Value} {els:Q3 (Q3 PV)} (h:G3 s.ob p=some els) (hr:Rep x p v) :
  ∃ A c k,v = .slice A els.length c/\els.length<=c/\c<=9223372036854775807/\(∀ e ∈ els,e.length=k)/\(∀ e ∈ els,∀ q ∈ e,q.cell=true)/\
   ∃ b off,(0<els.length->A=some ⟨b,off,none⟩/\∀ (i j:Nat) (e:Q3 PV) (q:PV),els[i]? = some e->e[j]? = some q->∃ w,x.W.cell? ⟨b,off+i * k+j,none⟩=some w/\Rep x q w):=by{
have old:BT s.ob p=some els->∃ A c k,v = .slice A els.length c/\els.length<=c/\c<=9223372036854775807/\(∀ e ∈ els,e.length=k)/\(∀ e ∈ els,∀ q ∈ e,q.cell=true)/\
  ∃ b off,(0<els.length->A=some ⟨b,off,none⟩/\∀ (i j:Nat) (e:Q3 PV) (q:PV),els[i]? = some e->e[j]? = some q->∃ w,x.W.cell? ⟨b,off+i * k+j,none⟩=some w/\Rep x q w):=fun h=>by
 obtain ⟨A,c,k,h1,h2,h3,h4,h5,h6⟩:=S9 hX h hr
 exact ⟨A,c,k,h1,h2,h3,h4,fun e he q hq=>PV.cell_of_pure (h5 e he q hq),h6⟩
cases p with
| sl els'=>exact old h
| nil=>exact old h
| row t g=>
  unfold G3 at h
  simp only at h
  split at h
  rename_i E k sh els' hob
  exact old (by unfold BT;simp only [hob];exact h)
  rename_i E k els' hob
  cases h
  obtain ⟨hg,hO⟩:=hX.ob t g _ (C6 hob)
  have hO':=hO
  obtain ⟨h1,h2,vs,h3,h4,h5⟩:=hO
  cases hr with
  | row _ _ A n c hG hv=>
    rcases h3.2 with ⟨hn,hl⟩ | ⟨b,cap,cur,hv2,hB,hh,hc,hm,hs,ht⟩
    rw [hv] at hn
    injection hn with q1 q2 q3
    subst q1 q2 q3
    refine ⟨none,0,k,by rw [hl],by omega,by omega,h1,h2,0,0,fun h0=>absurd h0 (by omega)⟩
    rw [hv] at hv2
    injection hv2 with q1 q2 q3
    subst q1 q2 q3
    refine ⟨_,c,k,rfl,hc,by unfold maxLen at hm;omega,h1,h2,b,0,fun h0=>⟨rfl,fun i j e q he hq=>?_⟩⟩
    obtain ⟨b',n',c',h6,_,_,_,_,h7⟩:=VV hO' he
    rw [hv] at h6
    injection h6 with h6
    injection h6 with h6
    cases h6
    rw [YY]
    exact h7 j q hq
  cases h
| _=>simp [G3] at h}
theorem yB {T:TypeId} {e:Operand} {E a1 a2:Nat} {a3:Q3 PV} {els:Q3 (Q3 PV)} (ho:o.op = .call { callee:=.builtin .len,args:=#[e],argTypes:=#[T] }) (ht:tyI P T=some ⟨.slice E,a1,a2,a3⟩) (hels:G3 s.ob (ev s e)=some els):OpOK P r o i s ⟨.int .i64 els.length,[]⟩:=by{
intro S a x Q hX hi hd
obtain ⟨inf,z,h1,_⟩:=ZP ht
obtain ⟨A,c,k,hv,_⟩:=c9 hX hels (AE hX e)
refine ZX (v:=.int .i64 els.length) (W':=x.W) ?_ (hX.val hd (.int _ _))
unfold execOp
rw [ho]
simp [resolve,invoke,builtin,Builtin.len_,hv,run_underlying h1,goInt]}
theorem yC {T:TypeId} {e e':Operand} {E E' a1 a2 t k n:Nat} {a3:Q3 PV} {te:TI} {g:Gen} {els:Q3 (Q3 PV)} (ho:o.op = .indexAddr T e e') (ht:tyI P T=some ⟨.slice E,a1,a2,a3⟩) (hte:tyI P E=some te) (he:ev s e = .row t g)
  (hn:toNat? (ev s e')=some n) (hob:A8 s.ob t g=some (.prow E' k els)) (hnl:n<els.length) (hk:k=te.size):OpOK P r o i s ⟨.elp t g n k 0,[]⟩:=by{
intro S a x Q hX hi hd
subst hk
obtain ⟨inf,z,h1,_⟩:=ZP ht
obtain ⟨inf',z',h1',h2',_,h4',_,_⟩:=ZP hte
have hr:=AE hX e
obtain ⟨kd,hidx⟩:=IA hn (AE hX e')
have key:∀ (ad:Addr) (len cap:Nat),a.eval e = .slice (some ad) len cap->n<len->(execOp a.eval o).run P x.W = .ok (.value (.pointer (some (ad.add (n * te.size))))) x.W:=fun ad len cap hv hlt=>by
 unfold execOp
 rw [ho]
 have:(0:Int)<=n/\(n:Int)<len:=by omega
 simp [hv,hidx,Instr.indexAt,asIntOf,run_underlying h1,sizeOf,typeInfo,h2',h4',hlt]
rw [he] at hr
obtain ⟨hg,hO⟩:=hX.ob t g _ (C6 hob)
obtain ⟨b,m,c,h5,h6,_⟩:=VV hO (Yc hnl)
generalize hv:a.eval e=v at hr key
cases hr with
| row _ _ A m' c' hG hvv=>
  rw [h5] at hvv
  injection hvv with q1 q2 q3
  subst q1 q2 q3
  refine ZX (key _ m c rfl (by omega)) (hX.val hd ?_)
  rw [EL,YY]
  have:=Rep.elp (x:=x) t g n te.size 0 b hG (by rw [h5];rfl)
  rw [DS] at this
  exact this}
theorem yD {T:TypeId} {e:Operand} {ti:TI} {t n k off E:Nat} {g:Gen} {els:Q3 (Q3 PV)} {el:Q3 PV} {p:PV} (ho:o.op = .load T e) (ht:tyI P T=some ti) (he:ev s e = .elp t g n k off) (hob:A8 s.ob t g=some (.prow E k els))
  (hel:els[n]? = some el) (hp:H2 ti (el.drop off)=some p):OpOK P r o i s ⟨p,[]⟩:=by{
intro S a x Q hX hi hd
have hr:=AE hX e
rw [he] at hr
obtain ⟨hg,hO⟩:=hX.ob t g _ (C6 hob)
obtain ⟨b,m,c,h1,_,_,_,_,hc⟩:=VV hO hel
generalize hv:a.eval e=v at hr
cases hr with
| elp _ _ _ _ _ b' hG hb=>
  rw [h1] at hb
  obtain rfl:b=b':=by simpa [blk] using hb
  obtain ⟨v,h2,h3⟩:=aR (x:=x) (b:=b) (off:=n * k+off) ht (fun j q hq=>by
   rw [FX] at hq
   rw [H0]
   exact hc (off+j) q hq) hp
  refine ZX (v:=v) (W':=x.W) ?_ (hX.val hd h3)
  unfold execOp
  rw [ho]
  simp [hv,h2]}
end
open Go.RowKit
section
variable {P:Program} {r:Run} {o:Oper} {i:Nat} {s:FS}
theorem yE {T:TypeId} {e e':Operand} {t:Nat} {g:Gen} {n k off E:Nat} {els:Q3 (Q3 PV)} {el:Q3 PV} {ti:TI} (ho:o.op = .store T e e') (ht:tyI P T=some ti) (hl:(ev s e').cells.length=ti.size) (hp:ev s e = .elp t g n k off)
  (hcell:(ev s e').cells.all PV.cell=true) (hob:A8 s.ob t g=some (.prow E k els)) (hel:els[n]? = some el) (hfit:off+ti.size<=k):OpOK P r o i s ⟨.un,[(t,some (g,.prow E k (els.set n (AN el off (ev s e').cells))))]⟩:=by{
intro S a x Q hX hi hd
have hr:=AE hX e
have hr':=AE hX e'
obtain ⟨h8,h9⟩:=MP hr' hcell
have hob2:=C6 hob
obtain ⟨hg,hO⟩:=hX.ob t g _ hob2
have hO':=hO
obtain ⟨h1,h2,vs,h3,h4,h5⟩:=hO
obtain ⟨b,m,c,hρ,hm,hmc,hcm,hB,_⟩:=VV hO' hel
rw [hp] at hr
generalize hv:a.eval e=v at hr
cases hr with
| elp _ _ _ _ _ b' hG hb=>
  rw [hρ] at hb
  obtain rfl:b=b':=by simpa [blk] using hb
  have hnl:n<els.length:=(Yd.1 hel).1
  have hk1:=h1 el (Yj hel)
  rcases h3.2 with ⟨_,hl0⟩ | ⟨b2,cap,cur,hv2,hB2,hh,hnc,hcm2,hcs,htake⟩
  omega
  rw [hρ] at hv2
  injection hv2 with q1 q2 q3
  injection q1 with q1
  injection q1 with q1
  subst q1 q2 q3
  have hvl:vs.length=els.length * k:=h3.1
  have hroom:n * k+off+ti.size<=els.length * k:=by
   calc n * k+off+ti.size<=n * k+k:=by omega
    _=(n+1) * k:=by rw [FF]
    _<=els.length * k:=GX _ hnl
  have hcap:els.length * k<=c * k:=GX _ hnc
  have hrun:=aT (P:=P) (off:=n * k+off) ht hh hr' hcell hl (by omega)
  have hF:∀ b' o',x.F b' o'->b'≠b:=fun b' o' hFF e=>by
   subst e
   exact (h5 b' (by rw [hρ];rfl)).2 o' hFF
  let W':=x.W.setRow b (cur.toList.take (n * k+off)++(a.eval e').cells.toList++cur.toList.drop (n * k+off+(a.eval e').cells.toList.length)).toArray
  have k2:Step x ⟨x.G,x.F,W',x.ρ⟩:=⟨fun _ h=>⟨h,rfl⟩,fun _ _ h=>h,fun b' o' v' hFF hv'=>(V9 x.W b _ (hF b' o' hFF)).trans hv'⟩
  have hsz:W'.heap.size=x.W.heap.size:=by simp [W',World.setRow]
  refine aQ (W':=W') ?_ ⟨⟨x.G,x.F,W',x.ρ⟩,rfl,?_⟩
  unfold execOp
  rw [ho]
  simp [hv,hrun,W']
  refine hX.change k2 hd rfl rfl rfl (by rw [hsz];exact Yn _) (fun b' hb' hne=>setRow_other x.W b b' _ (fun e=>hne g _ hob2 (by rw [hρ,e];rfl))) (fun _ _ h=>.inl h) (fun b' o' hb'=>by show b'<W'.heap.size;rw [hsz];exact hX.flt b' o' hb')
   (fun g' hg'=>(hX.gens g' hg').imp id fun ⟨e1,e2⟩=>⟨e1,.inl e2⟩) hg ?_ (fun b' hb'=>.inr ⟨g,_,hob2,hb'⟩) (.un _)
  have hlen2:(AN el off (ev s e').cells).length=k:=by rw [MQ _ _ _ (by omega),hk1]
  have hwl:∀ e2 ∈ els.set n (AN el off (ev s e').cells),e2.length=k:=fun e2 he2=>by
   rcases IT he2 with h | h
   exact h1 e2 h
   rw [h,hlen2]
  have hcl:(a.eval e').cells.toList.length=ti.size:=by rw [YF];omega
  refine ⟨hwl,fun e2 he2 p hp=>?_,vs.take (n * k+off)++(a.eval e').cells.toList++vs.drop (n * k+off+(a.eval e').cells.toList.length),?_,fun m' p v' hpp hvv=>?_,fun b' hb'=>⟨(h5 b' hb').1,fun o' hFF=>(h5 b' hb').2 o' hFF⟩⟩
  rcases IT he2 with h | h
  exact h2 e2 h p hp
  subst h
  unfold AN at hp
  rcases YD.1 hp with hp | hp
  rcases YD.1 hp with hp | hp
  exact h2 el (Yj hel) p (EH hp)
  exact Yq.1 hcell p hp
  exact h2 el (Yj hel) p (KT hp)
  refine ⟨?_,.inr ⟨b,c,_,by show x.ρ g=_;rw [hρ,GY],hB2,setRow_heap x.W b cur _ E (0,0) hh,by rw [GY];exact hnc,hcm2,?_,?_⟩⟩
  simp;omega
  simp;omega
  rw [GY,<- htake]
  exact aW cur.toList (a.eval e').cells.toList (n * k+off) (els.length * k) (by rw [hcl];omega) (by have e:cur.toList.length=cur.size:=(by simp);omega)
  have hpp':(els.flatten.take (n * k+off)++(ev s e').cells++els.flatten.drop (n * k+off+(ev s e').cells.length))[m']? = some p:=by
   rw [<- VD els h1 n el off (ev s e').cells hel (by rw [hl];exact hfit)]
   exact hpp
  rcases written (by rw [BM els h1,hvl]) (by rw [hl,hcl]) (by rw [BM els h1,hl];exact hroom) hpp' hvv with ⟨e1,e2⟩ | ⟨j,e1,e2⟩
  exact (h4 m' p v' e1 e2).step k2
  exact (h9 j p v' e1 (by simpa using e2)).step k2}
theorem yF {S:Nat->Prop} {a:Act} {x:Ctx} (hX:RstX r S s a x) {T E:TypeId} {ty:TypeId} {ti te:TI} (ht:tyI P T=some ti) (hE:ti.desc = .slice E) (hte:tyI P E=some te) (hk0:0<te.size) (hz:te.zero.length=te.size)
  {v0:Value} {n:Nat} {xs:Q3 Value} (hown:x.W.ownsRow 0 E te.size v0 n xs) {p:PV} {v:Value} {new:Q3 (Q3 PV)} (hnew:G3 s.ob p=some new) (hr:Rep x p v) (hk:∀ e ∈ new,e.length=te.size)
  (h63:n+new.length<=9223372036854775807) (hbytes:(n+new.length) * te.bytes<=140737488355328) :
  ∃ v' W' ys,(Builtin.append_ #[T,T] ty #[v0,v]).run P x.W = .ok v' W'/\W'.ownsRow 0 E te.size v' (n+new.length) (xs++ys)/\x.W.grownBy W' v0.ownBlock/\(v'.ownBlock=v0.ownBlock\/(v'.ownBlock=some x.W.heap.size/\x.W.grownBy W' none))/\
   ys.length=new.length * te.size/\∀ (m:Nat) (q:PV) (w:Value),new.flatten[m]? = some q->ys[m]? = some w->Rep x q w:=by{
obtain ⟨inf,z,h1,_⟩:=ZP ht
rw [hE] at h1
obtain ⟨inf',z',h1',h2',h3',h4',h5',h6'⟩:=ZP hte
obtain ⟨A,c,k,rfl,hc,hm,hkk,hpure,b,off,hcell⟩:=c9 hX hnew hr
have hbase:0<=x.W.heap.size:=YJ _
rcases I6 new.length with h0 | h0
have hn0:new = []:=Yl h0
subst hn0
cases A with
| none=>
  refine ⟨v0,x.W,[],aM x.W 0 T ty E inf' te.size h1 h2' v0 n xs hown c,by simpa using hown,World.grownBy.refl _ _,.inl rfl,by simp,fun m q w hq=>by simp at hq⟩
| some ad=>
  obtain ⟨v',W',hrun,g1,g2,g3⟩:=VA (P:=P) x.W 0 T ty E inf' z' te.size te.bytes h1 h2' h3' h4' h5' (by rw [<- hz,h6'];simp) hk0 v0 n xs hown ad 0 c [] (by simp) (fun j u hu=>by simp at hu) (fun u hu=>by simp at hu) (by unfold maxLen;simp at h63;omega) (by simpa using hbytes) hbase
  exact ⟨v',W',[],by simpa using hrun,by simpa using g1,g2,g3,by simp,fun m q w hq=>by simp at hq⟩
obtain ⟨hA,hcell2⟩:=hcell h0
subst hA
have hks:k=te.size:=by
 obtain ⟨e,he⟩:=gF h0
 rw [<- hkk e he];exact hk e he
subst hks
have hlen:new.flatten.length=new.length * te.size:=BM new hkk
have hat:∀ m,m<new.flatten.length->∃ q w,new.flatten[m]? = some q/\x.W.cell? ⟨b,off+m,none⟩=some w/\Rep x q w/\q.cell=true:=fun m hml=>by
 rw [hlen] at hml
 have hi:m / te.size<new.length:=KU (by rw [EK];exact hml)
 have hj:m % te.size<te.size:=JQ _ hk0
 have hem:m / te.size * te.size+m % te.size=m:=by rw [EK];exact ML m te.size
 have he:new[m / te.size]? = some new[m / te.size]:=Yc hi
 have hel:(new[m / te.size]).length=te.size:=hkk _ (JL hi)
 have hq:(new[m / te.size])[m % te.size]? = some ((new[m / te.size])[m % te.size]'(by omega)):=Yc (by omega)
 obtain ⟨w,hw1,hw2⟩:=hcell2 _ _ _ _ he hq
 refine ⟨_,w,?_,?_,hw2,hpure _ (JL hi) _ (JL _)⟩
 rw [<- I9 new hkk _ _ _ _ he hq,hem]
 rw [<- hw1,H0,hem]
let ys:Q3 Value:=(List.range new.flatten.length).map fun m=>(x.W.cell? ⟨b,off+m,none⟩).getD undef
have hyl:ys.length=new.flatten.length:=by simp [ys]
have hyg:∀ m w,ys[m]? = some w->m<new.flatten.length/\x.W.cell? ⟨b,off+m,none⟩=some w:=fun m w hw=>by
 have hml:m<new.flatten.length:=by rw [<- hyl];exact (Yd.1 hw).1
 obtain ⟨q,w',_,hw',_⟩:=hat m hml
 refine ⟨hml,?_⟩
 simp only [ys,Yw,UW hml,Yo,Yp] at hw
 rw [hw'] at hw ⊢
 rw [<- hw];rfl
obtain ⟨v',W',hrun,g1,g2,g3⟩:=VA (P:=P) x.W 0 T ty E inf' z' te.size te.bytes h1 h2' h3' h4' h5' (by rw [<- hz,h6'];simp) hk0 v0 n xs hown ⟨b,off,none⟩ new.length c ys (by rw [hyl,hlen])
 (fun j u hu=>by rw [EL];exact (hyg j u hu).2) (fun u hu=>by
  obtain ⟨m,hm'⟩:=YA hu
  obtain ⟨hml,hw⟩:=hyg m u hm'
  obtain ⟨q,w',_,hw',hq,hp⟩:=hat m hml
  rw [hw'] at hw
  cases hw
  exact hq.one hp) (by unfold maxLen;omega) hbytes hbase
refine ⟨v',W',ys,hrun,g1,g2,g3,by rw [hyl,hlen],fun m q w hq hw=>?_⟩
obtain ⟨hml,hw1⟩:=hyg m w hw
obtain ⟨q',w',hq',hw',hq2,_⟩:=hat m hml
rw [hq'] at hq
injection hq with hq
rw [hw'] at hw1
injection hw1 with hw1
subst hq hw1
exact hq2}
theorem yG {T:TypeId} {e e':Operand} {E a1 a2 t k:Nat} {a3:Q3 PV} {te:TI} {g:Gen} {els new:Q3 (Q3 PV)} (ho:o.op = .call { callee:=.builtin .append,args:=#[e,e'],argTypes:=#[T,T] }) (ht:tyI P T=some ⟨.slice E,a1,a2,a3⟩) (hte:tyI P E=some te)
  (he:ev s e = .row t g) (hob:A8 s.ob t g=some (.prow E k els)) (hnew:G3 s.ob (ev s e')=some new) (hks:k=te.size) (hc1:(els.length+new.length) * te.bytes<=140737488355328) (hc2:els.length+new.length<=9223372036854775807) (hc3:0<te.size) (hc4:te.zero.length=te.size)
  (hk:∀ el ∈ new,el.length=te.size):OpOK P r o i s ⟨.row t (s.ng,i),[(t,some ((s.ng,i),.prow E k (els++new)))]⟩:=by{
intro S a x Q hX hi hd
subst hks
have hr:=AE hX e
have hr':=AE hX e'
have run:∀ (v':Value) (W':World),(Builtin.append_ #[T,T] o.type #[a.eval e,a.eval e']).run P x.W = .ok v' W'->(execOp a.eval o).run P x.W = .ok (.value v') W':=fun v' W' hrun=>by
 unfold execOp
 rw [ho]
 simp [resolve,invoke,builtin,hrun]
have hob':=C6 hob
obtain ⟨hg,hO⟩:=hX.ob t g _ hob'
obtain ⟨h1,h2,vs,h3,h4,h5⟩:=hO
rw [he] at hr
generalize hv:a.eval e=v at hr run
cases hr with
| row _ _ A n c hG hvv=>
  rw [hvv] at h3
  obtain ⟨v',W',ys,hrun,g1,g2,g3,g4,g5⟩:=yF hX (ty:=o.type) ht rfl hte hc3 hc4 h3 hnew hr' hk hc2 hc1
  obtain ⟨A',c',hv',hbk⟩:=MR g1
  obtain ⟨A0,c0,hv0,hbk0⟩:=MR h3
  have hold:∀ b,b<x.W.heap.size->(∀ g o,s.ob t=some (g,o)->blk (x.ρ g)≠some b)->W'.heap[b]? = x.W.heap[b]?:=fun b hb hne=>g2.block b hb (fun e1=>hne g _ hob' (by rw [hvv,<- hbk0];exact e1.symm))
  have hxs:vs.length=els.length * te.size:=h3.1
  have hcells:∀ b o v,x.F b o->x.W.cell? ⟨b,o,none⟩=some v->W'.cell? ⟨b,o,none⟩=some v:=fun b o w hF hw=>
   (World.cell?_of_block (g2.block b (hX.flt b o hF) (fun e1=>(h5 b (by rw [hvv,<- hbk0];exact e1.symm)).2 o hF))).trans hw
  refine ZX (run v' W' hrun) ?_
  refine hX.newObj hi hd g2.os g2.tape g2.output g2.size hold hcells (v0:=v') (fun b hb=>?_)
   (fun y k hF hW hρ=>⟨?_,?_,vs++ys,by rw [hW,hρ,Yb];exact g1,fun m q w hq hw=>?_,fun b hb=>⟨?_,fun o ho=>?_⟩⟩) (fun y k hW hG hρ=>?_)
  rw [<- hbk] at hb
  rcases g3 with e1 | ⟨e1,_⟩
  rw [e1,hbk0] at hb
  exact .inr ⟨g,_,hob',by rw [hvv];exact hb⟩
  rw [e1] at hb
  injection hb with hb
  exact .inl (Nat.le_of_eq hb)
  intro el hel
  rcases YD.1 hel with hel | hel
  exact h1 el hel
  exact hk el hel
  intro el hel
  obtain ⟨_,_,_,_,_,_,_,hp,_⟩:=c9 hX hnew hr'
  rcases YD.1 hel with hel | hel
  exact h2 el hel
  exact hp el hel
  rw [MI] at hq
  have hfl:els.flatten.length=vs.length:=by rw [hxs,BM els h1]
  rw [KV] at hq hw
  rw [hfl] at hq
  split at hq
  rename_i hm
  rw [if_pos hm] at hw
  exact (h4 m q w hq hw).step k
  rename_i hm
  rw [if_neg hm] at hw
  exact (g5 _ q w hq hw).step k
  rw [hρ,<- hbk] at hb
  rcases g3 with e1 | ⟨e1,_⟩
  rw [e1,hbk0] at hb
  exact (h5 b (by rw [hvv];exact hb)).1
  rw [e1] at hb
  injection hb with hb
  rw [<- hb]
  exact .inl hX.gr.size
  rw [hF] at ho
  rw [hρ,<- hbk] at hb
  rcases g3 with e1 | ⟨e1,_⟩
  rw [e1,hbk0] at hb
  exact (h5 b (by rw [hvv];exact hb)).2 o ho
  rw [e1] at hb
  injection hb with hb
  have:=hX.flt b o ho
  change b<x.W.heap.size at this
  omega
  subst hv'
  rw [<- Yb] at hρ ⊢
  exact .row _ _ _ _ _ hG hρ}
end
open Go.RowKit
section
variable {P:Program} {r:Run} {o:Oper} {i:Nat} {s:FS}
theorem yH {T:TypeId} {e w:Operand} {E a1 a2 t k n:Nat} {a3:Q3 PV} {te:TI} {g:Gen} {els:Q3 (Q3 PV)} (ho:o.op = .slice T e none (some w) none) (ht:tyI P T=some ⟨.slice E,a1,a2,a3⟩) (hte:tyI P E=some te)
  (he:ev s e = .row t g) (hob:A8 s.ob t g=some (.prow E k els)) (hn:toNat? (ev s w)=some n) (hnl:n<=els.length):OpOK P r o i s ⟨.row t (s.ng,i),[(t,some ((s.ng,i),.prow E k (els.take n)))]⟩:=by{
intro S a x Q hX hi hd
obtain ⟨inf,z,h1,_⟩:=ZP ht
obtain ⟨inf',z',h1',h2',_,h4',_,_⟩:=ZP hte
have hr:=AE hX e
obtain ⟨kd,hw⟩:=IA hn (AE hX w)
have hob':=C6 hob
obtain ⟨hg,hO⟩:=hX.ob t g _ hob'
obtain ⟨q1,q2,vs,h3,q4,q5⟩:=hO
rw [he] at hr
generalize hv:a.eval e=v at hr
cases hr with
| row _ _ A m c hG hvv=>
  rw [hvv] at h3
  have hmc:m=els.length/\els.length<=c/\(A=none/\c=0/\els.length=0\/∃ b,A=some ⟨b,0,none⟩):=by
   rcases h3.2 with ⟨hn0,hl⟩ | ⟨b,cap,cur,hv2,_,_,hc,_⟩
   injection hn0 with e1 e2 e3
   exact ⟨by omega,by omega,.inl ⟨e1,by omega,hl⟩⟩
   injection hv2 with e1 e2 e3
   subst e3
   exact ⟨e2,hc,.inr ⟨b,e1⟩⟩
  obtain ⟨rfl,hlc,hA⟩:=hmc
  have hb:(Instr.sliceBounds true els.length c none (some (a.eval w)) none).run P x.W = .ok (0,n,c) x.W:=by
   have hhc:(0:Int)<=n/\(n:Int)<=c:=by omega
   have hhc2:n<=c:=by omega
   simp [Instr.sliceBounds,Instr.sliceBound,asIntOf,hw,hhc2]
  have hsame:(if c=0 then A else A.map (·.add (0 * te.size)))=A:=by
   rcases hA with ⟨rfl,rfl,_⟩ | ⟨b,rfl⟩
   rfl
   split
   rfl
   simp only [Yo,EL,KZ,DS]
  refine ZX (v:=.slice A n c) (W':=x.W) ?_ ?_
  unfold execOp
  rw [ho]
  have hb':=hb
  simp [hv,Instr.sliceAt,Instr.slice,run_underlying h1,hb',sizeOf,typeInfo,h2',h4']
  have:=hsame
  simp at this
  exact this
  refine hX.newObj hi hd rfl rfl rfl (Yn _) (fun b hb _=>rfl) (fun b o v hF hv=>hv) (v0:=.slice A n c) (fun b hb=>.inr ⟨g,_,hob',?_⟩) (fun y st hF hW hρ=>⟨fun el hel=>q1 el (EH hel),fun el hel=>q2 el (EH hel),vs.take (n * k),?_,fun m' q u hq hu=>?_,fun b hb=>⟨?_,fun o ho=>?_⟩⟩) (fun y st hW hG hρ=>.row _ _ _ _ _ hG hρ)
  rw [hvv]
  rcases hA with ⟨rfl,rfl,_⟩ | ⟨b',rfl⟩
  simp [blk] at hb
  exact hb
  rw [hρ,hW]
  have hlt:(els.take n).length=n:=by rw [YE];omega
  rw [hlt]
  have hvl:vs.length=els.length * k:=h3.1
  have hnk:n * k<=els.length * k:=GX _ hnl
  refine ⟨by rw [YE];omega,?_⟩
  rcases h3.2 with ⟨hn0,hl⟩ | ⟨b,cap,cur,hv2,hB,hh,hc,hm,hs,htk⟩
  injection hn0 with e1 e2 e3
  exact .inl ⟨by rw [e1,e3,show n=0 by omega],by omega⟩
  injection hv2 with e1 e2 e3
  subst e1 e3
  refine .inr ⟨b,c,cur,rfl,hB,hh,by omega,hm,hs,?_⟩
  rw [<- htk,List.take_take,Nat.min_eq_left hnk]
  have hlf:(els.take n).flatten=els.flatten.take (n * k):=by
   have h6:els.flatten=(els.take n).flatten++(els.drop n).flatten:=by rw [<- MI,YQ]
   have h7:(els.take n).flatten.length=n * k:=by
    rw [BM (k:=k) _ (fun el hel=>q1 el (EH hel)),YE]
    have:min n els.length=n:=by omega
    rw [this]
   rw [h6,<- h7,List.take_left']
   rfl
  rw [hlf,FB] at hq
  rw [FB] at hu
  split at hq
  rename_i hm'
  rw [if_pos hm'] at hu
  exact (q4 m' q u hq hu).step st
  cases hq
  rw [hρ] at hb
  refine (q5 b ?_).1
  rw [hvv]
  rcases hA with ⟨rfl,rfl,_⟩ | ⟨b',rfl⟩
  simp [blk] at hb
  exact hb
  rw [hρ] at hb
  rw [hF] at ho
  refine (q5 b ?_).2 o ho
  rw [hvv]
  rcases hA with ⟨rfl,rfl,_⟩ | ⟨b',rfl⟩
  simp [blk] at hb
  exact hb}
theorem yI {S:Nat->Prop} {a:Act} {x:Ctx} (hX:RstX r S s a x) (hi:¬ S i) {d:Nat} (hd:d<r.N) {E k n:Nat} {els:Q3 (Q3 PV)} {vs:Array Value} (hn:els.length=n) (hk:∀ e ∈ els,e.length=k) (hp:∀ e ∈ els,∀ p ∈ e,p.cell=true)
  (hm:n<=9223372036854775807) (hr:IX x els.flatten vs) :
  ∃ y:Ctx,y.W=x.W.alloc (.cells vs E)/\RstX r (fun j=>S j\/j=i) (s.app (some d) ⟨.row d (s.ng,i),[(d,some ((s.ng,i),.prow E k els))]⟩) (a.put (some d) (.slice (some ⟨x.W.heap.size,0,none⟩) n n)) y:=by{
have hold:∀ b,b<x.W.heap.size->(x.W.alloc (.cells vs E)).heap[b]? = x.W.heap[b]?:=fun b hb=>heap_alloc_old x.W _ hb
have hl:vs.size=n * k:=by rw [<- hr.1,BM els hk,hn]
refine hX.newObj hi (fun k hk=>by cases hk;exact hd) rfl rfl rfl (by simp) (fun b hb _=>hold b hb) (fun b o v hF hv=>?_) (v0:=.slice (some ⟨x.W.heap.size,0,none⟩) n n) (fun b hb=>.inl ?_) (fun y st hF hW hρ=>?_) (fun y st hW hG hρ=>?_)
rw [World.cell?_of_block (hold b (hX.flt b o hF))];exact hv
have:x.W.heap.size=b:=by simpa [blk] using hb
omega
refine ⟨hk,hp,vs.toList,?_,fun m p v hpp hv=>((hr.2 m p v hpp (by simpa using hv)).step st),fun b hb=>⟨.inl ?_,fun o ho=>?_⟩⟩
rw [hρ,hW,hn]
exact ⟨by simp [hl],.inr ⟨x.W.heap.size,n,vs,rfl,YJ _,heap_alloc_new x.W _,Yn _,by unfold maxLen;omega,hl,by rw [GW (by simp [hl])]⟩⟩
rw [hρ] at hb
have e:x.W.heap.size=b:=by simpa [blk] using hb
rw [<- e]
exact hX.gr.size
rw [hρ] at hb
rw [hF] at ho
have e:x.W.heap.size=b:=by simpa [blk] using hb
have:=hX.flt b o ho
omega
exact .row d (s.ng,i) _ _ _ hG hρ}
theorem yJ {T:TypeId} {n d:Nat} {parts:Array (Nat×Operand)} {E a1 a2:Nat} {a3 cs:Q3 PV} {te:TI} (ho:o.op = .buildSlice T n parts) (hdst:o.dst=some d) (ht:tyI P T=some ⟨.slice E,a1,a2,a3⟩) (hte:tyI P E=some te)
  (hf:C5 (fun i=>some (i * te.size,te.size)) (List.replicate n te.zero).flatten (parts.toList.map fun q=>(q.1,ev s q.2))=some cs) (hcell:cs.all PV.cell=true) (hc1:cs.length=n * te.size) (hc2:n * te.size<=16777216) (hc3:0<te.size) :
  OpOK P r o i s ⟨.row d (s.ng,i),[(d,some ((s.ng,i),.prow E te.size (chunks te.size n cs)))]⟩:=by{
intro S a x Q hX hi hd
obtain ⟨inf,zv,h1,_⟩:=ZP ht
obtain ⟨inf',z',h1',h2',h3',h4',_,h6'⟩:=ZP hte
have hcl:=aV _ hf
have hzl:te.zero.length=z'.cells.size:=by rw [h6'];simp
have hrl:(List.replicate n te.zero).flatten.length=n * z'.cells.size:=by
 rw [BM (k:=te.zero.length) _ (fun e he=>by rw [YW he]),MH,hzl]
let z0:Array Value:=(Array.range (n * te.size)).map fun j=>(if n * te.size=0 then #[] else z'.cells)[j % (if n * te.size=0 then #[] else z'.cells).size]!
have hz0:IX x (List.replicate n te.zero).flatten z0:=by
 refine ⟨by rw [hrl];simp only [z0,Array.size_map,Array.size_range];omega,fun j p v hp hv=>?_⟩
 have hjl:j<n * z'.cells.size:=by rw [<- hrl];exact (Yd.1 hp).1
 have hzs:0<z'.cells.size:=by
  rcases I6 z'.cells.size with h0 | h0
  rw [h0] at hjl;omega
  exact h0
 have hi':j / z'.cells.size<n:=KU (by rw [EK];exact hjl)
 have hj':j % z'.cells.size<z'.cells.size:=JQ _ hzs
 have hem:j / z'.cells.size * z'.cells.size+j % z'.cells.size=j:=by rw [EK];exact ML j _
 have he:(List.replicate n te.zero)[j / z'.cells.size]? = some te.zero:=by rw [UQ,if_pos hi']
 have hq:te.zero[j % z'.cells.size]? = some (E5 z'.cells[j % z'.cells.size]):=by rw [h6'];simp [hj']
 have:=I9 (k:=z'.cells.size) (List.replicate n te.zero) (fun e he=>by rw [YW he,hzl]) _ _ _ _ he hq
 rw [hem,hp] at this
 cases this
 have hnz:n * te.size≠0:=by omega
 have hjt:j<n * te.size:=by rw [<- hc1,hcl,hrl];exact hjl
 simp only [z0,if_neg hnz] at hv
 rw [OD,RL,if_pos hjt] at hv
 simp only [Yo,Yp] at hv
 rw [JP z'.cells (j % z'.cells.size) hj'] at hv
 subst hv
 exact JT x _
obtain ⟨ws,h7,h8⟩:=SA (place':=fun i=>some (i * te.size,te.size)) (fun e=>AE hX e) (fun _ _ h=>h) parts.toList hz0 hf
obtain ⟨c1,c2,c3⟩:=aU te.size n cs hc1
obtain ⟨y,hy1,hy2⟩:=yI hX hi (hd d hdst) (E:=E) (n:=n) c3 c2 (fun e he p hp=>Yq.1 hcell p (by rw [<- c1];exact FD.2 ⟨e,he,hp⟩)) (by have:=Nat.le_mul_of_pos_right n hc3;omega) (vs:=ws) (by rw [c1];exact h8)
rw [hdst]
refine ZX (v:=.slice (some ⟨x.W.heap.size,0,none⟩) n n) (W':=x.W.alloc (.cells ws E)) ?_ ⟨y,hy1,?_⟩
unfold execOp
rw [ho]
have hle:¬ (16777216<n * te.size):=by omega
simp [Instr.buildSlice,run_underlying h1,sizeOf,typeInfo,h2',h4',hle]
by_cases hz:n * te.size=0
have ez:z0=Array.map (fun _=>default) (Array.range (n * te.size)):=by simp [z0,hz]
rw [if_pos hz,<- ez,h7]
simp [newRow,newObj]
rfl
have ez:z0=Array.map (fun j=>z'.cells[j % z'.cells.size]!) (Array.range (n * te.size)):=by simp [z0,hz]
rw [if_neg hz]
simp only [zeroValue,typeInfo,Sem.run_bind,h2',h3',Sem.run_pure,Result.andThen_ok,run_program]
rw [<- ez,h7]
simp [newRow,newObj]
rfl
rw [hdst]
exact hy2}
end
theorem LI {tm:Q3 (Nat×PV)} {ob:Q3 (Nat×Q2 (Gen×VObj))} {ng t E k:Nat} {g:Gen} {els:Q3 (Q3 PV)} (h:Zn ob t=some (g,.row E k false els)):Shift (mkS tm ob ng) (mkS tm ((t,some (g,.prow E k els))::ob) ng):=fun r a x hX=>by
 have hob:∀ t' g' o',(mkS tm ((t,some (g,.prow E k els))::ob) ng).ob t'=some (g',o')->(t'=t/\g'=g/\o' = .prow E k els)\/(mkS tm ob ng).ob t'=some (g',o'):=fun t' g' o' ho=>by
  change (if t'=t then some (g,VObj.prow E k els) else Zn ob t')=some (g',o') at ho
  split at ho
  rename_i e
  injection ho with ho
  injection ho with e1 e2
  exact .inl ⟨e,e1.symm,e2.symm⟩
  exact .inr ho
 have hsame:∀ t' g' o',(mkS tm ((t,some (g,.prow E k els))::ob) ng).ob t'=some (g',o')->∃ o2,(mkS tm ob ng).ob t'=some (g',o2):=fun t' g' o' ho=>by
  rcases hob t' g' o' ho with ⟨rfl,rfl,rfl⟩ | ho
  exact ⟨_,h⟩
  exact ⟨_,ho⟩
 refine ⟨x,rfl,hX.defers,hX.size,hX.gr,hX.gens,hX.tm,fun t' g' o' ho=>?_,fun t1 t2 g1 g2 o1 o2 b hne h1 h2 hb=>?_,hX.flt,hX.f0,hX.fnew,hX.rho,hX.inv,hX.keep⟩
 rcases hob t' g' o' ho with ⟨rfl,rfl,rfl⟩ | ho
 obtain ⟨hg,q1,q2,vs,q3,q4,q5⟩:=hX.ob t' g' _ h
 exact ⟨hg,q1,fun e he p hp=>PV.cell_of_pure (q2 e he p hp),vs,q3,q4,fun b hb=>⟨(q5 b hb).1,fun o hF=>by have:=((q5 b hb).2 o hF).1;cases this⟩⟩
 exact hX.ob t' g' o' ho
 obtain ⟨o1',h1'⟩:=hsame t1 g1 o1 h1
 obtain ⟨o2',h2'⟩:=hsame t2 g2 o2 h2
 exact hX.apart t1 t2 g1 g2 o1' o2' b hne h1' h2' hb
open Go.RowKit
def rn1 (σ:Gen->Q2 (Nat×Gen)):PV->Q2 PV | .ptr _ g o=>(σ g).map fun q=>.ptr q.1 q.2 o | .elp _ g i k o=>(σ g).map fun q=>.elp q.1 q.2 i k o | .row _ g=>(σ g).map fun q=>.row q.1 q.2 | .suf _ g i k=>(σ g).map fun q=>.suf q.1 q.2 i k | .agg _=>none | .tup _=>none | .fn _ _=>none | p=>some p
def rnL (σ:Gen->Q2 (Nat×Gen)):Q3 PV->Q2 (Q3 PV)
 | []=>some []
 | p::ps=>match rn1 σ p,rnL σ ps with
   | some q,some qs=>some (q::qs)
   | _,_=>none
def rnP (σ:Gen->Q2 (Nat×Gen)):PV->Q2 PV | .agg ps=>(rnL σ ps).map .agg | .tup ps=>(rnL σ ps).map .tup | p=>rn1 σ p
def AY (σ:Gen->Q2 (Nat×Gen)):Q3 (Q3 PV)->Q2 (Q3 (Q3 PV))
 | []=>some []
 | e::es=>match rnL σ e,AY σ es with
   | some q,some qs=>some (q::qs)
   | _,_=>none
def rnO (σ:Gen->Q2 (Nat×Gen)):VObj->Q2 VObj | .box cs=>(rnL σ cs).map .box | .row E k sh els=>some (.row E k sh els) | .prow E k els=>(AY σ els).map (.prow E k)
section
variable {σ:Gen->Q2 (Nat×Gen)} {x y:Ctx}
theorem GK:∀ {ps qs:Q3 PV},rnL σ ps=some qs->ps.length=qs.length/\(∀ (i:Nat) (p:PV),ps[i]? = some p->∃ q,qs[i]? = some q/\rn1 σ p=some q)/\∀ (i:Nat) (q:PV),qs[i]? = some q->∃ p,ps[i]? = some p/\rn1 σ p=some q
 | [],qs,h=>by
   cases h
   exact ⟨rfl,fun i p hp=>by simp at hp,fun i p hp=>by simp at hp⟩
 | p::ps,qs,h=>by
   simp only [rnL] at h
   split at h
   rename_i q qs' h1 h2
   cases h
   obtain ⟨h3,h4,h5⟩:=GK h2
   refine ⟨by simp [h3],fun i p' hp=>?_,fun i p' hp=>?_⟩
   cases i with
   | zero=>
     simp only [GD,Yp] at hp
     subst hp
     exact ⟨q,rfl,h1⟩
   | succ i=>
     simp only [GC] at hp ⊢
     exact h4 i p' hp
   cases i with
   | zero=>
     simp only [GD,Yp] at hp
     subst hp
     exact ⟨p,rfl,h1⟩
   | succ i=>
     simp only [GC] at hp ⊢
     exact h5 i p' hp
   cases h
theorem kD:∀ {a b qa qb:Q3 PV},rnL σ a=some qa->rnL σ b=some qb->rnL σ (a++b)=some (qa++qb)
 | [],b,qa,qb,h,h'=>by injection h with h;subst h;exact h'
 | p::ps,b,qa,qb,h,h'=>by
   simp only [rnL] at h
   split at h
   rename_i q qs h1 h2
   cases h
   simp only [FC,rnL,h1,kD h2 h']
   cases h
theorem cA:∀ {es qs:Q3 (Q3 PV)},AY σ es=some qs->es.length=qs.length/\rnL σ es.flatten=some qs.flatten/\(∀ (i:Nat) (e:Q3 PV),es[i]? = some e->∃ q,qs[i]? = some q/\rnL σ e=some q)/\∀ (i:Nat) (q:Q3 PV),qs[i]? = some q->∃ e,es[i]? = some e/\rnL σ e=some q
 | [],qs,h=>by
   cases h
   exact ⟨rfl,rfl,fun i p hp=>by simp at hp,fun i p hp=>by simp at hp⟩
 | e::es,qs,h=>by
   simp only [AY] at h
   split at h
   rename_i q qs' h1 h2
   cases h
   obtain ⟨h3,h4,h5,h6⟩:=cA h2
   refine ⟨by simp [h3],?_,fun i p' hp=>?_,fun i p' hp=>?_⟩
   rw [FY,FY]
   exact kD h1 h4
   cases i with
   | zero=>
     simp only [GD,Yp] at hp
     subst hp
     exact ⟨q,rfl,h1⟩
   | succ i=>
     simp only [GC] at hp ⊢
     exact h5 i p' hp
   cases i with
   | zero=>
     simp only [GD,Yp] at hp
     subst hp
     exact ⟨e,rfl,h1⟩
   | succ i=>
     simp only [GC] at hp ⊢
     exact h6 i p' hp
   cases h
structure Bk (σ:Gen->Option (Nat×Gen)) (x y:Ctx):Prop where
 G:∀ g k g',σ g=some (k,g')->x.G g'->y.G g/\y.ρ g=x.ρ g'
 F:∀ b o,x.F b o->y.F b o
 W:∀ b o v,x.F b o->x.W.cell? ⟨b,o,none⟩=some v->y.W.cell? ⟨b,o,none⟩=some v
structure Fw (σ:Gen->Option (Nat×Gen)) (x y:Ctx):Prop where
 G:∀ g k g',σ g=some (k,g')->x.G g->y.G g'/\y.ρ g'=x.ρ g
 F:∀ b o,x.F b o->y.F b o
 W:∀ b o v,x.F b o->x.W.cell? ⟨b,o,none⟩=some v->y.W.cell? ⟨b,o,none⟩=some v
theorem SV {p q:PV} {v:Value} (k:Bk σ x y) (h:rn1 σ p=some q) (hr:Rep x q v):Rep y p v:=by{
cases p with
| ptr t g o=>
  simp only [rn1,Ye] at h
  obtain ⟨⟨t',g'⟩,h1,rfl⟩:=h
  cases hr with
  | ptr _ _ _ b hG hb=>
    obtain ⟨a1,a2⟩:=k.G g t' g' h1 hG
    exact .ptr _ _ _ b a1 (by rw [a2];exact hb)
| elp t g i kk o=>
  simp only [rn1,Ye] at h
  obtain ⟨⟨t',g'⟩,h1,rfl⟩:=h
  cases hr with
  | elp _ _ _ _ _ b hG hb=>
    obtain ⟨a1,a2⟩:=k.G g t' g' h1 hG
    exact .elp _ _ _ _ _ b a1 (by rw [a2];exact hb)
| row t g=>
  simp only [rn1,Ye] at h
  obtain ⟨⟨t',g'⟩,h1,rfl⟩:=h
  cases hr with
  | row _ _ A n c hG hv=>
    obtain ⟨a1,a2⟩:=k.G g t' g' h1 hG
    exact .row _ _ A n c a1 (a2.trans hv)
| suf t g i kk=>
  simp only [rn1,Ye] at h
  obtain ⟨⟨t',g'⟩,h1,rfl⟩:=h
  cases hr with
  | suf _ _ _ _ A A' n c c' hG hv h3 h4 h5=>
    obtain ⟨a1,a2⟩:=k.G g t' g' h1 hG
    exact .suf _ _ _ _ A A' n c c' a1 (a2.trans hv) h3 h4 h5
| agg ps=>cases h
| tup ps=>cases h
| fn f ps=>cases h
| un=>exact .un _
| nil=>injection h with h;subst h;cases hr;exact .nil
| cel cs=>
  cases h
  cases hr with
  | cel _ b off f hcell hh=>exact .cel cs b off f (fun j p hp=>⟨(hcell j p hp).1,k.F _ _ (hcell j p hp).2.1,k.W _ _ _ (hcell j p hp).2.1 (hcell j p hp).2.2⟩) fun j p hp=>(hh j p hp).pure_mono (hcell j p hp).1 k.F k.W
| bool b=>injection h with h;subst h;exact hr.pure_mono rfl k.F k.W
| int kd n=>injection h with h;subst h;exact hr.pure_mono rfl k.F k.W
| str s=>injection h with h;subst h;exact hr.pure_mono rfl k.F k.W
| sl els=>injection h with h;subst h;exact hr.pure_mono rfl k.F k.W}
theorem SX {p q:PV} {v:Value} (k:Fw σ x y) (h:rn1 σ p=some q) (hr:Rep x p v):Rep y q v:=by{
cases p with
| ptr t g o=>
  simp only [rn1,Ye] at h
  obtain ⟨⟨t',g'⟩,h1,rfl⟩:=h
  cases hr with
  | ptr _ _ _ b hG hb=>
    obtain ⟨a1,a2⟩:=k.G g t' g' h1 hG
    exact .ptr _ _ _ b a1 (by rw [a2];exact hb)
| elp t g i kk o=>
  simp only [rn1,Ye] at h
  obtain ⟨⟨t',g'⟩,h1,rfl⟩:=h
  cases hr with
  | elp _ _ _ _ _ b hG hb=>
    obtain ⟨a1,a2⟩:=k.G g t' g' h1 hG
    exact .elp _ _ _ _ _ b a1 (by rw [a2];exact hb)
| row t g=>
  simp only [rn1,Ye] at h
  obtain ⟨⟨t',g'⟩,h1,rfl⟩:=h
  cases hr with
  | row _ _ A n c hG hv=>
    obtain ⟨a1,a2⟩:=k.G g t' g' h1 hG
    exact .row _ _ A n c a1 (a2.trans hv)
| suf t g i kk=>
  simp only [rn1,Ye] at h
  obtain ⟨⟨t',g'⟩,h1,rfl⟩:=h
  cases hr with
  | suf _ _ _ _ A A' n c c' hG hv h3 h4 h5=>
    obtain ⟨a1,a2⟩:=k.G g t' g' h1 hG
    exact .suf _ _ _ _ A A' n c c' a1 (a2.trans hv) h3 h4 h5
| agg ps=>cases h
| tup ps=>cases h
| fn f ps=>cases h
| un=>injection h with h;subst h;exact .un _
| nil=>injection h with h;subst h;cases hr;exact .nil
| cel cs=>
  cases h
  cases hr with
  | cel _ b off f hcell hh=>exact .cel cs b off f (fun j p hp=>⟨(hcell j p hp).1,k.F _ _ (hcell j p hp).2.1,k.W _ _ _ (hcell j p hp).2.1 (hcell j p hp).2.2⟩) fun j p hp=>(hh j p hp).pure_mono (hcell j p hp).1 k.F k.W
| bool b=>injection h with h;subst h;exact hr.pure_mono rfl k.F k.W
| int kd n=>injection h with h;subst h;exact hr.pure_mono rfl k.F k.W
| str s=>injection h with h;subst h;exact hr.pure_mono rfl k.F k.W
| sl els=>injection h with h;subst h;exact hr.pure_mono rfl k.F k.W}
theorem VW {p q:PV} (h:rn1 σ p=some q):p.cell=q.cell:=by{
cases p with
| ptr t g o=>simp only [rn1,Ye] at h;obtain ⟨_,_,rfl⟩:=h;rfl
| elp t g i k o=>simp only [rn1,Ye] at h;obtain ⟨_,_,rfl⟩:=h;rfl
| row t g=>simp only [rn1,Ye] at h;obtain ⟨_,_,rfl⟩:=h;rfl
| suf t g i k=>simp only [rn1,Ye] at h;obtain ⟨_,_,rfl⟩:=h;rfl
| agg ps=>cases h
| tup ps=>cases h
| fn f ps=>cases h
| _=>injection h with h;subst h;rfl}
theorem kE {p q:PV} {v:Value} (k:Bk σ x y) (h:rnP σ p=some q) (hr:Rep x q v):Rep y p v:=by{
cases p with
| agg ps=>
  simp only [rnP,Ye] at h
  obtain ⟨qs,h1,rfl⟩:=h
  obtain ⟨h2,h3,_⟩:=GK h1
  cases hr with
  | agg _ cs hl hh=>
    refine .agg ps cs (h2.trans hl) fun i p v hp hv=>?_
    obtain ⟨q,hq,hpq⟩:=h3 i p hp
    exact SV k hpq (hh i q v hq hv)
| tup ps=>
  simp only [rnP,Ye] at h
  obtain ⟨qs,h1,rfl⟩:=h
  obtain ⟨h2,h3,_⟩:=GK h1
  cases hr with
  | tup _ cs hl hh=>
    refine .tup ps cs (h2.trans hl) fun i p v hp hv=>?_
    obtain ⟨q,hq,hpq⟩:=h3 i p hp
    exact SV k hpq (hh i q v hq hv)
| _=>exact SV k h hr}
theorem yK {p q:PV} {v:Value} (k:Fw σ x y) (h:rnP σ p=some q) (hr:Rep x p v):Rep y q v:=by{
cases p with
| agg ps=>
  simp only [rnP,Ye] at h
  obtain ⟨qs,h1,rfl⟩:=h
  obtain ⟨h2,_,h3⟩:=GK h1
  cases hr with
  | agg _ cs hl hh=>
    refine .agg qs cs (h2.symm.trans hl) fun i q v hq hv=>?_
    obtain ⟨p,hp,hpq⟩:=h3 i q hq
    exact SX k hpq (hh i p v hp hv)
| tup ps=>
  simp only [rnP,Ye] at h
  obtain ⟨qs,h1,rfl⟩:=h
  obtain ⟨h2,_,h3⟩:=GK h1
  cases hr with
  | tup _ cs hl hh=>
    refine .tup qs cs (h2.symm.trans hl) fun i q v hq hv=>?_
    obtain ⟨p,hp,hpq⟩:=h3 i q hq
    exact SX k hpq (hh i p v hp hv)
| _=>exact SX k (by exact h) hr}
theorem kF {B B':Nat} {D D':Nat->Prop} {g g':Gen} {o o':VObj} (k:Bk σ x y) (h:rnO σ o=some o') (hρ:y.ρ g=x.ρ g') (hF:∀ b o,y.F b o->x.F b o) (hW:y.W=x.W) (hD:∀ b,blk (x.ρ g')=some b->B'<=b\/D' b) (hr:ObRep x B D g' o'):ObRep y B' D' g o:=by{
cases o with
| box cs=>
  simp only [rnO,Ye] at h
  obtain ⟨qs,h1,rfl⟩:=h
  obtain ⟨l1,l2,l3⟩:=GK h1
  obtain ⟨b,T,vs,q1,q2,q3,q4,q5,q6,q7⟩:=hr
  refine ⟨b,T,vs,hρ.trans q1,by rw [hW];exact q2,l1.trans q3,fun p hp=>?_,fun j p v hp hv=>?_,hD b (by rw [q1];rfl),fun o ho=>q7 o (hF b o ho)⟩
  obtain ⟨i,hi⟩:=YA hp
  obtain ⟨q,hq,hpq⟩:=l2 i p hi
  rw [VW hpq]
  exact q4 q (Yj hq)
  obtain ⟨q,hq,hpq⟩:=l2 j p hp
  exact SV k hpq (q5 j q v hq hv)
| row E kk sh els=>
  cases h
  obtain ⟨q1,q2,vs,q3,q4,q5⟩:=hr
  refine ⟨q1,q2,vs,by rw [hρ,hW];exact q3,fun m p v hp hv=>?_,fun b hb=>?_⟩
  obtain ⟨e,he,hpe⟩:=FD.1 (Yj hp)
  exact (q4 m p v hp hv).pure_mono (q2 e he p hpe) k.F k.W
  rw [hρ] at hb
  exact ⟨hD b hb,fun o ho=>(q5 b hb).2 o (hF b o ho)⟩
| prow E kk els=>
  simp only [rnO,Ye] at h
  obtain ⟨qs,h1,rfl⟩:=h
  obtain ⟨l1,l2,l3,l4⟩:=cA h1
  obtain ⟨q1,q2,vs,q3,q4,q5⟩:=hr
  refine ⟨fun e he=>?_,fun e he p hp=>?_,vs,by rw [hρ,hW,l1];exact q3,fun m p v hp hv=>?_,fun b hb=>?_⟩
  obtain ⟨i,hi⟩:=YA he
  obtain ⟨q,hq,hpq⟩:=l3 i e hi
  rw [(GK hpq).1]
  exact q1 q (Yj hq)
  obtain ⟨i,hi⟩:=YA he
  obtain ⟨q,hq,hpq⟩:=l3 i e hi
  obtain ⟨j,hj⟩:=YA hp
  obtain ⟨r,hr1,hr2⟩:=(GK hpq).2.1 j p hj
  rw [VW hr2]
  exact q2 q (Yj hq) r (Yj hr1)
  obtain ⟨r,hr1,hr2⟩:=(GK l2).2.1 m p hp
  exact SV k hr2 (q4 m r v hr1 hv)
  rw [hρ] at hb
  exact ⟨hD b hb,fun o ho=>(q5 b hb).2 o (hF b o ho)⟩}
theorem yL {B B':Nat} {D D':Nat->Prop} {g g':Gen} {o o':VObj} (k:Fw σ x y) (h:rnO σ o=some o') (hρ:y.ρ g'=x.ρ g) (hF:∀ b o,y.F b o->x.F b o) (hW:y.W=x.W) (hD:∀ b,blk (x.ρ g)=some b->B'<=b\/D' b) (hr:ObRep x B D g o):ObRep y B' D' g' o':=by{
cases o with
| box cs=>
  simp only [rnO,Ye] at h
  obtain ⟨qs,h1,rfl⟩:=h
  obtain ⟨l1,l2,l3⟩:=GK h1
  obtain ⟨b,T,vs,q1,q2,q3,q4,q5,q6,q7⟩:=hr
  refine ⟨b,T,vs,hρ.trans q1,by rw [hW];exact q2,l1.symm.trans q3,fun q hq=>?_,fun j q v hq hv=>?_,hD b (by rw [q1];rfl),fun o ho=>q7 o (hF b o ho)⟩
  obtain ⟨i,hi⟩:=YA hq
  obtain ⟨p,hp,hpq⟩:=l3 i q hi
  rw [<- VW hpq]
  exact q4 p (Yj hp)
  obtain ⟨p,hp,hpq⟩:=l3 j q hq
  exact SX k hpq (q5 j p v hp hv)
| row E kk sh els=>
  cases h
  obtain ⟨q1,q2,vs,q3,q4,q5⟩:=hr
  refine ⟨q1,q2,vs,by rw [hρ,hW];exact q3,fun m p v hp hv=>?_,fun b hb=>?_⟩
  obtain ⟨e,he,hpe⟩:=FD.1 (Yj hp)
  exact (q4 m p v hp hv).pure_mono (q2 e he p hpe) k.F k.W
  rw [hρ] at hb
  exact ⟨hD b hb,fun o ho=>(q5 b hb).2 o (hF b o ho)⟩
| prow E kk els=>
  simp only [rnO,Ye] at h
  obtain ⟨qs,h1,rfl⟩:=h
  obtain ⟨l1,l2,l3,l4⟩:=cA h1
  obtain ⟨q1,q2,vs,q3,q4,q5⟩:=hr
  refine ⟨fun e he=>?_,fun e he p hp=>?_,vs,by rw [hρ,hW,<- l1];exact q3,fun m q v hq hv=>?_,fun b hb=>?_⟩
  obtain ⟨i,hi⟩:=YA he
  obtain ⟨q,hq,hpq⟩:=l4 i e hi
  rw [<- (GK hpq).1]
  exact q1 q (Yj hq)
  obtain ⟨i,hi⟩:=YA he
  obtain ⟨q,hq,hpq⟩:=l4 i e hi
  obtain ⟨j,hj⟩:=YA hp
  obtain ⟨r,hr1,hr2⟩:=(GK hpq).2.2 j p hj
  rw [<- VW hr2]
  exact q2 q (Yj hq) r (Yj hr1)
  obtain ⟨r,hr1,hr2⟩:=(GK l2).2.2 m q hq
  exact SX k hr2 (q4 m r v hr1 hv)
  rw [hρ] at hb
  exact ⟨hD b hb,fun o ho=>(q5 b hb).2 o (hF b o ho)⟩}
end
open Go.RowKit
structure GRep (x:Ctx) (B:Nat) (D:Nat->Prop) (l:List (Nat×Gen×VObj)):Prop where
 ob:∀ t g o,(t,g,o) ∈ l->x.G g/\ObRep x B D g o
 apart:∀ t t' g g' o o' b,t≠t'->(t,g,o) ∈ l->(t',g',o') ∈ l->blk (x.ρ g)=some b->blk (x.ρ g')≠some b
def cB (obs:Q3 (Nat×VObj)):Q3 (Nat×Gen×VObj):=obs.map fun q=>(q.1,(0,q.1),q.2)
def Dg (x:Ctx) (obs:Q3 (Nat×VObj)) (b:Nat):Prop:=∃ t o,(t,o) ∈ obs/\blk (x.ρ (0,t))=some b
theorem P4 {obs:Q3 (Nat×VObj)} {t:Nat} {g:Gen} {o:VObj}:(t,g,o) ∈ cB obs↔(t,o) ∈ obs/\g=(0,t):=by{
unfold cB
rw [Yy]
constructor
rintro ⟨⟨t',o'⟩,h,e⟩
injection e with e1 e2
injection e2 with e2 e3
subst e1 e2 e3
exact ⟨h,rfl⟩
rintro ⟨h,rfl⟩
exact ⟨(t,o),h,rfl⟩}
structure PreG (x:Ctx) (args:List PV) (obs:List (Nat×VObj)) (vs:Array Value):Prop where
 size:args.length=vs.size
 rep:∀ (i:Nat) (p:PV) (v:Value),args[i]? = some p->vs[i]? = some v->Rep x p v
 ob:GRep x x.W.heap.size (Dg x obs) (cB obs)
 gen:∀ g,x.G g->g.1=0
 flt:∀ b o,x.F b o->b<x.W.heap.size
structure PostG (x y:Ctx) (obs:List (Nat×VObj)) (r:PV) (obs':List (Nat×Gen×VObj)) (v:Value):Prop where
 step:Step x y
 gr:Gr (Dg x obs) x.W y.W
 fnew:∀ b o,y.F b o->x.F b o\/x.W.heap.size<=b\/Dg x obs b
 flt:∀ b o,y.F b o->b<y.W.heap.size
 rep:Rep y r v
 ob:GRep y x.W.heap.size (Dg x obs) obs'
structure ContractG (P:Program) [WInv P] (f:FuncId) (args:List PV) (obs:List (Nat×VObj)) (r:PV) (obs':List (Nat×Gen×VObj)):Prop where
 isGo:VL.isGo P f=true
 calls:∀ (x:Ctx) (vs:Array Value),PreG x args obs vs->(∀ W',Gr (Dg x obs) x.W W'->WInv.I P W')->Calls P f vs x.W fun e W'=>∃ y v,y.W=W'/\e = .returned v/\PostG x y obs r obs' v
def σ0 (κ:Nat->Nat) (γ:Nat->Gen) (g:Gen):Q2 (Nat×Gen):=if g.1=0 then some (κ g.2,γ g.2) else none
def σ1 (dom:Nat->Bool) (κ:Nat->Nat) (γ:Nat->Gen) (κ':Nat->Nat) (ng i:Nat) (g:Gen):Q2 (Nat×Gen):=if g.1=0 then (if dom g.2=true then some (κ g.2,γ g.2) else none) else if g.1=1 then some (κ' g.2,(ng,i+1000000 * (g.2+1))) else none
def rnA (σ:Gen->Q2 (Nat×Gen)):Q3 PV->Q2 (Q3 PV)
 | []=>some []
 | p::ps=>match rnP σ p,rnA σ ps with
   | some q,some qs=>some (q::qs)
   | _,_=>none
theorem kG {σ:Gen->Q2 (Nat×Gen)}:∀ {ps qs:Q3 PV},rnA σ ps=some qs->ps.length=qs.length/\∀ (i:Nat) (p:PV),ps[i]? = some p->∃ q,qs[i]? = some q/\rnP σ p=some q
 | [],qs,h=>by
   cases h
   exact ⟨rfl,fun i p hp=>by simp at hp⟩
 | p::ps,qs,h=>by
   simp only [rnA] at h
   split at h
   rename_i q qs' h1 h2
   cases h
   obtain ⟨h3,h4⟩:=kG h2
   refine ⟨by simp [h3],fun i p' hp=>?_⟩
   cases i with
   | zero=>
     simp only [GD,Yp] at hp
     subst hp
     exact ⟨q,rfl,h1⟩
   | succ i=>
     simp only [GC] at hp ⊢
     exact h4 i p' hp
   cases h
def usG (κ:Nat->Nat) (obs:Q3 (Nat×VObj)) (obs2:Q3 (Nat×Gen×VObj)):Q3 (Nat×Q2 (Gen×VObj)):=obs.map (fun q=>(κ q.1,none))++obs2.map fun q=>(q.1,some q.2)
section
variable {P:Program} [WInv P] {r:Run} {ops:Array Oper} {o:Oper} {i:Nat} {s s':FS}
theorem yM {f:FuncId} {es:Array Operand} {ts:Array TypeId} {args:Q3 PV} {obs:Q3 (Nat×VObj)} {res res2:PV} {obs' obs2:Q3 (Nat×Gen×VObj)} {dom:Nat->Bool} {κ κ':Nat->Nat} {γ:Nat->Gen} (ho:o.op = .call { callee:=.value (.func f),args:=es,argTypes:=ts })
  (he:rnA (σ0 κ γ) args=some (es.toList.map (ev s))) (hob:∀ t o,(t,o) ∈ obs->∃ o2,rnO (σ0 κ γ) o=some o2/\s.ob (κ t)=some (γ t,o2)) (hinj:∀ t o t' o',(t,o) ∈ obs->(t',o') ∈ obs->t≠t'->κ t≠κ t')
  (hdom:∀ k,dom k=true->∃ o,(k,o) ∈ obs) (hres:rnP (σ1 dom κ γ κ' s.ng i) res=some res2)
  (h2:∀ t2 g2 o2,(t2,g2,o2) ∈ obs2->∃ t g o,(t,g,o) ∈ obs'/\σ1 dom κ γ κ' s.ng i g=some (t2,g2)/\rnO (σ1 dom κ γ κ' s.ng i) o=some o2)
  (h3:∀ t2 g2 o2 t2' g2' o2' t g o t' g' o',(t2,g2,o2) ∈ obs2->(t2',g2',o2') ∈ obs2->(t,g,o) ∈ obs'->(t',g',o') ∈ obs'->σ1 dom κ γ κ' s.ng i g=some (t2,g2)->σ1 dom κ γ κ' s.ng i g'=some (t2',g2')->t2≠t2'->t≠t')
  (hc:ContractG P f args obs res obs') (hI:r.I=WInv.I P):S8 P r o i s ⟨res2,usG κ obs obs2⟩:=by{
intro S a x Q hX hiM hi hi2 hd
have hrep:∀ (j:Nat) (p:PV),(es.toList.map (ev s))[j]? = some p->Rep x p ((es.map a.eval).getD j undef):=fun j p hp=>by
 rw [Yw] at hp
 cases he:es.toList[j]? with
 | none=>rw [he] at hp;simp at hp
 | some e=>
   rw [he] at hp
   simp only [Yo,Yp] at hp
   subst hp
   have hea:es[j]? = some e:=by simpa using he
   have:(es.map a.eval).getD j undef=a.eval e:=by simp [hea]
   rw [this]
   exact AE hX e
let z:Ctx:=⟨fun g=>g.1=0/\x.G (γ g.2),x.F,x.W,fun g=>x.ρ (γ g.2)⟩
have bk:Bk (σ0 κ γ) x z:=by
 refine ⟨fun g k g' h hG=>?_,fun _ _ h=>h,fun _ _ _ _ h=>h⟩
 unfold σ0 at h
 split at h
 rename_i e
 injection h with h
 injection h with _ h
 subst h
 exact ⟨⟨e,hG⟩,rfl⟩
 cases h
have hD:∀ b,Dg z obs b->b<x.W.heap.size/\(r.W0.heap.size<=b\/r.D b):=fun b ⟨t,o,h,hb⟩=>by
 obtain ⟨o2,_,h5⟩:=hob t o h
 exact (hX.ob (κ t) (γ t) o2 h5).2.lt b hb
have hpre:PreG z args obs (es.map a.eval):=by
 obtain ⟨l1,l2⟩:=kG he
 refine ⟨by rw [l1];simp,fun j p v hp hv=>?_,⟨fun t g o h=>?_,fun t t' g g' o o' b hne h h' hb hb'=>?_⟩,fun g hg=>hg.1,hX.flt⟩
 obtain ⟨q,hq,hpq⟩:=l2 j p hp
 have:=hrep j q hq
 rw [Ym,hv] at this
 exact kE bk hpq this
 obtain ⟨hm,rfl⟩:=P4.1 h
 obtain ⟨o2,h4,h5⟩:=hob t o hm
 obtain ⟨q1,q2⟩:=hX.ob (κ t) (γ t) o2 h5
 exact ⟨⟨rfl,q1⟩,kF bk h4 rfl (fun _ _ h=>h) rfl (fun b hb=>.inr ⟨t,o,hm,hb⟩) q2⟩
 obtain ⟨hm,rfl⟩:=P4.1 h
 obtain ⟨hm',rfl⟩:=P4.1 h'
 obtain ⟨o2,_,h5⟩:=hob t o hm
 obtain ⟨o2',_,h5'⟩:=hob t' o' hm'
 exact hX.apart (κ t) (κ t') (γ t) (γ t') o2 o2' b (hinj t o t' o' hm hm' hne) h5 h5' hb hb'
have hcalls:=hc.calls z _ hpre fun W' hW=>by
 rw [<- hI]
 exact hX.inv.1 W' (hX.gr.trans' hW.os hW.tape hW.output hW.size fun b' hb' hD'=>hW.block b' (YU hb' hX.gr.size) fun hDb=>by
  rcases (hD b' hDb).2 with h | h
  omega
  exact hD' h)
unfold Oper.wp
rw [MS ho hc.isGo,Oper.upon_enter]
refine hcalls.mono ?_
rintro e W' ⟨y,v,rfl,rfl,hpost⟩
let nm:Nat->Gen:=fun c=>(s.ng,i+1000000 * (c+1))
let y':Ctx:=⟨fun g'=>x.G g'\/∃ c,g'=nm c/\y.G (1,c),y.F,y.W,fun g'=>if g'.1=s.ng/\g'.2 % 1000000=i/\1000000<=g'.2 then y.ρ (1,g'.2 / 1000000-1) else x.ρ g'⟩
have yn:∀ c,y'.ρ (nm c)=y.ρ (1,c):=fun c=>by
 show (if s.ng=s.ng/\(i+1000000 * (c+1)) % 1000000=i/\1000000<=i+1000000 * (c+1) then y.ρ (1,(i+1000000 * (c+1)) / 1000000-1) else _)=_
 rw [if_pos ⟨rfl,by omega,by omega⟩]
 have:(i+1000000 * (c+1)) / 1000000-1=c:=by omega
 rw [this]
have old:∀ g',x.G g'->y'.ρ g'=x.ρ g':=fun g' hg'=>if_neg fun ⟨e1,e2,e3⟩=>by
 rcases hX.gens g' hg' with e | ⟨_,e⟩
 omega
 refine hi (hi2 (g'.2 / 1000000-1) ?_)
 have:i+1000000 * (g'.2 / 1000000-1+1)=g'.2:=by omega
 rw [this]
 exact e
have k:Step x y':=⟨fun g' hg'=>⟨.inl hg',old g' hg'⟩,fun b o hb=>hpost.step.F b o hb,fun b o v hb hv=>hpost.step.W b o v hb hv⟩
have fw:Fw (σ1 dom κ γ κ' s.ng i) y y':=by
 refine ⟨fun g kk g' h hG=>?_,fun _ _ h=>h,fun _ _ _ _ h=>h⟩
 unfold σ1 at h
 split at h
 rename_i e
 split at h
 rename_i hdm
 injection h with h
 injection h with _ h
 subst h
 obtain ⟨o,hm⟩:=hdom _ hdm
 obtain ⟨o2,_,h5⟩:=hob _ o hm
 have hxG:=(hX.ob _ _ _ h5).1
 have hg:g=(0,g.2):=by rw [<- e]
 refine ⟨.inl hxG,(old _ hxG).trans ?_⟩
 rw [hg]
 exact ((hpost.step.G (0,g.2) ⟨rfl,hxG⟩).2).symm
 cases h
 split at h
 rename_i e
 injection h with h
 injection h with _ h
 subst h
 have hg:g=(1,g.2):=by rw [<- e]
 rw [hg] at hG ⊢
 exact ⟨.inr ⟨g.2,rfl,hG⟩,yn g.2⟩
 cases h
have fwρ:∀ g t2 g2,σ1 dom κ γ κ' s.ng i g=some (t2,g2)->y.G g->y'.ρ g2=y.ρ g:=fun g t2 g2 h hG=>(fw.G g t2 g2 h hG).2
have conv:∀ b2,(x.W.heap.size<=b2\/Dg z obs b2)->(r.W0.heap.size<=b2\/r.D b2):=fun b2 h=>h.elim (fun h=>.inl (YX hX.gr.size h)) fun h=>(hD b2 h).2
have notD:∀ t2 g2 o2 b2,(∀ t o,(t,o) ∈ obs->κ t≠t2)->s.ob t2=some (g2,o2)->blk (x.ρ g2)=some b2->¬ Dg z obs b2:=fun t2 g2 o2 b2 n h hb ⟨t,o,hm,hb'⟩=>by
 obtain ⟨o3,_,h5⟩:=hob t o hm
 exact hX.apart t2 (κ t) g2 (γ t) o2 o3 b2 (fun e=>n t o hm e.symm) h h5 hb hb'
have cases2:∀ t2 g2 o2,(flips s.ob (usG κ obs obs2)) t2=some (g2,o2)->((∀ t o,(t,o) ∈ obs->κ t≠t2)/\s.ob t2=some (g2,o2))\/(t2,g2,o2) ∈ obs2:=fun t2 g2 o2 h=>by
 rcases bS (usG κ obs obs2) s.ob t2 with ⟨q1,q2⟩ | ⟨w,q1,q2⟩
 rw [q1] at h
 refine .inl ⟨fun t o hm e=>q2 none (Yz _ (Yy.2 ⟨(t,o),hm,by rw [e]⟩)),h⟩
 rw [q2] at h
 subst h
 rcases YD.1 q1 with h | h
 obtain ⟨_,_,e⟩:=Yy.1 h
 injection e with _ e
 cases e
 obtain ⟨⟨t3,g3,o3⟩,hm,e⟩:=Yy.1 h
 injection e with e1 e2
 injection e2 with e2
 injection e2 with e2 e3
 subst e1 e2 e3
 exact .inr hm
have newOb:∀ t2 g2 o2,(t2,g2,o2) ∈ obs2->y'.G g2/\ObRep y' r.W0.heap.size r.D g2 o2:=fun t2 g2 o2 hm=>by
 obtain ⟨t,g,o,q1,q2,q3⟩:=h2 t2 g2 o2 hm
 obtain ⟨w1,w2⟩:=hpost.ob.ob t g o q1
 refine ⟨(fw.G g t2 g2 q2 w1).1,yL fw q3 (fwρ g t2 g2 q2 w1) (fun _ _ h=>h) rfl (fun b hb=>conv b (w2.lt b hb).2) w2⟩
have newLt:∀ t2 g2 o2 b2,(t2,g2,o2) ∈ obs2->blk (y'.ρ g2)=some b2->x.W.heap.size<=b2\/Dg z obs b2:=fun t2 g2 o2 b2 hm hb=>by
 obtain ⟨t,g,o,q1,q2,q3⟩:=h2 t2 g2 o2 hm
 obtain ⟨w1,w2⟩:=hpost.ob.ob t g o q1
 rw [fwρ g t2 g2 q2 w1] at hb
 exact (w2.lt b2 hb).2
have oldLt:∀ t2 g2 o2 b2,(∀ t o,(t,o) ∈ obs->κ t≠t2)->s.ob t2=some (g2,o2)->blk (y'.ρ g2)=some b2->b2<x.W.heap.size/\¬ Dg z obs b2:=fun t2 g2 o2 b2 n h hb=>by
 obtain ⟨q1,q2⟩:=hX.ob t2 g2 o2 h
 rw [old g2 q1] at hb
 exact ⟨(q2.lt b2 hb).1,notD t2 g2 o2 b2 n h hb⟩
refine ⟨y',rfl,?_⟩
refine ⟨by rw [S7];exact hX.defers,by rw [S6];exact hX.size,?_,fun g' hg'=>?_,fun t'=>?_,fun t2 g2 o2 hh=>?_,fun t1 t2 g1 g2 o1 o2 b2 hne q1 q2 hb hb2=>?_,hpost.flt,fun b o hb=>k.F b o (hX.f0 b o hb),fun b2 o2 hb=>?_,fun g' hg'=>⟨(k.G g' (hX.rho g' hg').1).1,(k.G g' (hX.rho g' hg').1).2.trans (hX.rho g' hg').2⟩,hX.inv,fun b o v hF hv=>k.W b o v (hX.f0 b o hF) (hX.keep b o v hF hv)⟩
refine hX.gr.trans' hpost.gr.os hpost.gr.tape hpost.gr.output hpost.gr.size fun b' hb' hD'=>hpost.gr.block b' (YU hb' hX.gr.size) fun hDb=>?_
rcases (hD b' hDb).2 with h | h
omega
exact hD' h
rcases hg' with hg' | ⟨c,rfl,_⟩
exact (hX.gens g' hg').imp id fun ⟨e1,e2⟩=>⟨e1,.inl e2⟩
exact .inr ⟨rfl,.inr (.inr ⟨by show 1000000<=i+1000000 * (c+1);omega,by show (i+1000000 * (c+1)) % 1000000=i;omega⟩)⟩
exact jI hX.size hd (yK fw hres hpost.rep) (fun t=>(hX.tm t).step k) t'
rcases cases2 t2 g2 o2 hh with ⟨n,h⟩ | hm
obtain ⟨q1,q2⟩:=hX.ob t2 g2 o2 h
refine ⟨.inl q1,q2.step q1 k fun b2 hb2=>?_⟩
have hlt:=(q2.lt b2 hb2).1
have hnd:=notD t2 g2 o2 b2 n h hb2
refine ⟨hpost.gr.block b2 hlt hnd,fun o3 ho3=>?_⟩
rcases hpost.fnew b2 o3 ho3 with h | h | h
exact h
exact absurd hlt (Nat.not_lt.2 h)
exact absurd h hnd
exact newOb t2 g2 o2 hm
rcases cases2 t1 g1 o1 q1 with ⟨n1,w1⟩ | m1
rcases cases2 t2 g2 o2 q2 with ⟨n2,w2⟩ | m2
rw [old g1 (hX.ob t1 g1 o1 w1).1] at hb
rw [old g2 (hX.ob t2 g2 o2 w2).1] at hb2
exact hX.apart t1 t2 g1 g2 o1 o2 b2 hne w1 w2 hb hb2
obtain ⟨u1,u2⟩:=oldLt t1 g1 o1 b2 n1 w1 hb
rcases newLt t2 g2 o2 b2 m2 hb2 with w | w
omega
exact u2 w
rcases cases2 t2 g2 o2 q2 with ⟨n2,w2⟩ | m2
obtain ⟨u1,u2⟩:=oldLt t2 g2 o2 b2 n2 w2 hb2
rcases newLt t1 g1 o1 b2 m1 hb with w | w
omega
exact u2 w
obtain ⟨t,g,o,a1,a2,a3⟩:=h2 t1 g1 o1 m1
obtain ⟨t',g',o',c1,c2,c3⟩:=h2 t2 g2 o2 m2
rw [fwρ g t1 g1 a2 (hpost.ob.ob t g o a1).1] at hb
rw [fwρ g' t2 g2 c2 (hpost.ob.ob t' g' o' c1).1] at hb2
exact hpost.ob.apart t t' g g' o o' b2 (h3 t1 g1 o1 t2 g2 o2 t g o t' g' o' m1 m2 a1 c1 a2 c2 hne) a1 c1 hb hb2
rcases hpost.fnew b2 o2 hb with h | h | h
exact hX.fnew b2 o2 h
exact .inr (.inl (YX hX.gr.size h))
exact .inr (hD b2 h).2}
end
open Go.RowKit
def obG (obs:Q3 (Nat×VObj)):Q3 (Nat×Q2 (Gen×VObj)):=obs.map fun q=>(q.1,some ((0,q.1),q.2))
theorem VX {t:Nat} {g:Gen} {o:VObj}:∀ {obs:Q3 (Nat×VObj)},Zn (obG obs) t=some (g,o)->(t,o) ∈ obs/\g=(0,t)
 | [],h=>by cases h
 | q::r,h=>by
   change (if t=q.1 then some ((0,q.1),q.2) else Zn (obG r) t)=some (g,o) at h
   split at h
   rename_i e
   injection h with h
   injection h with e1 e2
   subst e e1 e2
   exact ⟨Yi ..,rfl⟩
   obtain ⟨h1,h2⟩:=VX h
   exact ⟨Yg _ h1,h2⟩
def cC (args:Q3 PV) (obs:Q3 (Nat×VObj)):FS:=⟨fun t=>args.getD t (.tup []),Zn (obG obs),1⟩
section
variable {P:Program} [WInv P]
theorem kH (hmix:P.follows .mixedOrders=true) {f:FuncId} {fn:Func} {c:Code} {args:Q3 PV} {obs:Q3 (Nat×VObj)} {obs':Q3 (Nat×Gen×VObj)} {e:Ex} {s0 s1:FS} {ps:Q3 PV} {res:PV}
  (hg:isGo P f=true) (hf:P.funcs[f]? = some fn) (hb:fn.body=some c) (hn:args.length<=fn.ntmps) (hok:B6 fn.ntmps c=true) (hrun:RunC P c (cC args obs) e s0) (hs:Shift s0 s1) (he:e = .normal\/e = .ret)
  (hres:BC P s1 fn.results.toList=some ps) (hps:BD ps=res) (hob:∀ t g o,(t,g,o) ∈ obs'->s1.ob t=some (g,o)):ContractG P f args obs res obs':=by{
subst hps
refine ⟨hg,fun x vs hpre hinv=>?_⟩
let r:Run:=⟨x.W,Dg x obs,(vs++Array.replicate (fn.ntmps-vs.size) undef).size,x.F,x.G,x.ρ,WInv.I P⟩
have hNr:r.N=fn.ntmps:=by
 have:=hpre.size
 simp [r]
 omega
have hX:RstX r (fun _=>False) (cC args obs) { tmps:=vs++Array.replicate (fn.ntmps-vs.size) undef,defers:=[] } x:=by
 refine ⟨rfl,rfl,Gr.refl _ _,fun g hg=>?_,fun t=>?_,fun t g o ho=>?_,fun t t' g g' o o' b hne h1 h2 hb1 hb2=>?_,hpre.flt,fun _ _ h=>h,fun _ _ h=>.inl h,fun _ h=>⟨h,rfl⟩,⟨hinv,hpre.gen⟩,fun _ _ _ _ h=>h⟩
 rw [hpre.gen g hg]
 exact .inl RV
 show Rep x (args.getD t (.tup [])) _
 rw [Ym,MJ,I1]
 by_cases ht:t<vs.size
 rw [if_pos ht,Yc (by rw [hpre.size];exact ht),Yu ht]
 exact hpre.rep t _ _ (Yc (by rw [hpre.size];exact ht)) (Yu ht)
 rw [if_neg ht,YZ (by rw [hpre.size];omega)]
 have:(Array.replicate (fn.ntmps-vs.size) undef)[t-vs.size]?.getD undef=undef:=by
  rw [OA]
  split<;>rfl
 rw [this]
 exact .tup [] #[] rfl (fun i p v hp=>by simp at hp)
 obtain ⟨hm,rfl⟩:=VX ho
 exact hpre.ob.ob t (0,t) o (P4.2 ⟨hm,rfl⟩)
 obtain ⟨hm,rfl⟩:=VX h1
 obtain ⟨hm',rfl⟩:=VX h2
 exact hpre.ob.apart t t' (0,t) (0,t') o o' b hne (P4.2 ⟨hm,rfl⟩) (P4.2 ⟨hm',rfl⟩) hb1 hb2
refine calls_of_wp hf hb ?_
refine (OO hmix hrun).1 r _ x _ ⟨rfl,by rw [hNr];exact hok⟩ hX fun a' y0 hY0=>?_
obtain ⟨y,hyW,hY⟩:=hs _ _ _ hY0
rw [<- hyW]
obtain ⟨ws,h1,h2,h3⟩:=MV hY fn.results.toList hres
have hstep:Step x y:=⟨fun g hg=>hY.rho g hg,fun b o hb=>hY.f0 b o hb,fun b o v hb hv=>hY.keep b o v hb hv⟩
have hO:GRep y x.W.heap.size (Dg x obs) obs':=⟨fun t g o h=>hY.ob t g o (hob t g o h),fun t t' g g' o o' b hne h h' hb hb'=>hY.apart t t' g g' o o' b hne (hob t g o h) (hob t' g' o' h') hb hb'⟩
have hend:(results fn a'.tmps).run P y.W = .ok (if ws.length=1 then ws.getD 0 undef else .tuple ws.toArray) y.W:=by
 have:(fn.results.mapM (FH a')).run P y.W = .ok ws.toArray y.W:=by
  rw [ME,KW,Sem.run_bind,h1]
  rfl
 have e:results fn a'.tmps=(fn.results.mapM (FH a') >>= fun vs=>pure (if h:vs.size=1 then vs[0] else .tuple vs)):=by
  unfold results
  congr 1
 rw [e,Sem.run_bind,this]
 simp only [Result.andThen_ok,Sem.run_pure]
 congr 1
 by_cases hl:ws.length=1
 simp [hl]
 simp [hl]
have hfin:∃ v,(results fn a'.tmps).run P y.W = .ok v y.W/\(fun e W'=>∃ y v,y.W=W'/\e=Ending.returned v/\PostG x y obs (BD ps) obs' v) (Ending.returned v) y.W:=by
 refine ⟨_,hend,y,_,rfl,rfl,hstep,hY.gr,hY.fnew,hY.flt,?_,hO⟩
 have hlq:ps.length=ws.length:=h2.symm
 unfold BD
 split
 rename_i p
 rw [if_pos (by simpa using hlq.symm)]
 exact h3 0 p rfl
 rename_i hne
 have hn1:¬ ws.length=1:=fun h=>by
  rw [h] at hlq
  match ps,hlq with
  | [q],_=>exact hne q rfl
 rw [if_neg hn1]
 refine .tup ps ws.toArray (by simpa using hlq) fun j q v hq hv=>?_
 have:=h3 j q hq
 have hv':ws[j]? = some v:=by simpa using hv
 rw [I1,hv'] at this
 exact this
rcases he with rfl | rfl
exact ⟨hY.defers,hfin⟩
exact ⟨hY.defers,hfin⟩}
end
open Go.RowKit
section
variable {P:Program} [WInv P] {ops:Array Oper} {o:Oper} {i:Nat} {s:FS} {T:TypeId} {e e':Operand} {E a1 a2 t k n off:Nat} {a3:Q3 PV} {te ti:TI} {g:Gen} {els new:Q3 (Q3 PV)} {el:Q3 PV}
theorem kI {f f':Nat->Q2 (Gen×VObj)} {p:PV} (h:∀ t ∈ AC p,f t=f' t):G3 f p=G3 f' p:=by
 cases p<;>simp only [G3]
 rename_i t g
 rw [EN (h t (by simp [AC])) g]
omit [WInv P] in
theorem K3 {s':FS} (h:Agree ops o s s') (he:e ∈ o.op.operands) (hq:quiet o.op=false) (hs:SD o.op=false) (hk:t ∈ AC (ev s e)):A8 s'.ob t g=A8 s.ob t g:=EN (h.key he hq hs t (G1 (MT hk))).symm g
theorem yN (hw:Zh ops s o=some true) (ho:o.op = .call { callee:=.builtin .len,args:=#[e],argTypes:=#[T] }) (ht:tyI P T=some ⟨.slice E,a1,a2,a3⟩) (hels:G3 s.ob (ev s e)=some els):OpR P ops i o s ⟨.int .i64 els.length,[]⟩:=.any hw fun s' r hA hI=>by
 have hm:e ∈ o.op.operands:=by rw [ho];simp [Op.operands,Call.operands]
 refine yB ho ht ?_
 rw [<- hA.ev e hm,<- hels]
 exact (kI fun t ht=>hA.key hm (by rw [ho];rfl) (by rw [ho];rfl) t (G1 (MT ht))).symm
theorem yO {E':Nat} (hw:Zh ops s o=some true) (ho:o.op = .indexAddr T e e') (ht:tyI P T=some ⟨.slice E,a1,a2,a3⟩) (hte:tyI P E=some te) (he:ev s e = .row t g) (hn:toNat? (ev s e')=some n) (hob:A8 s.ob t g=some (.prow E' k els)) (hnl:n<els.length) (hk:k=te.size) :
  OpR P ops i o s ⟨.elp t g n k 0,[]⟩:=.any hw fun s' r hA hI=>by
 have hm:e ∈ o.op.operands:=by rw [ho];simp [Op.operands]
 have hm':e' ∈ o.op.operands:=by rw [ho];simp [Op.operands]
 exact yC ho ht hte (by rw [<- hA.ev e hm];exact he) (by rw [<- hA.ev e' hm'];exact hn) (by rw [K3 hA hm (by rw [ho];rfl) (by rw [ho];rfl) (by rw [he];simp [AC])];exact hob) hnl hk
theorem yP {p:PV} (hw:Zh ops s o=some true) (ho:o.op = .load T e) (ht:tyI P T=some ti) (he:ev s e = .elp t g n k off) (hob:A8 s.ob t g=some (.prow E k els)) (hel:els[n]? = some el) (hp:H2 ti (el.drop off)=some p):OpR P ops i o s ⟨p,[]⟩:=.any hw fun s' r hA hI=>by
 have hm:e ∈ o.op.operands:=by rw [ho];simp [Op.operands]
 exact yD ho ht (by rw [<- hA.ev e hm];exact he) (by rw [K3 hA hm (by rw [ho];rfl) (by rw [ho];rfl) (by rw [he];simp [AC])];exact hob) hel hp
omit [WInv P] in
theorem yQ {s':FS} (h:Agree ops o s s') (ho:o.op = .store T e e') (hk:t ∈ AC (ev s e)):A8 s'.ob t g=A8 s.ob t g:=EN (h.keyL (e:=e) (by rw [ho];exact aZ) (by rw [ho];rfl) t (G1 (MT hk))).symm g
theorem yR {p:PV} (hw:Zh ops s o=some true) (ho:o.op = .store T e e') (ht:tyI P T=some ti) (he':ev s e'=p) (hl:p.cells.length=ti.size) (he:ev s e = .elp t g n k off) (hcell:p.cells.all PV.cell=true) (hob:A8 s.ob t g=some (.prow E k els)) (hel:els[n]? = some el) (hfit:off+ti.size<=k) :
  OpR P ops i o s ⟨.un,[(t,some (g,.prow E k (els.set n (AN el off p.cells))))]⟩:=.any hw fun s' r hA hI=>by
 have hm:e ∈ o.op.operands:=by rw [ho];simp [Op.operands]
 have hm':e' ∈ o.op.operands:=by rw [ho];simp [Op.operands]
 subst he'
 have h1:=hA.ev e' hm'
 rw [h1] at hl hcell ⊢
 exact yE ho ht hl (by rw [<- hA.ev e hm];exact he) hcell (by rw [yQ hA ho (by rw [he];simp [AC])];exact hob) hel hfit
theorem yS (hw:Zh ops s o=some true) (ho:o.op = .call { callee:=.builtin .append,args:=#[e,e'],argTypes:=#[T,T] }) (ht:tyI P T=some ⟨.slice E,a1,a2,a3⟩) (hte:tyI P E=some te) (he:ev s e = .row t g) (hob:A8 s.ob t g=some (.prow E k els)) (hnew:G3 s.ob (ev s e')=some new)
  (hks:k=te.size) (hc1:(els.length+new.length) * te.bytes<=140737488355328) (hc2:els.length+new.length<=9223372036854775807) (hc3:0<te.size) (hc4:te.zero.length=te.size) (hk:∀ el ∈ new,el.length=te.size):OpR P ops i o s ⟨.row t (s.ng,i),[(t,some ((s.ng,i),.prow E k (els++new)))]⟩:=.any hw fun s' r hA hI=>by
 have hm:e ∈ o.op.operands:=by rw [ho];simp [Op.operands,Call.operands]
 have hm':e' ∈ o.op.operands:=by rw [ho];simp [Op.operands,Call.operands]
 rw [hA.ng]
 refine yG ho ht hte (by rw [<- hA.ev e hm];exact he) (by rw [K3 hA hm (by rw [ho];rfl) (by rw [ho];rfl) (by rw [he];simp [AC])];exact hob) ?_ hks hc1 hc2 hc3 hc4 hk
 rw [<- hA.ev e' hm',<- hnew]
 exact (kI fun t ht=>hA.key hm' (by rw [ho];rfl) (by rw [ho];rfl) t (G1 (MT ht))).symm
theorem yT {w:Operand} (hw:Zh ops s o=some true) (ho:o.op = .slice T e none (some w) none) (ht:tyI P T=some ⟨.slice E,a1,a2,a3⟩) (hte:tyI P E=some te) (he:ev s e = .row t g) (hob:A8 s.ob t g=some (.prow E k els)) (hn:toNat? (ev s w)=some n) (hnl:n<=els.length) :
  OpR P ops i o s ⟨.row t (s.ng,i),[(t,some ((s.ng,i),.prow E k (els.take n)))]⟩:=.any hw fun s' r hA hI=>by
 have hm:e ∈ o.op.operands:=by rw [ho];simp [Op.operands]
 have hm':w ∈ o.op.operands:=by rw [ho];simp [Op.operands]
 rw [hA.ng]
 exact yH ho ht hte (by rw [<- hA.ev e hm];exact he) (by rw [K3 hA hm (by rw [ho];rfl) (by rw [ho];rfl) (by rw [he];simp [AC])];exact hob) (by rw [<- hA.ev w hm'];exact hn) hnl
theorem yU {d:Nat} {parts:Array (Nat×Operand)} {cs:Q3 PV} (hw:Zh ops s o=some true) (ho:o.op = .buildSlice T n parts) (hdst:o.dst=some d) (ht:tyI P T=some ⟨.slice E,a1,a2,a3⟩) (hte:tyI P E=some te)
  (hf:C5 (fun i=>some (i * te.size,te.size)) (List.replicate n te.zero).flatten (parts.toList.map fun q=>(q.1,ev s q.2))=some cs) (hcell:cs.all PV.cell=true) (hc1:cs.length=n * te.size) (hc2:n * te.size<=16777216) (hc3:0<te.size) :
  OpR P ops i o s ⟨.row d (s.ng,i),[(d,some ((s.ng,i),.prow E te.size (chunks te.size n cs)))]⟩:=.any hw fun s' r hA hI=>by
 rw [hA.ng]
 refine yJ ho hdst ht hte ?_ hcell hc1 hc2 hc3
 rw [<- hf]
 congr 1
 refine DY fun q hq=>?_
 rw [hA.ev q.2 (by rw [ho];simp [Op.operands];exact ⟨q.1,by simpa using hq⟩)]
end
section
variable {P:Program} [WInv P] {ops:Array Oper} {draw:Bool} {i:Nat} {L:Q3 Oper} {acc:Q3 (Q3 Nat×Q3 Nat)} {K:FS->Prop} {tm:Q3 (Nat×PV)} {ob:Q3 (Nat×Q2 (Gen×VObj))} {ng:Nat}
 {d:Q2 Tmp} {ty:TypeId} {pos:String} {after:Array Edge} {gd:Q2 (Nat×Bool)} {T:TypeId} {x y:Operand} {E kk by_:Nat} {z:Q3 PV} {t:Nat} {g:Gen} {els new:Q3 (Q3 PV)}
theorem yV [Sl P T E kk by_ z] (hw:Zh ops (mkS tm ob ng) ⟨d,.call ⟨.builtin .len,#[x],#[T]⟩,ty,pos,after,gd⟩=some true) (hx:G3 (Zn ob) (evL tm x)=some els)
  (k:GoL P ops draw (i+1) L (acc ++ [(ZE (mkS tm ob ng) ⟨d,.call ⟨.builtin .len,#[x],#[T]⟩,ty,pos,after,gd⟩,[])]) (mkS (A6 d (.int .i64 (els.length:Int)) tm) ob ng) K):GoL P ops draw i (⟨d,.call ⟨.builtin .len,#[x],#[T]⟩,ty,pos,after,gd⟩::L) acc (mkS tm ob ng) K:=by{
obtain ⟨s,b,zz,te,q1,q2,q3,_,_,_,_⟩:=D9 (P:=P) (T:=T) (E:=E) (k:=kk) (by_:=by_) (z:=z)
refine CH (yN hw rfl q1 (by rw [AB];exact hx)) ?_
rw [CG]
exact k}
theorem LJ {E':Nat} {kd:IntKind} {n:Nat} [Sl P T E kk by_ z] (hw:Zh ops (mkS tm ob ng) ⟨d,.indexAddr T x y,ty,pos,after,gd⟩=some true) (hx:evL tm x = .row t g) (hb:A8 (Zn ob) t g=some (.prow E' kk els)) (hy:evL tm y = .int kd (n:Int)) (hn:n<els.length)
  (k:GoL P ops draw (i+1) L (acc ++ [(ZE (mkS tm ob ng) ⟨d,.indexAddr T x y,ty,pos,after,gd⟩,[])]) (mkS (A6 d (.elp t g n kk 0) tm) ob ng) K):GoL P ops draw i (⟨d,.indexAddr T x y,ty,pos,after,gd⟩::L) acc (mkS tm ob ng) K:=by{
obtain ⟨s,b,zz,te,q1,q2,q3,_,_,_,_⟩:=D9 (P:=P) (T:=T) (E:=E) (k:=kk) (by_:=by_) (z:=z)
refine CH (yO hw rfl q1 q2 (by rw [AB];exact hx) (by rw [AB,hy];exact JW) hb hn q3.symm) ?_
rw [CG]
exact k}
theorem G4 {agg:Bool} {n q off:Nat} {e:Q3 PV} {v:PV} [Ld P T agg n] (hw:Zh ops (mkS tm ob ng) ⟨d,.load T x,ty,pos,after,gd⟩=some true) (hx:evL tm x = .elp t g q kk off) (hb:A8 (Zn ob) t g=some (.prow E kk els)) (he:els[q]? = some e) (hv:JV agg n (e.drop off)=some v)
  (k:GoL P ops draw (i+1) L (acc ++ [(ZE (mkS tm ob ng) ⟨d,.load T x,ty,pos,after,gd⟩,[])]) (mkS (A6 d v tm) ob ng) K):GoL P ops draw i (⟨d,.load T x,ty,pos,after,gd⟩::L) acc (mkS tm ob ng) K:=by{
obtain ⟨ti,ht,h1,h2⟩:=SJ (P:=P) (T:=T) (agg:=agg) (n:=n)
refine CH (yP hw rfl ht (by rw [AB];exact hx) hb he (by rw [bA h1 h2];exact hv)) ?_
rw [CG]
exact k}
theorem VY {agg:Bool} {n q off:Nat} {e ps:Q3 PV} {p:PV} [Ld P T agg n] (hw:Zh ops (mkS tm ob ng) ⟨d,.store T x y,ty,pos,after,gd⟩=some true) (hx:evL tm x = .elp t g q kk off) (hb:A8 (Zn ob) t g=some (.prow E kk els)) (he:els[q]? = some e) (hy:evL tm y=p) (hps:p.cells=ps) (hl:ps.length=n)
  (hz:ps.all PV.cell=true) (hf:off+n<=kk) {els':Q3 (Q3 PV)} (hs:els.set q (AN e off ps)=els')
  (k:GoL P ops draw (i+1) L (acc ++ [(ZE (mkS tm ob ng) ⟨d,.store T x y,ty,pos,after,gd⟩,[t])]) (mkS (A6 d .un tm) ((t,some (g,.prow E kk els'))::ob) ng) K):GoL P ops draw i (⟨d,.store T x y,ty,pos,after,gd⟩::L) acc (mkS tm ob ng) K:=by{
obtain ⟨ti,ht,h1,h2⟩:=SJ (P:=P) (T:=T) (agg:=agg) (n:=n)
subst hs hps
refine CH (yR hw rfl ht (by rw [AB];exact hy) (by rw [h2];exact hl) (by rw [AB];exact hx) hz hb he (by rw [h2];exact hf)) ?_
rw [CG]
exact k}
theorem cD {dd:Nat} [Sl P T E kk by_ z] (hw:Zh ops (mkS tm ob ng) ⟨some dd,.call ⟨.builtin .append,#[x,y],#[T,T]⟩,ty,pos,after,gd⟩=some true) (hx:evL tm x = .row t g) (hb:A8 (Zn ob) t g=some (.prow E kk els)) (hy:G3 (Zn ob) (evL tm y)=some new)
  (h1:(els.length+new.length) * by_<=140737488355328) (h2:els.length+new.length<=9223372036854775807) (h3:∀ e ∈ new,e.length=kk)
  (k:GoL P ops draw (i+1) L (acc ++ [(ZE (mkS tm ob ng) ⟨some dd,.call ⟨.builtin .append,#[x,y],#[T,T]⟩,ty,pos,after,gd⟩,[t])]) (mkS ((dd,.row t (ng,i))::tm) ((t,some ((ng,i),.prow E kk (els++new)))::ob) ng) K) :
  GoL P ops draw i (⟨some dd,.call ⟨.builtin .append,#[x,y],#[T,T]⟩,ty,pos,after,gd⟩::L) acc (mkS tm ob ng) K:=by{
obtain ⟨s,b,zz,te,q1,q2,q3,q4,q5,q6,q7⟩:=D9 (P:=P) (T:=T) (E:=E) (k:=kk) (by_:=by_) (z:=z)
refine CH (yS hw rfl q1 q2 (by rw [AB];exact hx) hb (by rw [AB];exact hy) q3.symm (by rw [q4];exact h1) h2 (by rw [q3];exact q6) (by rw [q5,q3];exact q7) (fun e he=>by rw [q3];exact h3 e he)) ?_
rw [CG]
exact k}
theorem yW {w:Operand} {kd:IntKind} {n:Nat} {els':Q3 (Q3 PV)} [Sl P T E kk by_ z] (hw:Zh ops (mkS tm ob ng) ⟨d,.slice T x none (some w) none,ty,pos,after,gd⟩=some true) (hx:evL tm x = .row t g) (hb:A8 (Zn ob) t g=some (.prow E kk els)) (hy:evL tm w = .int kd (n:Int)) (hn:n<=els.length) (hs:els.take n=els')
  (k:GoL P ops draw (i+1) L (acc ++ [(ZE (mkS tm ob ng) ⟨d,.slice T x none (some w) none,ty,pos,after,gd⟩,[t])]) (mkS (A6 d (.row t (ng,i)) tm) ((t,some ((ng,i),.prow E kk els'))::ob) ng) K):GoL P ops draw i (⟨d,.slice T x none (some w) none,ty,pos,after,gd⟩::L) acc (mkS tm ob ng) K:=by{
obtain ⟨s,b,zz,te,q1,q2,q3,_,_,_,_⟩:=D9 (P:=P) (T:=T) (E:=E) (k:=kk) (by_:=by_) (z:=z)
subst hs
refine CH (yT hw rfl q1 q2 (by rw [AB];exact hx) hb (by rw [AB,hy];exact JW) hn) ?_
rw [CG]
exact k}
theorem VZ {dd n:Nat} {parts:Array (Nat×Operand)} {cs:Q3 PV} [Sl P T E kk by_ z] (hw:Zh ops (mkS tm ob ng) ⟨some dd,.buildSlice T n parts,ty,pos,after,gd⟩=some true) (hf:C5 (fun i=>some (i * kk,kk)) (List.replicate n z).flatten (evs tm parts.toList)=some cs) (hz:cs.all PV.cell=true)
  (hl:cs.length=n * kk) (hm:n * kk<=16777216) {els':Q3 (Q3 PV)} (hs:chunks kk n cs=els')
  (k:GoL P ops draw (i+1) L (acc ++ [(ZE (mkS tm ob ng) ⟨some dd,.buildSlice T n parts,ty,pos,after,gd⟩,[dd])]) (mkS ((dd,.row dd (ng,i))::tm) ((dd,some ((ng,i),.prow E kk els'))::ob) ng) K):GoL P ops draw i (⟨some dd,.buildSlice T n parts,ty,pos,after,gd⟩::L) acc (mkS tm ob ng) K:=by{
obtain ⟨s,b,zz,te,q1,q2,q3,q4,q5,q6,_⟩:=D9 (P:=P) (T:=T) (E:=E) (k:=kk) (by_:=by_) (z:=z)
subst hs q3 q5
refine CH (yU hw rfl rfl q1 q2 (by rw [AB,SI];exact hf) hz hl hm q6) ?_
rw [CG]
exact k}
end
open Go.RowKit
def AK (σ:Gen->Q2 (Nat×Gen)):Q3 (Nat×Gen×VObj)->Q2 (Q3 (Nat×Gen×VObj))
 | []=>some []
 | (_,g,o)::r=>match σ g,rnO σ o,AK σ r with
  | some (t2,g2),some o2,some r2=>some ((t2,g2,o2)::r2)
  | _,_,_=>none
theorem kJ {σ:Gen->Q2 (Nat×Gen)}:∀ {l l2:Q3 (Nat×Gen×VObj)},AK σ l=some l2->∀ t2 g2 o2,(t2,g2,o2) ∈ l2->∃ t g o,(t,g,o) ∈ l/\σ g=some (t2,g2)/\rnO σ o=some o2
 | [],l2,h,t2,g2,o2,hm=>by
   cases h
   cases hm
 | (t,g,o)::r,l2,h,t2,g2,o2,hm=>by
  simp only [AK] at h
  split at h
  rename_i t3 g3 o3 r3 h1 h2 h3
  cases h
  rcases Ys.1 hm with e | hm
  injection e with e1 e2
  injection e2 with e2 e3
  subst e1 e2 e3
  exact ⟨t,g,o,Yi ..,h1,h2⟩
  obtain ⟨t',g',o',q1,q2,q3⟩:=kJ h3 t2 g2 o2 hm
  exact ⟨t',g',o',Yg _ q1,q2,q3⟩
  cases h
theorem G5 {σ:Gen->Q2 (Nat×Gen)}:∀ {a b a2 b2:Q3 (Nat×Gen×VObj)},AK σ a=some a2->AK σ b=some b2->AK σ (a++b)=some (a2++b2)
 | [],b,a2,b2,h,h'=>by injection h with h;subst h;exact h'
 | (t,g,o)::r,b,a2,b2,h,h'=>by
  simp only [AK] at h
  split at h
  rename_i t3 g3 o3 r3 h1 h2 h3
  cases h
  simp only [FC,AK,h1,h2,G5 h3 h']
  cases h
def H5 (σ:Gen->Q2 (Nat×Gen)) (κ:Nat->Nat) (γ:Nat->Gen) (f:Nat->Q2 (Gen×VObj)):Q3 (Nat×VObj)->Prop | []=>True | (t,o)::r=>(∃ o2,rnO σ o=some o2/\f (κ t)=some (γ t,o2))/\H5 σ κ γ f r
theorem cE {σ:Gen->Q2 (Nat×Gen)} {κ:Nat->Nat} {γ:Nat->Gen} {f:Nat->Q2 (Gen×VObj)}:∀ {l:Q3 (Nat×VObj)},H5 σ κ γ f l->∀ t o,(t,o) ∈ l->∃ o2,rnO σ o=some o2/\f (κ t)=some (γ t,o2)
 | [],_,t,o,hm=>by cases hm
 | (t',o')::r,h,t,o,hm=>by
  rcases Ys.1 hm with e | hm
  injection e with e1 e2
  subst e1 e2
  exact h.1
  exact cE h.2 t o hm
theorem kK {σ:Gen->Q2 (Nat×Gen)} {κ:Nat->Nat} {γ:Nat->Gen} {f:Nat->Q2 (Gen×VObj)}:∀ {a b:Q3 (Nat×VObj)},H5 σ κ γ f a->H5 σ κ γ f b->H5 σ κ γ f (a++b)
 | [],_,_,h=>h
 | _::_,_,h,h'=>⟨h.1,kK h.2 h'⟩
theorem yX {κ:Nat->Nat} {l:Q3 (Nat×VObj)} (h:(l.map fun q=>κ q.1).Nodup) {t t':Nat} {o o':VObj} (h1:(t,o) ∈ l) (h2:(t',o') ∈ l) (hne:t≠t'):κ t≠κ t':=fun e=>by
 obtain ⟨i,hi⟩:=YA h1
 obtain ⟨j,hj⟩:=YA h2
 have hij:i≠j:=fun e=>by
  subst e
  rw [hi] at hj
  injection hj with hj
  injection hj with hj
  exact hne hj
 have a1:(l.map fun q=>κ q.1)[i]? = some (κ t):=by rw [Yw,hi];rfl
 have a2:(l.map fun q=>κ q.1)[j]? = some (κ t):=by rw [Yw,hj];show some (κ t')=_;rw [e]
 exact hij ((aB (Yd.1 a1).1 h).1 (a1.trans a2.symm))
theorem yY {l:Q3 (Nat×Gen×VObj)} (h:(l.map (·.1)).Nodup) {t:Nat} {g g':Gen} {o o':VObj} (h1:(t,g,o) ∈ l) (h2:(t,g',o') ∈ l):g=g':=by{
obtain ⟨i,hi⟩:=YA h1
obtain ⟨j,hj⟩:=YA h2
have a1:(l.map (·.1))[i]? = some t:=by rw [Yw,hi];rfl
have a2:(l.map (·.1))[j]? = some t:=by rw [Yw,hj];rfl
have e:=(aB (Yd.1 a1).1 h).1 (a1.trans a2.symm)
subst e
rw [hi] at hj
injection hj with hj
injection hj with _ hj
injection hj}
section
variable {P:Program} [WInv P] {ops:Array Oper} {o:Oper} {i:Nat} {s:FS}
theorem yZ {f:FuncId} {es:Array Operand} {ts:Array TypeId} {args:Q3 PV} {obs:Q3 (Nat×VObj)} {res res2:PV} {obs' obs2:Q3 (Nat×Gen×VObj)} {dom:Nat->Bool} {κ κ':Nat->Nat} {γ:Nat->Gen} (hw:Zh ops s o=some true) (ho:o.op = .call { callee:=.value (.func f),args:=es,argTypes:=ts })
  (he:rnA (σ0 κ γ) args=some (es.toList.map (ev s))) (hob:H5 (σ0 κ γ) κ γ s.ob obs) (hinj:(obs.map fun q=>κ q.1).Nodup) (hdom:∀ k,dom k=true->∃ o,(k,o) ∈ obs) (hkey:∀ t o',(t,o') ∈ obs->κ t ∈ ZE s o) (hres:rnP (σ1 dom κ γ κ' s.ng i) res=some res2)
  (h2:AK (σ1 dom κ γ κ' s.ng i) obs'=some obs2) (h3:(obs'.map (·.1)).Nodup) (hc:ContractG P f args obs res obs'):OpR P ops i o s ⟨res2,usG κ obs obs2⟩:=.anyx hw fun s' r hA hI=>by
 obtain ⟨e1,_,_⟩:=OV ho hA
 rw [hA.ng] at hres h2
 refine yM ho (by rw [e1];exact he) (fun t o' hm=>?_) (fun t o t' o' h h' hne=>yX hinj h h' hne) hdom hres (kJ h2) (fun t2 g2 o2 t2' g2' o2' t g o t' g' o' _ _ a1 a2 b1 b2 hne e=>?_) hc hI
 obtain ⟨o2,q1,q2⟩:=cE hob t o' hm
 exact ⟨o2,q1,by rw [<- hA.ob _ (hkey t o' hm)];exact q2⟩
 subst e
 have:=yY h3 a1 a2
 subst this
 rw [b1] at b2
 injection b2 with b2
 injection b2 with b2
 exact hne b2
end
section
variable {P:Program} [WInv P] {ops:Array Oper} {draw:Bool} {i:Nat} {L:Q3 Oper} {acc:Q3 (Q3 Nat×Q3 Nat)} {K:FS->Prop} {tm:Q3 (Nat×PV)} {ob:Q3 (Nat×Q2 (Gen×VObj))} {ng:Nat}
 {d:Q2 Tmp} {ty:TypeId} {pos:String} {after:Array Edge} {gd:Q2 (Nat×Bool)}
theorem cG {f:FuncId} {es:Array Operand} {ts:Array TypeId} {args:Q3 PV} {obs:Q3 (Nat×VObj)} {res res2:PV} {obs' obs2:Q3 (Nat×Gen×VObj)} {us:Q3 (Nat×Q2 (Gen×VObj))} (dom:Nat->Bool) (κ:Nat->Nat) (γ:Nat->Gen) (κ':Nat->Nat) (hc:ContractG P f args obs res obs')
  (hw:Zh ops (mkS tm ob ng) ⟨d,.call ⟨.value (.func f),es,ts⟩,ty,pos,after,gd⟩=some true) (he:rnA (σ0 κ γ) args=some (es.toList.map (evL tm))) (hob:H5 (σ0 κ γ) κ γ (Zn ob) obs) (hinj:(obs.map fun q=>κ q.1).Nodup) (hdom:∀ k,dom k=true->∃ o,(k,o) ∈ obs)
  (hkey:∀ t o',(t,o') ∈ obs->κ t ∈ ZE (mkS tm ob ng) ⟨d,.call ⟨.value (.func f),es,ts⟩,ty,pos,after,gd⟩) (hres:rnP (σ1 dom κ γ κ' ng i) res=some res2) (h2:AK (σ1 dom κ γ κ' ng i) obs'=some obs2) (h3:(obs'.map (·.1)).Nodup) (hus:usG κ obs obs2=us)
  (k:GoL P ops draw (i+1) L (acc ++ [(ZE (mkS tm ob ng) ⟨d,.call ⟨.value (.func f),es,ts⟩,ty,pos,after,gd⟩,us.map (·.1))]) (mkS (A6 d res2 tm) (us.reverse++ob) ng) K):GoL P ops draw i (⟨d,.call ⟨.value (.func f),es,ts⟩,ty,pos,after,gd⟩::L) acc (mkS tm ob ng) K:=by{
subst hus
refine CH (yZ (dom:=dom) (κ:=κ) (κ':=κ') (γ:=γ) hw rfl (by rw [AB];exact he) hob hinj hdom hkey hres h2 h3 hc) ?_
rw [CG]
exact k}
end
open Go.RowKit
def rnC (σ:Gen->Q2 (Nat×Gen)) (x:Ctx):Ctx:=⟨fun g'=>∃ k g,σ g'=some (k,g)/\x.G g,x.F,x.W,fun g'=>match σ g' with | some q=>x.ρ q.2 | none=>x.ρ g'⟩
theorem z6 (σ:Gen->Q2 (Nat×Gen)) (x:Ctx):Bk σ x (rnC σ x):=
 ⟨fun g k g' h hG=>⟨⟨k,g',h,hG⟩,by simp only [rnC,h]⟩,fun _ _ h=>h,fun _ _ _ _ h=>h⟩
def E8 (σ:Gen->Q2 (Nat×Gen)) (tm:Q3 (Nat×PV)):Q3 (Nat×PV)->Prop | []=>True | (k,v)::r=>rnP σ v=some (look tm k)/\E8 σ tm r
def W2 (σ:Gen->Q2 (Nat×Gen)) (ob:Q3 (Nat×Q2 (Gen×VObj))):Q3 (Nat×Gen×VObj)->Prop | []=>True | (_,g',o')::r=>(∃ k g o,σ g'=some (k,g)/\rnO σ o'=some o/\Zn ob k=some (g,o))/\W2 σ ob r
def somes (l:Q3 (Nat×Gen×VObj)):Q3 (Nat×Q2 (Gen×VObj)):=l.map fun q=>(q.1,some q.2)
theorem W3 {t:Nat} {g:Gen} {o:VObj}:∀ {l:Q3 (Nat×Gen×VObj)},Zn (somes l) t=some (g,o)->(t,g,o) ∈ l
 | [],h=>by cases h
 | q::r,h=>by
   change (if t=q.1 then some q.2 else Zn (somes r) t)=some (g,o) at h
   split at h
   rename_i e
   injection h with h
   subst e
   have:q=(q.1,g,o):=by rw [<- h]
   exact this ▸ Yi ..
   exact Yg _ (W3 h)
theorem W4 {σ:Gen->Q2 (Nat×Gen)} {ob:Q3 (Nat×Q2 (Gen×VObj))}:∀ {l:Q3 (Nat×Gen×VObj)},W2 σ ob l->∀ t g' o',(t,g',o') ∈ l->∃ k g o,σ g'=some (k,g)/\rnO σ o'=some o/\Zn ob k=some (g,o)
 | [],_,_,_,_,hm=>by cases hm
 | (t',g2,o2)::r,h,t,g',o',hm=>by
  rcases Ys.1 hm with e | hm
  injection e with e1 e2
  injection e2 with e2 e3
  subst e1 e2 e3
  exact h.1
  exact W4 h.2 t g' o' hm
theorem z7 {α β:Type} {f:α->β} {l:Q3 α} (h:(l.map f).Nodup) {a b:α} (ha:a ∈ l) (hb:b ∈ l) (e:f a=f b):a=b:=by{
obtain ⟨i,hi⟩:=YA ha
obtain ⟨j,hj⟩:=YA hb
have a1:(l.map f)[i]? = some (f a):=by rw [Yw,hi];rfl
have a2:(l.map f)[j]? = some (f a):=by rw [Yw,hj,e];rfl
have:=(aB (Yd.1 a1).1 h).1 (a1.trans a2.symm)
subst this
rw [hi] at hj
injection hj}
theorem z8 (σ:Gen->Q2 (Nat×Gen)) {tm tm':Q3 (Nat×PV)} {ob:Q3 (Nat×Q2 (Gen×VObj))} {l:Q3 (Nat×Gen×VObj)} {ng ng':Nat} (h0:∀ g:Gen,g.1=0->∃ k,σ g=some (k,g)) (h1:E8 σ tm tm') (h2:W2 σ ob l) (h3:∀ g k g0,σ g=some (k,g0)->g.1<ng')
  (h4:(l.map fun q=>(σ q.2.1).map (·.1)).Nodup):Shift (mkS tm ob ng) (mkS tm' (somes l) ng'):=fun r a x h=>by
 have bk:=z6 σ x
 have k1:∀ (l:Q3 (Nat×PV)),E8 σ tm l->∀ t,look l t = .un\/rnP σ (look l t)=some (look tm t):=fun l=>by
  induction l with
  | nil=>intro _ t;exact .inl rfl
  | cons q l ih=>
    obtain ⟨k,v⟩:=q
    intro hl t
    show (if t=k then v else look l t)=_\/rnP σ (if t=k then v else look l t)=_
    split
    rename_i e;subst e;exact .inr hl.1
    exact ih hl.2 t
 have hr:∀ g' k g,σ g'=some (k,g)->(rnC σ x).ρ g'=x.ρ g:=fun g' k g e=>by simp only [rnC,e]
 refine ⟨rnC σ x,rfl,h.defers,h.size,h.gr,fun g' hg'=>.inl ?_,fun t=>?_,fun t g' o' ho=>?_,fun t t' g g' o o' b hne e1 e2 hb=>?_,h.flt,h.f0,h.fnew,fun g hg=>?_,h.inv,h.keep⟩
 obtain ⟨k,g,e,_⟩:=hg'
 exact h3 g' k g e
 rcases k1 tm' h1 t with e | e
 show Rep _ (look tm' t) _
 rw [e];exact .un _
 exact kE bk e (h.tm t)
 obtain ⟨k,g,o,e1,e2,e3⟩:=W4 h2 t g' o' (W3 ho)
 obtain ⟨q1,q2⟩:=h.ob k g o e3
 exact ⟨⟨k,g,e1,q1⟩,kF bk e2 (hr g' k g e1) (fun _ _ h=>h) rfl (fun b hb=>(q2.lt b hb).2) q2⟩
 have m1:=W3 e1
 have m2:=W3 e2
 obtain ⟨k1,g1,o1,a1,a2,a3⟩:=W4 h2 t g o m1
 obtain ⟨k2,g2,o2,c1,c2,c3⟩:=W4 h2 t' g' o' m2
 rw [hr g k1 g1 a1] at hb
 rw [hr g' k2 g2 c1]
 refine h.apart k1 k2 g1 g2 o1 o2 b (fun e=>hne ?_) a3 c3 hb
 have:=z7 h4 m1 m2 (by simp only [a1,c1,Yo,e])
 injection this
 obtain ⟨k,e⟩:=h0 g (h.inv.2 g hg)
 exact ⟨⟨k,g,e,(h.rho g hg).1⟩,(hr g k g e).trans (h.rho g hg).2⟩
end VL
structure Node where
 kind:Int
 tag:Int
 text:ByteArray
 kids:List (List VL.PV)
 args:List (List VL.PV)
structure Arg where
 named:Bool
 name:List (List VL.PV)
 value:List (List VL.PV)
open VL in
def Node.cs (x:Node):Q3 PV:=[.int .i64 x.kind,.int .i64 x.tag,.str x.text,.sl x.kids,.sl x.args]
open VL in
def Arg.cs (x:Arg):Q3 PV:=[.bool x.named,.sl x.name,.sl x.value]
namespace VL
open Go.RowKit
structure El where
 kind:Int
 tag:Int
 count:Int
 list:List (List PV)
 args:Option (List Arg×Arg)
section
variable (NT AT ET:Nat)
def ES (b:Nat) (ν:Nat->Gen):Q2 (Q3 Arg×Arg)->Q3 (Q3 PV) | none=>[] | some (pre,a)=>pre.map Arg.cs ++ [[.bool a.named,.sl a.name,.row (b+3) (ν (b+3))]]
def LK (b:Nat) (ν:Nat->Gen):Q2 (Q3 Arg×Arg)->Q3 (Nat×Gen×VObj) | none=>[] | some (_,a)=>[(b+3,ν (b+3),.row NT 5 false a.value)]
def elO (b:Nat) (ν:Nat->Gen) (e:El):Q3 (Nat×Gen×VObj):=(b,ν b,.box [.int .i64 e.kind,.int .i64 e.tag,.int .i64 e.count,.row (b+1) (ν (b+1)),.row (b+2) (ν (b+2))]) :: (b+1,ν (b+1),.row NT 5 false e.list)::(b+2,ν (b+2),.prow AT 3 (ES b ν e.args))::LK NT b ν e.args
def A5 (r:Q3 El):Nat:=2000+10 * r.length
def AZ (ν:Nat->Gen):Q3 El->Q3 (Nat×Gen×VObj) | []=>[] | e::r=>elO NT AT (A5 r) ν e++AZ ν r
def AO (ν:Nat->Gen):Q3 El->Q3 (Q3 PV) | []=>[] | _::r=>AO ν r ++ [[.ptr (A5 r) (ν (A5 r)) 0]]
def stO (ν:Nat->Gen) (e:El) (r:Q3 El):Q3 (Nat×Gen×VObj):=(0,ν 0,.box [.row 1000 (ν 1000)])::(1000,ν 1000,.prow ET 1 (AO ν r ++ [[.ptr 1001 (ν 1001) 0]]))::(elO NT AT 1001 ν e++AZ NT AT ν r)
end
section
variable {NT AT ET:Nat} {σ:Gen->Q2 (Nat×Gen)}
theorem GL:∀ {a b a2 b2:Q3 (Q3 PV)},AY σ a=some a2->AY σ b=some b2->AY σ (a++b)=some (a2++b2)
 | [],b,a2,b2,h,h'=>by injection h with h;subst h;exact h'
 | e::r,b,a2,b2,h,h'=>by
   simp only [AY] at h
   split at h
   rename_i q qs h1 h2
   cases h
   simp only [FC,AY,h1,GL h2 h']
   cases h
theorem cH:∀ (l:Q3 Arg),AY σ (l.map Arg.cs)=some (l.map Arg.cs)
 | []=>rfl
 | a::l=>by
   show (match rnL σ a.cs,AY σ (l.map Arg.cs) with | some q,some qs=>some (q::qs) | _,_=>none)=_
   rw [cH l]
   rfl
theorem K4 {b b':Nat} {ν ν':Nat->Gen} (h:∀ j,j<4->σ (ν (b+j))=some (b'+j,ν' (b'+j))) (e:El):AK σ (elO NT AT b ν e)=some (elO NT AT b' ν' e):=by{
have h0:=h 0 (by omega)
have h1:=h 1 (by omega)
have h2:=h 2 (by omega)
have h3:=h 3 (by omega)
rw [DS,DS] at h0
obtain ⟨k,t,c,l,args⟩:=e
cases args with
| none=>
  simp only [elO,LK,ES,AK,rnO,rnL,rn1,h0,h1,h2,Yo,AY]
| some q=>
  obtain ⟨pre,a⟩:=q
  have:AY σ (pre.map Arg.cs ++ [[.bool a.named,.sl a.name,.row (b+3) (ν (b+3))]])=some (pre.map Arg.cs ++ [[.bool a.named,.sl a.name,.row (b'+3) (ν' (b'+3))]]):=
   GL (cH pre) (by simp only [AY,rnL,rn1,h3,Yo])
  simp only [elO,LK,ES,AK,rnO,rnL,rn1,h0,h1,h2,h3,Yo,this]}
theorem P5 {ν ν':Nat->Gen} (h:∀ k,2000<=k->σ (ν k)=some (k,ν' k)):∀ (r:Q3 El),AK σ (AZ NT AT ν r)=some (AZ NT AT ν' r)
 | []=>rfl
 | e::r=>G5 (K4 (fun j _=>h _ (by unfold A5;omega)) e) (P5 h r)
theorem P6 {ν ν':Nat->Gen} (h:∀ k,2000<=k->σ (ν k)=some (k,ν' k)):∀ (r:Q3 El),AY σ (AO ν r)=some (AO ν' r)
 | []=>rfl
 | e::r=>GL (P6 h r) (by simp only [AY,rnL,rn1,h (A5 r) (by unfold A5;omega),Yo])
theorem P7 {ν ν':Nat->Gen} (h:∀ k,k=0\/1000<=k->σ (ν k)=some (k,ν' k)) (e:El) (r:Q3 El):AK σ (stO NT AT ET ν e r)=some (stO NT AT ET ν' e r):=by{
have h0:=h 0 (.inl rfl)
have h1:=h 1000 (.inr (by omega))
have h2:=h 1001 (.inr (by omega))
have hp:AY σ (AO ν r ++ [[.ptr 1001 (ν 1001) 0]])=some (AO ν' r ++ [[.ptr 1001 (ν' 1001) 0]]):=GL (P6 (fun k hk=>h k (.inr (by omega))) r) (by simp only [AY,rnL,rn1,h2,Yo])
have he:=G5 (K4 (NT:=NT) (AT:=AT) (b:=1001) (b':=1001) (fun j _=>h _ (.inr (by omega))) e) (P5 (NT:=NT) (AT:=AT) (fun k hk=>h k (.inr (by omega))) r)
simp only [stO,AK,rnO,rnL,rn1,h0,h1,Yo,hp,he]}
def BN (k:Nat):Bool:=k == 0||decide (1000<=k)
theorem J6 {b:Nat} {ν:Nat->Gen} {e:El} {q:Nat×Gen×VObj} (h:q ∈ elO NT AT b ν e):b<=q.1/\q.1<b+4/\q.2.1=ν q.1:=by{
unfold elO at h
rcases Ys.1 h with rfl | h
exact ⟨Yn _,by show b<_;omega,rfl⟩
rcases Ys.1 h with rfl | h
exact ⟨by show b<=_;omega,by show b+1<_;omega,rfl⟩
rcases Ys.1 h with rfl | h
exact ⟨by show b<=_;omega,by show b+2<_;omega,rfl⟩
unfold LK at h
split at h
cases h
obtain rfl:=YG.1 h
exact ⟨by show b<=_;omega,by show b+3<_;omega,rfl⟩}
theorem N7 (b:Nat) (ν:Nat->Gen) (e:El):((elO NT AT b ν e).map (·.1)).Nodup:=by
 obtain ⟨k,t,c,l,args⟩:=e
 cases args<;>simp [elO,LK]
theorem K5 {ν:Nat->Gen} {q:Nat×Gen×VObj}:∀ {r:Q3 El},q ∈ AZ NT AT ν r->2000<=q.1/\q.1<A5 r/\q.2.1=ν q.1
 | [],h=>by cases h
 | e::r,h=>by
   have hb:A5 (e::r)=A5 r+10:=by unfold A5;rw [Yr];omega
   rw [hb]
   rcases YD.1 h with h | h
   obtain ⟨h1,h2,h3⟩:=J6 h
   exact ⟨by have:2000<=A5 r:=by unfold A5;omega
             omega,by omega,h3⟩
   obtain ⟨h1,h2,h3⟩:=K5 h
   exact ⟨h1,by omega,h3⟩
theorem P8 {α:Type} {a b:Q3 α} (h1:a.Nodup) (h2:b.Nodup) (h:∀ x ∈ a,x ∉ b):(a++b).Nodup:=by
 rw [List.nodup_append]
 exact ⟨h1,h2,fun x hx y hy e=>h x hx (e ▸ hy)⟩
theorem W5 (ν:Nat->Gen):∀ (r:Q3 El),((AZ NT AT ν r).map (·.1)).Nodup
 | []=>List.nodup_nil
 | e::r=>by
   unfold AZ
   rw [YR]
   refine P8 (N7 _ ν e) (W5 ν r) fun k hk hk'=>?_
   obtain ⟨q,hq,rfl⟩:=Yy.1 hk
   obtain ⟨q',hq',e'⟩:=Yy.1 hk'
   have:=(J6 hq).1
   have:=(K5 hq').2.1
   omega
theorem K6 {ν:Nat->Gen} {e:El} {r:Q3 El} {q:Nat×Gen×VObj} (h:q ∈ stO NT AT ET ν e r):(q.1=0\/1000<=q.1/\q.1<1005\/2000<=q.1)/\q.2.1=ν q.1:=by{
unfold stO at h
rcases Ys.1 h with rfl | h
exact ⟨.inl rfl,rfl⟩
rcases Ys.1 h with rfl | h
exact ⟨.inr (.inl ⟨Yn _,by show 1000<_;omega⟩),rfl⟩
rcases YD.1 h with h | h
obtain ⟨h1,h2,h3⟩:=J6 h
exact ⟨.inr (.inl ⟨by omega,by omega⟩),h3⟩
obtain ⟨h1,h2,h3⟩:=K5 h
exact ⟨.inr (.inr h1),h3⟩}
theorem DV (ν:Nat->Gen) (e:El) (r:Q3 El):((stO NT AT ET ν e r).map (·.1)).Nodup:=by{
unfold stO
rw [YO,YO,YR,GH,GH]
have hel:∀ k ∈ (elO NT AT 1001 ν e).map (·.1),1001<=k/\k<1005:=fun k hk=>by
 obtain ⟨q,hq,rfl⟩:=Yy.1 hk
 exact ⟨(J6 hq).1,(J6 hq).2.1⟩
have hlo:∀ k ∈ (AZ NT AT ν r).map (·.1),2000<=k:=fun k hk=>by
 obtain ⟨q,hq,rfl⟩:=Yy.1 hk
 exact (K5 hq).1
refine ⟨fun h=>?_,fun h=>?_,P8 (N7 _ ν e) (W5 ν r) fun k hk hk'=>?_⟩
rcases Ys.1 h with h | h
cases h
rcases YD.1 h with h | h
have:=hel _ h;omega
have:=hlo _ h;omega
rcases YD.1 h with h | h
have:=hel _ h;omega
have:=hlo _ h;omega
have:=hel _ hk
have:=hlo _ hk'
omega}
theorem IH (a b:Q3 (Nat×Q2 (Gen×VObj))) (t:Nat) (h:∀ q ∈ a,q.1≠t):Zn (a++b) t=Zn b t:=by{
induction a with
| nil=>rfl
| cons q a ih=>
  show (if t=q.1 then q.2 else Zn (a++b) t)=_
  rw [if_neg fun e=>h q (Yi ..) e.symm]
  exact ih fun q' hq'=>h q' (Yg _ hq')}
theorem FN:∀ {l:Q3 (Nat×Gen×VObj)} (b:Q3 (Nat×Q2 (Gen×VObj))),(l.map (·.1)).Nodup->∀ {t:Nat} {g:Gen} {o:VObj},(t,g,o) ∈ l->Zn (somes l++b) t=some (g,o)
 | [],_,_,_,_,_,h=>by cases h
 | q::l,b,hn,t,g,o,h=>by
   rw [YO,GH] at hn
   show (if t=q.1 then some q.2 else Zn (somes l++b) t)=_
   rcases Ys.1 h with e | h
   subst e
   exact if_pos rfl
   rw [if_neg fun e=>hn.1 (by rw [<- e];exact Yy.2 ⟨_,h,rfl⟩)]
   exact FN b hn.2 h
theorem W6 {l:Q3 (Nat×Gen×VObj)} {q:Nat×Q2 (Gen×VObj)} (h:q ∈ somes l):∃ g o,(q.1,g,o) ∈ l/\q.2=some (g,o):=by
 obtain ⟨⟨t,g,o⟩,h1,rfl⟩:=Yy.1 h
 exact ⟨g,o,h1,rfl⟩
def Has (ob:Q3 (Nat×Q2 (Gen×VObj))) (l:Q3 (Nat×Gen×VObj)):Prop:=∀ t g o,(t,g,o) ∈ l->Zn ob t=some (g,o)
theorem DL {lits:Q3 (Nat×Q2 (Gen×VObj))} {ν:Nat->Gen} {e:El} {r:Q3 El} (h:(lits.all fun q=>!BN q.1)=true):Has (lits++somes (stO NT AT ET ν e r)) (stO NT AT ET ν e r):=fun t g o hm=>by
 have hk:=(K6 hm).1
 rw [IH _ _ t fun q hq hqt=>?_]
 have:=FN [] (DV ν e r) hm
 rwa [YB] at this
 have:=Yq.1 h q hq
 rw [hqt] at this
 unfold BN at this
 simp only [I5,Bool.or_eq_false_iff,YL,Z4] at this
 change t=0\/1000<=t/\t<1005\/2000<=t at hk
 omega
end
end VL
section
open VL
def W7:Q3 PV->Q2 Node | [.int .i64 k,.int .i64 t,.str s,.sl a,.sl b]=>some ⟨k,t,s,a,b⟩ | _=>none
theorem zA {e:Q3 PV} {n:Node} (h:W7 e=some n):e=n.cs:=by{
unfold W7 at h
split at h
cases h
rfl
cases h}
def W8:Q3 PV->Q2 Arg | [.bool b,.sl n,.sl v]=>some ⟨b,n,v⟩ | _=>none
theorem zB {e:Q3 PV} {n:Arg} (h:W8 e=some n):e=n.cs:=by{
unfold W8 at h
split at h
cases h
rfl
cases h}
def rdL {α:Type} (f:Q3 PV->Q2 α):Q3 (Q3 PV)->Q2 (Q3 α)
 | []=>some []
 | e::es=>match f e,rdL f es with
   | some x,some xs=>some (x::xs)
   | _,_=>none
theorem cI {α:Type} {f:Q3 PV->Q2 α} {cs:α->Q3 PV} (hf:∀ e x,f e=some x->e=cs x):∀ {l:Q3 (Q3 PV)} {xs:Q3 α},rdL f l=some xs->l=xs.map cs
 | [],xs,h=>by injection h with h;subst h;rfl
 | e::es,xs,h=>by
   simp only [rdL] at h
   split at h
   rename_i x ys h1 h2
   cases h
   rw [YO,<- hf e x h1,<- cI hf h2]
   cases h
def AV (l:Q3 (Q3 PV)):Q2 (Q3 Node):=rdL W7 l
theorem G6 {l:Q3 (Q3 PV)} {xs:Q3 Node} (h:AV l=some xs):l=xs.map Node.cs:=cI (fun _ _ h=>zA h) h
def DM (l:Q3 (Q3 PV)):Q2 (Q3 Arg):=rdL W8 l
theorem W9 {l:Q3 (Q3 PV)} {xs:Q3 Arg} (h:DM l=some xs):l=xs.map Arg.cs:=cI (fun _ _ h=>zB h) h
theorem cJ {α:Type} {f:Q3 PV->Q2 α} {cs:α->Q3 PV} (hf:∀ x,f (cs x)=some x):∀ (xs:Q3 α),rdL f (xs.map cs)=some xs
 | []=>rfl
 | x::xs=>by simp only [YO,rdL,hf x,cJ hf xs]
theorem FO (xs:Q3 Node):AV (xs.map Node.cs)=some xs:=cJ (f:=W7) (cs:=Node.cs) (fun _=>rfl) xs
theorem kL (xs:Q3 Arg):DM (xs.map Arg.cs)=some xs:=cJ (f:=W8) (cs:=Arg.cs) (fun _=>rfl) xs
namespace VL
theorem E9 {P:Program} [WInv P] {ops:Array Oper} {draw:Bool} {i:Nat} {L:Q3 Oper} {acc:Q3 (Q3 Nat×Q3 Nat)} {K:FS->Prop} {tm:Q3 (Nat×PV)} {ob:Q3 (Nat×Q2 (Gen×VObj))} {ng:Nat} (t:Nat) {l l':Q3 (Q3 PV)} (h:l=l') (hx:look tm t = .sl l) (k:GoL P ops draw i L acc (mkS ((t,.sl l')::tm) ob ng) K):GoL P ops draw i L acc (mkS tm ob ng) K:=by{
have e:mkS ((t,.sl l')::tm) ob ng=mkS tm ob ng:=by
 unfold mkS
 congr 1
 funext t'
 show (if t'=t then PV.sl l' else look tm t')=look tm t'
 split
 rename_i e
 rw [e,hx,h]
 rfl
rwa [e] at k}
end VL
instance:VL.BoolT Q7 4:=⟨by kernel_rfl⟩
instance:VL.StrT Q7 9:=⟨by kernel_rfl⟩
structure TapeF where
 l:List Int
 pos:Int
def TapeF.cs (x:TapeF):Q3 PV:=[.sl (List.map csI x.l),.int .i64 x.pos]
structure Link where
 kind:Int
 title:Title
 deriving DecidableEq
def Link.cs (x:Link):Q3 PV:=[.int .i64 x.kind,.int .i64 x.title.space,.str x.title.name]
def Link.pv (x:Link):PV:=.agg x.cs
structure Memb where
 category:Title
 sort:ByteArray
 deriving DecidableEq
def Memb.cs (x:Memb):Q3 PV:=[.int .i64 x.category.space,.str x.category.name,.str x.sort]
def Memb.pv (x:Memb):PV:=.agg x.cs
structure Tok where
 kind:Int
 from_:Int
 to_:Int
 deriving DecidableEq
def Tok.cs (x:Tok):Q3 PV:=[.int .i64 x.kind,.int .i64 x.from_,.int .i64 x.to_]
def Tok.pv (x:Tok):PV:=.agg x.cs
structure Elt where
 kind:Int
 tag:Int
 count:Int
 list:List Node
 args:List Arg
def Elt.cs (x:Elt):Q3 PV:=[.int .i64 x.kind,.int .i64 x.tag,.int .i64 x.count,.sl (List.map Node.cs x.list),.sl (List.map Arg.cs x.args)]
def Elt.pv (x:Elt):PV:=.agg x.cs
structure Pst where
 stack:List Elt
def Pst.cs (x:Pst):Q3 PV:=[.sl (List.map Elt.cs x.stack)]
structure Finder where
 links:List Link
 members:List Memb
end
namespace VL
open Go.RowKit
section
variable {P:Program} {r:Run} {o:Oper} {i:Nat} {s:FS}
theorem zC {S:Nat->Prop} {a:Act} {x:Ctx} (hX:RstX r S s a x) (hi:¬ S i) {d:Nat} (hd:d<r.N) {E k c:Nat} {vs:Array Value} (hl:vs.size=c * k) (hm:c<=9223372036854775807) :
  ∃ y:Ctx,y.W=x.W.alloc (.cells vs E)/\RstX r (fun j=>S j\/j=i) (s.app (some d) ⟨.row d (s.ng,i),[(d,some ((s.ng,i),.row E k false []))]⟩) (a.put (some d) (.slice (some ⟨x.W.heap.size,0,none⟩) 0 c)) y:=by{
have hold:∀ b,b<x.W.heap.size->(x.W.alloc (.cells vs E)).heap[b]? = x.W.heap[b]?:=fun b hb=>heap_alloc_old x.W _ hb
refine hX.newObj hi (fun k hk=>by cases hk;exact hd) rfl rfl rfl (by simp) (fun b hb _=>hold b hb) (fun b o v hF hv=>?_) (v0:=.slice (some ⟨x.W.heap.size,0,none⟩) 0 c) (fun b hb=>.inl ?_) (fun y st hF hW hρ=>?_) (fun y st hW hG hρ=>?_)
rw [World.cell?_of_block (hold b (hX.flt b o hF))];exact hv
have:x.W.heap.size=b:=by simpa [blk] using hb
omega
refine ⟨fun e he=>(by cases he),fun e he=>(by cases he),[],?_,fun m p v hpp hv=>(by simp at hpp),fun b hb=>⟨.inl ?_,fun o ho=>?_⟩⟩
rw [hρ,hW]
exact ⟨by simp,.inr ⟨x.W.heap.size,c,vs,rfl,YJ _,heap_alloc_new x.W _,YJ _,by unfold maxLen;omega,hl,by simp⟩⟩
rw [hρ] at hb
have e:x.W.heap.size=b:=by simpa [blk] using hb
rw [<- e]
exact hX.gr.size
rw [hρ] at hb
rw [hF] at ho
have e:x.W.heap.size=b:=by simpa [blk] using hb
have:=hX.flt b o ho
change b<x.W.heap.size at this
omega
exact .row d (s.ng,i) _ _ _ hG hρ}
theorem zD {T E d:Nat} {e e':Operand} {te:TI} {sz b:Nat} {zz:Q3 PV} {c:Nat} {kl kc:IntKind} (ho:o.op = .makeSlice T e e') (hdst:o.dst=some d) (ht:tyI P T=some ⟨.slice E,sz,b,zz⟩) (hte:tyI P E=some te) (hl:ev s e = .int kl 0) (hc:ev s e' = .int kc (c:Int)) (hb:te.bytes * c<=281474976710656) (hm:c<=9223372036854775807) :
  OpOK P r o i s ⟨.row d (s.ng,i),[(d,some ((s.ng,i),.row E te.size false []))]⟩:=by{
intro S a x Q hX hi hd
obtain ⟨inf,zv,h1,_⟩:=ZP ht
obtain ⟨inf',z',h1',h2',h3',h4',h5',h6'⟩:=ZP hte
have q1:a.eval e = .int kl 0:=by
 have:=AE hX e
 rw [hl] at this
 generalize a.eval e=v at this
 cases this
 rfl
have q2:a.eval e' = .int kc (c:Int):=by
 have:=AE hX e'
 rw [hc] at this
 generalize a.eval e'=v at this
 cases this
 rfl
have hrun:=run_make (P:=P) (w:=x.W) T E inf' z' h1 h2' h3' kl kc 0 c (Int.le_refl _) (by omega) (by
 rw [h5',<- Int.natCast_mul];omega) (by omega)
simp only [DH,Int.toNat_zero,h4'] at hrun
obtain ⟨y,hy1,hy2⟩:=zC hX hi (hd d hdst) (E:=E) (k:=te.size) (c:=c) (vs:=madeCells z'.cells (c * te.size)) (size_madeCells _ _) hm
rw [hdst]
refine ZX (v:=.slice (some ⟨x.W.heap.size,0,none⟩) 0 c) (W':=x.W.alloc (.cells (madeCells z'.cells (c * te.size)) E)) ?_ ⟨y,hy1,by rw [hdst];exact hy2⟩
unfold execOp
rw [ho]
simp [q1,q2,hrun]}
end
def WA (w:Nat) (c:Int):Q2 Unit:=if 0<=c/\c * (w:Int)<=281474976710656/\c<=9223372036854775807 then some () else none
section
variable {P:Program} [WInv P] {ops:Array Oper} {draw:Bool} {i:Nat} {L:Q3 Oper} {acc:Q3 (Q3 Nat×Q3 Nat)} {K:FS->Prop} {tm:Q3 (Nat×PV)} {ob:Q3 (Nat×Q2 (Gen×VObj))} {ng:Nat}
 {d:Nat} {ty T:TypeId} {pos:String} {after:Array Edge} {gd:Q2 (Nat×Bool)} {x y:Operand}
theorem zE {α:Type} (f:α->Q3 PV) {E kk by_:Nat} {z:Q3 PV} [Sl P T E kk by_ z] {kl:IntKind} {c:Int} {u:Unit} (hw:Zh ops (mkS tm ob ng) ⟨some d,.makeSlice T x y,ty,pos,after,gd⟩=some true) (hx:evL tm x = .int kl 0) {kc:IntKind} (hy:evL tm y = .int kc c) (hs:WA by_ c=some u)
  (k:GoL P ops draw (i+1) L (acc ++ [(ZE (mkS tm ob ng) ⟨some d,.makeSlice T x y,ty,pos,after,gd⟩,[d])]) (mkS ((d,.row d (ng,i))::tm) ((d,some ((ng,i),.row E kk false (List.map f [])))::ob) ng) K):GoL P ops draw i (⟨some d,.makeSlice T x y,ty,pos,after,gd⟩::L) acc (mkS tm ob ng) K:=by{
obtain ⟨s1,b,zz,te,q1,q2,q3,q4,q5,q6,q7⟩:=D9 (P:=P) (T:=T) (E:=E) (k:=kk) (by_:=by_) (z:=z)
unfold WA at hs
split at hs
rename_i hc
refine CH (u:=⟨.row d (ng,i),[(d,some ((ng,i),.row E kk false []))]⟩) (.any hw fun s' r hA hI=>?_) ?_
have e1:ev s' x = .int kl 0:=by rw [<- hA.ev x (by simp [Op.operands])];exact (congrFun (AB tm ob ng) x).trans hx
have e2:ev s' y = .int kc ((c.toNat:Nat):Int):=by rw [<- hA.ev y (by simp [Op.operands]),RN hc.1];exact (congrFun (AB tm ob ng) y).trans hy
have e3:s'.ng=ng:=hA.ng.symm
rw [<- e3,<- q3]
refine zD rfl rfl q1 q2 e1 e2 ?_ ?_
rw [q4]
have h1:=hc.2.1
have:((by_ * c.toNat:Nat):Int)<=281474976710656:=by rw [Int.natCast_mul,RN hc.1,Int.mul_comm];exact h1
omega
have:=hc.2.2
omega
rw [CG]
exact k
cases hs}
end
theorem zF {P:Program} {y:Ctx} {l:Q3 Int} {v:Value} (h:Rep y (.sl (l.map fun n=>[PV.int .u8 n])) v) {src E dst:TypeId} (hs:P.underlying src=some (.slice E)) (he:P.underlying E=some (.int .u8)) (hd:P.underlying dst=some .string) :
  (convert src dst v).run P y.W = .ok (.string (strOfNums l)) y.W:=by{
generalize hg:(l.map fun n=>[PV.int .u8 n])=els at h
cases h with
| sl _ A n c k b off f hn hc hm hk hA hcell hh=>
  have hln:n=l.length:=by rw [hn,<- hg,Yv]
  have hel:∀ (i:Nat) (m:Int),l[i]? = some m->els[i]? = some [PV.int .u8 m]:=fun i m hi=>by rw [<- hg,Yw,hi];rfl
  have key:∀ a:Addr,A=some a->(loadCells a n).run P y.W = .ok (l.map (Value.int .u8)).toArray y.W:=fun a ha=>by
   have:=run_loadCells_list (P:=P) y.W a (l.map (Value.int .u8)) (fun j u hj=>by
    rw [Yw,Ye] at hj
    obtain ⟨m,hm1,rfl⟩:=hj
    have hjl:=(Yd.1 hm1).1
    rw [hA (by omega)] at ha
    cases ha
    have h1:=hel j m hm1
    have hk1:k=1:=by rw [<- hk _ (Yj h1)];rfl
    subst hk1
    obtain ⟨_,_,h2⟩:=hcell j 0 _ _ h1 rfl
    have h3:=hh j 0 _ _ h1 rfl
    have h4:f j 0 = .int .u8 m:=by
     generalize f j 0=w at h3
     cases h3
     rfl
    rw [h4] at h2
    have hadd:(⟨b,off,none⟩:Addr).add j=⟨b,off+j,none⟩:=by unfold Addr.add;split<;>simp_all
    rw [hadd]
    simpa using h2)
   simpa [hln] using this
  cases A with
  | none=>
    have:l = []:=by
     rcases I6 n with h0 | h0
     exact Yl (by omega)
     have:=hA h0
     cases this
    subst this
    exact run_convert_bytes_nil y.W src E hs he n c dst hd
  | some a=>
    rw [run_convert_bytes_string y.W src dst E (some a) n c hs he hd,run_bytesToString y.W a n c l (key a rfl),foldl_push_bytes]
    simp [strOfNums,ByteArray.empty,ByteArray.emptyWithCapacity]
    rfl}
section
variable {P:Program} [WInv P] {ops:Array Oper} {draw:Bool} {i:Nat} {L:Q3 Oper} {acc:Q3 (Q3 Nat×Q3 Nat)} {K:FS->Prop} {tm:Q3 (Nat×PV)} {ob:Q3 (Nat×Q2 (Gen×VObj))} {ng:Nat}
 {d:Q2 Tmp} {ty T T':TypeId} {pos:String} {after:Array Edge} {gd:Q2 (Nat×Bool)} {x:Operand}
theorem cK {E kk by_:Nat} {z:Q3 PV} [Sl P T E kk by_ z] [hk:Kd P E .u8] [hs:StrT P T'] {l:Q3 Int} (hw:Zh ops (mkS tm ob ng) ⟨d,.convert T T' x,ty,pos,after,gd⟩=some true) (hx:FJ (Zn ob) (evL tm x)=some (.sl (l.map fun n=>[PV.int .u8 n])))
  (k:GoL P ops draw (i+1) L (acc ++ [(ZE (mkS tm ob ng) ⟨d,.convert T T' x,ty,pos,after,gd⟩,[])]) (mkS (A6 d (.str (strOfNums l)) tm) ob ng) K):GoL P ops draw i (⟨d,.convert T T' x,ty,pos,after,gd⟩::L) acc (mkS tm ob ng) K:=by{
obtain ⟨s1,b,zz,te,q1,q2,q3,q4,q5,q6,q7⟩:=D9 (P:=P) (T:=T) (E:=E) (k:=kk) (by_:=by_) (z:=z)
obtain ⟨inf,zv,h1,_⟩:=ZP q1
refine CH (u:=⟨.str (strOfNums l),[]⟩) (.any hw fun s' r hA hI=>?_) ?_
intro S a c Q hX hi hd
have hm:x ∈ (Op.convert T T' x).operands:=by simp [Op.operands]
have e1:ev s' x=evL tm x:=by rw [<- hA.ev x hm];exact congrFun (AB tm ob ng) x
have e2:FJ s'.ob (ev s' x)=some (.sl (l.map fun n=>[PV.int .u8 n])):=by
 rw [<- VO (fun t ht=>hA.key1 hm rfl rfl t ht),e1]
 exact hx
have h3:=JZ hX e2 (AE hX x)
have hrun:=zF (P:=P) h3 (src:=T) (dst:=T') h1 hk.eq hs.eq
refine ZX (v:=.string (strOfNums l)) (W':=c.W) ?_ (hX.val hd (.str _))
unfold execOp
have hrun2:(convert T T' (a.eval x)).run P c.W = .ok (.string (strOfNums l)) c.W:=hrun
simp [hrun2]
rw [CG]
exact k}
end
open Go.RowKit Go.Sort
section
variable {α:Type} [Inhabited α]
theorem cL (enc:α->Q3 Value) (k:Nat) (hk:∀ x,(enc x).length=k) (M:Q3 α):(flatK enc k M.toArray).toList=M.flatMap enc:=by{
have hlen:(M.flatMap enc).length=M.length * k:=by
 induction M with
 | nil=>simp
 | cons x M ih=>simp [MK,hk,ih,FF];omega
apply RU
intro t
by_cases ht:t<M.length * k
have hk0:0<k:=by rcases I6 k with h | h
                 subst h;simp at ht
                 exact h
have hi:t / k<M.length:=KU (by rw [EK];exact ht)
have hj:t % k<k:=JQ _ hk0
have e:=aJ enc k hk M (t / k) M[t / k] (t % k) ((enc M[t / k])[t % k]'(by rw [hk];exact hj)) (Yc hi) (Yc (by rw [hk];exact hj))
rw [EK (t / k) k,ML] at e
rw [e]
have h1:t<(flatK enc k M.toArray).size:=by rw [size_flatK];simpa using ht
have h2:=get_flatK enc k M.toArray t (by simpa using ht)
rw [JP _ t h1] at h2
rw [GE,Yu h1,h2,JP M.toArray (t / k) (by simpa using hi)]
simp only [List.getElem_toArray]
rw [JP (enc M[t / k]) (t % k) (by rw [hk];exact hj)]
rw [YZ (l:=(flatK enc k M.toArray).toList) (by simp;omega),YZ (l:=M.flatMap enc) (by rw [hlen];omega)]}
theorem zG (enc:α->Q3 Value) (k:Nat) (hk:∀ x,(enc x).length=k) {w:World} {g:Nat} {cur:Array Value} {E:TypeId} {L:Q3 α} (hb:w.heap[g]? = some (.cells cur E (0,0))) (ht:cur.toList.take (L.length * k)=L.flatMap enc):HoldsK enc k w g 0 L.toArray:=by{
intro j hj
have hj':j<L.length * k:=by simpa using hj
refine ⟨?_,by simp [World.frozen?,hb]⟩
have h1:(cur.toList.take (L.length * k))[j]? = (flatK enc k L.toArray).toList[j]?:=by rw [ht,cL enc k hk]
rw [List.getElem?_take_of_lt hj'] at h1
simp only [World.cell?,hb,YY]
simp only [Option.isSome_none,a7,if_false]
rw [<- GE,h1,GE,Yu hj,JP _ j hj]
rfl}
theorem zH (enc:α->Q3 Value) (k:Nat) (hk:∀ x,(enc x).length=k) {w:World} {g cap n:Nat} {cur:Array Value} {E:TypeId} {M:Q3 α} (hb:w.heap[g]? = some (.cells cur E (0,0))) (h1:M.length<=cap) (h2:cap<=maxLen) (h3:cur.size=cap * k) :
  (putRowK enc k (Sort.ahead w n) g 0 M.toArray).ownsRow 0 E k (.slice (some ⟨g,0,none⟩) M.length cap) M.length (M.flatMap enc)/\Gr (fun b=>blk (.slice (some ⟨g,0,none⟩) M.length cap)=some b) w (putRowK enc k (Sort.ahead w n) g 0 M.toArray):=by{
have hg:g<w.heap.size:=(GV.1 hb).1
have hh:(putRowK enc k (Sort.ahead w n) g 0 M.toArray).heap[g]? = some (.cells (putCells id 0 (flatK enc k M.toArray) cur) E (0,0)):=by
 simp [putRowK,putRow,mapBlock,Sort.ahead,Array.getElem?_modify,hb,onCells]
have hlen:(M.flatMap enc).length=M.length * k:=by rw [<- cL enc k hk M];simp
refine ⟨⟨hlen,.inr ⟨g,cap,_,rfl,YJ _,hh,h1,h2,by simp [putCells,h3],?_⟩⟩,rfl,rfl,rfl,by simp [putRowK,putRow,mapBlock,Sort.ahead],fun b hb' hne=>?_⟩
rw [<- cL enc k hk M]
have hle:M.length * k<=cur.size:=by rw [h3];exact GX _ h1
apply RU
intro j
by_cases hj:j<M.length * k
rw [List.getElem?_take_of_lt hj,GE,GE]
simp [putCells,hj,show j<cur.size by omega]
rw [List.getElem?_take_eq_none (by omega),YZ (by simp;omega)]
have:g≠b:=fun e=>hne (by rw [e];rfl)
simp [putRowK,putRow,mapBlock,Sort.ahead,Array.getElem?_modify,this]}
end
theorem kM:∀ {a b:Q3 PV} {va vb:Q3 Value},BU a=some va->BU b=some vb->BU (a++b)=some (va++vb)
 | [],b,va,vb,h,k=>by
   cases h
   exact k
 | p::a,b,va,vb,h,k=>by
   simp only [BU] at h
   split at h
   rename_i v vs h1 h2
   cases h
   simp only [FC,BU]
   rw [h1,kM h2 k]
   cases h
theorem SY {α:Type} {cs:α->Q3 PV} {enc:α->Q3 Value} (h:∀ x,BU (cs x)=some (enc x)):∀ (xs:Q3 α),BU (xs.map cs).flatten=some (xs.flatMap enc)
 | []=>rfl
 | x::xs=>by
   rw [YO,FY,MK]
   exact kM (h x) (SY h xs)
section
variable {P:Program} [WInv P]
theorem zI {α:Type} [Enc α] [EncPV α] {f:FuncId} {args:Q3 PV} {vals:Q3 Value} {E:TypeId} {xs:Q3 α} {enc:α->Q3 Value} (hg:isGo P f=true) (hp:∀ (x:Ctx) (vs:Array Value),Pre x args none vs->vs=vals.toArray) (hpl:∀ x:α,BU (EncPV.cs x)=some (enc x))
  (hE:∀ (S:Nat->Prop) (w:World) (x:α) (cs:Q3 Value),Enc.R S w x cs->cs=enc x) (hk:∀ x:α,(EncPV.cs x).length=Enc.k α)
  (h:∀ w,(∀ W,Below w.heap.size w W->WInv.I P W)->Calls P f vals.toArray w fun e w'=>∃ v,e = .returned v/\OwnL w' w.heap.size E v xs/\Below w.heap.size w w'):ContractN P f args (.row E (Enc.k α) false (xs.map EncPV.cs)):=by{
refine ⟨hg,⟨fun cs h=>(by cases h),fun E k els h=>(by cases h)⟩,fun x vs hpre hI=>?_⟩
obtain rfl:vs=vals.toArray:=hp x vs hpre
refine (h x.W fun W hW=>hI W ⟨hW.os,hW.tape,hW.output,hW.size,fun b hb _=>hW.block b hb⟩).mono ?_
rintro _ w' ⟨v,rfl,⟨css,hl,hown,hR⟩,hb⟩
let y:Ctx:=⟨fun g=>g=(0,0),x.F,w',fun _=>v⟩
have hcss:css.flatten=xs.flatMap enc:=by
 have:css=xs.map enc:=by
  apply RU
  intro i
  by_cases hi:i<xs.length
  have h1:xs[i]? = some xs[i]:=Yc hi
  have h2:css[i]? = some css[i]:=Yc (by omega)
  rw [h2,Yw,h1,hE _ _ _ _ (hR i _ _ h1 h2)]
  rfl
  rw [YZ (by omega),YZ (by simp;omega)]
 rw [this]
 rfl
have hpure:∀ e ∈ xs.map EncPV.cs,∀ p ∈ e,p.pure=true:=fun e he p hpm=>by
 obtain ⟨z,_,rfl⟩:=Yy.1 he
 obtain ⟨j,hj⟩:=YA hpm
 have:=SN (hpl z) hj
 obtain ⟨r,_,_⟩:=this
 have:∀ (l:Q3 PV) {vs:Q3 Value},BU l=some vs->∀ p ∈ l,p.pure=true:=fun l=>by
  induction l with
  | nil=>intro vs _ p hp;cases hp
  | cons q l ih=>
    intro vs hq p hp
    simp only [BU] at hq
    split at hq
    rename_i v1 vs1 h1 h2
    rcases Ys.1 hp with rfl | hp
    cases p<;>simp_all [JS,PV.pure]
    exact ih h2 p hp
    cases hq
 exact this _ (hpl z) p hpm
refine ⟨y,v,rfl,rfl,⟨fun g hg=>?_,fun _ _ h=>h,fun b o v hF hv=>(World.cell?_of_block (hb.block b (hpre.flt b o hF))).trans hv⟩,Gr.ofBelow hb,fun _ _ h=>.inl h,fun b o hF=>YU (hpre.flt b o hF) hb.size,(0,0),rfl,fun e he=>?_,hpure,css.flatten,?_,fun m p w hm hw=>?_,fun b hbk=>?_⟩
obtain ⟨j,os,h,_⟩:=hpre.gen g hg
cases h
obtain ⟨z,_,rfl⟩:=Yy.1 he
exact hk z
rw [Yv]
exact ⟨hown.1,hown.2.imp id fun ⟨g,cap,cur,h1,h2,h3⟩=>⟨g,cap,cur,h1,YJ _,h3⟩⟩
obtain ⟨r,h1,h2⟩:=SN (SY hpl xs) hm
rw [hcss,h1] at hw
injection hw with hw
subst hw
rw [<- h2]
exact V7 y r
have hB:x.W.heap.size<=b:=by
 change blk v=some b at hbk
 rcases hown.2 with ⟨hn,_⟩ | ⟨b',cap,cur,hv,hB,_⟩
 rw [hn] at hbk
 simp [blk] at hbk
 rw [hv] at hbk
 obtain rfl:b'=b:=by simpa [blk] using hbk
 exact hB
exact ⟨.inl hB,fun o hF=>by
 have h1:=hpre.flt b o hF
 omega⟩}
theorem zJ {α:Type} [Enc α] [EncPV α] {f:FuncId} {args:Q3 PV} {vals:Q3 Value} {E:TypeId} {xs:Q3 α} {enc:α->Q3 Value} (hg:isGo P f=true) (hp:∀ (x:Ctx) (vs:Array Value),Pre x args none vs->vs=vals.toArray) (hpl:∀ x:α,BU (EncPV.cs x)=some (enc x))
  (hE:∀ (S:Nat->Prop) (w:World) (x:α) (cs:Q3 Value),Enc.R S w x cs->cs=enc x) (hk:∀ x:α,(EncPV.cs x).length=Enc.k α)
  (h:∀ w,WInv.I P w->Calls P f vals.toArray w fun e w'=>∃ v,e = .returned v/\OwnL w' w.heap.size E v xs/\Below w.heap.size w w'):ContractN P f args (.row E (Enc.k α) false (xs.map EncPV.cs)):=
 zI hg hp hpl hE hk fun w hw=>h w (hw w (Below.refl _ _))
theorem zK {α:Type} [Enc α] [EncPV α] {f:FuncId} {args:Q3 PV} {vals:Q3 Value} {E:TypeId} {xs:Q3 α} {enc:α->Q3 Value} (hg:isGo P f=true) (hp:OY args=some vals) (hpl:∀ x:α,BU (EncPV.cs x)=some (enc x))
  (hE:∀ (S:Nat->Prop) (w:World) (x:α) (cs:Q3 Value),Enc.R S w x cs->cs=enc x) (hk:∀ x:α,(EncPV.cs x).length=Enc.k α)
  (h:∀ w,WInv.I P w->Calls P f vals.toArray w fun e w'=>∃ v,e = .returned v/\OwnL w' w.heap.size E v xs/\Below w.heap.size w w'):ContractN P f args (.row E (Enc.k α) false (xs.map EncPV.cs)):=by
 refine zJ (vals:=vals) hg (fun x vs hpre=>?_) hpl hE hk h
 have e:vs.toList=vals:=bL args hp vs.toList (by simpa using hpre.size) fun i p v hp hv=>hpre.rep i p v hp (by simpa using hv)
 rw [<- e]
end
end VL
section
open VL Go.RowKit
theorem args2 {x:Ctx} {p q:PV} {vs:Array Value} (h:Pre x [p,q] none vs):∃ v w,vs = #[v,w]/\Rep x p v/\Rep x q w:=by{
have hs:vs.size=2:=h.size.symm
refine ⟨vs[0],vs[1],?_,h.rep 0 p _ rfl (Yu (by omega)),h.rep 1 q _ rfl (Yu (by omega))⟩
apply Array.ext
exact hs
intro i h1 h2
match i,(show i<2 by omega) with
| 0,_=>rfl
| 1,_=>rfl}
theorem zL {x:Ctx} {s:Q1} {v:Value} (h:Rep x (.str s) v):v = .string s:=by cases h;rfl
end
end Go.Proofs.YtmgfammllddkhaaGreatDoor
