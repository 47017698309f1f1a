/- The first example of the chapter. | LinksSorted: the law. | From a reading of an argument to the words of the walks: structs field by field, slices element by element. No program is named. | Readings of the wiki's types at this translation. Written by types.py. | Lists of integers; the invariant in all later worlds, where no rules of edit are laid. | LinksSorted in worlds: whatever the lists and the numbers, the law returns true. | LinksSorted: the row and its card. Whatever the lists and numbers: the law returns true. No condition of ours. -/
import Derived.Test.YtmgfammllddkhaaGreatDoorCS13
import Derived.Test.YtmgfammllddkhaaGreatDoorCS14
import Derived.Test.YtmgfammllddkhaaGreatDoorCS01
import Derived.ProofKit
import Derived.OpenShut
import Derived.Deep.Slices
import Derived.Deep.Strs
import Derived.Test.YtmgfammllddkhaaGreatDoorRows
import Derived.Test.YtmgfammllddkhaaGreatDoorCS03
import Derived.Test.YtmgfammllddkhaaGreatDoorCS02
import Derived.Test.YtmgfammllddkhaaGreatDoorCS04
import Derived.MakeChecks
import Derived.FnData
import Derived.ChangeSame
import Derived.Test.YtmgfammllddkhaaGreatDoorCards
import Derived.Test.YtmgfammllddkhaaGreatDoorTie
import Derived.Deep.DeepHandedRow
import Derived.Lib.LaidTab
import Derived.ShutString
set_option maxRecDepth 1000000
namespace Go.Proofs.YtmgfammllddkhaaGreatDoor
theorem Zpo:ZfO=some true:=by kernel_rfl
end Go.Proofs.YtmgfammllddkhaaGreatDoor
set_option maxRecDepth 100000
set_option linter.unusedVariables false
namespace Go.Proofs.YtmgfammllddkhaaGreatDoor
open VL
theorem Zno (a b:ByteArray) (h:a.size≤1000000):Tot (Zbc a b) fun r=>r.1.size≤a.size:=by
 unfold Zbc Zav
 refine Zu (Q:=fun r=>r.1.size≤a.size) (Zu (Zto a b h) fun r hr=>?_) fun r hr=>Zd hr
 cases r with
 | false=>exact ZZ (fun _=>Zd (Nat.le_refl _)) fun h=>by cases h
 | true=>
   have:=hr rfl
   refine ZZ (fun h=>by cases h) fun _=>?_
   exact ZaT (by omega) (by omega) (by omega) fun m _ hm=>Zd (by dsimp only;omega)
theorem Zvc (s:ByteArray) (h:s.size≤300000):Tot (Zcc s) fun r=>r.2=true→r.1.valid=true:=by
 unfold Zcc
 refine Zu (Zno s _ (by omega)) fun r1 h1=>ZZ (fun _=>Zd fun h=>by cases h) fun _=>?_
 have h2:(ZbS Zor r1.1).size≤r1.1.size:=Zne _ _
 refine Zb (v:=ZbS Zor r1.1) (by unfold Zbd;rw [if_pos rfl]) ?_
 generalize ZbS Zor r1.1=r2 at h2 ⊢
 refine Zu (Zno r2 _ (by omega)) fun r3 h3=>Zu (Zqn r3.1 (by omega)) fun r4 h4=>?_
 refine Zap (fun q=>Tot (q true) (fun r=>r.2=true→r.1.valid=true)∧(0≤r4→Tot (q false) (fun r=>r.2=true→r.1.valid=true))) ⟨?_,fun h0=>?_⟩ fun k1 hk=>?_
 ·exact ZZ (fun _=>Zd fun h=>by cases h) fun h=>by cases h
 ·refine ZZ (fun h=>by cases h) fun _=>?_
  refine ZaT (by omega) (by omega) (by omega) fun m _ hm=>Zu (ZoQ m (by omega)) fun r11 h11=>Zd fun h=>h11 (of_decide_eq_true h)
 ·refine ZZ (fun _=>hk.1) fun _=>Zj (fun _=>hk.1) fun h5=>?_
  refine ZaT (by omega) (by omega) (by omega) fun m _ hm=>Zu (Zr9 m _ (by omega)) fun r13 _=>ZZ (fun _=>hk.1) fun _=>?_
  refine ZaT (by omega) (by omega) (by omega) fun m _ hm=>Zu (Zr9 m _ (by omega)) fun r15 _=>?_
  cases r15 with
  | true=>exact hk.1
  | false=>exact hk.2 (by omega)
theorem ZiP {α:Type} {eq:α→α→Bool}:∀ (l:List α) (x:α),(Zdy eq x l).Sublist l
 | [],_=>.slnil
 | y::l,x=>by
   show (if eq y x=true then Zdy eq y l else y::Zdy eq y l).Sublist (y::l)
   split
   ·exact (ZiP l y).cons y
   ·exact (ZiP l y).cons_cons y
theorem ZeE {α:Type} {eq:α→α→Bool} (l:List α):(ZiV eq l).Sublist l:=by
 cases l with
 | nil=>exact .slnil
 | cons x l=>exact (ZiP l x).cons_cons x
theorem ZsD {α:Type} {R S:α→α→Prop} {l:List α} (h:l.Pairwise R) (k:l.Pairwise S):l.Pairwise fun a b=>R a b∧S a b:=by
 induction l with
 | nil=>exact .nil
 | cons x l ih=>
   obtain ⟨h1,h2⟩:=List.pairwise_cons.1 h
   obtain ⟨k1,k2⟩:=List.pairwise_cons.1 k
   exact List.pairwise_cons.2 ⟨fun y hy=>⟨h1 y hy,k1 y hy⟩,ih h2 k2⟩
def Zs9 (L:List Link):List Link:=ZiV (fun a b=>decide (a=b)) (Zak (leC Zcj) L)
def Zta (L:List Memb):List Memb:=ZiV (fun a b=>decide (a.category=b.category)) (Zak leM L)
theorem Znp {α:Type} {c:α→α→Int} (h:CmpLaws c) {a b:α} (k:leC c a b=true) (hn:¬ a=b):c a b<0:=by
 have k2:ltOf c b a=false:=by unfold leC at k;simpa using k
 have k3:¬ c b a<0:=of_decide_eq_false k2
 have k4:¬ c b a=0:=fun e=>hn ((h.zero b a).1 e).symm
 exact (h.neg a b).2 (by omega)
theorem Ztb (L:List Link):(Zs9 L).Pairwise fun a b=>Zcj a b<0:=by
 have s:(Zak (leC Zcj) L).Pairwise (fun a b=>leC Zcj a b=true):=ZeK (Zi2 linkCmp_laws.swo) (Zi3 linkCmp_laws.swo) L
 have d:(Zs9 L).Pairwise fun a b=>¬ a=b:=Znt (le:=leC Zcj) (fun a:Link=>a) (fun a b h k=>Znz linkCmp_laws.tot a b h k) (fun a b e c=>by rw [show a=b from e];exact ⟨rfl,rfl⟩) _ s
 exact (ZsD (s.sublist (ZeE _)) d).imp fun ⟨h1,h2⟩=>Znp linkCmp_laws h1 h2
theorem Ztc (L:List Memb):(Zta L).Pairwise fun a b=>Title.cmp a.category b.category<0:=by
 have s:(Zak leM L).Pairwise (fun a b=>leM a b=true):=ZeK Zbo ZfD L
 have k1:∀ a b:Memb,a.category=b.category→∀ c:Memb,leM c a=leM c b∧leM a c=leM b c:=fun a b h c=>by
  unfold leM leC ltOf Zd8
  rw [h]
  exact ⟨rfl,rfl⟩
 have k2:∀ a b:Memb,leM a b=true→leM b a=true→a.category=b.category:=fun a b h k=>by
  refine titleCmp_laws.tot a.category b.category ?_ ?_
  ·unfold leM leC at k
   have k2:ltOf Zd8 a b=false:=by simpa using k
   exact k2
  ·unfold leM leC at h
   have k2:ltOf Zd8 b a=false:=by simpa using h
   exact k2
 have d:(Zta L).Pairwise fun a b=>¬ a.category=b.category:=Znt (le:=leM) Memb.category k2 k1 _ s
 exact (ZsD (s.sublist (ZeE _)) d).imp fun {a b} ⟨h1,h2⟩=>Znp (c:=Title.cmp) titleCmp_laws (a:=a.category) (b:=b.category) h1 h2
theorem ZjZ {a b:Title} (h:Title.cmp a b<0):a.space<b.space∨(a.space=b.space∧ltS a.name b.name=true):=by
 rw [ZsX] at h
 split at h
 ·exact .inl (by assumption)
 ·split at h
  ·omega
  ·split at h
   ·rename_i h1 h2 h3
    exact .inr ⟨by omega,h3⟩
   ·split at h<;>omega
theorem Zrw {a b:Title} (h:Title.cmp a b<0):ZeP a b=some true:=by
 unfold ZeP
 refine Za2 (Zap (fun q=>∀ c:Bool,c=true→Tot (q c) (fun r=>r=true)) (fun c hc=>Zd hc) fun k hk=>?_)
 rcases ZjZ h with h1 | ⟨h1,h2⟩
 ·exact Zj (fun _=>hk _ rfl) fun h=>absurd h1 h
 ·exact Zj (fun _=>hk _ rfl) fun _=>Zj (fun _=>hk _ h2) fun h=>absurd h1 h
theorem Ztd {a b:Link} (h:Zcj a b<0):¬ b.kind<a.kind∧(a.kind=b.kind→Title.cmp a.title b.title<0):=by
 have e:Zcj a b=ZpG (Lib.compareInt a.kind b.kind) (Title.cmp a.title b.title):=Zlb _ _
 rw [e] at h
 unfold ZpG Lib.compareInt at h
 by_cases h1:a.kind<b.kind
 ·exact ⟨by omega,fun h=>by omega⟩
 ·rw [if_neg h1] at h
  by_cases h2:a.kind > b.kind
  ·rw [if_pos h2,if_neg (by decide)] at h
   cases h
  ·rw [if_neg h2,if_pos rfl] at h
   exact ⟨by omega,fun _=>h⟩
theorem Zuo {α:Type} {R:α→α→Prop} {l:List α} (h:l.Pairwise R) {i:Int} {a b:α} (h0:0<i) (ha:l[(i - 1).toNat]? = some a) (hb:l[i.toNat]? = some b):R a b:=by
 obtain ⟨l1,e1⟩:=List.getElem?_eq_some_iff.1 ha
 obtain ⟨l2,e2⟩:=List.getElem?_eq_some_iff.1 hb
 have:=List.pairwise_iff_getElem.1 h (i - 1).toNat i.toNat l1 l2 (by omega)
 rw [e1,e2] at this
 exact this
def okL (l:Link):Prop:=(l.kind=1∨l.kind=2∨l.kind=4)∧l.title.valid=true
theorem Zte (s:ByteArray) (h:s.size≤1500):∃ L M,Zd2 s=some (Zs9 L,Zta M,0)∧L.length≤700000∧M.length≤700000∧(∀ x ∈ L,okL x)∧∀ x ∈ M,x.category.space=4:=by
 obtain ⟨l,hp,hw⟩:=ZqJ s.data.toList (by have e:s.data.toList.length=s.size:=rfl;omega)
 have hp:ZdW s=some (l,0):=hp
 obtain ⟨f1,e1,g1⟩:=Znf 300001 l ⟨[],[]⟩ 0 300000 hw (by omega) (by omega) (by omega) ⟨by simp,by simp,(fun x hx=>by cases hx),(fun x hx=>by cases hx)⟩
 obtain ⟨f2,e2,g2⟩:=ZgG 300001 l f1 (0+300000) 300000 hw (by omega) (by omega) (by omega) g1
 obtain ⟨r4,e4,g4⟩:=Zvc s (by omega)
 have hl2:=g2.ll
 have hm2:=g2.ml
 have gl:∀ x ∈ f2.links,okL x:=fun x hx=>by
  obtain ⟨h1,h2⟩:=g2.gl x hx
  exact ⟨h1.elim .inl fun h=>.inr (.inl h),h2⟩
 have fin:∀ L:List Link,L.length≤700000→((Za4 L).bind fun r7=>(ZL f2.members).bind fun r8=>(ZU r8).bind fun r9=>(ZaQ r7).bind fun r10=>(some (r10,r9,0):Option ((List Link)×(List Memb)×Int)))=some (Zs9 L,Zta f2.members,0):=fun L hL=>by
  refine Za2 ?_
  refine Zb (v:=Zak (leC Zcj) L) (by unfold Za4;rw [if_pos (by omega)]) ?_
  refine Zb (Zmn f2.members (by omega)) ?_
  refine Zb (ZkO _ (by rw [Zaa];omega)) ?_
  exact Zb (ZkN _ (by rw [Zaa];omega)) (Zd rfl)
 cases hr:r4.2 with
 | false=>
   refine ⟨f2.links,f2.members,Za2 ?_,by omega,by omega,gl,g2.gm⟩
   unfold Zd2
   refine Zb hp (ZdY (fun h=>absurd rfl h) fun _=>Zb e1 (Zb e2 (Zb e4 (ZaM ?_))))
   rw [hr]
   exact ZZ (fun h=>by cases h) fun _=>Zpv (fin _ (by omega)) rfl
 | true=>
   refine ⟨f2.links ++ [⟨4,r4.1⟩],f2.members,Za2 ?_,by simp only [List.length_append,List.length_singleton];omega,by omega,fun x hx=>?_,g2.gm⟩
   ·unfold Zd2
    refine Zb hp (ZdY (fun h=>absurd rfl h) fun _=>Zb e1 (Zb e2 (Zb e4 (ZaM ?_))))
    rw [hr]
    refine ZZ (fun _=>?_) fun h=>by cases h
    refine Zic 1000000 (by simp only [List.length_singleton];omega) (by omega) (by omega) ?_
    exact Zpv (fin _ (by simp only [List.length_append,List.length_singleton];omega)) rfl
   ·rcases List.mem_append.1 hx with hx | hx
    ·exact gl x hx
    ·rw [List.mem_singleton.1 hx]
     exact ⟨.inr (.inr rfl),g4 hr⟩
theorem Zob (l:List Int) (hl:l.length≤9223372036854775807):ZcA l=some true:=by
 refine Za2 ?_
 unfold ZcA
 refine Zb (v:=(⟨l,0⟩:TapeF)) rfl (Zu (Zuh ⟨l,0⟩ ⟨hl,Int.le_refl _⟩) fun r2 _=>?_)
 refine Zj (fun _=>Zb Zpo (Zd rfl)) fun hsz=>?_
 obtain ⟨L,M,hO,hL,hM,okl,okm⟩:=Zte r2.1 (by omega)
 refine Zb hO ?_
 have sL:=Ztb L
 have sM:=Ztc M
 have gL:∀ x ∈ Zs9 L,okL x:=fun x hx=>okl x ((ZcX (leC Zcj) L).mem_iff.1 ((ZeE _).subset hx))
 have gM:∀ x ∈ Zta M,x.category.space=4:=fun x hx=>okm x ((ZcX leM M).mem_iff.1 ((ZeE _).subset hx))
 have zL:(Zs9 L).length≤700000:=Nat.le_trans (ZeE _).length_le (by rw [Zaa];exact hL)
 have zM:(Zta M).length≤700000:=Nat.le_trans (ZeE _).length_le (by rw [Zaa];exact hM)
 generalize Zs9 L=A at sL gL zL
 generalize Zta M=B at sM gM zM
 dsimp only
 refine Zan (fun i=>0≤i) (fun i=>A.length - i.toNat) (by omega) (by omega) fun i rec h0 ih=>?_
 refine Zj (fun hlt=>?_) fun _=>?_
 ·refine Zap (fun k=>Tot (k false) (fun r=>r=true)) (ZZ (fun h=>by cases h) fun _=>?_) fun k21 hk21=>?_
  ·refine Zap (fun k=>Tot (k false) (fun r=>r=true)) (ZZ (fun h=>by cases h) fun _=>?_) fun k22 hk22=>?_
   ·rw [ZaO (by omega) (by omega)]
    exact ih _ (by omega) (by omega)
   ·refine Zj (fun hpos=>?_) fun _=>hk22
    rw [ZaO (by omega) (by omega)]
    obtain ⟨a,ha⟩:∃ a,A[(i - 1).toNat]? = some a:=⟨_,List.getElem?_eq_getElem (by omega)⟩
    obtain ⟨b,hb⟩:∃ b,A[i.toNat]? = some b:=⟨_,List.getElem?_eq_getElem (by omega)⟩
    have ea:atI A (i - 1)=some a:=by unfold atI;rw [if_pos (by omega)];exact ha
    have eb:atI A i=some b:=by unfold atI;rw [if_pos h0];exact hb
    obtain ⟨r1,r2⟩:=Ztd (Zuo sL hpos ha hb)
    refine Zb ea (Zb eb (Zj (fun h=>absurd h r1) fun _=>?_))
    refine Zb ea (Zb eb (Zj (fun h=>?_) fun _=>hk22))
    exact Zb ea (Zb eb (Zb (Zrw (r2 h)) hk22))
  ·obtain ⟨b,hb⟩:∃ b,A[i.toNat]? = some b:=⟨_,List.getElem?_eq_getElem (by omega)⟩
   have eb:atI A i=some b:=by unfold atI;rw [if_pos h0];exact hb
   obtain ⟨k1,k2⟩:=gL b (List.mem_of_getElem? hb)
   refine Zb eb (Zb (v:=true) ?_ (ZZ (fun h=>by cases h) fun _=>?_))
   ·show (some b.title.valid).bind (fun r1=>some r1)=_
    rw [k2]
    rfl
   refine Zb eb (Zj (fun h=>absurd h (by omega)) fun _=>?_)
   refine Zb eb (Zj (fun h=>absurd h (by omega)) fun _=>?_)
   refine Zb eb ?_
   rw [decide_eq_false (show ¬ b.kind=3 by omega)]
   exact hk21
 ·refine Zan (fun i=>0≤i) (fun i=>B.length - i.toNat) (by omega) (by omega) fun i rec h0 ih=>?_
  refine Zj (fun hlt=>?_) fun _=>?_
  ·refine Zap (fun k=>Tot (k false) (fun r=>r=true)) (ZZ (fun h=>by cases h) fun _=>?_) fun k36 hk36=>?_
   ·rw [ZaO (by omega) (by omega)]
    exact ih _ (by omega) (by omega)
   ·obtain ⟨b,hb⟩:∃ b,B[i.toNat]? = some b:=⟨_,List.getElem?_eq_getElem (by omega)⟩
    have eb:atI B i=some b:=by unfold atI;rw [if_pos h0];exact hb
    have sb:=gM b (List.mem_of_getElem? hb)
    refine Zb eb (ZdY (fun h=>absurd sb h) fun _=>Zj (fun hpos=>?_) fun _=>hk36)
    rw [ZaO (by omega) (by omega)]
    obtain ⟨a,ha⟩:∃ a,B[(i - 1).toNat]? = some a:=⟨_,List.getElem?_eq_getElem (by omega)⟩
    have ea:atI B (i - 1)=some a:=by unfold atI;rw [if_pos (by omega)];exact ha
    have sa:=gM a (List.mem_of_getElem? ha)
    refine Zb ea (Zb eb ?_)
    rcases ZjZ (Zuo sM hpos ha hb) with h | ⟨_,h⟩
    ·omega
    ·rw [h]
     exact hk36
  ·refine ZaM (Zj (fun _=>Zb Zpo (Zd rfl)) fun h=>absurd rfl h)
end Go.Proofs.YtmgfammllddkhaaGreatDoor
namespace Go.Proofs.YtmgfammllddkhaaGreatDoor
open Go.RowKit Go.ChangeShapes Go.WideShapes Go.Deep
theorem ZgK {α:Type} (f:Nat→Option α):∀ n,(∀ i,i<n→∃ t,f i=some t)→((List.range n).filterMap f).length=n∧∀ i,i<n→((List.range n).filterMap f)[i]? = f i
 | 0,_=>⟨rfl,fun i h=>absurd h (by omega)⟩
 | n+1,h=>by
   obtain ⟨h1,h2⟩:=ZgK f n fun i hi=>h i (by omega)
   obtain ⟨t,ht⟩:=h n (by omega)
   rw [List.range_succ,List.filterMap_append]
   have e:List.filterMap f [n] = [t]:=by simp [ht]
   rw [e]
   refine ⟨by simp [h1],fun i hi=>?_⟩
   rcases Nat.lt_or_ge i n with hl | hl
   ·rw [List.getElem?_append_left (by omega)];exact h2 i hl
   ·obtain rfl:i=n:=by omega
    rw [List.getElem?_append_right (by omega),h1,ht];simp
section
variable {H:Type} {enc:TypeId×Value→H} {P:Program} {W:World}
def Rd (enc:TypeId×Value→H) (P:Program) (W:World) (T:TypeId) (α:Type) [Enc α]:Prop:=
 ∀ fuel cs x,DataW.trod enc P W 0 (fun _=>true) true fuel T cs=some x→∃ t:α,Enc.RT W t cs
theorem Zup {T:TypeId} (hT:P.underlying T=some (.int .i64)):Rd enc P W T Int:=fun _ _ _ h=>by
 obtain ⟨n,hc,_⟩:=DataW.trod_int hT h
 exact ⟨n,hc⟩
theorem Zrx {S E:TypeId} {α:Type} [Enc α] (hS:P.underlying S=some (.slice E)) (hk:P.cellsOf E=Enc.k α) (h0:0<Enc.k α) (hE:Rd enc P W E α):Rd enc P W S (List α):=fun fuel cs x h=>by
 rcases open_slice hS h with ⟨hc,_⟩ | ⟨a,len,cap,m,n,D,Pl,hc,_,hl,hm,hmm,_,hel⟩
 ·exact ⟨[],none,0,0,hc,SlR.nil W⟩
 ·have hm':m=cap:=by simpa using hmm
  have hx:∀ i,∃ (cs':List Value) (t:Option α),i<len→∃ t',t=some t'∧Enc.RT W t' cs'∧∀ j v,cs'[j]? = some v→W.cell? (a.add (i * P.cellsOf E+j))=some v:=fun i=>by
   by_cases hi:i<len
   ·obtain ⟨cs',h1,h2⟩:=hel i (by omega)
    obtain ⟨t,ht⟩:=hE _ _ _ h2
    obtain ⟨_,hlen,hcell⟩:=World.cells?_some h1
    refine ⟨cs',some t,fun _=>⟨t,rfl,ht,fun j v hj=>?_⟩⟩
    have hjl:j<P.cellsOf E:=by rw [← hlen];exact (List.getElem?_eq_some_iff.1 hj).1
    rw [← Go.Deep.add_add,hcell j hjl,hj]
   ·exact ⟨[],none,fun h=>absurd h hi⟩
  obtain ⟨css,hx⟩:=Classical.axiomOfChoice hx
  obtain ⟨ts,hx⟩:=Classical.axiomOfChoice hx
  refine ⟨(List.range len).filterMap ts,some a,len,cap,hc,?_⟩
  have hlen:((List.range len).filterMap ts).length=len∧∀ i,i<len→((List.range len).filterMap ts)[i]? = ts i:=ZgK ts len fun i hi=>by
   obtain ⟨t,ht,_⟩:=hx i hi
   exact ⟨t,ht⟩
  refine ⟨hlen.1.symm,hl,by unfold maxLen at hm;exact hm,fun hpos=>?_⟩
  obtain ⟨t0,_,hR0,hc0⟩:=hx 0 hpos
  have hl0:=Enc.len hR0
  have hcell0:=hc0 0 ((css 0)[0]'(by omega)) (List.getElem?_eq_getElem (by omega))
  obtain ⟨b,off,spot⟩:=a
  have hspot:spot=none:=by
   simp only [Nat.zero_mul,Nat.add_zero,Addr.add,if_true] at hcell0
   cases spot with
   | none=>rfl
   | some s=>
     exfalso
     unfold World.cell? at hcell0
     split at hcell0<;>simp at hcell0
  subst hspot
  refine ⟨b,off,css,rfl,trivial,?_,fun i x hi=>?_⟩
  ·simp only [Nat.zero_mul,Nat.add_zero,Addr.add,if_true] at hcell0
   exact ZbJ hcell0
  ·have hil:i<len:=by rw [← hlen.1];exact (List.getElem?_eq_some_iff.1 hi).1
   obtain ⟨t,ht,hR,hcell⟩:=hx i hil
   rw [hlen.2 i hil,ht] at hi
   obtain rfl:t=x:=by simpa using hi
   refine ⟨hR,fun j v hj=>?_⟩
   have:=hcell j v hj
   rw [hk] at this
   unfold Addr.add at this
   split at this
   ·rename_i h0;rw [Nat.add_assoc,h0];exact this
   ·rw [Nat.add_assoc];exact this
end
end Go.Proofs.YtmgfammllddkhaaGreatDoor
namespace Go.Proofs.YtmgfammllddkhaaGreatDoor
open Go.RowKit Go.ChangeShapes Go.WideShapes Go.Deep
theorem Zra:Tryz.prog.cellsOf 3=1:=by kernel_rfl
section
variable {H:Type} {enc:TypeId×Value→H} {W:World}
theorem Zu3:Rd enc Tryz.prog W 3 Int:=Zup Tryz.underlying3
end
end Go.Proofs.YtmgfammllddkhaaGreatDoor
namespace Go.Proofs.YtmgfammllddkhaaGreatDoor
open VL Go.RowKit Go.ChangeShapes Go.WideShapes
theorem ZuX {H:Type} {enc:TypeId×Value→H} {W:World}:Rd enc Tryz.prog W 35 (List Int):=Zrx Tryz.underlying35 Zra (by decide) Zu3
theorem ZuY {W:World} (hG:ZtY W) (W':World) (hb:Below W.heap.size W W'):WInv.I Tryz.prog W':=
 ⟨hG.imp fun _ hm=>re1 hb (ZbJ hm) hm,trivial⟩
end Go.Proofs.YtmgfammllddkhaaGreatDoor
namespace Go.Proofs.YtmgfammllddkhaaGreatDoor
open VL Go.RowKit
theorem ZtK {α:Type} [Enc α] {w:World} {A:Option Addr} {n c:Nat} {xs:List α} (h:SlR w A n c xs):xs.length≤9223372036854775807:=by
 obtain ⟨h1,h2,h3,h4⟩:=h
 omega
theorem Zvf {x:Ctx} (i:Nat) (p:PV) (v:Value) (hp:([]:List PV)[i]? = some p) (hv:([]:List Value)[i]? = some v):Rep x p v:=by simp at hp
theorem Zvg {x:Ctx} {p:PV} {v:Value} {ps:List PV} {vs:List Value} (h:Rep x p v) (r:∀ (i:Nat) (p:PV) (v:Value),ps[i]? = some p→vs[i]? = some v→Rep x p v) (i:Nat) (q:PV) (w:Value) (hp:(p::ps)[i]? = some q) (hv:(v::vs)[i]? = some w):Rep x q w:=by
 cases i with
 | zero=>injection hp with hp;injection hv with hv;subst hp hv;exact h
 | succ i=>exact r i q w (by simpa using hp) (by simpa using hv)
theorem Zvh {x:Ctx} {ps:List PV} {vs:List Value} (r:∀ (i:Nat) (p:PV) (v:Value),ps[i]? = some p→vs[i]? = some v→Rep x p v) (i:Nat) (p:PV) (v:Value) (hp:ps[i]? = some p) (hv:vs.toArray[i]? = some v):Rep x p v:=r i p v hp (by simpa using hv)
theorem Zjf {A0:Option Addr} {n0 c0:Nat} {l0:List Int} (W:World) (h0:SlR W A0 n0 c0 l0) (hI:∀ W',Below W.heap.size W W'→WInv.I Tryz.prog W') :
  Calls Tryz.prog 5 #[.slice A0 n0 c0] W fun e w'=>e = .returned (.bool true)∧Below W.heap.size W w':=
 Zn2 (Zhy l0 true (Zob l0 (ZtK h0))) rfl (fun i p v hp hv=>Zvh (vs:=[.slice A0 n0 c0]) (Zvg (Zpa h0) Zvf) i p v hp hv) hI
end Go.Proofs.YtmgfammllddkhaaGreatDoor
namespace Go.Proofs.YtmgfammllddkhaaGreatDoor.lawLinksSorted
open Go.ChangeShapes Go.WideShapes Go.ChangeAt Go.RowKit
open Go.ChangeMaps (open_string shut_string)
theorem own:ownKnob Tryz.prog.godebug=none:=by kernel_rfl
theorem ZsY:laidOutB Tryz.prog=true:=by kernel_rfl
def firstCells:Array Value:=List.toArray (Go.Pinned.utf8FirstZ.map fun (n:Nat)=>Value.int .u8 (n:Int))
def Zn1:Array Value:=#[.int .u8 128,.int .u8 191,.int .u8 160,.int .u8 191,.int .u8 128,.int .u8 159,.int .u8 144,.int .u8 191,.int .u8 128,.int .u8 143,.int .u8 0,.int .u8 0,.int .u8 0,.int .u8 0,.int .u8 0,.int .u8 0,.int .u8 0,.int .u8 0,.int .u8 0,.int .u8 0,.int .u8 0,.int .u8 0,.int .u8 0,.int .u8 0,.int .u8 0,.int .u8 0,.int .u8 0,.int .u8 0,.int .u8 0,.int .u8 0,.int .u8 0,.int .u8 0]
def Zli (cs:Array Value):Obj→Obj
 | .cells _ t frozen=>.cells cs t frozen
 | o=>o
noncomputable def Ziy (os:Os):World:=
 { World.holding Tryz.prog os ⟨#[],#[],[]⟩ with heap:=(((World.holding Tryz.prog os ⟨#[],#[],[]⟩).heap.modify 2 (Zli Zn1)).modify 1 (Zli firstCells)) }
theorem Zrh (os:Os):laidMet Tryz.prog Rows.linksSortedRow.laid ((Ziy os).forCall (fun _ _=>0) ⟨#[],#[.slice none 0 0],[]⟩).memory:=
 laidMet_of_run' 8 (by kernel_rfl) (by kernel_rfl)
theorem reads (os:Os) {H:Type} (enc:TypeId×Value→H):∃ places,DataW.whole enc Tryz.prog ((Ziy os).forCall (fun _ _=>0) ⟨#[],#[.slice none 0 0],[]⟩).memory Tryz.f5.params.toList Rows.linksSortedSpec.vars false #[.slice none 0 0].toList 8 =
  some ([.nil],[],places):=
 ⟨[],by kernel_rfl⟩
theorem ZsZ {W:World} (h:W.ShapedOpen Tryz.prog):ZtY W:=
 Go.Proofs.cell_of_shapedOpen_int (zero:=#[.int .i64 0]) (t:=3) h (of_decide_eq_true (by kernel_rfl)) (by kernel_rfl) rfl (by kernel_rfl) (by kernel_rfl) Tryz.underlying3
set_option maxRecDepth 100000 in
theorem contract (H:Type) (enc:TypeId×Value→H) (W:World) (base:Nat) (args:Array Value) (ds gs:List (DataW H)) (before:List MemPlace)
  (hval:∀ (j:Nat) t v,Tryz.f5.params[j]? = some t→args[j]? = some v→Value.okWide Tryz.prog W .any base t v)
  (hW:DataW.Whole enc Tryz.prog Tryz.f5.params.toList Rows.linksSortedSpec.vars false W args.toList ds gs before) (hsh:W.ShapedOpen Tryz.prog) :
  Calls Tryz.prog 5 args W fun e W'=>∃ v,e = .returned v∧Rows.linksSortedSpec.post enc Tryz.prog Tryz.f5 false true false false W args v W':=by
 have hW':=hW
 obtain ⟨p,q,hA0,hV,rfl,hfz,hnd⟩:=hW
 have hA:DataW.TrodAll enc Tryz.prog W 0 (fun _=>true) true Tryz.f5.params.toList args.toList ds p:=hA0
 rw [Tryz.params5] at hA hval
 obtain ⟨v0,vs0,d0,ds0,p0,q0,hargs,rfl,rfl,h0,r0⟩:=trodAll_cons hA
 obtain ⟨rfl,rfl,rfl⟩:=trodAll_nil r0
 obtain rfl:args = #[v0]:=by cases args;simp_all
 obtain ⟨rfl,rfl⟩:=trodVars_none hV
 have k0:=h0
 have lt0:∀ x ∈ p0,x.block<W.heap.size:=by obtain ⟨m,hm⟩:=k0;exact DataW.trod_lt m _ _ _ hm
 obtain ⟨fuel0,hf0⟩:=h0
 obtain ⟨a0,len0,cap0,rfl⟩:=okWide_slice Tryz.underlying35 (hval 0 35 v0 rfl rfl)
 obtain ⟨t0,A0,n0,c0,hc0,hs0⟩:=ZuX _ _ _ hf0
 cases hc0
 clear hA0
 refine (Zjf W hs0 (ZuY (ZsZ hsh))).mono fun e W' ⟨he,bel⟩=>?_
 subst he
 exact ⟨_,rfl,_,_,_,[],_,[],hW',trodAll_mk1 (shut_bool Tryz.underlying4 _),
  (trodAll_cons_mk (Below.trod ZsY (by kernel_rfl) (of_decide_eq_true (by kernel_rfl)) k0 bel lt0) trodAll_mk0),rfl,bel.frame _,fun h=>by cases h⟩
set_option maxRecDepth 100000 in
theorem lifted (os:Os) (started:os.Started) (H:Type) (enc:TypeId×Value→H) (F:Stop.Interp) :
  ReturnsInHanded {} Tryz.checked os 5 .any ((OpenSpec.ofChange Rows.linksSortedSpec).preRow enc Tryz.prog Tryz.f5 Rows.linksSortedRow.domain false Rows.linksSortedRow.laid) (((OpenSpec.ofChange Rows.linksSortedSpec).at F).post enc Tryz.prog Tryz.f5 false true false false):=by
 obtain ⟨places,hx⟩:=reads os enc
 refine returnsInHanded_of_row (C:=Tryz.checked) (s:=(OpenSpec.ofChange Rows.linksSortedSpec)) own started (by kernel_rfl) Tryz.func5
  (witness_row_at (enc:=enc) (C:=Tryz.checked) false (Ziy os) #[.slice none 0 0] rfl (by kernel_rfl) (by kernel_rfl) (by kernel_rfl)
   (OpenSpec.preRow_of_cond 8 hx (by kernel_rfl) (fun k hk=>by cases hk) (by kernel_rfl) (Zrh os))) ?_
 intro W base args ds gs before hval hW _ _ _ _ hsh _
 exact contract H enc W base args ds gs before hval hW hsh
theorem Zri:(Rows.linksSortedRow.inPlace == Tryz.pinned.checked.prog.inPlace 5)=true:=by kernel_rfl
theorem Zrj:(Rows.linksSortedRow.unfollowed == Tryz.pinned.checked.prog.unfollowed 5)=true:=by kernel_rfl
theorem Zrk:(Rows.linksSortedRow.recurses == Tryz.pinned.checked.prog.recurses 5)=true:=by kernel_rfl
theorem Zrl:(Rows.linksSortedRow.named == Tryz.pinned.checked.prog.varsNamed 5)=true:=by kernel_rfl
theorem closed:joinedFacts Tryz.pinned.checked.prog 5 Tryz.f5 (OpenSpec.ofChange Rows.linksSortedSpec).bare Rows.linksSortedRow=true:=by
 unfold joinedFacts
 rw [Zri,Zrj,Zrk,Zrl]
 kernel_rfl
theorem said:Rows.LinksSortedSaid:=
 OpenClaim.holds_of_cond 5 Tryz.f5 rfl rfl rfl rfl rfl rfl rfl ⟨rfl,rfl,rfl,rfl,rfl⟩ rfl rfl rfl rfl rfl (by kernel_rfl) Tryz.func5 closed
  (of_decide_eq_true (by kernel_rfl)) (by unfold Func.isWrapper;first | (rw [if_pos (by decide +kernel)];kernel_rfl) | (rw [if_neg (by decide +kernel)];exact ⟨rfl,rfl⟩))
  (fun os started H enc _ F=>by rw [OpenClaim.pre_eq_preRow];exact lifted os started H enc F)
theorem Zmy (f:FuncId) (fn:Func) (hf:Tryz.pinned.checked.prog.funcNamed "transclude/trclaw14.LinksSorted" = some f) (hfn:Tryz.pinned.checked.prog.funcs[f]? = some fn) :
  false=Tryz.pinned.checked.prog.looks []∧∀ (j:Nat) t,fn.params[j]? = some t→Tryz.pinned.checked.prog.wantsStandIn t=false:=by
 obtain rfl:f=5:=Option.some.inj ((show Tryz.prog.funcNamed "transclude/trclaw14.LinksSorted" = some 5 by kernel_rfl).symm.trans hf) |>.symm
 obtain rfl:fn=Tryz.f5:=(Option.some.inj (Tryz.func5.symm.trans hfn)).symm
 refine ⟨by kernel_rfl,fun j t ht=>?_⟩
 rw [Tryz.params5] at ht
 have hm:t ∈ [35]:=by simpa using Array.mem_of_getElem? ht
 have hall:([35].all fun u=>!Tryz.prog.wantsStandIn u)=true:=by kernel_rfl
 exact (show Tryz.prog.wantsStandIn t=false by simpa using List.all_eq_true.1 hall t hm)
theorem card:Rows.LinksSortedCardSaid:=
 Claim7.holds_tied_plain_at .later [] _ _ _ _ said (fun _ h=>by cases h) (by kernel_rfl) (fun _ h=>by cases h) linksSorted_row_tie rfl ⟨rfl,rfl⟩ (by kernel_rfl) rfl Zmy (by kernel_rfl)
#print axioms card
end Go.Proofs.YtmgfammllddkhaaGreatDoor.lawLinksSorted
