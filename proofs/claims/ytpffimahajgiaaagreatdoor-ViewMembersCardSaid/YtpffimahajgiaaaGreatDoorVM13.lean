/- The program's own references, of whatever text that is not too long: sorted, each membership once. | Keys as the keys of maps. | policy.IsName, as the others are written. | Functions of the program as Lean functions. Written by fxgen.py. | Functions of the program as Lean functions. Written by fxgen.py. | ViewMembers: the law. | From a reading of an argument to the words of the walks: structs field by field, slices element by element. No program is named. | Readings of the wiki's types at this translation. Written by types.py. | Lists of integers; the invariant in all later worlds, where no rules of edit are laid. | ViewMembers in worlds: whatever the lists and the numbers, the law returns true. -/
import Derived.Test.YtpffimahajgiaaaGreatDoorVM12
import Derived.Test.YtpffimahajgiaaaGreatDoorVM09
import Derived.Test.YtpffimahajgiaaaGreatDoorVM04
import Derived.Test.YtpffimahajgiaaaGreatDoorVM03
import Derived.Test.YtpffimahajgiaaaGreatDoorVM10
import Derived.Test.YtpffimahajgiaaaGreatDoorVM05
import Derived.Test.YtpffimahajgiaaaGreatDoorVM11
import Derived.Test.YtpffimahajgiaaaGreatDoorVM01
import Derived.ProofKit
import Derived.OpenShut
import Derived.Deep.Slices
import Derived.Deep.Strs
import Derived.Test.YtpffimahajgiaaaGreatDoorRows
import Derived.Test.YtpffimahajgiaaaGreatDoorVM02
import Derived.MakeChecks
import Derived.FnData
import Derived.ChangeSame
set_option maxRecDepth 100000
set_option linter.unusedVariables false
namespace Go.Proofs.YtpffimahajgiaaaGreatDoor
open VL
theorem Zom (a b:ByteArray) (h:a.size<=1000000):Tot (Zbl a b) fun r=>r.1.size<=a.size:=by{
unfold Zbl ZaB
refine Zi (Q:=fun r=>r.1.size<=a.size) (Zi (ZuW a b h) fun r hr=>?_) fun r hr=>Zc hr
cases r with
| false=>exact ZN (fun _=>Zc (Nat.le_refl _)) fun h=>by cases h
| true=>
  have:=hr rfl
  refine ZN (fun h=>by cases h) fun _=>?_
  exact ZaT (by omega) (by omega) (by omega) fun m _ hm=>Zc (by dsimp only;omega)}
theorem ZwD (s:ByteArray) (h:s.size<=300000):Tot (Zcw s) fun r=>r.2=true->r.1.valid=true:=by{
unfold Zcw
refine Zi (Zom s _ (by omega)) fun r1 h1=>ZN (fun _=>Zc fun h=>by cases h) fun _=>?_
have h2:(Zb3 Zo9 r1.1).size<=r1.1.size:=Zok _ _
refine Zb (v:=Zb3 Zo9 r1.1) (by unfold Zbk;rw [if_pos rfl]) ?_
generalize Zb3 Zo9 r1.1=r2 at h2 ⊢
refine Zi (Zom r2 _ (by omega)) fun r3 h3=>Zi (ZpX r3.1 (by omega)) fun r4 h4=>?_
refine ZZ (fun q=>Tot (q true) (fun r=>r.2=true->r.1.valid=true)/\(0<=r4->Tot (q false) (fun r=>r.2=true->r.1.valid=true))) ⟨?_,fun h0=>?_⟩ fun k1 hk=>?_
exact ZN (fun _=>Zc fun h=>by cases h) fun h=>by cases h
refine ZN (fun h=>by cases h) fun _=>?_
refine ZaT (by omega) (by omega) (by omega) fun m _ hm=>Zi (Zqf m (by omega)) fun r11 h11=>Zc fun h=>h11 (of_decide_eq_true h)
refine ZN (fun _=>hk.1) fun _=>Zh (fun _=>hk.1) fun h5=>?_
refine ZaT (by omega) (by omega) (by omega) fun m _ hm=>Zi (Zsi m _ (by omega)) fun r13 _=>ZN (fun _=>hk.1) fun _=>?_
refine ZaT (by omega) (by omega) (by omega) fun m _ hm=>Zi (Zsi m _ (by omega)) fun r15 _=>?_
cases r15 with
| true=>exact hk.1
| false=>exact hk.2 (by omega)}
theorem Zjq {α:Type} {eq:α->α->Bool}:∀ (l:List α) (x:α),(Zd2 eq x l).Sublist l
 | [],_=>.slnil
 | y::l,x=>by
   show (if eq y x=true then Zd2 eq y l else y::Zd2 eq y l).Sublist (y::l)
   split
   exact (Zjq l y).cons y
   exact (Zjq l y).cons_cons y
theorem Zmr {α:Type} {eq:α->α->Bool} (l:List α):(Zj7 eq l).Sublist l:=by
 cases l with
 | nil=>exact .slnil
 | cons x l=>exact (Zjq l x).cons_cons x
theorem ZvM {α:Type} {R S:α->α->Prop} {l:List α} (h:l.Pairwise R) (k:l.Pairwise S):l.Pairwise fun a b=>R a b/\S a b:=by{
induction l with
| nil=>exact .nil
| cons x l ih=>
  obtain ⟨h1,h2⟩:=List.pairwise_cons.1 h
  obtain ⟨k1,k2⟩:=List.pairwise_cons.1 k
  exact List.pairwise_cons.2 ⟨fun y hy=>⟨h1 y hy,k1 y hy⟩,ih h2 k2⟩}
def ZwE (L:List Link):List Link:=Zj7 (fun a b=>decide (a=b)) (Zar (leC ZfP) L)
def ZvN (L:List Memb):List Memb:=Zj7 (fun a b=>decide (a.category=b.category)) (Zar leM L)
theorem Zsy {α:Type} {c:α->α->Int} (h:CmpLaws c) {a b:α} (k:leC c a b=true) (hn:¬ a=b):c a b<0:=by{
have k2:ltOf c b a=false:=by unfold leC at k;simpa using k
have k3:¬ c b a<0:=of_decide_eq_false k2
have k4:¬ c b a=0:=fun e=>hn ((h.zero b a).1 e).symm
exact (h.neg a b).2 (by omega)}
theorem ZuA (L:List Memb):(ZvN L).Pairwise fun a b=>Title.cmp a.category b.category<0:=by{
have s:(Zar leM L).Pairwise (fun a b=>leM a b=true):=ZfQ Zbw Zge L
have k1:∀ a b:Memb,a.category=b.category->∀ c:Memb,leM c a=leM c b/\leM a c=leM b c:=fun a b h c=>by
 unfold leM leC ltOf ZeH
 rw [h]
 exact ⟨rfl,rfl⟩
have k2:∀ a b:Memb,leM a b=true->leM b a=true->a.category=b.category:=fun a b h k=>by
 refine titleCmp_laws.tot a.category b.category ?_ ?_
 unfold leM leC at k
 have k2:ltOf ZeH a b=false:=by simpa using k
 exact k2
 unfold leM leC at h
 have k2:ltOf ZeH b a=false:=by simpa using h
 exact k2
have d:(ZvN L).Pairwise fun a b=>¬ a.category=b.category:=Zse (le:=leM) Memb.category k2 k1 _ s
exact (ZvM (s.sublist (Zmr _)) d).imp fun {a b} ⟨h1,h2⟩=>Zsy (c:=Title.cmp) titleCmp_laws (a:=a.category) (b:=b.category) h1 h2}
def okL (l:Link):Prop:=(l.kind=1\/l.kind=2\/l.kind=4)/\l.title.valid=true
theorem ZuB (s:ByteArray) (h:s.size<=8192):∃ L M,Zdu s=some (ZwE L,ZvN M,0)/\L.length<=700000/\M.length<=700000/\(∀ x ∈ L,okL x)/\∀ x ∈ M,x.category.space=4:=by{
obtain ⟨l,hp,hw⟩:=Zrw s.data.toList (by have e:s.data.toList.length=s.size:=rfl;omega)
have hp:Zeq s=some (l,0):=hp
obtain ⟨f1,e1,g1⟩:=Zol 300001 l ⟨[],[]⟩ 0 300000 hw (by omega) (by omega) (by omega) ⟨by simp,by simp,(fun x hx=>by cases hx),(fun x hx=>by cases hx)⟩
obtain ⟨f2,e2,g2⟩:=Zhf 300001 l f1 (0+300000) 300000 hw (by omega) (by omega) (by omega) g1
obtain ⟨r4,e4,g4⟩:=ZwD s (by omega)
have hl2:=g2.ll
have hm2:=g2.ml
have gl:∀ x ∈ f2.links,okL x:=fun x hx=>by
 obtain ⟨h1,h2⟩:=g2.gl x hx
 exact ⟨h1.elim .inl fun h=>.inr (.inl h),h2⟩
have fin:∀ L:List Link,L.length<=700000->((Zbe L).bind fun r7=>(ZU f2.members).bind fun r8=>(Zaf r8).bind fun r9=>(ZaX r7).bind fun r10=>(some (r10,r9,0):Option ((List Link)×(List Memb)×Int)))=some (ZwE L,ZvN f2.members,0):=fun L hL=>by
 refine ZaI ?_
 refine Zb (v:=Zar (leC ZfP) L) (by unfold Zbe;rw [if_pos (by omega)]) ?_
 refine Zb (ZmM f2.members (by omega)) ?_
 refine Zb (ZlZ _ (by rw [Zah];omega)) ?_
 exact Zb (ZlY _ (by rw [Zah];omega)) (Zc rfl)
cases hr:r4.2 with
| false=>
  refine ⟨f2.links,f2.members,ZaI ?_,by omega,by omega,gl,g2.gm⟩
  unfold Zdu
  refine Zb hp (ZeU (fun h=>absurd rfl h) fun _=>Zb e1 (Zb e2 (Zb e4 (ZaM ?_))))
  rw [hr]
  exact ZN (fun h=>by cases h) fun _=>ZqK (fin _ (by omega)) rfl
| true=>
  refine ⟨f2.links ++ [⟨4,r4.1⟩],f2.members,ZaI ?_,by simp only [List.length_append,List.length_singleton];omega,by omega,fun x hx=>?_,g2.gm⟩
  unfold Zdu
  refine Zb hp (ZeU (fun h=>absurd rfl h) fun _=>Zb e1 (Zb e2 (Zb e4 (ZaM ?_))))
  rw [hr]
  refine ZN (fun _=>?_) fun h=>by cases h
  refine ZbC 1000000 (by simp only [List.length_singleton];omega) (by omega) (by omega) ?_
  exact ZqK (fin _ (by simp only [List.length_append,List.length_singleton];omega)) rfl
  rcases List.mem_append.1 hx with hx | hx
  exact gl x hx
  rw [List.mem_singleton.1 hx]
  exact ⟨.inr (.inr rfl),g4 hr⟩}
end Go.Proofs.YtpffimahajgiaaaGreatDoor
namespace Go.Proofs.YtpffimahajgiaaaGreatDoor
open VL Go.RowKit
theorem Zln (em:Bool) (n:Nat) (a:Int) (W:World):(Instr.checkKey em (n+1) 3 (.int .i64 a)).run Tryz.prog W = .ok () W:=MapKept.run_checkKey (d:=.int .i64) Tryz.underlying3 (show MapKept.IsKey (.int .i64) (.int .i64 a) from rfl) em n
theorem ZsV (em:Bool) (n:Nat) (a:ByteArray) (W:World):(Instr.checkKey em (n+1) 9 (.string a)).run Tryz.prog W = .ok () W:=MapKept.run_checkKey (d:=.string) Tryz.underlying9 (show MapKept.IsKey .string (.string a) from trivial) em n
theorem ZnE (em:Bool) (a:Title) (W:World):(Instr.checkKey em 9999 34 (.agg #[.int .i64 a.space,.string a.name])).run Tryz.prog W = .ok () W:=by
 unfold Instr.checkKey
 go_simp
 rw [Zln em 9997,Result.andThen_ok,ZsV em 9997]
theorem ZsW (em:Bool) (a:Key) (W:World):(Instr.checkKey em 10000 36 (.agg #[.int .i64 a.kind,.int .i64 a.title.space,.string a.title.name,.int .i64 a.n])).run Tryz.prog W = .ok () W:=by
 unfold Instr.checkKey
 go_simp
 rw [Zln em 9998,Result.andThen_ok,ZnE em a.title,Result.andThen_ok,Zln em 9998]
instance:KeyE Tryz.prog 36 Key.pv (fun a=>[.int .i64 a.kind,.int .i64 a.title.space,.string a.title.name,.int .i64 a.n]) where
 desc:=⟨_,Tryz.underlying36⟩
 plain _:=rfl
 eq a b W:=by
  have h:=ZtR a b W
  rw [run_eql_struct] at h
  show (Op.equalIn 10000 _ _ _).run _ _=_
  generalize (Op.equalIn 10000 36 _ _).run Tryz.prog W=R at h ⊢
  cases R with
  | ok v w=>
    simp only [Result.andThen_ok,Result.ok.injEq,Value.bool.injEq] at h
    rw [h.1,h.2]
  | halt v w=>simp [Result.andThen] at h
 check em a W:=ZsW em a W
 stays a:=by
  have:(a.title.name == a.title.name)=true:=by rw [beq_toListBytes];simp
  simp [Instr.sameBits,this]
def Zfw (s:ByteArray):Option Bool:=if s.size<=4611686018427387904 then some (ZcI s) else none
theorem Zj1 (s:ByteArray) (r:Bool) (h:Zfw s=some r):Zg Tryz.prog 74 [.str s] (.bool r):=by{
unfold Zfw at h
by_cases hs:s.size<=4611686018427387904
rw [if_pos hs] at h
cases h
exact Zav (vals:=[.string s]) (by kernel_rfl) rfl rfl (fun x=>.bool _) fun w _=>(Zsm s w hs).mono fun e w' ⟨e1,e2⟩=>⟨e1,e2 ▸ Below.refl _ _⟩
rw [if_neg hs] at h
cases h}
end Go.Proofs.YtpffimahajgiaaaGreatDoor
set_option maxHeartbeats 4000000
namespace Go.Proofs.YtpffimahajgiaaaGreatDoor
open VL
def Zez (p0:List Page):Option Int:=ZaF Zcp (fun f8 (x38:Int)=>if (decide (x38<(p0.length:Int))) then (atI p0 x38).bind fun e60=>(Zb8 e60.title).bind fun r61=>if (!r61) then (some 1:Option Int) else letk (fun (x64:Bool)=>if x64 then (some 6:Option Int) else if (decide (8192<(e60.text.size:Int))) then (some 3:Option Int) else if (decide (e60.revision<1)) then (some 2:Option Int) else f8 (w64 (x38+1))) fun k10=>if (decide (0<x38)) then (atI p0 (w64 (x38-1))).bind fun e65=>(ZbQ e65.title e60.title).bind fun r66=>k10 (decide (0<=r66)) else k10 false else (some 0:Option Int)) 0
theorem Zib (p0:List Page) (r:Int) (h:Zez p0=some r):Zg Tryz.prog 31 [.sl (List.map Page.cs p0)] (.int .i64 r):=by{
refine cF (fun r=>.int .i64 r) h mix Tryz.func31 fun r h=>?_
unfold Zez at h
refine Zn ?_
refine rg ?_
refine rg ?_
refine lM Page.cs p0 ?_
refine bl ?_
refine ZB h fun f8 mf8 hf8 h=>?_
refine Zv (α:=Nat×Int) (fun a _=>mkS [(0,.sl (List.map Page.cs p0)),(5,.sl (List.map Page.cs p0)),(6,.int .i64 (p0.length:Int)),(7,.int .i64 a.2)] [] 2) (fun a=>ZaF a.1 f8 a.2=some r) (fun a=>a.1) (mf8,0) 2 h (sR []) (fun a _ h=>?_)
obtain ⟨mf8,x38⟩:=a
obtain ⟨mf8,rfl,h⟩:=ZC hf8 h
dsimp only at h ⊢
refine Zn ?_
refine rg ?_
refine cS h rfl (fun h=>?_) fun h=>?_
refine bl ?_
refine rg ?_
refine aI Page.cs h fun e60 h=>?_
refine bl ?_
refine rg ?_
refine aC h (Zci _) fun r61 h=>?_
refine cS h rfl (fun h=>?_) fun h=>?_
refine rg ?_
cases h
exact rQ
refine jL h (fun x64=>mkS [(0,.sl (List.map Page.cs p0)),(4,.ptr 4 (1,4) 0),(5,.sl (List.map Page.cs p0)),(6,.int .i64 (p0.length:Int)),(7,.int .i64 x38),(17,.bool x64)] [(4,some ((1,4),.box (Page.cs e60)))] 2) (fun k10 h=>?_) fun x64 h=>?_
refine rg ?_
refine kS 20 h rfl (fun h=>?_) fun h=>?_
refine aI Page.cs h fun e65 h=>?_
refine aC h (Zef _ _) fun r66 h=>?_
exact jn (decide (0<=r66)) h (sR [(4,3,3)])
iterate 10 refine ZE rfl (Zn ?_)
exact jn false h (sR [(4,3,3)])
refine cS h rfl (fun h=>?_) fun h=>?_
refine rg ?_
cases h
exact rQ
refine rg ?_
refine cS h rfl (fun h=>?_) fun h=>?_
refine rg ?_
cases h
exact rQ
refine rg ?_
refine cS h rfl (fun h=>?_) fun h=>?_
refine rg ?_
cases h
exact rQ
refine rg ?_
exact rn (mf8,(w64 (x38+1))) h (sR [])
refine rg ?_
cases h
exact rQ}
def ZeA (p0:Policy):Option Int:=letk (fun (x1:Bool)=>if x1 then (some 3:Option Int) else ZaF Zcp (fun f3 (_:Unit)=>if (decide (0<(p0.groups.length:Int))) then (none:Option Int) else ZaF Zcp (fun f5 (_:Unit)=>if (decide (0<(p0.rules.length:Int))) then (atI p0.rules 0).bind fun e9=>(none:Option Int) else ZaF Zcp (fun f7 (_:Unit)=>if (decide (0<(p0.guards.length:Int))) then (atI p0.guards 0).bind fun e17=>(none:Option Int) else (some 0:Option Int)) ()) ()) ()) fun k1=>if (decide (24<(p0.groups.length:Int))) then k1 true else if (decide (64<(p0.rules.length:Int))) then k1 true else k1 (decide (64<(p0.guards.length:Int)))
theorem Zic (p0:Policy) (r:Int) (h:ZeA p0=some r):Zg Tryz.prog 32 [p0.pv] (.int .i64 r):=by{
refine cF (fun r=>.int .i64 r) h mix Tryz.func32 fun r h=>?_
unfold ZeA at h
refine Zn ?_
refine rg ?_
refine jL h (fun x1=>mkS [(1,.ptr 1 (1,1) 0),(26,.bool x1)] [(1,some ((1,1),.box (Policy.cs p0)))] 2) (fun k1 h=>?_) fun x1 h=>?_
refine rg ?_
refine lM Group.cs p0.groups ?_
refine kS 15 h rfl (fun h=>?_) fun h=>?_
iterate 8 refine ZE rfl (Zn ?_)
exact jn true h (sR [(1,1,0)])
refine lM Rule.cs p0.rules ?_
refine kS 21 h rfl (fun h=>?_) fun h=>?_
iterate 4 refine ZE rfl (Zn ?_)
exact jn true h (sR [(1,1,0)])
refine lM Guard.cs p0.guards ?_
exact jn (decide (64<(p0.guards.length:Int))) h (sR [(1,1,0)])
refine cS h rfl (fun h=>?_) fun h=>?_
refine rg ?_
cases h
exact rQ
refine rg ?_
refine lM Group.cs p0.groups ?_
refine bl ?_
refine ZB h fun f3 mf3 hf3 h=>?_
refine Zv (α:=Nat×Unit) (fun a _=>mkS [(1,.ptr 1 (1,1) 0),(29,.int .i64 (p0.groups.length:Int)),(30,.int .i64 0)] [(1,some ((1,1),.box (Policy.cs p0)))] 2) (fun a=>ZaF a.1 f3 a.2=some r) (fun a=>a.1) (mf3,()) 2 h (sR [(1,1,1)]) (fun a _ h=>?_)
obtain ⟨mf3,_⟩:=a
obtain ⟨mf3,rfl,hG⟩:=ZC hf3 h
replace h:=hG
refine Zn ?_
refine rg ?_
refine cS h rfl (fun h=>?_) fun h=>?_
cases h
refine rg ?_
refine lM Rule.cs p0.rules ?_
refine bl ?_
refine ZB h fun f5 mf5 hf5 h=>?_
refine Zv (α:=Nat×Unit) (fun a _=>mkS [(1,.ptr 1 (1,1) 0),(41,.sl (List.map Rule.cs p0.rules)),(42,.int .i64 (p0.rules.length:Int)),(43,.int .i64 0)] [(1,some ((1,1),.box (Policy.cs p0)))] 2) (fun a=>ZaF a.1 f5 a.2=some r) (fun a=>a.1) (mf5,()) 2 h (sR [(1,1,1)]) (fun a _ h=>?_)
obtain ⟨mf5,_⟩:=a
obtain ⟨mf5,rfl,hG⟩:=ZC hf5 h
replace h:=hG
refine Zn ?_
refine rg ?_
refine cS h rfl (fun h=>?_) fun h=>?_
refine bl ?_
refine rg ?_
refine aI Rule.cs h fun e9 h=>?_
cases h
refine rg ?_
refine lM Guard.cs p0.guards ?_
refine bl ?_
refine ZB h fun f7 mf7 hf7 h=>?_
refine Zv (α:=Nat×Unit) (fun a _=>mkS [(1,.ptr 1 (1,1) 0),(55,.sl (List.map Guard.cs p0.guards)),(56,.int .i64 (p0.guards.length:Int)),(57,.int .i64 0)] [(1,some ((1,1),.box (Policy.cs p0)))] 2) (fun a=>ZaF a.1 f7 a.2=some r) (fun a=>a.1) (mf7,()) 2 h (sR [(1,1,1)]) (fun a _ h=>?_)
obtain ⟨mf7,_⟩:=a
obtain ⟨mf7,rfl,hG⟩:=ZC hf7 h
replace h:=hG
refine Zn ?_
refine rg ?_
refine cS h rfl (fun h=>?_) fun h=>?_
refine bl ?_
refine rg ?_
refine aI Guard.cs h fun e17 h=>?_
cases h
refine rg ?_
cases h
exact rQ}
def ZdO (p0:List ByteArray):Option Int:=ZaF Zcp (fun f8 (x30:Int)=>if (decide (x30<(p0.length:Int))) then (atI p0 x30).bind fun e46=>(Zfw e46).bind fun r47=>if (!r47) then (some 1:Option Int) else letk (fun (x49:Bool)=>if x49 then (some 6:Option Int) else f8 (w64 (x30+1))) fun k10=>if (decide (0<x30)) then (atI p0 (w64 (x30-1))).bind fun e50=>k10 (!ltS e50 e46) else k10 false else (some 0:Option Int)) 0
theorem Zhw (p0:List ByteArray) (r:Int) (h:ZdO p0=some r):Zg Tryz.prog 33 [.sl (List.map csS p0)] (.int .i64 r):=by{
refine cF (fun r=>.int .i64 r) h mix Tryz.func33 fun r h=>?_
unfold ZdO at h
refine Zn ?_
refine rg ?_
refine rg ?_
refine lM csS p0 ?_
refine bl ?_
refine ZB h fun f8 mf8 hf8 h=>?_
refine Zv (α:=Nat×Int) (fun a _=>mkS [(0,.sl (List.map csS p0)),(5,.sl (List.map csS p0)),(6,.int .i64 (p0.length:Int)),(7,.int .i64 a.2)] [] 2) (fun a=>ZaF a.1 f8 a.2=some r) (fun a=>a.1) (mf8,0) 2 h (sR []) (fun a _ h=>?_)
obtain ⟨mf8,x30⟩:=a
obtain ⟨mf8,rfl,h⟩:=ZC hf8 h
dsimp only at h ⊢
refine Zn ?_
refine rg ?_
refine cS h rfl (fun h=>?_) fun h=>?_
refine bl ?_
refine rg ?_
refine aI csS h fun e46 h=>?_
refine rg ?_
refine aC h (Zj1 _) fun r47 h=>?_
refine cS h rfl (fun h=>?_) fun h=>?_
refine rg ?_
cases h
exact rQ
refine jL h (fun x49=>mkS [(0,.sl (List.map csS p0)),(5,.sl (List.map csS p0)),(6,.int .i64 (p0.length:Int)),(7,.int .i64 x30),(25,.bool x49)] [] 2) (fun k10 h=>?_) fun x49 h=>?_
refine rg ?_
refine kS 17 h rfl (fun h=>?_) fun h=>?_
refine aI csS h fun e50 h=>?_
exact jn (!ltS e50 e46) h (sR [])
iterate 7 refine ZE rfl (Zn ?_)
exact jn false h (sR [])
refine cS h rfl (fun h=>?_) fun h=>?_
refine rg ?_
cases h
exact rQ
refine rg ?_
exact rn (mf8,(w64 (x30+1))) h (sR [])
refine rg ?_
cases h
exact rQ}
def ZeB (p0:List Asked):Option Int:=ZaF Zcp (fun f2 ((x11,x12):Int×(List (Key×Bool)))=>if (decide (x11<(p0.length:Int))) then (atI p0 x11).bind fun e16=>if ((Ze8 x12 e16.key).getD false) then (some 5:Option Int) else if (decide (32768<(e16.answer.text.size:Int))) then (some 3:Option Int) else f2 ((w64 (x11+1)),(Ze9 x12 e16.key true)) else (some 0:Option Int)) (0,([]:List (Key×Bool)))
theorem Zid (p0:List Asked) (r:Int) (h:ZeB p0=some r):Zg Tryz.prog 34 [.sl (List.map Asked.cs p0)] (.int .i64 r):=by{
refine cF (fun r=>.int .i64 r) h mix Tryz.func34 fun r h=>?_
unfold ZeB at h
refine Zn ?_
refine rg ?_
refine rg ?_
refine Zq7 Key.pv PV.bool rfl (Zn ?_)
refine rg ?_
refine lM Asked.cs p0 ?_
refine bl ?_
refine ZB h fun f2 mf2 hf2 h=>?_
refine Zv (α:=Nat×(Int×(List (Key×Bool)))) (fun a _=>mkS [(3,.mp 6 (1,6)),(7,.sl (List.map Asked.cs p0)),(8,.int .i64 (p0.length:Int)),(9,.int .i64 a.2.1)] [(6,some ((1,6),.mp (ZkZ Key.pv PV.bool a.2.2)))] 2) (fun a=>ZaF a.1 f2 a.2=some r) (fun a=>a.1) (mf2,0,([]:List (Key×Bool))) 2 h (sR [(6,2,0)]) (fun a _ h=>?_)
obtain ⟨mf2,x11,x12⟩:=a
obtain ⟨mf2,rfl,h⟩:=ZC hf2 h
dsimp only at h ⊢
refine Zn ?_
refine rg ?_
refine cS h rfl (fun h=>?_) fun h=>?_
refine bl ?_
refine rg ?_
refine aI Asked.cs h fun e16 h=>?_
refine rg ?_
refine Zth Key.pv PV.bool e16.key false rfl rfl rfl rfl rfl (Zn ?_)
refine cS h rfl (fun h=>?_) fun h=>?_
refine rg ?_
cases h
exact rQ
refine rg ?_
refine cS h rfl (fun h=>?_) fun h=>?_
refine rg ?_
cases h
exact rQ
refine rg ?_
refine Ztg Key.pv PV.bool e16.key true rfl rfl rfl rfl rfl (Zn ?_)
refine rg ?_
exact rn (mf2,(w64 (x11+1)),(Ze9 x12 e16.key true)) h (sR [(6,1,6)])
refine rg ?_
cases h
exact rQ}
def Zfy (p0:View):Option Int:=letk (fun (x1:Bool)=>if x1 then (some 3:Option Int) else (Zez p0.pages).bind fun r2=>if (!decide (r2=0)) then (some r2:Option Int) else (ZeA p0.policy).bind fun r3=>if (!decide (r3=0)) then (some r3:Option Int) else (ZdO p0.groups).bind fun r4=>if (!decide (r4=0)) then (some r4:Option Int) else letk (fun (x5:Bool)=>if x5 then (some 2:Option Int) else (ZeB p0.fixed).bind fun r6=>(some r6:Option Int)) fun k2=>if (decide (p0.clock<0)) then k2 true else k2 (decide (52596000<=p0.clock))) fun k1=>if (decide (200<(p0.pages.length:Int))) then k1 true else if (decide (26<(p0.groups.length:Int))) then k1 true else k1 (decide (20000<(p0.fixed.length:Int)))
theorem Zj4 (p0:View) (r:Int) (h:Zfy p0=some r):Zg Tryz.prog 11 [p0.pv] (.int .i64 r):=by{
refine cF (fun r=>.int .i64 r) h mix Tryz.func11 fun r h=>?_
unfold Zfy at h
refine Zn ?_
refine rg ?_
refine jL h (fun x1=>mkS [(1,.ptr 1 (1,1) 0),(21,.bool x1)] [(1,some ((1,1),.box (View.cs p0)))] 2) (fun k1 h=>?_) fun x1 h=>?_
refine rg ?_
refine lM Page.cs p0.pages ?_
refine kS 10 h rfl (fun h=>?_) fun h=>?_
iterate 8 refine ZE rfl (Zn ?_)
exact jn true h (sR [(1,1,0)])
refine lM csS p0.groups ?_
refine kS 16 h rfl (fun h=>?_) fun h=>?_
iterate 4 refine ZE rfl (Zn ?_)
exact jn true h (sR [(1,1,0)])
refine lM Asked.cs p0.fixed ?_
exact jn (decide (20000<(p0.fixed.length:Int))) h (sR [(1,1,0)])
refine cS h rfl (fun h=>?_) fun h=>?_
refine rg ?_
cases h
exact rQ
refine rg ?_
refine aC h (Zib _) fun r2 h=>?_
refine rg ?_
refine cS h rfl (fun h=>?_) fun h=>?_
refine rg ?_
cases h
exact rQ
refine rg ?_
refine aC h (Zic _) fun r3 h=>?_
refine rg ?_
refine cS h rfl (fun h=>?_) fun h=>?_
refine rg ?_
cases h
exact rQ
refine rg ?_
refine aC h (Zhw _) fun r4 h=>?_
refine rg ?_
refine cS h rfl (fun h=>?_) fun h=>?_
refine rg ?_
cases h
exact rQ
refine jL h (fun x5=>mkS [(1,.ptr 1 (1,1) 0),(47,.bool x5)] [(1,some ((1,1),.box (View.cs p0)))] 2) (fun k2 h=>?_) fun x5 h=>?_
refine rg ?_
refine kS 43 h rfl (fun h=>?_) fun h=>?_
iterate 3 refine ZE rfl (Zn ?_)
exact jn true h (sR [(1,1,1)])
exact jn (decide (52596000<=p0.clock)) h (sR [(1,1,1)])
refine cS h rfl (fun h=>?_) fun h=>?_
refine rg ?_
cases h
exact rQ
refine rg ?_
refine aC h (Zid _) fun r6 h=>?_
cases h
exact rQ}
def Zga (p0:Key) (p1:Key):Option Int:=(cmp_Compare_int p0.kind p1.kind).bind fun r1=>(ZbQ p0.title p1.title).bind fun r2=>(cmp_Compare_int p0.n p1.n).bind fun r3=>(Zc8 [r1,r2,r3]).bind fun r4=>(some r4:Option Int)
theorem Zky (p0:Key) (p1:Key) (r:Int) (h:Zga p0 p1=some r):Zg Tryz.prog 21 [p0.pv,p1.pv] (.int .i64 r):=by{
refine cF (fun r=>.int .i64 r) h mix Tryz.func21 fun r h=>?_
unfold Zga at h
refine Zn ?_
refine rg ?_
refine rg ?_
refine aC h (Zc7 _ _) fun r1 h=>?_
refine aC h (Zef _ _) fun r2 h=>?_
refine aC h (Zc7 _ _) fun r3 h=>?_
refine bM csI ([r1,r2,r3]:List Int) ?_
refine aL h (Zir _) fun r4 h=>?_
cases h
exact rQ}
def Zhx:Option Bool:=letk (fun (x6:Bool)=>(some x6:Option Bool)) fun k1=>(Zfy (⟨[(⟨(⟨0,(⟨#[65]⟩:ByteArray)⟩:Title),(⟨#[120]⟩:ByteArray),3⟩:Page)],(⟨[],[],[]⟩:Policy),[],0,[]⟩:View)).bind fun r7=>if (decide (r7=0)) then (Zdq (⟨[(⟨(⟨0,(⟨#[65]⟩:ByteArray)⟩:Title),(⟨#[120]⟩:ByteArray),3⟩:Page)],(⟨[],[],[]⟩:Policy),[],0,[]⟩:View) (⟨1,(⟨0,(⟨#[65]⟩:ByteArray)⟩:Title),0⟩:Key)).bind fun r8=>if (decide (r8=(⟨true,(⟨#[120]⟩:ByteArray),0⟩:Answer))) then (Zdq (⟨[(⟨(⟨0,(⟨#[65]⟩:ByteArray)⟩:Title),(⟨#[120]⟩:ByteArray),3⟩:Page)],(⟨[],[],[]⟩:Policy),[],0,[]⟩:View) (⟨7,(⟨0,(⟨#[65]⟩:ByteArray)⟩:Title),0⟩:Key)).bind fun r9=>if (decide (r9=(⟨true,(⟨#[]⟩:ByteArray),3⟩:Answer))) then (Zch (⟨5,(⟨0,(⟨#[]⟩:ByteArray)⟩:Title),3⟩:Key)).bind fun r10=>if r10 then (Zga (⟨1,(⟨0,(⟨#[]⟩:ByteArray)⟩:Title),0⟩:Key) (⟨2,(⟨0,(⟨#[]⟩:ByteArray)⟩:Title),0⟩:Key)).bind fun r11=>k1 (decide (r11=(-1))) else k1 false else k1 false else k1 false else k1 false
theorem ZnY  (r:Bool) (h:Zhx=some r):Zg Tryz.prog 6 [] (.bool r):=by{
refine cF (fun r=>.bool r) h mix Tryz.func6 fun r h=>?_
unfold Zhx at h
refine Zn ?_
refine rg ?_
refine rg ?_
refine rg ?_
refine ZbS (M:=([(⟨(⟨0,(⟨#[65]⟩:ByteArray)⟩:Title),(⟨#[120]⟩:ByteArray),3⟩:Page)]:List Page)) (f:=Page.cs) rfl rfl rfl rfl (Nat.le_of_ble_eq_true rfl) rfl (Zn ?_)
refine jL h (fun x6=>mkS [(0,.bool x6)] [] 2) (fun k1 h=>?_) fun x6 h=>?_
refine rg ?_
refine aL h (Zj4 _) fun r7 h=>?_
refine kS 11 h rfl (fun h=>?_) fun h=>?_
refine aC h (Zgk _ _) fun r8 h=>?_
refine ZiN (.inl rfl) rfl rfl rfl rfl rfl (fun W=>Zmt r8 (⟨true,(⟨#[120]⟩:ByteArray),0⟩:Answer) W) (Zn ?_)
refine kS 19 h rfl (fun h=>?_) fun h=>?_
refine aC h (Zgk _ _) fun r9 h=>?_
refine ZiN (.inl rfl) rfl rfl rfl rfl rfl (fun W=>Zmt r9 (⟨true,(⟨#[]⟩:ByteArray),3⟩:Answer) W) (Zn ?_)
refine kS 27 h rfl (fun h=>?_) fun h=>?_
refine aC h (ZfY _) fun r10 h=>?_
refine kS 31 h rfl (fun h=>?_) fun h=>?_
refine aC h (Zky _ _) fun r11 h=>?_
exact jn (decide (r11=(-1))) h (sR [])
iterate 4 refine ZE rfl (Zn ?_)
exact jn false h (sR [])
iterate 6 refine ZE rfl (Zn ?_)
exact jn false h (sR [])
iterate 12 refine ZE rfl (Zn ?_)
exact jn false h (sR [])
iterate 18 refine ZE rfl (Zn ?_)
exact jn false h (sR [])
cases h
exact rQ}
def ZcJ (p0:List Int):Option Bool:=(Zrp p0).bind fun r1=>(Zdz r1 2).bind fun r2=>(Zy r2.2 [(⟨#[88]⟩:ByteArray),(⟨#[65]⟩:ByteArray)]).bind fun r3=>ZaF Zcp (fun f72 ((x278,x279):Int×(List ByteArray))=>if (decide (x278<(r2.1.pages.length:Int))) then (atI r2.1.pages x278).bind fun e382=>(Zdu e382.text).bind fun r383=>ZaF Zcp (fun f84 ((x394,x395):Int×(List ByteArray))=>letk (fun (x406:Bool)=>if x406 then letk (fun (x411:List ByteArray)=>f84 ((w64 (x394+1)),x411)) fun k86=>(atI r383.2.1 x394).bind fun e412=>if (decide (e412.category=(⟨4,r3.1⟩:Title))) then (atI r2.1.pages x278).bind fun e413=>(ZbL e413.title).bind fun r414=>(ZeI 16 x395 [r414]).bind fun l415=>k86 l415 else k86 x395 else f72 ((w64 (x278+1)),x395)) fun k85=>if (decide (x394<(r383.2.1.length:Int))) then k85 (decide (r383.2.2=0)) else k85 false) (0,x279) else (Zdq r2.1 (⟨3,(⟨4,r3.1⟩:Title),0⟩:Key)).bind fun r416=>(Zdq r2.1 (⟨4,(⟨4,r3.1⟩:Title),0⟩:Key)).bind fun r417=>letk (fun (x421:Bool)=>(some x421:Option Bool)) fun k87=>if (decide (r416.n=(x279.length:Int))) then if (r416.ok == (decide (0<(x279.length:Int)))) then if (decide (r416.text=(⟨#[]⟩:ByteArray))) then if (decide (r417.n=r416.n)) then if (r417.ok == r416.ok) then (ZbU x279 (⟨#[10]⟩:ByteArray)).bind fun r422=>if (decide (r417.text=r422)) then (ZcH [] []).bind fun r423=>if r423 then (Zhx).bind fun r424=>k87 r424 else k87 false else k87 false else k87 false else k87 false else k87 false else k87 false else k87 false) (0,([]:List ByteArray))
theorem ZhN (p0:List Int) (r:Bool) (h:ZcJ p0=some r):Zg Tryz.prog 4 [.sl (List.map csI p0)] (.bool r):=by{
refine cF (fun r=>.bool r) h mix Tryz.func4 fun r h=>?_
unfold ZcJ at h
refine Zn ?_
refine rg ?_
refine rg ?_
refine aN h (Ztr _) fun r1 h=>?_
refine rg ?_
refine aO h (Zkm _ _) fun r2 h=>?_
refine rg ?_
refine bM csS ([(⟨#[88]⟩:ByteArray),(⟨#[65]⟩:ByteArray)]:List ByteArray) ?_
refine aO h (Zx _ _) fun r3 h=>?_
refine rg ?_
refine rg ?_
refine bl ?_
refine ZB h fun f72 mf72 hf72 h=>?_
refine Zv (α:=Nat×(Int×(List ByteArray))) (fun a _=>mkS [(4,.ptr 4 (1,4) 0),(5,.ptr 5 (1,5) 0),(6,.row 6 (1,6)),(7,.int .i64 a.2.1)] [(4,some ((1,4),.box (View.cs r2.1))),(5,some ((1,5),.box [.int .i64 4,.str r3.1])),(6,some ((1,6),.row 9 1 false (List.map csS a.2.2)))] 2) (fun a=>ZaF a.1 f72 a.2=some r) (fun a=>a.1) (mf72,0,([]:List ByteArray)) 2 h (ZhM [((1,4),(3,2)),((1,5),(4,4))] 6 9 1 rfl ⟨rfl,rfl,rfl,rfl,trivial⟩ ⟨⟨rfl,rfl⟩,⟨rfl,rfl⟩,⟨rfl,rfl⟩,trivial⟩ rfl) (fun a _ h=>?_)
obtain ⟨mf72,x278,x279⟩:=a
obtain ⟨mf72,rfl,h⟩:=ZC hf72 h
dsimp only at h ⊢
refine Zn ?_
refine rg ?_
refine lM Page.cs r2.1.pages ?_
refine cS h rfl (fun h=>?_) fun h=>?_
refine bl ?_
refine rg ?_
refine aI Page.cs h fun e382 h=>?_
refine aC h (Zja _) fun r383 h=>?_
refine rg ?_
refine bl ?_
refine ZB h fun f84 mf84 hf84 h=>?_
refine Zv (α:=Nat×(Int×(List ByteArray))) (fun a _=>mkS [(4,.ptr 4 (1,4) 0),(5,.ptr 5 (1,5) 0),(6,.row 6 (1,6)),(7,.int .i64 x278),(9,.sl (List.map Memb.cs r383.2.1)),(10,.int .i64 r383.2.2),(11,.int .i64 a.2.1)] [(4,some ((1,4),.box (View.cs r2.1))),(5,some ((1,5),.box [.int .i64 4,.str r3.1])),(6,some ((1,6),.row 9 1 false (List.map csS a.2.2)))] 2) (fun a=>ZaF a.1 f84 a.2=some r) (fun a=>a.1) (mf84,0,x279) 2 h (sR [(4,1,4),(5,1,5),(6,1,6)]) (fun a _ h=>?_)
obtain ⟨mf84,x394,x395⟩:=a
obtain ⟨mf84,rfl,h⟩:=ZC hf84 h
dsimp only at h ⊢
refine Zn ?_
refine jL h (fun x406=>mkS [(4,.ptr 4 (1,4) 0),(5,.ptr 5 (1,5) 0),(6,.row 6 (1,6)),(7,.int .i64 x278),(9,.sl (List.map Memb.cs r383.2.1)),(10,.int .i64 r383.2.2),(11,.int .i64 x394),(47,.bool x406)] [(4,some ((1,4),.box (View.cs r2.1))),(5,some ((1,5),.box [.int .i64 4,.str r3.1])),(6,some ((1,6),.row 9 1 false (List.map csS x395)))] 2) (fun k85 h=>?_) fun x406 h=>?_
refine rg ?_
refine lM Memb.cs r383.2.1 ?_
refine kS 44 h rfl (fun h=>?_) fun h=>?_
exact jn (decide (r383.2.2=0)) h (sR [(4,1,4),(5,1,5),(6,1,6)])
iterate 2 refine ZE rfl (Zn ?_)
exact jn false h (sR [(4,1,4),(5,1,5),(6,1,6)])
refine cS h rfl (fun h=>?_) fun h=>?_
refine jL h (fun x411=>mkS [(4,.ptr 4 (1,4) 0),(5,.ptr 5 (1,5) 0),(6,.row 6 (1,6)),(7,.int .i64 x278),(9,.sl (List.map Memb.cs r383.2.1)),(10,.int .i64 r383.2.2),(11,.int .i64 x394)] [(4,some ((1,4),.box (View.cs r2.1))),(5,some ((1,5),.box [.int .i64 4,.str r3.1])),(6,some ((1,6),.row 9 1 false (List.map csS x411)))] 2) (fun k86 h=>?_) fun x411 h=>?_
refine bl ?_
refine rg ?_
refine aI Memb.cs h fun e412 h=>?_
refine ZiN (.inl rfl) rfl rfl rfl rfl rfl (fun W=>Zhi e412.category (⟨4,r3.1⟩:Title) W) (Zn ?_)
refine cS h rfl (fun h=>?_) fun h=>?_
refine rg ?_
refine aI Page.cs h fun e413 h=>?_
refine aC h (ZgG _) fun r414 h=>?_
refine bM csS ([r414]:List ByteArray) ?_
refine pR csS h fun l415 h=>?_
exact jn l415 h (sR [(4,1,4),(5,1,5),(6,3,9)])
exact jn x395 h (sR [(4,1,4),(5,1,5),(6,1,6)])
refine rg ?_
exact rn (mf84,(w64 (x394+1)),x411) h (sR [(4,1,4),(5,1,5),(6,1,6)])
refine rg ?_
exact rn (mf72,(w64 (x278+1)),x395) h (sR [(4,1,4),(5,1,5),(6,1,6)])
refine rg ?_
refine aC h (Zgk _ _) fun r416 h=>?_
refine aC h (Zgk _ _) fun r417 h=>?_
refine jL h (fun x421=>mkS [(2,.bool x421)] [] 2) (fun k87 h=>?_) fun x421 h=>?_
refine rg ?_
refine lM csS x279 ?_
refine kS 80 h rfl (fun h=>?_) fun h=>?_
refine lM csS x279 ?_
refine Zq6 rfl rfl rfl (Zn ?_)
refine kS 88 h rfl (fun h=>?_) fun h=>?_
refine kS 93 h rfl (fun h=>?_) fun h=>?_
refine kS 100 h rfl (fun h=>?_) fun h=>?_
refine Zq6 rfl rfl rfl (Zn ?_)
refine kS 107 h rfl (fun h=>?_) fun h=>?_
refine aL h (Zf5 _ _) fun r422 h=>?_
refine kS 114 h rfl (fun h=>?_) fun h=>?_
refine aL h (ZhL _ _) fun r423 h=>?_
refine kS 117 h rfl (fun h=>?_) fun h=>?_
refine aC h ZnY fun r424 h=>?_
exact jn r424 h (sR [])
refine ZE rfl (Zn ?_)
exact jn false h (sR [])
iterate 2 refine ZE rfl (Zn ?_)
exact jn false h (sR [])
iterate 7 refine ZE rfl (Zn ?_)
exact jn false h (sR [])
iterate 12 refine ZE rfl (Zn ?_)
exact jn false h (sR [])
iterate 17 refine ZE rfl (Zn ?_)
exact jn false h (sR [])
iterate 20 refine ZE rfl (Zn ?_)
exact jn false h (sR [])
iterate 26 refine ZE rfl (Zn ?_)
exact jn false h (sR [])
cases h
exact rQ}
theorem ZuR:Zhx=some true:=by kernel_rfl
theorem ZvU:ZcH [] []=some true:=by kernel_rfl
theorem ZtT:(⟨4,⟨#[88]⟩⟩:Title).valid=true/\(⟨4,⟨#[65]⟩⟩:Title).valid=true:=by constructor<;>kernel_rfl
theorem ZsJ (t:Title) (h:t.name.size<=30):∃ s,ZbL t=some s/\s.size<=100:=by{
suffices Tot (ZbL t) fun s=>s.size<=100 by exact this
unfold ZbL
refine Zb (v:=t.valid) rfl ?_
cases hv:t.valid with
| false=>exact ZN (fun _=>Zc (by decide)) fun h=>by cases h
| true=>
  refine ZN (fun h=>by cases h) fun _=>Zh (fun _=>Zc (by omega)) fun _=>?_
  have hs:0<=t.space/\t.space<6:=by
   unfold Title.valid at hv
   simp only [Bool.and_eq_true,decide_eq_true_eq] at hv
   exact ⟨hv.1.1.1.1.1.1.1,hv.1.1.1.1.1.1.2⟩
  refine Zb rfl (Zcb hs.1 (by simp only [List.length_cons,List.length_nil];omega) fun c hc _=>?_)
  have hcs:c.size<=30:=by
   simp only [List.mem_cons,List.not_mem_nil,or_false] at hc
   rcases hc with rfl | rfl | rfl | rfl | rfl | rfl<;>decide
  have e1:(⟨#[58]⟩:ByteArray).size=1:=rfl
  exact Zcy (by omega) fun hz=>Zcy (by omega) fun hz2=>Zc (by omega)}
theorem ZtU:∀ (P:List Page),(∀ p ∈ P,p.text.size<=8192/\p.title.name.size<=30)->∃ X,Said P X
 | [],_=>⟨[],trivial⟩
 | p::P,h=>by
   obtain ⟨X,hX⟩:=ZtU P fun q hq=>h q (List.mem_cons_of_mem _ hq)
   obtain ⟨h1,h2⟩:=h p List.mem_cons_self
   obtain ⟨L,M,e,_,hM,_,_⟩:=ZuB p.text h1
   obtain ⟨s,hs,hsz⟩:=ZsJ p.title h2
   refine ⟨(ZvN M,s)::X,⟨⟨ZwE L,e⟩,⟨?_,ZuA M⟩,hs,hsz⟩,hX⟩
   have:=(Zmr (eq:=fun a b:Memb=>decide (a.category=b.category)) (Zar leM M)).length_le
   rw [Zah] at this
   exact Nat.le_trans this hM
theorem Zlk {c:Title}:∀ {P:List Page} {X:List (List Memb×ByteArray)},Said P X->∀ s ∈ ZfM c X,s.size<=100
 | [],[],_,s,hs=>by simp [ZfM] at hs
 | p::P,(M,u)::X,h,s,hs=>by
   unfold ZfM at hs
   rw [List.filter_cons] at hs
   split at hs
   rw [List.map_cons] at hs
   rcases List.mem_cons.1 hs with rfl | hs
   exact h.1.2.2.2
   exact Zlk h.2 s hs
   exact Zlk h.2 s hs
theorem Zop:∀ (L:List (List UInt8)) (s:List UInt8),(∀ x ∈ L,x.length<=100)->(Lib.join L s).length<=L.length * (100+s.length)
 | [],s,_=>by simp [Lib.join]
 | [x],s,h=>by
   have:=h x (by simp)
   simp [Lib.join]
   omega
 | x::y::L,s,h=>by
   have h1:=h x (by simp)
   have h2:=Zop (y::L) s fun z hz=>h z (List.mem_cons_of_mem _ hz)
   have e:Lib.join (x::y::L) s=x++s++Lib.join (y::L) s:=by simp [Lib.join]
   have e2:(x::y::L).length * (100+s.length)=(y::L).length * (100+s.length)+(100+s.length):=by rw [List.length_cons (a:=x),Nat.succ_mul]
   rw [e,List.length_append,List.length_append,e2]
   omega
theorem ZvV (L:List ByteArray) (h:L.length<=1000) (hs:∀ x ∈ L,x.size<=100):∃ r,ZbU L ⟨#[10]⟩=some r:=by{
unfold ZbU
by_cases h0:L = []
exact ⟨_,if_pos h0⟩
rw [if_neg h0]
unfold strings_Join
have hp:0<L.length:=List.length_pos_iff.2 h0
have hj:=Zop (L.map (·.data.toList)) [10] (fun x hx=>by
 obtain ⟨y,hy,rfl⟩:=List.mem_map.1 hx
 exact hs y hy)
rw [List.length_map] at hj
have e:([10]:List UInt8).length=1:=rfl
rw [e] at hj
have e2:(⟨#[10]⟩:ByteArray).data.toList = [10]:=rfl
rw [e2,if_pos ⟨⟨hp,by omega⟩,by omega⟩]
exact ⟨_,rfl⟩}
theorem Zmy (k:Key):ZfX [] k=some (⟨false,⟨#[]⟩,0⟩,false):=by{
refine ZaI ?_
unfold ZfX
refine ZS (fun x=>x=0) (fun _=>0) rfl (by omega) ?_
rintro x rec rfl _
exact Zh (fun h=>absurd h (by simp)) fun _=>Zc rfl}
theorem ZvW (kd:Int) (hk:kd=3\/kd=4) (c:Title) (hc:c.valid=true) (h4:c.space=4):Zch ⟨kd,c,0⟩=some true:=by{
refine ZaI ?_
unfold Zch Zb8
simp only [hc,h4]
rcases hk with rfl | rfl<;>exact ⟨_,rfl,rfl⟩}
theorem ZwI (v:View) (hv:ViewOk v) (c:Title) (hc:c.valid=true) (h4:c.space=4) (X:List (List Memb×ByteArray)) (h:Said v.pages X) :
  Zdq v ⟨3,c,0⟩=some ⟨decide (0<((ZfM c X).length:Int)),⟨#[]⟩,((ZfM c X).length:Int)⟩/\∃ r,ZbU (ZfM c X) ⟨#[10]⟩=some r/\Zdq v ⟨4,c,0⟩=some ⟨decide (0<((ZfM c X).length:Int)),r,((ZfM c X).length:Int)⟩:=by{
have hl:=hv.len
have hX:=h.len
have hi:=Zj9 c X
obtain ⟨r,hr⟩:=ZvV (ZfM c X) (by omega) (Zlk h)
have hm:=ZrQ v c X h (by omega)
refine ⟨ZaI ?_,r,hr,ZaI ?_⟩
unfold Zdq
rw [hv.fixed]
refine Zb (Zmy _) ?_
refine ZZ (fun q=>Tot (q false) _) ?_ fun k hk=>ZN (fun h=>by cases h) fun _=>Zb (ZvW 3 (.inl rfl) c hc h4) hk
refine ZN (fun h=>by cases h) fun _=>?_
refine ZZ (fun q=>Tot (q true) _) ?_ fun k hk=>Zh (fun _=>hk) fun h=>absurd rfl h
refine ZN (fun _=>Zb hm ?_) fun h=>by cases h
exact ZZ (fun q=>∀ b,b=(⟨#[]⟩:ByteArray)->Tot (q b) _) (fun b hb=>Zc (by rw [hb])) fun k hk=>Zh (fun h=>by cases h) fun _=>hk _ rfl
unfold Zdq
rw [hv.fixed]
refine Zb (Zmy _) ?_
refine ZZ (fun q=>Tot (q false) _) ?_ fun k hk=>ZN (fun h=>by cases h) fun _=>Zb (ZvW 4 (.inr rfl) c hc h4) hk
refine ZN (fun h=>by cases h) fun _=>?_
refine ZZ (fun q=>Tot (q true) _) ?_ fun k hk=>Zh (fun h=>by cases h) fun _=>hk
refine ZN (fun _=>Zb hm ?_) fun h=>by cases h
exact ZZ (fun q=>∀ b,b=r->Tot (q b) _) (fun b hb=>Zc (by rw [hb])) fun k hk=>Zh (fun _=>Zb hr (hk _ rfl)) fun h=>absurd rfl h}
theorem ZsK {c:Title} {A:List Memb} {m:Memb} {B:List Memb} (h:(A++m::B).Pairwise fun a b=>Title.cmp a.category b.category<0) (hm:m.category=c) (hA:inM c A=true):False:=by{
obtain ⟨a,ha,hac⟩:=List.any_eq_true.1 hA
have:=(List.pairwise_append.1 h).2.2 a ha m List.mem_cons_self
rw [hm,of_decide_eq_true hac,(titleCmp_laws.zero c c).2 rfl] at this
omega}
theorem Zoq (c:Title) (A:List Memb) (m:Memb):inM c (A ++ [m])=(inM c A||decide (m.category=c)):=by
 unfold inM
 rw [List.any_append]
 simp
theorem ZnC (l:List Int) (hl:l.length<=9223372036854775807):ZcJ l=some true:=by{
refine ZaI ?_
unfold ZcJ
refine Zb (v:=⟨l,0⟩) rfl (Zi (Zux _ ⟨hl,Int.le_refl _⟩) fun r2 h2=>?_)
obtain ⟨hv,k2⟩:=h2
generalize r2.1=v at hv ⊢
refine Zi (Q:=fun r=>(r.1=⟨#[88]⟩\/r.1=⟨#[65]⟩)/\r.2.ok) ?_ fun r3 h3=>?_
unfold Zy
refine Zi (Zad _ _ k2 (by simp)) fun r hr=>Zcb hr.1.1 hr.1.2 fun e he _=>Zc ⟨?_,hr.2⟩
simpa using he
obtain ⟨X,hX⟩:=ZtU v.pages hv.page
obtain ⟨hc,h4⟩:(⟨4,r3.1⟩:Title).valid=true/\(⟨4,r3.1⟩:Title).space=4:=by
 refine ⟨?_,rfl⟩
 rcases h3.1 with e | e<;>rw [e]
 exact ZtT.1
 exact ZtT.2
generalize (⟨4,r3.1⟩:Title)=c at hc h4 ⊢
obtain ⟨a1,r,hr,a2⟩:=ZwI v hv c hc h4 X hX
have lp:=hv.len
have lX:=hX.len
refine ZS (fun x=>∃ A B Y Z,v.pages=A++B/\X=Y++Z/\Y.length=A.length/\x.1=(A.length:Int)/\x.2=ZfM c Y) (fun x=>v.pages.length-x.1.toNat) ⟨[],v.pages,[],X,rfl,rfl,rfl,rfl,rfl⟩ (by dsimp only;omega) ?_
rintro ⟨i,o⟩ rec ⟨A,B,Y,Z,hA,hXY,hY,hi,ho⟩ ih
dsimp only at hi ho ih ⊢
subst hi ho
have ll:v.pages.length=A.length+B.length:=by rw [hA,List.length_append]
refine Zh (fun hlt=>?_) fun hge=>?_
cases B with
| nil=>simp only [List.length_nil] at ll;omega
| cons p B=>
  simp only [List.length_cons] at ll
  have h2:=hX
  rw [hA] at h2
  obtain ⟨Y',M,s,Z',e1,e2,⟨L,f1⟩,⟨f2,f3⟩,f4,f5⟩:=h2.cut
  obtain ⟨e3,e4⟩:Y=Y'/\Z=(M,s)::Z':=List.append_inj (by rw [<- hXY,e1]) (by rw [hY,e2])
  subst e3 e4
  have ly:=Zj9 c Y
  refine Zb (Zbc hA rfl) (Zb f1 ?_)
  dsimp only
  refine ZS (fun x=>∃ C D,M=C++D/\x.1=(C.length:Int)/\x.2=ZfM c Y++(if inM c C=true then [s] else [])) (fun x=>M.length-x.1.toNat) ⟨[],M,rfl,rfl,by simp [inM]⟩ (by dsimp only;omega) ?_
  rintro ⟨j,u⟩ rec2 ⟨C,D,hC,hj,hu⟩ ih2
  dsimp only at hj hu ih2 ⊢
  subst hj hu
  have lM:M.length=C.length+D.length:=by rw [hC,List.length_append]
  refine ZZ (fun q=>(0<D.length->Tot (q true) fun z=>z=true)/\(D.length=0->Tot (q false) fun z=>z=true)) ⟨fun hD=>ZN (fun _=>?_) (fun h=>by cases h),fun hD=>ZN (fun h=>by cases h) fun _=>?_⟩ fun k hk=>?_
  cases D with
  | nil=>simp at hD
  | cons m D=>
    simp only [List.length_cons] at lM
    have hC2:M=(C ++ [m])++D:=by rw [hC];simp
    refine ZaM ?_
    rw [ZdT (by omega) (by omega) (by omega) (by omega)]
    refine Zb (Zbc hC rfl) (Zh (fun heq=>?_) fun hne=>?_)
    have hno:¬ inM c C=true:=fun hin=>ZsK (by rw [<- hC];exact f3) heq hin
    refine Zb (Zbc hA rfl) (Zb f4 (ZbC 3000 (by rw [if_neg hno,List.append_nil];simp only [List.length_singleton];omega) (by omega) (by omega) ?_))
    refine ih2 _ ⟨C ++ [m],D,hC2,by dsimp only;simp,?_⟩ (by dsimp only;omega)
    dsimp only
    rw [if_neg hno,List.append_nil,Zoq,decide_eq_true heq,Bool.or_true,if_pos rfl]
    refine ih2 _ ⟨C ++ [m],D,hC2,by dsimp only;simp,?_⟩ (by dsimp only;omega)
    dsimp only
    rw [Zoq,decide_eq_false hne,Bool.or_false]
  have hD0:D = []:=List.eq_nil_of_length_eq_zero hD
  subst hD0
  rw [List.append_nil] at hC
  rw [ZdT (by omega) (by omega) (by omega) (by omega)]
  exact ih _ ⟨A ++ [p],B,Y ++ [(M,s)],Z',by rw [hA];simp,by rw [hXY];simp,by simp [hY],by dsimp only;simp,by dsimp only;rw [Zig,hC]⟩ (by dsimp only;omega)
  exact Zh (fun h=>hk.1 (by omega)) fun h=>hk.2 (by omega)
have hB:B = []:=List.eq_nil_of_length_eq_zero (by omega)
subst hB
have hZ:Z = []:=List.eq_nil_of_length_eq_zero (by
 have l2:X.length=Y.length+Z.length:=by rw [hXY,List.length_append]
 simp only [List.length_nil] at ll
 omega)
subst hZ
rw [List.append_nil] at hXY
rw [<- hXY]
refine Zb a1 (Zb a2 ?_)
refine ZZ (fun q=>∀ t,t=true->Tot (q t) fun z=>z=true) (fun t ht=>Zc ht) fun k hk=>?_
dsimp only
refine Zh (fun _=>ZN (fun _=>Zh (fun _=>Zh (fun _=>ZN (fun _=>Zb hr (Zh (fun _=>Zb ZvU (ZN (fun _=>Zb ZuR (hk _ rfl)) fun h=>by cases h)) fun h=>absurd rfl h)) fun h=>?_) fun h=>absurd rfl h) fun h=>absurd rfl h) fun h=>?_) fun h=>absurd rfl h
rw [beq_self_eq_true] at h;cases h
rw [beq_self_eq_true] at h;cases h}
end Go.Proofs.YtpffimahajgiaaaGreatDoor
namespace Go.Proofs.YtpffimahajgiaaaGreatDoor
open Go.RowKit Go.ChangeShapes Go.WideShapes Go.Deep
theorem Zhu {α:Type} (f:Nat->Option α):∀ n,(∀ i,i<n->∃ t,f i=some t)->((List.range n).filterMap f).length=n/\∀ i,i<n->((List.range n).filterMap f)[i]? = f i
 | 0,_=>⟨rfl,fun i h=>absurd h (by omega)⟩
 | n+1,h=>by
   obtain ⟨h1,h2⟩:=Zhu f n fun i hi=>h i (by omega)
   obtain ⟨t,ht⟩:=h n (by omega)
   rw [List.range_succ,List.filterMap_append]
   have e:List.filterMap f [n] = [t]:=by simp [ht]
   rw [e]
   refine ⟨by simp [h1],fun i hi=>?_⟩
   rcases Nat.lt_or_ge i n with hl | hl
   rw [List.getElem?_append_left (by omega)];exact h2 i hl
   obtain rfl:i=n:=by omega
   rw [List.getElem?_append_right (by omega),h1,ht];simp
section
variable {H:Type} {enc:TypeId×Value->H} {P:Program} {W:World}
def Rd (enc:TypeId×Value->H) (P:Program) (W:World) (T:TypeId) (α:Type) [Enc α]:Prop:=∀ fuel cs x,DataW.trod enc P W 0 (fun _=>true) true fuel T cs=some x->∃ t:α,Enc.RT W t cs
theorem Zwm {T:TypeId} (hT:P.underlying T=some (.int .i64)):Rd enc P W T Int:=fun _ _ _ h=>by
 obtain ⟨n,hc,_⟩:=DataW.trod_int hT h
 exact ⟨n,hc⟩
theorem Ztn {S E:TypeId} {α:Type} [Enc α] (hS:P.underlying S=some (.slice E)) (hk:P.cellsOf E=Enc.k α) (h0:0<Enc.k α) (hE:Rd enc P W E α):Rd enc P W S (List α):=fun fuel cs x h=>by
 rcases open_slice hS h with ⟨hc,_⟩ | ⟨a,len,cap,m,n,D,Pl,hc,_,hl,hm,hmm,_,hel⟩
 ·exact ⟨[],none,0,0,hc,SlR.nil W⟩
 ·have hm':m=cap:=by simpa using hmm
  have hx:∀ i,∃ (cs':List Value) (t:Option α),i<len->∃ t',t=some t'/\Enc.RT W t' cs'/\∀ j v,cs'[j]? = some v->W.cell? (a.add (i * P.cellsOf E+j))=some v:=fun i=>by
   by_cases hi:i<len
   ·obtain ⟨cs',h1,h2⟩:=hel i (by omega)
    obtain ⟨t,ht⟩:=hE _ _ _ h2
    obtain ⟨_,hlen,hcell⟩:=World.cells?_some h1
    refine ⟨cs',some t,fun _=>⟨t,rfl,ht,fun j v hj=>?_⟩⟩
    have hjl:j<P.cellsOf E:=by rw [<- hlen];exact (List.getElem?_eq_some_iff.1 hj).1
    rw [<- Go.Deep.add_add,hcell j hjl,hj]
   ·exact ⟨[],none,fun h=>absurd h hi⟩
  obtain ⟨css,hx⟩:=Classical.axiomOfChoice hx
  obtain ⟨ts,hx⟩:=Classical.axiomOfChoice hx
  refine ⟨(List.range len).filterMap ts,some a,len,cap,hc,?_⟩
  have hlen:((List.range len).filterMap ts).length=len/\∀ i,i<len->((List.range len).filterMap ts)[i]? = ts i:=Zhu ts len fun i hi=>by
   obtain ⟨t,ht,_⟩:=hx i hi
   exact ⟨t,ht⟩
  refine ⟨hlen.1.symm,hl,by unfold maxLen at hm;exact hm,fun hpos=>?_⟩
  obtain ⟨t0,_,hR0,hc0⟩:=hx 0 hpos
  have hl0:=Enc.len hR0
  have hcell0:=hc0 0 ((css 0)[0]'(by omega)) (List.getElem?_eq_getElem (by omega))
  obtain ⟨b,off,spot⟩:=a
  have hspot:spot=none:=by
   simp only [Nat.zero_mul,Nat.add_zero,Addr.add,if_true] at hcell0
   cases spot with
   | none=>rfl
   | some s=>
     exfalso
     unfold World.cell? at hcell0
     split at hcell0<;>simp at hcell0
  subst hspot
  refine ⟨b,off,css,rfl,trivial,?_,fun i x hi=>?_⟩
  ·simp only [Nat.zero_mul,Nat.add_zero,Addr.add,if_true] at hcell0
   exact ZcU hcell0
  ·have hil:i<len:=by rw [<- hlen.1];exact (List.getElem?_eq_some_iff.1 hi).1
   obtain ⟨t,ht,hR,hcell⟩:=hx i hil
   rw [hlen.2 i hil,ht] at hi
   obtain rfl:t=x:=by simpa using hi
   refine ⟨hR,fun j v hj=>?_⟩
   have:=hcell j v hj
   rw [hk] at this
   unfold Addr.add at this
   split at this
   ·rename_i h0;rw [Nat.add_assoc,h0];exact this
   ·rw [Nat.add_assoc];exact this
end
end Go.Proofs.YtpffimahajgiaaaGreatDoor
namespace Go.Proofs.YtpffimahajgiaaaGreatDoor
open Go.RowKit Go.ChangeShapes Go.WideShapes Go.Deep
theorem Zs0:Tryz.prog.cellsOf 3=1:=by kernel_rfl
section
variable {H:Type} {enc:TypeId×Value->H} {W:World}
theorem ZwL:Rd enc Tryz.prog W 3 Int:=Zwm Tryz.underlying3
end
end Go.Proofs.YtpffimahajgiaaaGreatDoor
namespace Go.Proofs.YtpffimahajgiaaaGreatDoor
open VL Go.RowKit Go.ChangeShapes Go.WideShapes
theorem Zwb {H:Type} {enc:TypeId×Value->H} {W:World}:Rd enc Tryz.prog W 32 (List Int):=Ztn Tryz.underlying32 Zs0 (by decide) ZwL
theorem Zwc {W:World} (hG:ZvA W) (W':World) (hb:Below W.heap.size W W'):WInv.I Tryz.prog W':=
 ⟨hG.imp fun _ hm=>re1 hb (ZcU hm) hm,trivial⟩
end Go.Proofs.YtpffimahajgiaaaGreatDoor
namespace Go.Proofs.YtpffimahajgiaaaGreatDoor
open VL Go.RowKit
theorem Zva {α:Type} [Enc α] {w:World} {A:Option Addr} {n c:Nat} {xs:List α} (h:SlR w A n c xs):xs.length<=9223372036854775807:=by
 obtain ⟨h1,h2,h3,h4⟩:=h
 omega
theorem ZwP {x:Ctx} (i:Nat) (p:PV) (v:Value) (hp:([]:List PV)[i]? = some p) (hv:([]:List Value)[i]? = some v):Rep x p v:=by simp at hp
theorem ZwQ {x:Ctx} {p:PV} {v:Value} {ps:List PV} {vs:List Value} (h:Rep x p v) (r:∀ (i:Nat) (p:PV) (v:Value),ps[i]? = some p->vs[i]? = some v->Rep x p v) (i:Nat) (q:PV) (w:Value) (hp:(p::ps)[i]? = some q) (hv:(v::vs)[i]? = some w):Rep x q w:=by
 cases i with
 | zero=>injection hp with hp;injection hv with hv;subst hp hv;exact h
 | succ i=>exact r i q w (by simpa using hp) (by simpa using hv)
theorem ZwR {x:Ctx} {ps:List PV} {vs:List Value} (r:∀ (i:Nat) (p:PV) (v:Value),ps[i]? = some p->vs[i]? = some v->Rep x p v) (i:Nat) (p:PV) (v:Value) (hp:ps[i]? = some p) (hv:vs.toArray[i]? = some v):Rep x p v:=r i p v hp (by simpa using hv)
theorem ZjO {A0:Option Addr} {n0 c0:Nat} {l0:List Int} (W:World) (h0:SlR W A0 n0 c0 l0) (hI:∀ W',Below W.heap.size W W'->WInv.I Tryz.prog W') :
  Calls Tryz.prog 4 #[.slice A0 n0 c0] W fun e w'=>e = .returned (.bool true)/\Below W.heap.size W w':=
 Zpa (ZhN l0 true (ZnC l0 (Zva h0))) rfl (fun i p v hp hv=>ZwR (vs:=[.slice A0 n0 c0]) (ZwQ (Zqu h0) ZwP) i p v hp hv) hI
end Go.Proofs.YtpffimahajgiaaaGreatDoor
