/- Functions of the program as Lean functions. Written by fxgen.py. | Tables of categories: a sorted list without duplicates; Put in the program and in the reference. | Put of rows of categories, in the program and in the reference. | Functions of the program as Lean functions. Written by fxgen.py. | The makers of inputs as Lean functions: sources and titles. No program is named. -/
import Derived.Test.YtjblgpmagampbaaGreatDoorCP06
import Derived.Test.YtjblgpmagampbaaGreatDoorCP09
import Derived.Test.YtjblgpmagampbaaGreatDoorCP03
import Derived.Test.YtjblgpmagampbaaGreatDoorCP05
set_option linter.unusedVariables false
set_option maxHeartbeats 4000000
set_option maxRecDepth 100000
namespace Go.Proofs.YtjblgpmagampbaaGreatDoor
open VL
def ZcB (p0:CatRow) (p1:CatRow):Option Int:=
 (ZfP p0.memb.category p1.memb.category).bind fun r1=>
 if (!decide (r1=0)) then
  (some r1:Option Int)
 else
 if (!decide (p0.memb.sort=p1.memb.sort)) then
  if (ltS p0.memb.sort p1.memb.sort) then
   (some (-1):Option Int)
  else
  (some 1:Option Int)
 else
 (ZfP p0.page p1.page).bind fun r2=>
 (some r2:Option Int)
theorem Zke (p0:CatRow) (p1:CatRow) (r:Int) (h:ZcB p0 p1=some r):Zd Tryz.prog 83 [p0.pv,p1.pv] (.int .i64 r):=by
 refine cF (fun r=>.int .i64 r) h mix Tryz.func83 fun r h=>?_
 unfold ZcB at h
 refine Zj ?_
 refine rg ?_
 refine rg ?_
 refine aC h (ZhP _ _) fun r1 h=>?_
 refine rg ?_
 refine cS h rfl (fun h=>?_) fun h=>?_
 ·refine rg ?_
  cases h
  exact rQ
 refine rg ?_
 refine cS h rfl (fun h=>?_) fun h=>?_
 ·refine rg ?_
  refine cS h rfl (fun h=>?_) fun h=>?_
  ·refine rg ?_
   cases h
   exact rQ
  refine rg ?_
  cases h
  exact rQ
 refine rg ?_
 refine aC h (ZhP _ _) fun r2 h=>?_
 cases h
 exact rQ
def Zf3 (p0:List CatRow) (p1:CatRow):Option (List CatRow):=
 Zas Zck (fun f7 (x22:Int)=>
  letk (fun (x30:Bool)=>
   if x30 then
    f7 (w64 (x22+1))
   else
   letk (fun (x32:Bool)=>
    if x32 then
     (some p0:Option (List CatRow))
    else
    (Zjm p0 0 x22).bind fun l33=>
    (ZfA 64 [] l33).bind fun l34=>
    (ZfA 64 l34 [p1]).bind fun l35=>
    (Zjm p0 x22 (p0.length:Int)).bind fun l36=>
    (ZfA 64 l35 l36).bind fun l37=>
    (some l37:Option (List CatRow))) fun k9=>
   if (decide (x22<(p0.length:Int))) then
    (atI p0 x22).bind fun e38=>
    k9 (decide (e38=p1))
   else
   k9 false) fun k8=>
  if (decide (x22<(p0.length:Int))) then
   (atI p0 x22).bind fun e39=>
   (ZcB e39 p1).bind fun r40=>
   k8 (decide (r40<0))
  else
  k8 false) 0
theorem Zk2 (p0:List CatRow) (p1:CatRow) (r:List CatRow) (h:Zf3 p0 p1=some r):Zd Tryz.prog 45 [.sl (List.map CatRow.cs p0),p1.pv] (.sl (List.map CatRow.cs r)):=by
 refine cF (fun r=>.sl (List.map CatRow.cs r)) h mix Tryz.func45 fun r h=>?_
 unfold Zf3 at h
 refine Zj ?_
 refine rg ?_
 refine rg ?_
 refine bl ?_
 refine Zu h fun f7 mf7 hf7 h=>?_
 refine Zq (α:=Nat×Int) (fun a _=>mkS [(0,.sl (List.map CatRow.cs p0)),(3,.ptr 3 (1,3) 0),(5,.int .i64 a.2)] [(3,some ((1,3),.box (CatRow.cs p1)))] 2) (fun a=>Zas a.1 f7 a.2=some r) (fun a=>a.1) (mf7,0) 2 h (sR [(3,1,0)]) (fun a _ h=>?_)
 obtain ⟨mf7,x22⟩:=a
 obtain ⟨mf7,rfl,h⟩:=Zv hf7 h
 dsimp only at h ⊢
 refine Zj ?_
 refine jL h (fun x30=>mkS [(0,.sl (List.map CatRow.cs p0)),(3,.ptr 3 (1,3) 0),(5,.int .i64 x22),(18,.bool x30)] [(3,some ((1,3),.box (CatRow.cs p1)))] 2) (fun k8 h=>?_) fun x30 h=>?_
 ·refine rg ?_
  refine lM CatRow.cs p0 ?_
  refine kS 10 h rfl (fun h=>?_) fun h=>?_
  ·refine aI CatRow.cs h fun e39 h=>?_
   refine aC h (Zke _ _) fun r40 h=>?_
   exact jn (decide (r40<0)) h (sR [(3,1,3)])
  iterate 7 refine ZI rfl (Zj ?_)
  exact jn false h (sR [(3,1,3)])
 refine cS h rfl (fun h=>?_) fun h=>?_
 ·refine bl ?_
  refine rg ?_
  exact rn (mf7,(w64 (x22+1))) h (sR [(3,1,3)])
 refine jL h (fun x32=>mkS [(0,.sl (List.map CatRow.cs p0)),(3,.ptr 3 (1,3) 0),(5,.int .i64 x22),(32,.bool x32)] [(3,some ((1,3),.box (CatRow.cs p1)))] 2) (fun k9 h=>?_) fun x32 h=>?_
 ·refine rg ?_
  refine lM CatRow.cs p0 ?_
  refine kS 25 h rfl (fun h=>?_) fun h=>?_
  ·refine aI CatRow.cs h fun e38 h=>?_
   refine Ziw (.inl rfl) rfl rfl rfl rfl rfl (fun W=>Zlk e38 p1 W) (Zj ?_)
   exact jn (decide (e38=p1)) h (sR [(3,1,3)])
  iterate 6 refine ZI rfl (Zj ?_)
  exact jn false h (sR [(3,1,3)])
 refine cS h rfl (fun h=>?_) fun h=>?_
 ·refine rg ?_
  cases h
  exact rQ
 refine rg ?_
 refine sM CatRow.cs h fun l33 h=>?_
 obtain ⟨l34,h25,h⟩:=bnd h
 refine ZsY (f:=CatRow.cs) rfl h25 (fun _=>rfl) rfl rfl rfl (Zj ?_)
 refine Zaw (M:=([p1]:List CatRow)) (f:=CatRow.cs) rfl rfl rfl rfl (Nat.le_of_ble_eq_true rfl) rfl (Zj ?_)
 refine pR CatRow.cs h fun l35 h=>?_
 refine sM CatRow.cs h fun l36 h=>?_
 refine pR CatRow.cs h fun l37 h=>?_
 cases h
 exact rQ
def Zf4 (p0:List CatRow) (p1:Title) (p2:List CatRow):Option (List CatRow):=
 Zas Zck (fun f7 ((x31,x32):(List CatRow)×Int)=>
  if (decide (x32<(p0.length:Int))) then
   letk (fun (x43:List CatRow)=>
    f7 (x43,(w64 (x32+1)))) fun k8=>
   (atI p0 x32).bind fun e44=>
   if (!decide (e44.page=p1)) then
    (atI p0 x32).bind fun e45=>
    (Zf3 x31 e45).bind fun r46=>
    k8 r46
   else
   k8 x31
  else
  Zas Zck (fun f10 ((x65,x66):(List CatRow)×Int)=>
   if (decide (x66<(p2.length:Int))) then
    (atI p2 x66).bind fun e73=>
    (Zf3 x65 e73).bind fun r74=>
    f10 (r74,(w64 (x66+1)))
   else
   (some x65:Option (List CatRow))) (x31,0)) ([],0)
theorem Zk3 (p0:List CatRow) (p1:Title) (p2:List CatRow) (r:List CatRow) (h:Zf4 p0 p1 p2=some r):Zd Tryz.prog 15 [.sl (List.map CatRow.cs p0),p1.pv,.sl (List.map CatRow.cs p2)] (.sl (List.map CatRow.cs r)):=by
 refine cF (fun r=>.sl (List.map CatRow.cs r)) h mix Tryz.func15 fun r h=>?_
 unfold Zf4 at h
 refine Zj ?_
 refine rg ?_
 refine rg ?_
 refine rg ?_
 refine bl ?_
 refine Zu h fun f7 mf7 hf7 h=>?_
 refine Zq (α:=Nat×((List CatRow)×Int)) (fun a _=>mkS [(0,.sl (List.map CatRow.cs p0)),(2,.sl (List.map CatRow.cs p2)),(4,.ptr 4 (1,4) 0),(7,.sl (List.map CatRow.cs a.2.1)),(8,.int .i64 a.2.2)] [(4,some ((1,4),.box (Title.cs p1)))] 2) (fun a=>Zas a.1 f7 a.2=some r) (fun a=>a.1) (mf7,[],0) 2 h (Shift.trans (Zsb 7 rfl rfl) (sR [(4,1,0)])) (fun a _ h=>?_)
 obtain ⟨mf7,x31,x32⟩:=a
 obtain ⟨mf7,rfl,h⟩:=Zv hf7 h
 dsimp only at h ⊢
 refine Zj ?_
 refine rg ?_
 refine lM CatRow.cs p0 ?_
 refine cS h rfl (fun h=>?_) fun h=>?_
 ·refine jL h (fun x43=>mkS [(0,.sl (List.map CatRow.cs p0)),(2,.sl (List.map CatRow.cs p2)),(4,.ptr 4 (1,4) 0),(7,.sl (List.map CatRow.cs x43)),(8,.int .i64 x32)] [(4,some ((1,4),.box (Title.cs p1)))] 2) (fun k8 h=>?_) fun x43 h=>?_
  ·refine bl ?_
   refine rg ?_
   refine aI CatRow.cs h fun e44 h=>?_
   refine Ziw (.inr rfl) rfl rfl rfl rfl rfl (fun W=>Zkb e44.page p1 W) (Zj ?_)
   refine cS h rfl (fun h=>?_) fun h=>?_
   ·refine rg ?_
    refine aI CatRow.cs h fun e45 h=>?_
    refine aC h (Zk2 _ _) fun r46 h=>?_
    exact jn r46 h (sR [(4,1,4)])
   exact jn x31 h (sR [(4,1,4)])
  refine rg ?_
  exact rn (mf7,x43,(w64 (x32+1))) h (sR [(4,1,4)])
 refine rg ?_
 refine bl ?_
 refine Zu h fun f10 mf10 hf10 h=>?_
 refine Zq (α:=Nat×((List CatRow)×Int)) (fun a _=>mkS [(2,.sl (List.map CatRow.cs p2)),(7,.sl (List.map CatRow.cs a.2.1)),(9,.int .i64 a.2.2)] [] 2) (fun a=>Zas a.1 f10 a.2=some r) (fun a=>a.1) (mf10,x31,0) 2 h (sR []) (fun a _ h=>?_)
 obtain ⟨mf10,x65,x66⟩:=a
 obtain ⟨mf10,rfl,h⟩:=Zv hf10 h
 dsimp only at h ⊢
 refine Zj ?_
 refine rg ?_
 refine lM CatRow.cs p2 ?_
 refine cS h rfl (fun h=>?_) fun h=>?_
 ·refine bl ?_
  refine rg ?_
  refine aI CatRow.cs h fun e73 h=>?_
  refine aC h (Zk2 _ _) fun r74 h=>?_
  refine rg ?_
  exact rn (mf10,r74,(w64 (x66+1))) h (sR [])
 refine rg ?_
 cases h
 exact rQ
def ZaA (p0:List CatRow) (p1:List CatRow):Option Bool:=
 if (!decide ((p0.length:Int)=(p1.length:Int))) then
  (some false:Option Bool)
 else
 Zas Zck (fun f2 (x18:Int)=>
  if (decide (x18<(p0.length:Int))) then
   (atI p0 x18).bind fun e25=>
   (atI p1 x18).bind fun e26=>
   if (!decide (e25=e26)) then
    (some false:Option Bool)
   else
   f2 (w64 (x18+1))
  else
  (some true:Option Bool)) 0
theorem ZcZ (p0:List CatRow) (p1:List CatRow) (r:Bool) (h:ZaA p0 p1=some r):Zd Tryz.prog 13 [.sl (List.map CatRow.cs p0),.sl (List.map CatRow.cs p1)] (.bool r):=by
 refine cF (fun r=>.bool r) h mix Tryz.func13 fun r h=>?_
 unfold ZaA at h
 refine Zj ?_
 refine rg ?_
 refine rg ?_
 refine lM CatRow.cs p0 ?_
 refine lM CatRow.cs p1 ?_
 refine cS h rfl (fun h=>?_) fun h=>?_
 ·refine rg ?_
  cases h
  exact rQ
 refine rg ?_
 refine bl ?_
 refine Zu h fun f2 mf2 hf2 h=>?_
 refine Zq (α:=Nat×Int) (fun a _=>mkS [(0,.sl (List.map CatRow.cs p0)),(1,.sl (List.map CatRow.cs p1)),(5,.int .i64 a.2)] [] 2) (fun a=>Zas a.1 f2 a.2=some r) (fun a=>a.1) (mf2,0) 2 h (sR []) (fun a _ h=>?_)
 obtain ⟨mf2,x18⟩:=a
 obtain ⟨mf2,rfl,h⟩:=Zv hf2 h
 dsimp only at h ⊢
 refine Zj ?_
 refine rg ?_
 refine lM CatRow.cs p0 ?_
 refine cS h rfl (fun h=>?_) fun h=>?_
 ·refine bl ?_
  refine rg ?_
  refine aI CatRow.cs h fun e25 h=>?_
  refine aI CatRow.cs h fun e26 h=>?_
  refine Ziw (.inr rfl) rfl rfl rfl rfl rfl (fun W=>Zll e25 e26 W) (Zj ?_)
  refine cS h rfl (fun h=>?_) fun h=>?_
  ·refine rg ?_
   cases h
   exact rQ
  refine rg ?_
  exact rn (mf2,(w64 (x18+1))) h (sR [])
 refine rg ?_
 cases h
 exact rQ
end Go.Proofs.YtjblgpmagampbaaGreatDoor
namespace Go.Proofs.YtjblgpmagampbaaGreatDoor
open VL
theorem Zmk {α:Type} {eq:α→α→Bool}:∀ (l:List α) (x:α),(ZcR eq x l).Sublist l
 | [],_=>.slnil
 | y::l,x=>by
   show (if eq y x=true then ZcR eq y l else y::ZcR eq y l).Sublist (y::l)
   split
   ·exact (Zmk l y).cons y
   ·exact (Zmk l y).cons_cons y
theorem ZoL {α:Type} {eq:α→α→Bool} (l:List α):(ZkT eq l).Sublist l:=by
 cases l with
 | nil=>exact .slnil
 | cons x l=>exact (Zmk l x).cons_cons x
section
variable {α:Type} [DecidableEq α] {c:α→α→Int}
abbrev srt (c:α→α→Int) (L:List α):List α:=ZkT (fun a b=>decide (a=b)) (Zd0 (leC c) L)
theorem ZoM (e:α) (L:List α):e ∈ srt c L↔e ∈ L:=(ZoK e _).trans (Zd1 (leC c) L).mem_iff
theorem Zs2 (hc:CmpLaws c) (L:List α):(srt c L).Pairwise fun a b=>c a b<0:=by
 have s:(Zd0 (leC c) L).Pairwise (fun a b=>leC c a b=true):=Zjl (Zl2 hc.swo) (Zl3 hc.swo) L
 have d:(srt c L).Pairwise fun a b=>¬ a=b:=Zqp (le:=leC c) (fun a:α=>a) (fun a b h k=>Znh hc.tot a b h k) (fun a b e c=>by rw [show a=b from e];exact ⟨rfl,rfl⟩) _ s
 have s2:=s.sublist (ZoL (eq:=fun a b=>decide (a=b)) _)
 refine List.Pairwise.imp (fun {a b} h=>?_) (List.Pairwise.and s2 d)
 obtain ⟨h1,h2⟩:=h
 have k2:ltOf c b a=false:=by unfold leC at h1;simpa using h1
 have k3:¬ c b a<0:=of_decide_eq_false k2
 have k4:¬ c b a=0:=fun e=>h2 ((hc.zero b a).1 e).symm
 exact (hc.neg a b).2 (by omega)
theorem ZiE (k:α):∀ l:List α,l.find? (fun x=>decide (x=k))=if k ∈ l then some k else none
 | []=>by simp
 | x::l=>by
   rw [List.find?_cons]
   by_cases h:x=k
   ·subst h;simp
   ·rw [decide_eq_false h,ZiE k l]
    simp [Ne.symm h]
theorem ZrW (hc:CmpLaws c) {X Y:List α} (h:∀ e,e ∈ X↔e ∈ Y):srt c X=Y.foldl (Zj7 c fun x=>x) []:=by
 obtain ⟨h1,h2⟩:=ZlY (key:=fun x:α=>x) hc Y [] .nil
 refine Zq8 (key:=fun x:α=>x) hc (Zs2 hc X) h1 fun k=>?_
 rw [h2 k,List.nil_append,ZiE,ZiE]
 by_cases hk:k ∈ Y
 ·rw [if_pos hk,if_pos ((ZoM k X).2 ((h k).2 hk))]
 ·rw [if_neg hk,if_neg fun hh=>hk ((h k).1 ((ZoM k X).1 hh))]
end
theorem Zs3 (a b:CatRow):((ZcB a b).bind fun x=>some (decide (x<0)))=some (decide (Zc3 a b<0)):=by
 unfold ZcB ZfP
 unfold Zc3
 rw [ZmY]
 unfold ZmK
 simp only [Option.bind_some]
 by_cases h1:Title.cmp a.memb.category b.memb.category=0
 ·rw [if_neg (by simp [h1]),if_pos h1]
  have hs:=Zkf a.memb.sort.data.toList b.memb.sort.data.toList
  by_cases h2:a.memb.sort=b.memb.sort
  ·have h3:Lib.compareBytes a.memb.sort.data.toList b.memb.sort.data.toList=0:=by
    rw [h2] at hs ⊢
    rw [hs,Ziq]
    simp
   rw [if_neg (by simp [h2]),if_pos h3]
   rfl
  ·have h4:¬ a.memb.sort.data.toList=b.memb.sort.data.toList:=fun e=>h2 (by rw [← ByteArray.toList_eq,← ByteArray.toList_eq] at e;exact (Zcg _ _).1 e)
   rw [if_neg h4] at hs
   rw [if_pos (by simp [h2])]
   unfold ltS
   rw [ByteArray.toList_eq,ByteArray.toList_eq]
   by_cases h5:Op.bytesLess a.memb.sort.data.toList b.memb.sort.data.toList=true
   ·rw [if_pos h5] at hs ⊢
    rw [hs,if_neg (by decide)]
    rfl
   ·rw [if_neg h5] at hs ⊢
    rw [hs,if_neg (by decide)]
    rfl
 ·rw [if_pos (by simp [h1]),if_neg h1]
  rfl
theorem Ztz:Zf3=Ztr 64 (fun a b=>(ZcB a b).bind fun x=>some (decide (x<0))) (fun e x=>decide (e=x)):=by
 funext p0 p1
 unfold Zf3 Ztr
 simp only [Option.bind_assoc,Option.bind_some]
abbrev ZsB:List CatRow→CatRow→List CatRow:=Zj7 Zc3 fun x=>x
theorem Zs4 (l:List CatRow) (x:CatRow) (h:l.length≤1000000):Zf3 l x=some (ZsB l x):=by
 rw [Ztz]
 exact Zs7 (key:=fun x:CatRow=>x) 64 Zs3 (fun _ _=>rfl) (by decide) l x h
end Go.Proofs.YtjblgpmagampbaaGreatDoor
namespace Go.Proofs.YtjblgpmagampbaaGreatDoor
open VL
theorem Zsa {l:List CatRow} {q:CatRow→Option Bool} {p:CatRow→Bool} (hq:∀ e,q e=some (p e)) (hl:l.length≤1000000):Tot (ZY l q) fun r=>(r = -1∧∀ e ∈ l,p e=false)∨∃ A x B,l=A++x::B∧r=(A.length:Int)∧p x=true∧∀ e ∈ A,p e=false:=by
 unfold ZY
 refine ZcY (fun x=>∃ A B,l=A++B∧x=(A.length:Int)∧∀ e ∈ A,p e=false) (fun x=>l.length - x.toNat) ⟨[],l,rfl,rfl,by simp⟩ (by omega) ?_
 rintro k rec ⟨A,B,hd,rfl,hA⟩ ih
 have ll:l.length=A.length+B.length:=by rw [hd,List.length_append]
 refine Zbh (fun hlt=>?_) fun hge=>?_
 ·cases B with
  | nil=>simp only [List.length_nil] at ll;omega
  | cons x B=>
    simp only [List.length_cons] at ll
    refine Zp (ZfX hd rfl) (Zp (hq x) (Zee (fun hp=>Zar (.inr ⟨A,x,B,hd,rfl,hp,hA⟩)) fun hp=>?_))
    rw [Zjp (by omega) (by omega) (by omega) (by omega)]
    refine ih _ ⟨A ++ [x],B,by rw [hd];simp,by simp,fun e he=>?_⟩ (by omega)
    rcases List.mem_append.1 he with h | h
    ·exact hA e h
    ·rw [List.mem_singleton.1 h];exact hp
 ·have hB:B = []:=List.eq_nil_of_length_eq_zero (by omega)
  subst hB
  exact Zar (.inl ⟨rfl,fun e he=>hA e (by rw [hd] at he;simpa using he)⟩)
theorem ZqH {l:List CatRow} {q:CatRow→Option Bool} {p:CatRow→Bool} (hq:∀ e,q e=some (p e)) (hl:l.length≤1000000):ZT l q=some (l.filter fun e=>!p e):=by
 refine Zfg ?_
 unfold ZT
 refine Zdr (Zsa hq hl) fun r hr=>?_
 rcases hr with ⟨rfl,hno⟩ | ⟨A,x,B,hd,rfl,hp,hA⟩
 ·refine Zbh (fun _=>Zar ?_) fun h=>absurd rfl h
  exact (List.filter_eq_self.2 fun e he=>by rw [hno e he];rfl).symm
 ·have ll:l.length=A.length+1+B.length:=by rw [hd];simp only [List.length_append,List.length_cons];omega
  refine Zbh (fun h=>by omega) fun _=>?_
  rw [Zjp (by omega) (by omega) (by omega) (by omega)]
  refine ZcY (fun x=>∃ K J D B,x.2.2=K++J++B∧l=D++B∧x.1=(K.length:Int)∧x.2.1=(D.length:Int)∧K.length+J.length=D.length∧0<J.length∧K=D.filter fun e=>!p e) (fun x=>l.length - x.2.1.toNat)
   ⟨A,[x],A ++ [x],B,by dsimp only;rw [hd];simp,by rw [hd];simp,rfl,by dsimp only;simp,by simp,by simp,?_⟩ (by dsimp only;omega) ?_
  ·rw [List.filter_append,List.filter_eq_self.2 (fun e he=>by rw [hA e he];rfl)]
   simp [hp]
  rintro ⟨i,j,c⟩ rec ⟨K,J,D,C,hc,hD,hi,hj,hlen,hJ,hK⟩ ih
  dsimp only at hc hi hj ih ⊢
  have lC:l.length=D.length+C.length:=by rw [hD,List.length_append]
  have lc:c.length=l.length:=by rw [hc];simp only [List.length_append];omega
  refine Zbh (fun hlt=>?_) fun hge=>?_
  ·cases C with
   | nil=>simp only [List.length_nil] at lC;omega
   | cons e C=>
     simp only [List.length_cons] at lC
     have hD2:l=(D ++ [e])++C:=by rw [hD];simp
     refine ZgY ?_
     rw [Zjp (a:=j) (by omega) (by omega) (by omega) (by omega)]
     refine Zp (ZfX (A:=K++J) (x:=e) (B:=C) hc (by simp only [List.length_append];omega)) (Zp (hq e) ?_)
     cases hpe:p e with
     | false=>
       refine Zee (fun _=>?_) fun h=>by cases h
       obtain ⟨w,J2,rfl⟩:∃ w J2,J=w::J2:=by
        cases J with
        | nil=>simp at hJ
        | cons w J2=>exact ⟨w,J2,rfl⟩
       have e2:c=K++w::(J2++e::C):=by rw [hc];simp
       simp only [List.length_cons] at hlen
       refine Zp (ZfX e2 hi) ?_
       dsimp only
       rw [Zjp (by omega) (by omega) (by omega) (by omega)]
       refine ih _ ⟨K ++ [e],J2 ++ [e],D ++ [e],C,?_,hD2,by dsimp only;simp only [List.length_append,List.length_singleton];omega,by dsimp only;simp only [List.length_append,List.length_singleton];omega,by simp only [List.length_append,List.length_singleton];omega,by simp,?_⟩ (by dsimp only;omega)
       ·dsimp only
        rw [Zoo e2 hi]
        simp
       ·rw [List.filter_append,← hK]
        simp [hpe]
     | true=>
       refine Zee (fun h=>by cases h) fun _=>?_
       dsimp only
       refine ih _ ⟨K,J ++ [e],D ++ [e],C,by dsimp only;rw [hc];simp,hD2,hi,by dsimp only;simp only [List.length_append,List.length_singleton];omega,by simp only [List.length_append,List.length_singleton];omega,by simp,?_⟩ (by dsimp only;omega)
       rw [List.filter_append,← hK]
       simp [hpe]
  ·have hC:C = []:=List.eq_nil_of_length_eq_zero (by omega)
   subst hC
   have hs2:Zlo c i=some ():=by
    unfold Zlo
    rw [if_pos ⟨by omega,by omega⟩]
   refine Zp hs2 ?_
   have hcl:∀ z0,ZoX c i z0=K++List.replicate (c.length - K.length) z0:=fun z0=>by
    unfold ZoX
    rw [hi,Int.toNat_natCast,hc]
    congr 1
    rw [List.append_assoc,List.take_left]
   refine Zp (v:=K) ?_ (Zar ?_)
   ·rw [hcl]
    unfold Zjm
    rw [if_pos ⟨by omega,by omega,by rw [hi,List.length_append];omega⟩,hi]
    simp
   ·rw [hK,hD,List.append_nil]
theorem ZlE:Zax=ZkS (fun a b=>some (decide (a=b))) ⟨⟨0,⟨#[]⟩⟩,⟨⟨0,⟨#[]⟩⟩,⟨#[]⟩⟩⟩:=rfl
theorem Zpi (L:List CatRow) (hL:L.length≤1000000):Zbd L=some (srt Zc3 L):=by
 refine Zfg ?_
 unfold Zbd
 refine Zp (v:=Zd0 (leC Zc3) L) (by unfold Zao;rw [if_pos (by omega)]) ?_
 refine Zp (v:=srt Zc3 L) ?_ (Zar rfl)
 rw [ZlE]
 exact ZpU _ _ (fun _ _=>rfl) _ _ (by rw [Zlp];exact hL)
theorem ZtD (a b:List CatRow) (t:Title) (ha:a.length≤100000) (hb:b.length≤100000):Zbe a t b=some (srt Zc3 ((a.filter fun e=>!decide (e.page=t))++b)):=by
 refine Zfg ?_
 have hf:=List.length_filter_le (fun e:CatRow=>!decide (e.page=t)) a
 unfold Zbe
 refine Zp (v:=a) (by unfold ZaO;rw [if_pos (by omega)]) ?_
 refine Zp (ZqH (p:=fun e=>decide (e.page=t)) (fun e=>rfl) (by omega)) ?_
 refine Znc 200000 (by omega) (by omega) (by omega) ?_
 exact Zp (Zpi _ (by rw [List.length_append];omega)) (Zar rfl)
theorem Ztg (a b:List CatRow) (t:Title) (ha:a.length≤100000) (hb:b.length≤100000):Zf4 a t b=some (((a.filter fun e=>!decide (e.page=t))++b).foldl ZsB []):=by
 refine Zfg ?_
 have hf:=List.length_filter_le (fun e:CatRow=>!decide (e.page=t)) a
 unfold Zf4
 refine ZcY (fun x=>∃ A B,a=A++B∧x.2=(A.length:Int)∧x.1=(A.filter fun e=>!decide (e.page=t)).foldl ZsB []) (fun x=>a.length - x.2.toNat) ⟨[],a,rfl,rfl,rfl⟩ (by dsimp only;omega) ?_
 rintro ⟨c,i⟩ rec ⟨A,B,hd,hi,hc⟩ ih
 dsimp only at hi hc ih ⊢
 subst hi hc
 have ll:a.length=A.length+B.length:=by rw [hd,List.length_append]
 have lf:=List.length_filter_le (fun e:CatRow=>!decide (e.page=t)) A
 have lp:((A.filter fun e=>!decide (e.page=t)).foldl ZsB []).length≤0+(A.filter fun e=>!decide (e.page=t)).length:=Zg1 (c:=Zc3) (key:=fun x:CatRow=>x) _ []
 refine Zbh (fun hlt=>?_) fun hge=>?_
 ·cases B with
  | nil=>simp only [List.length_nil] at ll;omega
  | cons x B=>
    simp only [List.length_cons] at ll
    have hd2:a=(A ++ [x])++B:=by rw [hd];simp
    refine ZgY ?_
    rw [Zjp (by omega) (by omega) (by omega) (by omega)]
    refine Zp (ZfX hd rfl) (ZmC (fun hne=>Zp (ZfX hd rfl) (Zp (Zs4 _ _ (by omega)) ?_)) fun heq=>?_)
    ·exact ih _ ⟨A ++ [x],B,hd2,by dsimp only;simp,by dsimp only;rw [List.filter_append,List.foldl_append];simp [hne]⟩ (by dsimp only;omega)
    ·exact ih _ ⟨A ++ [x],B,hd2,by dsimp only;simp,by dsimp only;rw [List.filter_append,List.foldl_append];simp [heq]⟩ (by dsimp only;omega)
 ·have hB:B = []:=List.eq_nil_of_length_eq_zero (by omega)
  subst hB
  have hA:a=A:=by rw [hd,List.append_nil]
  rw [← hA] at lf lp ⊢
  refine ZcY (fun x=>∃ A B,b=A++B∧x.2=(A.length:Int)∧x.1=((a.filter fun e=>!decide (e.page=t))++A).foldl ZsB []) (fun x=>b.length - x.2.toNat) ⟨[],b,rfl,rfl,by dsimp only;rw [List.append_nil]⟩ (by dsimp only;omega) ?_
  rintro ⟨c,i⟩ rec ⟨C,B,hd,hi,hc⟩ ih
  dsimp only at hi hc ih ⊢
  subst hi hc
  have ll:b.length=C.length+B.length:=by rw [hd,List.length_append]
  have lp:(((a.filter fun e=>!decide (e.page=t))++C).foldl ZsB []).length≤0+((a.filter fun e=>!decide (e.page=t))++C).length:=Zg1 (c:=Zc3) (key:=fun x:CatRow=>x) _ []
  rw [List.length_append] at lp
  refine Zbh (fun hlt=>?_) fun hge=>?_
  ·cases B with
   | nil=>simp only [List.length_nil] at ll;omega
   | cons x B=>
     simp only [List.length_cons] at ll
     refine Zp (ZfX hd rfl) (Zp (Zs4 _ _ (by omega)) ?_)
     rw [Zjp (by omega) (by omega) (by omega) (by omega)]
     exact ih _ ⟨C ++ [x],B,by rw [hd];simp,by dsimp only;simp,by dsimp only;rw [← List.append_assoc,List.foldl_append (l:=_++C)];rfl⟩ (by dsimp only;omega)
  ·have hB:B = []:=List.eq_nil_of_length_eq_zero (by omega)
   subst hB
   refine Zar ?_
   rw [hd,List.append_nil]
theorem Zm6 (a b:List CatRow) (t:Title) (ha:a.length≤100000) (hb:b.length≤100000):∃ r,Zbe a t b=some r∧Zf4 a t b=some r∧r.length≤200000:=by
 have hf:=List.length_filter_le (fun e:CatRow=>!decide (e.page=t)) a
 refine ⟨_,ZtD a b t ha hb,?_,?_⟩
 ·rw [Ztg a b t ha hb,ZrW catCmp_laws fun e=>Iff.rfl]
 ·have:(srt Zc3 ((a.filter fun e=>!decide (e.page=t))++b)).length≤_:=(ZoL (eq:=fun a b:CatRow=>decide (a=b)) (Zd0 (leC Zc3) ((a.filter fun e=>!decide (e.page=t))++b))).length_le
  rw [Zlp,List.length_append] at this
  omega
theorem Zrx (l:List CatRow) (h:l.length≤1000000):ZaA l l=some true:=by
 refine Zfg ?_
 unfold ZaA
 refine ZmC (fun h=>absurd rfl h) fun _=>?_
 refine ZcY (fun i=>0≤i∧i≤(l.length:Int)) (fun i=>l.length - i.toNat) ⟨by omega,by omega⟩ (by omega) ?_
 rintro i rec ⟨h0,h1⟩ ih
 refine Zbh (fun hlt=>?_) fun _=>Zar rfl
 refine Zhr h0 hlt fun e _ he=>Zhr h0 hlt fun e' _ he'=>?_
 rw [he] at he'
 injection he' with he'
 refine ZmC (fun h=>absurd he' h) fun _=>?_
 rw [Zjp (by omega) (by omega) (by omega) (by omega)]
 exact ih _ ⟨by omega,by omega⟩ (by omega)
def ZfE (p0:Int) (p1:Int):Option Int:=
 (ZsA .i64 p0 p1).bind fun q1=>
 letk (fun (x2:Int)=>
  (some x2:Option Int)) fun k1=>
 if (decide (q1<0)) then
  k1 (w64 (q1+p1))
 else
 k1 q1
theorem ZjQ (p0:Int) (p1:Int) (r:Int) (h:ZfE p0 p1=some r):Zd Tryz.prog 12 [.int .i64 p0,.int .i64 p1] (.int .i64 r):=by
 refine cF (fun r=>.int .i64 r) h mix Tryz.func12 fun r h=>?_
 unfold ZfE at h
 refine Zj ?_
 refine rg ?_
 refine rg ?_
 obtain ⟨q1,h1,h⟩:=bnd h
 refine Zrk rfl h1 rfl rfl (Zj ?_)
 refine rg ?_
 refine jL h (fun x2=>mkS [(5,.int .i64 x2)] [] 2) (fun k1 h=>?_) fun x2 h=>?_
 ·refine cS h rfl (fun h=>?_) fun h=>?_
  ·refine rg ?_
   exact jn (w64 (q1+p1)) h (sR [])
  exact jn q1 h (sR [])
 refine rg ?_
 cases h
 exact rQ
def ZiJ (p0:List Int):Option SrcF:=
 Zas Zck (fun f7 ((x23,x24):Int×Int)=>
  letk (fun (x30:Bool)=>
   if x30 then
    (atI p0 x23).bind fun e33=>
    (ZnZ .u64 (IntKind.wrap .u64 ((ZpA .xor .u64 x24 (IntKind.wrap .u64 e33)) * 18397679294719823053)) 33).bind fun q34=>
    f7 ((w64 (x23+1)),(ZpA .xor .u64 (IntKind.wrap .u64 ((ZpA .xor .u64 x24 (IntKind.wrap .u64 e33)) * 18397679294719823053)) q34))
   else
   (some (⟨p0,0,x24⟩:SrcF):Option SrcF)) fun k8=>
  if (decide (x23<(p0.length:Int))) then
   k8 (decide (x23<64))
  else
  k8 false) (0,11400714819323198485)
theorem Zo1 (p0:List Int) (r:SrcF) (h:ZiJ p0=some r):ContractN Tryz.prog 29 [.sl (List.map csI p0)] (.box r.cs):=by
 refine Zi9 (O:=fun r=>.box r.cs) h mix Tryz.func29 (by kernel_rfl) rfl (by kernel_rfl) fun r h=>?_
 unfold ZiJ at h
 refine Zj ?_
 refine rg ?_
 refine rg ?_
 refine rg ?_
 refine bl ?_
 refine Zu h fun f7 mf7 hf7 h=>?_
 refine Zq (α:=Nat×(Int×Int)) (fun a _=>mkS [(0,.sl (List.map csI p0)),(3,.ptr 7 (1,7) 0),(4,.int .i64 a.2.1)] [(7,some ((1,7),.box [.sl (List.map csI p0),.int .i64 0,.int .u64 a.2.2]))] 2) (fun a=>Zas a.1 f7 a.2=some r) (fun a=>a.1) (mf7,0,11400714819323198485) 2 h (sR [(7,2,2)]) (fun a _ h=>?_)
 obtain ⟨mf7,x23,x24⟩:=a
 obtain ⟨mf7,rfl,h⟩:=Zv hf7 h
 dsimp only at h ⊢
 refine Zj ?_
 refine jL h (fun x30=>mkS [(0,.sl (List.map csI p0)),(3,.ptr 7 (1,7) 0),(4,.int .i64 x23),(15,.bool x30)] [(7,some ((1,7),.box [.sl (List.map csI p0),.int .i64 0,.int .u64 x24]))] 2) (fun k8 h=>?_) fun x30 h=>?_
 ·refine rg ?_
  refine lM csI p0 ?_
  refine kS 12 h rfl (fun h=>?_) fun h=>?_
  ·exact jn (decide (x23<64)) h (sR [(7,1,7)])
  iterate 2 refine ZI rfl (Zj ?_)
  exact jn false h (sR [(7,1,7)])
 refine cS h rfl (fun h=>?_) fun h=>?_
 ·refine bl ?_
  refine rg ?_
  refine aI csI h fun e33 h=>?_
  refine rg ?_
  obtain ⟨q34,h24,h⟩:=bnd h
  refine ZgV rfl h24 rfl rfl (Zj ?_)
  refine rg ?_
  exact rn (mf7,(w64 (x23+1)),(ZpA .xor .u64 (IntKind.wrap .u64 ((ZpA .xor .u64 x24 (IntKind.wrap .u64 e33)) * 18397679294719823053)) q34)) h (sR [(7,1,7)])
 refine rg ?_
 injection h with h
 subst h
 exact Zry (t:=7) (g:=(1,7)) (o2:=.box [.sl (List.map csI p0),.int .i64 0,.int .u64 x24]) rfl rfl rfl
def Za1 (p0:SrcF) (p1:Int):Option (Int×SrcF):=
 if (decide (p0.pos<(p0.l.length:Int))) then
  (atI p0.l (w64 ((w64 (p0.pos+1)) - 1))).bind fun e3=>
  (ZfE e3 p1).bind fun r4=>
  (some (r4,(⟨p0.l,(w64 (p0.pos+1)),p0.seed⟩:SrcF)):Option (Int×SrcF))
 else
 (ZnZ .u64 (IntKind.wrap .u64 ((IntKind.wrap .u64 (p0.seed * 6364136223846793005))+1442695040888963407)) 33).bind fun q5=>
 (ZsA .u64 q5 (IntKind.wrap .u64 p1)).bind fun q6=>
 (some ((IntKind.wrap .i64 q6),(⟨p0.l,p0.pos,(IntKind.wrap .u64 ((IntKind.wrap .u64 (p0.seed * 6364136223846793005))+1442695040888963407))⟩:SrcF)):Option (Int×SrcF))
theorem Zb2 (p0:SrcF) (p1:Int) (r:Int×SrcF) (h:Za1 p0 p1=some r):Contract Tryz.prog 46 [.ptr 0 (0,0) 0,.int .i64 p1] (some (0,p0.cs)) (.int .i64 r.1) (r.2).cs:=by
 refine Zi6 (R:=fun r=>.int .i64 r.1) (O:=fun r=>(r.2).cs) h mix Tryz.func46 (by kernel_rfl) rfl (by kernel_rfl) fun r h=>?_
 unfold Za1 at h
 refine Zj ?_
 refine rg ?_
 refine rg ?_
 refine lM csI p0.l ?_
 refine cS h rfl (fun h=>?_) fun h=>?_
 ·refine rg ?_
  refine rg ?_
  refine aI csI h fun e3 h=>?_
  refine aC h (ZjQ _ _) fun r4 h=>?_
  cases h
  exact ZoD rfl rfl rfl rfl rfl
 refine rg ?_
 refine rg ?_
 obtain ⟨q5,h5,h⟩:=bnd h
 refine ZgV rfl h5 rfl rfl (Zj ?_)
 obtain ⟨q6,h6,h⟩:=bnd h
 refine Zrk rfl h6 rfl rfl (Zj ?_)
 cases h
 exact ZoD rfl rfl rfl rfl rfl
def Zet:Option (List Title):=
 (some [(⟨0,(⟨#[65]⟩:ByteArray)⟩:Title),(⟨0,(⟨#[66]⟩:ByteArray)⟩:Title),(⟨0,(⟨#[65,47,67]⟩:ByteArray)⟩:Title),(⟨3,(⟨#[84]⟩:ByteArray)⟩:Title),(⟨4,(⟨#[88]⟩:ByteArray)⟩:Title),(⟨4,(⟨#[89]⟩:ByteArray)⟩:Title),(⟨2,(⟨#[65,110,110]⟩:ByteArray)⟩:Title),(⟨0,(⟨#[68]⟩:ByteArray)⟩:Title)]:Option (List Title))
theorem Zgd  (r:List Title) (h:Zet=some r):Zd Tryz.prog 11 [] (.sl (List.map Title.cs r)):=by
 refine cF (fun r=>.sl (List.map Title.cs r)) h mix Tryz.func11 fun r h=>?_
 unfold Zet at h
 refine Zj ?_
 refine rg ?_
 refine rg ?_
 refine Zaw (M:=([(⟨0,(⟨#[65]⟩:ByteArray)⟩:Title),(⟨0,(⟨#[66]⟩:ByteArray)⟩:Title),(⟨0,(⟨#[65,47,67]⟩:ByteArray)⟩:Title),(⟨3,(⟨#[84]⟩:ByteArray)⟩:Title),(⟨4,(⟨#[88]⟩:ByteArray)⟩:Title),(⟨4,(⟨#[89]⟩:ByteArray)⟩:Title),(⟨2,(⟨#[65,110,110]⟩:ByteArray)⟩:Title),(⟨0,(⟨#[68]⟩:ByteArray)⟩:Title)]:List Title)) (f:=Title.cs) rfl rfl rfl rfl (Nat.le_of_ble_eq_true rfl) rfl (Zj ?_)
 cases h
 exact rQ
def ZgH (p0:SrcF):Option (Title×SrcF):=
 (Zet).bind fun r1=>
 (Za1 p0 8).bind fun r2=>
 (atI r1 r2.1).bind fun e3=>
 (some (e3,r2.2):Option (Title×SrcF))
theorem ZnD (p0:SrcF) (r:Title×SrcF) (h:ZgH p0=some r):Contract Tryz.prog 47 [.ptr 0 (0,0) 0] (some (0,p0.cs)) (r.1.pv) (r.2).cs:=by
 refine Zi6 (R:=fun r=>r.1.pv) (O:=fun r=>(r.2).cs) h mix Tryz.func47 (by kernel_rfl) rfl (by kernel_rfl) fun r h=>?_
 unfold ZgH at h
 refine Zj ?_
 refine rg ?_
 refine rg ?_
 refine aC h Zgd fun r1 h=>?_
 refine aO h (Zb2 _ _) fun r2 h=>?_
 refine aI Title.cs h fun e3 h=>?_
 cases h
 exact ZoD rfl rfl rfl rfl rfl
def titleG:List Title:=[(⟨0,(⟨#[65]⟩:ByteArray)⟩:Title),(⟨0,(⟨#[66]⟩:ByteArray)⟩:Title),(⟨0,(⟨#[65,47,67]⟩:ByteArray)⟩:Title),(⟨3,(⟨#[84]⟩:ByteArray)⟩:Title),(⟨4,(⟨#[88]⟩:ByteArray)⟩:Title),(⟨4,(⟨#[89]⟩:ByteArray)⟩:Title),(⟨2,(⟨#[65,110,110]⟩:ByteArray)⟩:Title),(⟨0,(⟨#[68]⟩:ByteArray)⟩:Title)]
structure SrcF.ok (s:SrcF):Prop where
 len:s.l.length≤9223372036854775807
 pos:0≤s.pos
theorem ZpV (v n:Int) (h0:0<n) (h1:n≤4611686018427387904):Tot (ZfE v n) fun r=>0≤r∧r<n:=by
 unfold ZfE
 refine Znd (by omega) ?_
 have e1:Int.tmod v n<n:=Int.tmod_lt_of_pos v h0
 have e2 : -n<Int.tmod v n:=by
  have:=Int.tmod_lt_of_pos (-v) h0
  rw [Int.neg_tmod] at this
  omega
 refine ZgY ?_
 refine Zbh (fun h=>?_) fun h=>?_
 ·rw [Zg2 (by omega) (by omega)]
  exact Zar (by omega)
 ·exact Zar (by omega)
theorem Ztp (l:List Int) (hl:l.length≤9223372036854775807):Tot (ZiJ l) fun s=>s.ok:=by
 unfold ZiJ
 refine ZcY (fun a:Int×Int=>0≤a.1∧a.1≤64∧a.1≤(l.length:Int)) (fun a=>(64 - a.1).toNat) ⟨by simp,by simp,by simp⟩ (by simp) ?_
 rintro ⟨i,sd⟩ rec ⟨h0,h1,h2⟩ ih
 dsimp only at h0 h1 h2 ⊢
 refine ZgY ?_
 refine Zbh (fun h=>?_) fun h=>?_
 ·refine Zbh (fun h'=>?_) fun h'=>?_
  ·refine Zhr h0 h fun e _ _=>?_
   refine Zne (by decide) ?_
   rw [Zg2 (by omega) (by omega)]
   exact ih _ ⟨by dsimp only;omega,by dsimp only;omega,by dsimp only;omega⟩ (by dsimp only;omega)
  ·exact Zar ⟨hl,Int.le_refl _⟩
 ·exact Zar ⟨hl,Int.le_refl _⟩
theorem Znf (s:SrcF) (n:Int) (hs:s.ok) (h0:0<n) (h1:n≤4294967296):Tot (Za1 s n) fun r=>(0≤r.1∧r.1<n)∧r.2.ok:=by
 have hl:=hs.len
 have hp:=hs.pos
 unfold Za1
 refine Zbh (fun h=>?_) fun h=>?_
 ·have e:w64 (s.pos+1)=s.pos+1:=Zg2 (by omega) (by omega)
  rw [e,Zg2 (by omega) (by omega)]
  refine Zhr (by omega) (by omega) fun e _ _=>?_
  refine Zdr (ZpV e n h0 (by omega)) fun r hr=>?_
  exact Zar ⟨hr,⟨hl,by dsimp only;omega⟩⟩
 ·refine Zne (by decide) ?_
  have e:IntKind.wrap .u64 n=n:=by rw [IntKind.wrap_u64];omega
  rw [e]
  refine Znd (by omega) ?_
  generalize hx:(IntKind.wrap .u64 ((IntKind.wrap .u64 (s.seed * 6364136223846793005))+1442695040888963407))=x
  have hx0:0≤x:=by rw [← hx,IntKind.wrap_u64];omega
  have hq:0≤Int.fdiv x (2 ^ (min (33:Int).toNat (IntKind.u64).bits)):=Int.fdiv_nonneg hx0 (by decide)
  generalize Int.fdiv x (2 ^ (min (33:Int).toNat (IntKind.u64).bits))=q at hq ⊢
  have e1:Int.tmod q n<n:=Int.tmod_lt_of_pos q h0
  have e2:0≤Int.tmod q n:=Int.tmod_nonneg n hq
  have e3:IntKind.wrap .i64 (Int.tmod q n)=Int.tmod q n:=by rw [IntKind.wrap_i64];omega
  rw [e3]
  exact Zar ⟨⟨e2,e1⟩,⟨hl,hp⟩⟩
theorem ZpW {α β:Type} {l:List α} {i:Int} {f:α→Option β} {R:β→Prop} (n:Int) (hn:(l.length:Int)=n) (h:0≤i∧i<n) (k:∀ e,e ∈ l→Tot (f e) R):Tot ((atI l i).bind f) R:=Zhr h.1 (by omega) fun e he _=>k e he
theorem Zsw (s:SrcF) (hs:s.ok):Tot (ZgH s) fun r=>r.1 ∈ titleG∧r.2.ok:=by
 unfold ZgH Zet
 refine Zp rfl ?_
 refine Zdr (Znf s 8 hs (by omega) (by omega)) fun r hr=>?_
 exact ZpW 8 rfl hr.1 fun e he=>Zar ⟨he,hr.2⟩
end Go.Proofs.YtjblgpmagampbaaGreatDoor
