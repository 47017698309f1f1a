/- Functions of the program as Lean functions. Written by fxgen.py. -/
import Derived.Test.YtjoneoobolnnbaaGreatDoorCB34
import Derived.Test.YtjoneoobolnnbaaGreatDoorCR01
set_option maxRecDepth 100000
set_option maxHeartbeats 4000000
set_option linter.unusedVariables false
namespace Go.Proofs.YtjoneoobolnnbaaGreatDoor
open VL
def Zde (p0:List Int) (p1:List Int) (p2:Int):Option Bool:=
 (Zau p0 p1).bind fun r1=>
 (Zdz).bind fun r2=>
 (ZbW p2 4).bind fun r3=>
 (atI r2 r3).bind fun e4=>
 (ZaN r1 e4 0).bind fun r5=>
 (ZbB r1 e4 1000).bind fun r6=>
 ZE Zaj (fun f7 ((x37,x38):Int×Int)=>
  if (decide (x38<(r1.pages.length:Int))) then
   letk (fun (x49:Int)=>
    f7 (x49,(w64 (x38+1)))) fun k8=>
   (atI r1.pages x38).bind fun e50=>
   (ZaT r1 e4 e50.title).bind fun r51=>
   if r51 then
    (atI r1.pages x38).bind fun e52=>
    k8 (w64 (x37+(e52.history.length:Int)))
   else
   k8 x37
  else
  ZE Zaj (fun f20 (x142:Int)=>
   if (decide (x142<(r5.length:Int))) then
    letk (fun (x181:Bool)=>
     if x181 then
      (some false:Option Bool)
     else
     f20 (w64 (x142+1))) fun k22=>
    (ZaE r1 e4).bind fun r182=>
    (atI r5 x142).bind fun e183=>
    (Zf3 r182 e183.title).bind fun r184=>
    if (!r184) then
     k22 true
    else
    (atI r5 x142).bind fun e185=>
    (Zhc r6 e185).bind fun r186=>
    k22 (!r186)
   else
   ZE Zaj (fun f34 (x300:Int)=>
    if (decide (x300<(r6.length:Int))) then
     (atI r6 x300).bind fun e343=>
     (atI r6 x300).bind fun e344=>
     (ZaU r1 e343.title e344.number).bind fun r345=>
     letk (fun (x351:Bool)=>
      if x351 then
       (some false:Option Bool)
      else
      f34 (w64 (x300+1))) fun k36=>
     if (!r345.2) then
      k36 true
     else
     (atI r6 x300).bind fun e352=>
     (ZaT r1 e4 e352.title).bind fun r353=>
     if (!r353) then
      k36 true
     else
     (atI r6 x300).bind fun e354=>
     if (!decide (r345.1.user=e354.user)) then
      k36 true
     else
     (atI r6 x300).bind fun e355=>
     if (!decide (r345.1.note=e355.note)) then
      k36 true
     else
     (atI r6 x300).bind fun e356=>
     k36 (!decide (r345.1.minute=e356.minute))
    else
    letk (fun (x358:Bool)=>
     (some x358:Option Bool)) fun k37=>
    (w42_awake).bind fun r359=>
    if r359 then
     k37 (decide ((r6.length:Int)=x37))
    else
    k37 false) 0) 0) (0,0)
theorem Zj7 (p0:List Int) (p1:List Int) (p2:Int) (r:Bool) (h:Zde p0 p1 p2=some r):Zd Tryz.prog 5 [.sl (List.map csI p0),.sl (List.map csI p1),.int .i64 p2] (.bool r):=by
 refine cF (fun r=>.bool r) h mix Tryz.func5 fun r h=>?_
 unfold Zde at h
 refine Zh ?_
 refine rg ?_
 refine rg ?_
 refine aC h (ZdK _ _) fun r1 h=>?_
 refine aC h Zgg fun r2 h=>?_
 refine aC h (ZbG _ _) fun r3 h=>?_
 refine aI csS h fun e4 h=>?_
 refine rg ?_
 refine aC h (ZcO _ _ _) fun r5 h=>?_
 refine aC h (Zfd _ _ _) fun r6 h=>?_
 refine rg ?_
 refine rg ?_
 refine bl ?_
 refine Zn h fun f7 mf7 hf7 h=>?_
 refine Zk (α:=Nat×(Int×Int)) (fun a _=>mkS [(7,.ptr 7 (1,7) 0),(8,.str e4),(9,.sl (List.map Item.cs r5)),(10,.sl (List.map Item.cs r6)),(11,.int .i64 a.2.1),(12,.int .i64 a.2.2)] [(7,some ((1,7),.box (State.cs r1)))] 2) (fun a=>ZE a.1 f7 a.2=some r) (fun a=>a.1) (mf7,0,0) 2 h (sR [(7,2,8)]) (fun a _ h=>?_)
 obtain ⟨mf7,x37,x38⟩:=a
 obtain ⟨mf7,rfl,h⟩:=Zo hf7 h
 dsimp only at h ⊢
 refine Zh ?_
 refine rg ?_
 refine lM Stored.cs r1.pages ?_
 refine cS h rfl (fun h=>?_) fun h=>?_
 ·refine jL h (fun x49=>mkS [(7,.ptr 7 (1,7) 0),(8,.str e4),(9,.sl (List.map Item.cs r5)),(10,.sl (List.map Item.cs r6)),(11,.int .i64 x49),(12,.int .i64 x38)] [(7,some ((1,7),.box (State.cs r1)))] 2) (fun k8 h=>?_) fun x49 h=>?_
  ·refine bl ?_
   refine rg ?_
   refine aI Stored.cs h fun e50 h=>?_
   refine aC h (ZbQ _ _ _) fun r51 h=>?_
   refine cS h rfl (fun h=>?_) fun h=>?_
   ·refine rg ?_
    refine aI Stored.cs h fun e52 h=>?_
    refine lM Revision.cs e52.history ?_
    exact jn (w64 (x37+(e52.history.length:Int))) h (sR [(7,1,7)])
   exact jn x37 h (sR [(7,1,7)])
  refine rg ?_
  exact rn (mf7,x49,(w64 (x38+1))) h (sR [(7,1,7)])
 refine rg ?_
 refine bl ?_
 refine Zn h fun f20 mf20 hf20 h=>?_
 refine Zk (α:=Nat×Int) (fun a _=>mkS [(7,.ptr 7 (1,7) 0),(8,.str e4),(9,.sl (List.map Item.cs r5)),(10,.sl (List.map Item.cs r6)),(11,.int .i64 x37),(13,.int .i64 a.2)] [(7,some ((1,7),.box (State.cs r1)))] 2) (fun a=>ZE a.1 f20 a.2=some r) (fun a=>a.1) (mf20,0) 2 h (sR [(7,1,7)]) (fun a _ h=>?_)
 obtain ⟨mf20,x142⟩:=a
 obtain ⟨mf20,rfl,h⟩:=Zo hf20 h
 dsimp only at h ⊢
 refine Zh ?_
 refine rg ?_
 refine lM Item.cs r5 ?_
 refine cS h rfl (fun h=>?_) fun h=>?_
 ·refine bl ?_
  refine jL h (fun x181=>mkS [(7,.ptr 7 (1,7) 0),(8,.str e4),(9,.sl (List.map Item.cs r5)),(10,.sl (List.map Item.cs r6)),(11,.int .i64 x37),(13,.int .i64 x142),(80,.bool x181)] [(7,some ((1,7),.box (State.cs r1)))] 2) (fun k22 h=>?_) fun x181 h=>?_
  ·refine rg ?_
   refine aN h (Zcr _ _) fun r182 h=>?_
   refine aI Item.cs h fun e183 h=>?_
   refine aL h (Znr _ _) fun r184 h=>?_
   refine kS 72 h rfl (fun h=>?_) fun h=>?_
   ·iterate 7 refine Zi rfl (Zh ?_)
    exact jn true h (sR [(7,1,7)])
   refine aI Item.cs h fun e185 h=>?_
   refine aC h (Zo4 _ _) fun r186 h=>?_
   exact jn (!r186) h (sR [(7,1,7)])
  refine cS h rfl (fun h=>?_) fun h=>?_
  ·refine rg ?_
   cases h
   exact rQ
  refine rg ?_
  exact rn (mf20,(w64 (x142+1))) h (sR [(7,1,7)])
 refine rg ?_
 refine bl ?_
 refine Zn h fun f34 mf34 hf34 h=>?_
 refine Zk (α:=Nat×Int) (fun a _=>mkS [(7,.ptr 7 (1,7) 0),(8,.str e4),(10,.sl (List.map Item.cs r6)),(11,.int .i64 x37),(14,.int .i64 a.2)] [(7,some ((1,7),.box (State.cs r1)))] 2) (fun a=>ZE a.1 f34 a.2=some r) (fun a=>a.1) (mf34,0) 2 h (sR [(7,1,7)]) (fun a _ h=>?_)
 obtain ⟨mf34,x300⟩:=a
 obtain ⟨mf34,rfl,h⟩:=Zo hf34 h
 dsimp only at h ⊢
 refine Zh ?_
 refine rg ?_
 refine lM Item.cs r6 ?_
 refine cS h rfl (fun h=>?_) fun h=>?_
 ·refine bl ?_
  refine rg ?_
  refine aI Item.cs h fun e343 h=>?_
  refine aI Item.cs h fun e344 h=>?_
  refine aC h (Zew _ _ _) fun r345 h=>?_
  refine jL h (fun x351=>mkS [(7,.ptr 7 (1,7) 0),(8,.str e4),(10,.sl (List.map Item.cs r6)),(11,.int .i64 x37),(14,.int .i64 x300),(144,.bool x351)] [(7,some ((1,7),.box (State.cs r1)))] 2) (fun k36 h=>?_) fun x351 h=>?_
  ·refine rg ?_
   refine kS 104 h rfl (fun h=>?_) fun h=>?_
   ·iterate 33 refine Zi rfl (Zh ?_)
    exact jn true h (sR [(7,1,7)])
   refine aI Item.cs h fun e352 h=>?_
   refine aC h (ZbQ _ _ _) fun r353 h=>?_
   refine kS 115 h rfl (fun h=>?_) fun h=>?_
   ·iterate 24 refine Zi rfl (Zh ?_)
    exact jn true h (sR [(7,1,7)])
   refine aI Item.cs h fun e354 h=>?_
   refine kS 125 h rfl (fun h=>?_) fun h=>?_
   ·iterate 16 refine Zi rfl (Zh ?_)
    exact jn true h (sR [(7,1,7)])
   refine aI Item.cs h fun e355 h=>?_
   refine kS 135 h rfl (fun h=>?_) fun h=>?_
   ·iterate 8 refine Zi rfl (Zh ?_)
    exact jn true h (sR [(7,1,7)])
   refine aI Item.cs h fun e356 h=>?_
   exact jn (!decide (r345.1.minute=e356.minute)) h (sR [(7,1,7)])
  refine cS h rfl (fun h=>?_) fun h=>?_
  ·refine rg ?_
   cases h
   exact rQ
  refine rg ?_
  exact rn (mf34,(w64 (x300+1))) h (sR [(7,1,7)])
 refine jL h (fun x358=>mkS [(6,.bool x358)] [] 2) (fun k37 h=>?_) fun x358 h=>?_
 ·refine rg ?_
  refine aC h Zcj fun r359 h=>?_
  refine kS 146 h rfl (fun h=>?_) fun h=>?_
  ·refine lM Item.cs r6 ?_
   exact jn (decide ((r6.length:Int)=x37)) h (sR [])
  iterate 4 refine Zi rfl (Zh ?_)
  exact jn false h (sR [])
 cases h
 exact rQ
end Go.Proofs.YtjoneoobolnnbaaGreatDoor
namespace Go.Proofs.YtjoneoobolnnbaaGreatDoor
open VL
section
variable {α:Type}
theorem ZT (A B:List α) (x:α) {i:Int} (h:i=(A.length:Int)):atI (A++x::B) i=some x:=by
 subst h
 rw [Zgd]
 simp
theorem ZaF (A B:List α) (x y:α) {i:Int} (h:i=(A.length:Int)):ZaS (A++x::B) i y=A++y::B:=by
 subst h
 unfold ZaS
 rw [Int.toNat_natCast,List.set_append_right _ _ (Nat.le_refl _),Nat.sub_self]
 rfl
theorem ZdS (A M B:List α) (x y:α) {i:Int} (h:i=(A.length:Int)+1+(M.length:Int)):atI (A++x::(M++y::B)) i=some y:=by
 have:=ZT (A++x::M) B y (i:=i) (by simp;omega)
 simpa using this
theorem ZfY (A M B:List α) (x y:α) {i j:Int} (hi:i=(A.length:Int)) (hj:j=(A.length:Int)+1+(M.length:Int)):ZaS (ZaS (A++x::(M++y::B)) i y) j x=A++y::(M++x::B):=by
 rw [ZaF A _ x y hi]
 have:=ZaF (A++y::M) B y x (i:=j) (by simp;omega)
 simpa using this
theorem Zla (l:List α) (i:Int) (h0:0≤i) (h1:i<(l.length:Int)):∃ A x B,l=A++x::B∧(A.length:Int)=i:=by
 have hl:i.toNat<l.length:=by omega
 refine ⟨l.take i.toNat,l[i.toNat],l.drop (i.toNat+1),?_,?_⟩
 ·rw [List.getElem_cons_drop,List.take_append_drop]
 ·rw [List.length_take]
  omega
theorem ZcJ (l:List α) (n:Nat) (h:n≤l.length):∃ A B,l=A++B∧A.length=n:=⟨l.take n,l.drop n,(List.take_append_drop ..).symm,by rw [List.length_take];omega⟩
structure Ord (lt:α→α→Bool):Prop where
 asym:∀ a b,lt a b=true→lt b a=false
 tr:∀ a b c,lt b a=false→lt c b=false→lt c a=false
def Srt (lt:α→α→Bool) (l:List α):Prop:=l.Pairwise fun a b=>lt b a=false
variable {lt:α→α→Bool}
theorem Ord.irr (o:Ord lt) (a:α):lt a a=false:=by
 cases h:lt a a
 ·rfl
 ·rw [o.asym a a h] at h
  cases h
theorem Zfy (o:Ord lt) {l:List α} {u:α} (h:Srt lt (l ++ [u])):∀ a ∈ l ++ [u],lt u a=false:=fun a ha=>by
 rcases List.mem_append.1 ha with h1 | h1
 ·exact (List.pairwise_append.1 h).2.2 a h1 u (List.mem_cons_self ..)
 ·rw [List.mem_singleton.1 h1]
  exact o.irr u
theorem Zfz (o:Ord lt) {l:List α} {v:α} (h:Srt lt (v::l)):∀ b ∈ v::l,lt b v=false:=fun b hb=>by
 rcases List.mem_cons.1 hb with h1 | h1
 ·rw [h1]
  exact o.irr v
 ·exact (List.pairwise_cons.1 h).1 b h1
theorem Zj8 (o:Ord lt) {X1 X2 Y1 Y2:List α} (hX:Srt lt (X1++X2)) (hY:Srt lt (Y1++Y2)) (h1:∀ P x y Q,X1=P ++ [x]→Y2=y::Q→lt y x=false) (h2:∀ P x y Q,Y1=P ++ [y]→X2=x::Q→lt y x=true) :
  ∀ a ∈ X1++Y1,∀ b ∈ X2++Y2,lt b a=false:=by
 obtain ⟨x1,x2,x3⟩:=List.pairwise_append.1 hX
 obtain ⟨y1,y2,y3⟩:=List.pairwise_append.1 hY
 intro a ha b hb
 rcases List.mem_append.1 ha with ha | ha
 ·rcases List.mem_append.1 hb with hb | hb
  ·exact x3 a ha b hb
  ·rcases List.eq_nil_or_concat X1 with e | ⟨P,u,e⟩
   ·rw [e] at ha
    cases ha
   ·cases Y2 with
    | nil=>cases hb
    | cons v Q=>
      rw [List.concat_eq_append] at e
      have hu:=Zfy o (l:=P) (u:=u) (by rw [← e];exact x1) a (by rw [← e];exact ha)
      have hv:=Zfz o y2 b hb
      exact o.tr a u b hu (o.tr u v b (h1 P u v Q e rfl) hv)
 ·rcases List.mem_append.1 hb with hb | hb
  ·rcases List.eq_nil_or_concat Y1 with e | ⟨P,u,e⟩
   ·rw [e] at ha
    cases ha
   ·cases X2 with
    | nil=>cases hb
    | cons v Q=>
      rw [List.concat_eq_append] at e
      have hu:=Zfy o (l:=P) (u:=u) (by rw [← e];exact y1) a (by rw [← e];exact ha)
      have hv:=Zfz o x2 b hb
      exact o.tr a u b hu (o.tr u v b (o.asym _ _ (h2 P v u Q e rfl)) hv)
  ·exact y3 a ha b hb
theorem Zj9 {Z1 Z2 W1 W2:List α} (h1:Srt lt Z1) (h2:Srt lt Z2) (p1:Z1.Perm W1) (p2:Z2.Perm W2) (h:∀ a ∈ W1,∀ b ∈ W2,lt b a=false):Srt lt (Z1++Z2):=
 List.pairwise_append.2 ⟨h1,h2,fun a ha b hb=>h a (p1.mem_iff.1 ha) b (p2.mem_iff.1 hb)⟩
theorem ZfA (o:Ord lt) {Y1 Y2:List α} {x:α} (h:Srt lt (Y1++Y2)) (h1:∀ P u,Y1=P ++ [u]→lt x u=false) (h2:∀ v Q,Y2=v::Q→lt v x=false):Srt lt (Y1++x::Y2):=by
 obtain ⟨a1,a2,a3⟩:=List.pairwise_append.1 h
 have k1:∀ a ∈ Y1,lt x a=false:=fun a ha=>by
  rcases List.eq_nil_or_concat Y1 with e | ⟨P,u,e⟩
  ·rw [e] at ha
   cases ha
  ·rw [List.concat_eq_append] at e
   exact o.tr a u x (Zfy o (l:=P) (u:=u) (by rw [← e];exact a1) a (by rw [← e];exact ha)) (h1 P u e)
 have k2:∀ b ∈ Y2,lt b x=false:=fun b hb=>by
  cases Y2 with
  | nil=>cases hb
  | cons v Q=>exact o.tr x v b (h2 v Q rfl) (Zfz o a2 b hb)
 refine List.pairwise_append.2 ⟨a1,List.pairwise_cons.2 ⟨k2,a2⟩,fun a ha b hb=>?_⟩
 rcases List.mem_cons.1 hb with e | e
 ·rw [e]
  exact k1 a ha
 ·exact a3 a ha b e
end
theorem ZpR {x:Int} (h0:0≤x) (h1:x≤9223372036854775807):w64 (Int.fdiv (IntKind.wrap .u64 x) (2 ^ (min (1:Int).toNat (IntKind.bits .u64))))=x / 2:=by
 have e1:IntKind.wrap .u64 x=x:=by
  unfold IntKind.wrap
  simp [IntKind.signed,IntKind.bits]
  omega
 rw [e1]
 have e2:(2:Int) ^ (min (1:Int).toNat (IntKind.bits .u64))=2:=rfl
 rw [e2,Int.fdiv_eq_ediv_of_nonneg _ (by omega)]
 exact Zg (by omega) (by omega)
end Go.Proofs.YtjoneoobolnnbaaGreatDoor
namespace Go.Proofs.YtjoneoobolnnbaaGreatDoor
open VL
section
variable {α:Type}
def ZhM (p0:List α) (p1 p2 p3:Int):Option (List α):=
 ZE Zaj (fun f ((i,d):Int×List α)=>
  if (decide (i<p3)) then
   (atI d (w64 (p2+i))).bind fun x=>
   (atI d (w64 (p1+i))).bind fun y=>
   (atI d (w64 (p1+i))).bind fun _=>
   (atI (ZaS d (w64 (p1+i)) x) (w64 (p2+i))).bind fun _=>
   f ((w64 (i+1)),(ZaS (ZaS d (w64 (p1+i)) x) (w64 (p2+i)) y))
  else
  (some d:Option (List α))) (0,p0)
theorem Zfu (A X M Y B:List α) {n:Nat} (hx:X.length=n) (hy:Y.length=n) (hs:(A++(X++(M++(Y++B)))).length≤1000000) {a b c:Int} (ha:a=(A.length:Int)) (hb:b=(A.length:Int)+n+M.length) (hc:c=(n:Int)) :
  Tot (ZhM (A++(X++(M++(Y++B)))) a b c) fun r=>r=A++(Y++(M++(X++B))):=by
 simp only [List.length_append] at hs
 unfold ZhM
 refine Zj (fun q:Int×List α=>∃ X1 X2 Y1 Y2,X=X1++X2∧Y=Y1++Y2∧Y1.length=X1.length∧q.1=(X1.length:Int)∧q.2=A++(Y1++(X2++(M++(X1++(Y2++B)))))) (fun q=>(c - q.1).toNat) ⟨[],X,[],Y,rfl,rfl,rfl,rfl,rfl⟩ (by dsimp only;omega) ?_
 rintro ⟨i,d⟩ rec ⟨X1,X2,Y1,Y2,e1,e2,e3,e4,e5⟩ ih
 dsimp only at e4 e5 ⊢
 subst e4 e5
 have l1:X1.length+X2.length=n:=by rw [← hx,e1,List.length_append]
 have l2:Y1.length+Y2.length=n:=by rw [← hy,e2,List.length_append]
 refine Zc (fun h=>?_) fun h=>?_
 ·cases X2 with
  | nil=>simp at l1;omega
  | cons x X2=>
    cases Y2 with
    | nil=>simp at l2;omega
    | cons y Y2=>
      simp only [List.length_cons] at l1 l2
      have ea:w64 (a+(X1.length:Int))=((A++Y1).length:Int):=(Zg (by omega) (by omega)).trans (by rw [List.length_append];omega)
      have eb:w64 (b+(X1.length:Int))=((A++Y1).length:Int)+1+((X2++(M++X1)).length:Int):=(Zg (by omega) (by omega)).trans (by simp only [List.length_append];omega)
      have ed:A++(Y1++(x::X2++(M++(X1++(y::Y2++B)))))=(A++Y1)++x::((X2++(M++X1))++y::(Y2++B)):=by simp
      rw [ed]
      refine Za (v:=y) (ZdS (A++Y1) (X2++(M++X1)) (Y2++B) x y eb) ?_
      refine Za (v:=x) (ZT _ _ _ ea) ?_
      refine Za (v:=x) (ZT _ _ _ ea) ?_
      refine Za (v:=y) (by rw [ZaF _ _ _ _ ea];exact ZdS _ _ _ _ _ eb) ?_
      rw [ZfY _ _ _ _ _ ea eb]
      refine ih _ ⟨X1 ++ [x],X2,Y1 ++ [y],Y2,by simp [e1],by simp [e2],by simp [e3],?_,by simp⟩ ?_
      ·exact (Zg (by omega) (by omega)).trans (by simp)
      ·dsimp only
       rw [Zg (by omega) (by omega)]
       omega
 ·have h1:X2 = []:=List.length_eq_zero_iff.1 (by omega)
  have h2:Y2 = []:=List.length_eq_zero_iff.1 (by omega)
  subst h1 h2
  simp only [List.append_nil] at e1 e2
  subst e1 e2
  exact Zb rfl
def ZtK (p0:List α) (p1 p2 p3:Int):Option (List α):=
 ZE Zaj (fun f ((i,j,d):Int×Int×List α)=>
  if (!decide (i=j)) then
   if (decide (j<i)) then
    (ZhM d (w64 (p2 - i)) p2 j).bind fun r=>
    f ((w64 (i - j)),j,r)
   else
   (ZhM d (w64 (p2 - i)) (w64 ((w64 (p2+j)) - i)) i).bind fun r=>
   f (i,(w64 (j - i)),r)
  else
  (ZhM d (w64 (p2 - i)) p2 i).bind fun r=>
  (some r:Option (List α))) ((w64 (p2 - p1)),(w64 (p3 - p2)),p0)
theorem Zpr (A U V B:List α) (hU:U≠[]) (hV:V≠[]) (hs:(A++(U++(V++B))).length≤1000000) {a m b:Int} (ha:a=(A.length:Int)) (hm:m=(A.length:Int)+U.length) (hb:b=(A.length:Int)+U.length+V.length) :
  Tot (ZtK (A++(U++(V++B))) a m b) fun r=>r=A++(V++(U++B)):=by
 simp only [List.length_append] at hs
 have u1:0<U.length:=List.length_pos_iff.2 hU
 have v1:0<V.length:=List.length_pos_iff.2 hV
 unfold ZtK
 rw [Zg (by omega) (by omega),Zg (by omega) (by omega)]
 refine Zj (fun q:Int×Int×List α=>∃ L U' V' R,q.1=(U'.length:Int)∧q.2.1=(V'.length:Int)∧0<U'.length∧0<V'.length∧q.2.2=A++(L++(U'++(V'++(R++B))))∧L++(V'++(U'++R))=V++U∧(L.length:Int)+U'.length=U.length) (fun q=>(q.1+q.2.1).toNat)
  ⟨[],U,V,[],by dsimp only;omega,by dsimp only;omega,u1,v1,rfl,by simp,by simp⟩ (by dsimp only;omega) ?_
 rintro ⟨i,j,d⟩ rec ⟨L,U',V',R,e1,e2,p1,p2,e3,e4,e5⟩ ih
 dsimp only at e1 e2 e3 ⊢
 subst e1 e2 e3
 have hl:L.length+V'.length+U'.length+R.length=V.length+U.length:=by
  have:=congrArg List.length e4
  simp only [List.length_append] at this
  omega
 refine ZQ (fun h=>?_) fun h=>?_
 ·refine Zc (fun hlt=>?_) fun hlt=>?_
  ·obtain ⟨U1,U2,c1,c2⟩:=ZcJ U' V'.length (by omega)
   have hu2:U1.length+U2.length=U'.length:=by rw [c1,List.length_append]
   refine Zf (Q:=fun r=>r=(A++L)++(V'++(U2++(U1++(R++B))))) ?_ fun r hr=>?_
   ·have:=Zfu (A++L) U1 U2 V' (R++B) (n:=V'.length) c2 rfl (by simp only [List.length_append];omega) (a:=w64 (m - (U'.length:Int))) (b:=m) (c:=(V'.length:Int)) ((Zg (by omega) (by omega)).trans (by rw [List.length_append];omega)) (by rw [List.length_append];omega) rfl
    rw [c1]
    rw [show A++(L++((U1++U2)++(V'++(R++B))))=(A++L)++(U1++(U2++(V'++(R++B)))) by simp]
    rw [← c1]
    exact this
   ·subst hr
    refine ih _ ⟨L++V',U2,U1,R,?_,?_,by omega,by omega,by simp,?_,?_⟩ ?_
    ·exact (Zg (by omega) (by omega)).trans (by omega)
    ·dsimp only
     omega
    ·rw [← e4,c1]
     simp
    ·rw [List.length_append]
     omega
    ·dsimp only
     rw [Zg (by omega) (by omega)]
     omega
  ·obtain ⟨V1,V2,c1,c2⟩:=ZcJ V' (V'.length - U'.length) (by omega)
   have hv2:V1.length+V2.length=V'.length:=by rw [c1,List.length_append]
   refine Zf (Q:=fun r=>r=(A++L)++(V2++(V1++(U'++(R++B))))) ?_ fun r hr=>?_
   ·have:=Zfu (A++L) U' V1 V2 (R++B) (n:=U'.length) rfl (by omega) (by simp only [List.length_append];omega) (a:=w64 (m - (U'.length:Int))) (b:=w64 (w64 (m+(V'.length:Int)) - (U'.length:Int))) (c:=(U'.length:Int)) ((Zg (by omega) (by omega)).trans (by rw [List.length_append];omega)) (by
     rw [Zg (n:=m+(V'.length:Int)) (by omega) (by omega),Zg (by omega) (by omega),List.length_append]
     omega) rfl
    rw [c1]
    rw [show A++(L++(U'++((V1++V2)++(R++B))))=(A++L)++(U'++(V1++(V2++(R++B)))) by simp]
    rw [← c1]
    exact this
   ·subst hr
    refine ih _ ⟨L,V2,V1,U'++R,?_,?_,by omega,by omega,by simp,?_,?_⟩ ?_
    ·dsimp only
     omega
    ·exact (Zg (by omega) (by omega)).trans (by omega)
    ·rw [← e4,c1]
     simp
    ·omega
    ·dsimp only
     rw [Zg (by omega) (by omega)]
     omega
 ·refine Zf (Zfu (A++L) U' [] V' (R++B) (n:=U'.length) rfl (by omega) (by simp only [List.length_append,List.length_nil];omega) (a:=w64 (m - (U'.length:Int))) (b:=m) (c:=(U'.length:Int)) ((Zg (by omega) (by omega)).trans (by rw [List.length_append];omega)) (by rw [List.length_append,List.length_nil];omega) rfl |> fun t=>by
   rw [show A++(L++(U'++(V'++(R++B))))=(A++L)++(U'++([]++(V'++(R++B)))) by simp]
   exact t) fun r hr=>?_
  refine Zb ?_
  rw [hr]
  have:A++((L++(V'++(U'++R)))++B)=A++((V++U)++B):=by rw [e4]
  simpa using this
end
end Go.Proofs.YtjoneoobolnnbaaGreatDoor
set_option linter.unusedSimpArgs false
namespace Go.Proofs.YtjoneoobolnnbaaGreatDoor
open VL
section
variable {α:Type}
def ZeE (cmp:α→α→Option Int) (lt:α→α→Bool):Prop:=∀ a b,Tot (cmp a b) fun r=>decide (r<0)=lt a b
def Zpq (cmp:α→α→Option Int) (p0:List α) (p1 p2:Int):Option (List α):=
 ZE Zaj (fun f ((i,d):Int×List α)=>
  if (decide (i<p2)) then
   ZE Zaj (fun g ((j,d):Int×List α)=>
    letk (fun (x:Bool)=>
     if x then
      (atI d (w64 (j - 1))).bind fun u=>
      (atI d j).bind fun v=>
      (atI d j).bind fun _=>
      (atI (ZaS d j u) (w64 (j - 1))).bind fun _=>
      g ((w64 (j - 1)),(ZaS (ZaS d j u) (w64 (j - 1)) v))
     else
     f ((w64 (i+1)),d)) fun k=>
    if (decide (p1<j)) then
     (atI d j).bind fun v=>
     (atI d (w64 (j - 1))).bind fun u=>
     (cmp v u).bind fun r=>
     k (decide (r<0))
    else
    k false) (i,d)
  else
  (some d:Option (List α))) ((w64 (p1+1)),p0)
theorem ZhL {cmp:α→α→Option Int} {lt:α→α→Bool} (o:Ord lt) (hc:ZeE cmp lt) (A X B:List α) (hs:(A++(X++B)).length≤1000000) {a b:Int} (ha:a=(A.length:Int)) (hb:b=(A.length:Int)+X.length) :
  Tot (Zpq cmp (A++(X++B)) a b) fun r=>∃ Z,r=A++(Z++B)∧Z.Perm X∧Srt lt Z:=by
 simp only [List.length_append] at hs
 unfold Zpq
 rw [Zg (by omega) (by omega)]
 cases X with
 | nil=>
   unfold Zaj
   refine ⟨A++([]++B),?_,[],rfl,List.Perm.refl _,List.Pairwise.nil⟩
   show (if decide (a+1<b)=true then _ else some (A++([]++B)))=some (A++([]++B))
   rw [if_neg (by simp only [List.length_nil] at hb;simp;omega)]
 | cons x0 X=>
 simp only [List.length_cons] at hs hb
 refine Zj (fun q:Int×List α=>∃ Z W,0<Z.length∧q.1=(A.length:Int)+Z.length∧q.2=A++(Z++(W++B))∧Srt lt Z∧(Z++W).Perm (x0::X)) (fun q=>(b - q.1).toNat) ⟨[x0],X,by simp,by simp [ha],by simp,List.pairwise_singleton ..,List.Perm.refl _⟩ (by dsimp only;omega) ?_
 rintro ⟨i,d⟩ rec ⟨Z,W,z0,e1,e2,e3,e4⟩ ih
 dsimp only at e1 e2 ⊢
 subst e1 e2
 have hl:Z.length+W.length=X.length+1:=by
  have:=e4.length_eq
  simpa using this
 refine Zc (fun h=>?_) fun h=>?_
 ·cases W with
  | nil=>simp at hl;omega
  | cons v W=>
  simp only [List.length_cons] at hl
  have fin:∀ (P Q:List α),P++Q=Z→(∀ P' u,P=P' ++ [u]→lt v u=false)→(∀ w Q',Q=w::Q'→lt v w=true)→Tot (rec ((w64 ((A.length:Int)+Z.length+1)),A++(P++(v::(Q++(W++B)))))) fun r=>∃ Z,r=A++(Z++B)∧Z.Perm (x0::X)∧Srt lt Z:=fun P Q hPQ h1 h2=>by
   refine ih _ ⟨P++v::Q,W,by simp only [List.length_append,List.length_cons];omega,?_,by simp,ZfA o (by rw [hPQ];exact e3) h1 (fun w Q' e=>o.asym _ _ (h2 w Q' e)),?_⟩ ?_
   ·rw [← hPQ]
    exact (Zg (by rw [← hPQ] at hl;simp only [List.length_append] at hl ⊢;omega) (by rw [← hPQ] at hl;simp only [List.length_append] at hl ⊢;omega)).trans (by simp;omega)
   ·refine List.Perm.trans ?_ e4
    rw [← hPQ]
    have:(P++v::Q).Perm (P++Q ++ [v]):=by
     have:=(List.perm_middle (a:=v) (l₁:=P) (l₂:=Q)).trans (List.perm_append_singleton v (P++Q)).symm
     exact this
    have h3:=this.append_right W
    simpa using h3
   ·dsimp only
    rw [Zg (by omega) (by omega)]
    omega
  refine Zj (fun q:Int×List α=>∃ P Q,q.1=(A.length:Int)+P.length∧q.2=A++(P++(v::(Q++(W++B))))∧P++Q=Z∧∀ w Q',Q=w::Q'→lt v w=true) (fun q=>q.1.toNat) ⟨Z,[],rfl,by simp,by simp,fun w Q' e=>by cases e⟩ (by dsimp only;omega) ?_
  rintro ⟨j,d⟩ rec2 ⟨P,Q,f1,f2,f3,f4⟩ ih2
  dsimp only at f1 f2 ⊢
  subst f1 f2
  have hpq:P.length+Q.length=Z.length:=by rw [← f3,List.length_append]
  refine ZJ ?_
  refine Zc (fun h=>?_) fun h=>?_
  ·rcases List.eq_nil_or_concat P with e | ⟨P',u,e⟩
   ·rw [e] at h
    simp at h
    omega
   rw [List.concat_eq_append] at e
   subst e
   simp only [List.length_append,List.length_cons,List.length_nil] at h hpq ⊢
   have i1:((A.length:Int)+((P'.length+(0+1):Nat):Int))=((A++(P' ++ [u])).length:Int):=by simp<;>omega
   have i2:w64 ((A.length:Int)+((P'.length+(0+1):Nat):Int) - 1)=((A++P').length:Int):=(Zg (by omega) (by omega)).trans (by simp;omega)
   have d1:A++(P' ++ [u]++(v::(Q++(W++B))))=(A++(P' ++ [u]))++v::(Q++(W++B)):=by simp
   have d2:A++(P' ++ [u]++(v::(Q++(W++B))))=(A++P')++u::(v::(Q++(W++B))):=by simp
   have g1:atI (A++(P' ++ [u]++(v::(Q++(W++B))))) ((A.length:Int)+((P'.length+(0+1):Nat):Int))=some v:=by
    rw [d1]
    exact ZT _ _ _ i1
   have g2:atI (A++(P' ++ [u]++(v::(Q++(W++B))))) (w64 ((A.length:Int)+((P'.length+(0+1):Nat):Int) - 1))=some u:=by
    rw [d2]
    exact ZT _ _ _ i2
   have s1:ZaS (A++(P' ++ [u]++(v::(Q++(W++B))))) ((A.length:Int)+((P'.length+(0+1):Nat):Int)) u=(A++P')++u::(u::(Q++(W++B))):=by
    rw [d1,ZaF _ _ _ _ i1]
    simp
   refine Za (v:=v) g1 ?_
   refine Za (v:=u) g2 ?_
   refine Zf (hc v u) fun r hr=>?_
   refine Zc (fun hlt=>?_) fun hlt=>?_
   ·refine Za (v:=u) g2 ?_
    refine Za (v:=v) g1 ?_
    refine Za (v:=v) g1 ?_
    rw [s1]
    refine Za (v:=u) (ZT _ _ _ i2) ?_
    rw [ZaF _ _ _ _ i2]
    refine ih2 _ ⟨P',u::Q,?_,by simp,by rw [← f3];simp,fun w Q' e=>?_⟩ ?_
    ·dsimp only
     rw [i2]
     simp only [List.length_append,List.length_cons,List.length_nil]
     omega
    ·injection e with e _
     rw [← e,← hr]
     exact decide_eq_true hlt
    ·dsimp only
     rw [i2]
     simp only [List.length_append,List.length_cons,List.length_nil]
     omega
   ·refine fin (P' ++ [u]) Q f3 (fun P2 u2 e=>?_) f4
    have:=List.append_inj_right' e rfl
    injection this with this
    rw [← this,← hr]
    exact decide_eq_false hlt
  ·have:P = []:=List.length_eq_zero_iff.1 (by omega)
   subst this
   exact Zaw (b:=false) (fun h=>by cases h) fun _=>fin [] Q f3 (fun P2 u2 e=>by simp at e) f4
 ·have:W = []:=List.length_eq_zero_iff.1 (by omega)
  subst this
  exact Zb ⟨Z,by simp,by simpa using e4,e3⟩
end
end Go.Proofs.YtjoneoobolnnbaaGreatDoor
namespace Go.Proofs.YtjoneoobolnnbaaGreatDoor
open VL
section
variable {α:Type}
theorem Zcz {β:Type} {x:Int} {f:Int→Option β} {R:β→Prop} (h0:0≤x) (h1:x≤1000000000) (k:∀ q,w64 q=x / 2→Tot (f q) R):Tot ((Zjf .u64 (IntKind.wrap .u64 (w64 x)) 1).bind f) R:=
 Zkn (by decide) (k _ (by
  rw [Zg (n:=x) (by omega) (by omega)]
  exact ZpR h0 (by omega)))
def ZlP (cmp:α→α→Option Int) (p0:List α) (p1 p2 p3:Int):Option (List α):=
 ZE Zaj (fun f ((i,j):Int×Int)=>
  if (decide (i<j)) then
   (Zjf .u64 (IntKind.wrap .u64 (w64 (i+j))) 1).bind fun q=>
   (atI p0 (w64 q)).bind fun x=>
   (atI p0 p1).bind fun y=>
   (cmp x y).bind fun r=>
   if (decide (r<0)) then
    f ((w64 ((w64 q)+1)),j)
   else
   f (i,(w64 q))
  else
  ZE Zaj (fun g ((k,d):Int×List α)=>
   if (decide (k<w64 (i - 1))) then
    (atI d (w64 (k+1))).bind fun x=>
    (atI d k).bind fun y=>
    (atI d k).bind fun _=>
    (atI (ZaS d k x) (w64 (k+1))).bind fun _=>
    g ((w64 (k+1)),(ZaS (ZaS d k x) (w64 (k+1)) y))
   else
   (some d:Option (List α))) (p1,p0)) (p2,p3)
theorem ZlQ {cmp:α→α→Option Int} {lt:α→α→Bool} (o:Ord lt) (hc:ZeE cmp lt) (A Y B:List α) (x:α) (hY:Srt lt Y) (hs:(A++(x::(Y++B))).length≤1000000) {a m b:Int} (ha:a=(A.length:Int)) (hm:m=(A.length:Int)+1) (hb:b=(A.length:Int)+1+Y.length) :
  Tot (ZlP cmp (A++(x::(Y++B))) a m b) fun r=>∃ Z,r=A++(Z++B)∧Z.Perm (x::Y)∧Srt lt Z:=by
 simp only [List.length_append,List.length_cons] at hs
 unfold ZlP
 refine Zj (fun q:Int×Int=>∃ Y1 Y2 Y3,Y=Y1++(Y2++Y3)∧q.1=m+(Y1.length:Int)∧q.2=m+(Y1.length:Int)+Y2.length∧(∀ P u,Y1=P ++ [u]→lt u x=true)∧∀ v Q,Y3=v::Q→lt v x=false) (fun q=>(q.2 - q.1).toNat)
  ⟨[],Y,[],by simp,by simp,by simp;omega,fun P u e=>by simp at e,fun v Q e=>by cases e⟩ (by dsimp only;omega) ?_
 rintro ⟨i,j⟩ rec ⟨Y1,Y2,Y3,e0,e1,e2,e3,e4⟩ ih
 dsimp only at e1 e2 ⊢
 subst e1 e2
 have hl:Y1.length+(Y2.length+Y3.length)=Y.length:=by rw [e0];simp
 refine Zc (fun h=>?_) fun h=>?_
 ·refine Zcz (by omega) (by omega) fun q hq=>?_
  rw [hq]
  obtain ⟨Q1,v,Q2,c1,c2⟩:=Zla Y2 ((m+(Y1.length:Int)+(m+(Y1.length:Int)+Y2.length)) / 2 - (m+(Y1.length:Int))) (by omega) (by omega)
  have hl2:Y2.length=Q1.length+(1+Q2.length):=by rw [c1];simp;omega
  have g1:atI (A++(x::(Y++B))) ((m+(Y1.length:Int)+(m+(Y1.length:Int)+Y2.length)) / 2)=some v:=by
   have:=ZT (A++x::(Y1++Q1)) (Q2++(Y3++B)) v (i:=(m+(Y1.length:Int)+(m+(Y1.length:Int)+Y2.length)) / 2) (by simp only [List.length_append,List.length_cons];omega)
   rw [← this,e0,c1]
   simp
  refine Za (v:=v) g1 ?_
  refine Za (v:=x) (ZT A _ x ha) ?_
  refine Zf (hc v x) fun r hr=>?_
  refine Zc (fun hlt=>?_) fun hlt=>?_
  ·refine ih _ ⟨Y1++(Q1 ++ [v]),Q2,Y3,by rw [e0,c1];simp,?_,?_,fun P u e=>?_,e4⟩ ?_
   ·exact (Zg (by omega) (by omega)).trans (by simp;omega)
   ·simp only [List.length_append,List.length_cons,List.length_nil]
    omega
   ·have : [v] = [u]:=List.append_inj_right' (s₁:=Y1++Q1) (by simpa using e) rfl
    injection this with this
    rw [← this,← hr]
    exact decide_eq_true hlt
   ·dsimp only
    rw [Zg (by omega) (by omega)]
    omega
  ·refine ih _ ⟨Y1,Q1,v::(Q2++Y3),by rw [e0,c1];simp,rfl,by dsimp only;omega,e3,fun w Q e=>?_⟩ (by dsimp only;omega)
   injection e with e _
   rw [← e,← hr]
   exact decide_eq_false hlt
 ·have hY2:Y2 = []:=List.length_eq_zero_iff.1 (by omega)
  subst hY2
  rw [List.nil_append] at e0
  rw [Zg (by omega) (by omega)]
  refine Zj (fun q:Int×List α=>∃ W1 W2,Y1=W1++W2∧q.2=A++(W1++(x::(W2++(Y3++B))))∧q.1=(A.length:Int)+W1.length) (fun q=>(m+(Y1.length:Int) - q.1).toNat) ⟨[],Y1,rfl,by rw [e0];simp,by simp [ha]⟩ (by dsimp only;omega) ?_
  rintro ⟨k,d⟩ rec2 ⟨W1,W2,f0,f1,f2⟩ ih2
  dsimp only at f1 f2 ⊢
  subst f1 f2
  have hw:W1.length+W2.length=Y1.length:=by rw [f0];simp
  refine Zc (fun h=>?_) fun h=>?_
  ·cases W2 with
   | nil=>simp at hw;omega
   | cons w W2=>
   simp only [List.length_cons] at hw
   have i1:((A.length:Int)+W1.length)=((A++W1).length:Int):=by rw [List.length_append];omega
   have i2:w64 ((A.length:Int)+W1.length+1)=((A++W1).length:Int)+1+(([]:List α).length:Int):=(Zg (by omega) (by omega)).trans (by simp)
   have d1:A++(W1++(x::(w::W2++(Y3++B))))=(A++W1)++x::([]++w::(W2++(Y3++B))):=by simp
   rw [d1]
   refine Za (v:=w) (ZdS _ _ _ _ _ i2) ?_
   refine Za (v:=x) (ZT _ _ _ i1) ?_
   refine Za (v:=x) (ZT _ _ _ i1) ?_
   refine Za (v:=w) (by rw [ZaF _ _ _ _ i1];exact ZdS _ _ _ _ _ i2) ?_
   rw [ZfY _ _ _ _ _ i1 i2]
   refine ih2 _ ⟨W1 ++ [w],W2,by rw [f0];simp,by simp,?_⟩ ?_
   ·dsimp only
    rw [i2]
    simp only [List.length_append,List.length_cons,List.length_nil]
    omega
   ·dsimp only
    rw [i2]
    simp only [List.length_append,List.length_cons,List.length_nil]
    omega
  ·have hW2:W2 = []:=List.length_eq_zero_iff.1 (by omega)
   subst hW2
   rw [List.append_nil] at f0
   subst f0
   refine Zb ⟨Y1++x::Y3,by simp,?_,ZfA o (by rw [← e0];exact hY) (fun P u e=>o.asym _ _ (e3 P u e)) e4⟩
   rw [e0]
   exact List.perm_middle
def ZlR (cmp:α→α→Option Int) (p0:List α) (p1 p2 p3:Int):Option (List α):=
 ZE Zaj (fun f ((i,j):Int×Int)=>
  if (decide (i<j)) then
   (Zjf .u64 (IntKind.wrap .u64 (w64 (i+j))) 1).bind fun q=>
   (atI p0 p2).bind fun x=>
   (atI p0 (w64 q)).bind fun y=>
   (cmp x y).bind fun r=>
   if (!decide (r<0)) then
    f ((w64 ((w64 q)+1)),j)
   else
   f (i,(w64 q))
  else
  ZE Zaj (fun g ((k,d):Int×List α)=>
   if (decide (i<k)) then
    (atI d (w64 (k - 1))).bind fun x=>
    (atI d k).bind fun y=>
    (atI d k).bind fun _=>
    (atI (ZaS d k x) (w64 (k - 1))).bind fun _=>
    g ((w64 (k - 1)),(ZaS (ZaS d k x) (w64 (k - 1)) y))
   else
   (some d:Option (List α))) (p2,p0)) (p1,p2)
theorem ZlS {cmp:α→α→Option Int} {lt:α→α→Bool} (o:Ord lt) (hc:ZeE cmp lt) (A X B:List α) (y:α) (hX:Srt lt X) (hs:(A++(X++(y::B))).length≤1000000) {a m b:Int} (ha:a=(A.length:Int)) (hm:m=(A.length:Int)+X.length) :
  Tot (ZlR cmp (A++(X++(y::B))) a m b) fun r=>∃ Z,r=A++(Z++B)∧Z.Perm (y::X)∧Srt lt Z:=by
 simp only [List.length_append,List.length_cons] at hs
 unfold ZlR
 refine Zj (fun q:Int×Int=>∃ X1 X2 X3,X=X1++(X2++X3)∧q.1=a+(X1.length:Int)∧q.2=a+(X1.length:Int)+X2.length∧(∀ P u,X1=P ++ [u]→lt y u=false)∧∀ v Q,X3=v::Q→lt y v=true) (fun q=>(q.2 - q.1).toNat)
  ⟨[],X,[],by simp,by simp,by simp;omega,fun P u e=>by simp at e,fun v Q e=>by cases e⟩ (by dsimp only;omega) ?_
 rintro ⟨i,j⟩ rec ⟨X1,X2,X3,e0,e1,e2,e3,e4⟩ ih
 dsimp only at e1 e2 ⊢
 subst e1 e2
 have hl:X1.length+(X2.length+X3.length)=X.length:=by rw [e0];simp
 have gy:atI (A++(X++(y::B))) m=some y:=by
  have:=ZT (A++X) B y (i:=m) (by rw [List.length_append];omega)
  rw [← this]
  simp
 refine Zc (fun h=>?_) fun h=>?_
 ·refine Zcz (by omega) (by omega) fun q hq=>?_
  rw [hq]
  obtain ⟨Q1,v,Q2,c1,c2⟩:=Zla X2 ((a+(X1.length:Int)+(a+(X1.length:Int)+X2.length)) / 2 - (a+(X1.length:Int))) (by omega) (by omega)
  have hl2:X2.length=Q1.length+(1+Q2.length):=by rw [c1];simp;omega
  have g1:atI (A++(X++(y::B))) ((a+(X1.length:Int)+(a+(X1.length:Int)+X2.length)) / 2)=some v:=by
   have:=ZT (A++(X1++Q1)) (Q2++(X3++(y::B))) v (i:=(a+(X1.length:Int)+(a+(X1.length:Int)+X2.length)) / 2) (by simp only [List.length_append,List.length_cons];omega)
   rw [← this,e0,c1]
   simp
  refine Za (v:=y) gy ?_
  refine Za (v:=v) g1 ?_
  refine Zf (hc y v) fun r hr=>?_
  refine ZQ (fun hlt=>?_) fun hlt=>?_
  ·refine ih _ ⟨X1++(Q1 ++ [v]),Q2,X3,by rw [e0,c1];simp,?_,?_,fun P u e=>?_,e4⟩ ?_
   ·exact (Zg (by omega) (by omega)).trans (by simp;omega)
   ·simp only [List.length_append,List.length_cons,List.length_nil]
    omega
   ·have : [v] = [u]:=List.append_inj_right' (s₁:=X1++Q1) (by simpa using e) rfl
    injection this with this
    rw [← this,← hr]
    exact decide_eq_false hlt
   ·dsimp only
    rw [Zg (by omega) (by omega)]
    omega
  ·refine ih _ ⟨X1,Q1,v::(Q2++X3),by rw [e0,c1];simp,rfl,by dsimp only;omega,e3,fun w Q e=>?_⟩ (by dsimp only;omega)
   injection e with e _
   rw [← e,← hr]
   exact decide_eq_true hlt
 ·have hX2:X2 = []:=List.length_eq_zero_iff.1 (by omega)
  subst hX2
  rw [List.nil_append] at e0
  refine Zj (fun q:Int×List α=>∃ W1 W2,X3=W1++W2∧q.2=A++(X1++(W1++(y::(W2++B))))∧q.1=(A.length:Int)+X1.length+W1.length) (fun q=>q.1.toNat) ⟨X3,[],by simp,by rw [e0];simp,by dsimp only;omega⟩ (by dsimp only;omega) ?_
  rintro ⟨k,d⟩ rec2 ⟨W1,W2,f0,f1,f2⟩ ih2
  dsimp only at f1 f2 ⊢
  subst f1 f2
  have hw:W1.length+W2.length=X3.length:=by rw [f0];simp
  refine Zc (fun h=>?_) fun h=>?_
  ·rcases List.eq_nil_or_concat W1 with e | ⟨W,w,e⟩
   ·rw [e] at h
    simp at h
    omega
   rw [List.concat_eq_append] at e
   subst e
   simp only [List.length_append,List.length_cons,List.length_nil] at h hw ⊢
   have i1:((A.length:Int)+X1.length+((W.length+(0+1):Nat):Int))=((A++(X1++(W ++ [w]))).length:Int):=by simp<;>omega
   have i2:w64 ((A.length:Int)+X1.length+((W.length+(0+1):Nat):Int) - 1)=((A++(X1++W)).length:Int):=(Zg (by omega) (by omega)).trans (by simp<;>omega)
   have d1:A++(X1++((W ++ [w])++(y::(W2++B))))=(A++(X1++(W ++ [w])))++y::(W2++B):=by simp
   have d2:A++(X1++((W ++ [w])++(y::(W2++B))))=(A++(X1++W))++w::(y::(W2++B)):=by simp
   have g1:atI (A++(X1++((W ++ [w])++(y::(W2++B))))) ((A.length:Int)+X1.length+((W.length+(0+1):Nat):Int))=some y:=by
    rw [d1]
    exact ZT _ _ _ i1
   have g2:atI (A++(X1++((W ++ [w])++(y::(W2++B))))) (w64 ((A.length:Int)+X1.length+((W.length+(0+1):Nat):Int) - 1))=some w:=by
    rw [d2]
    exact ZT _ _ _ i2
   have s1:ZaS (A++(X1++((W ++ [w])++(y::(W2++B))))) ((A.length:Int)+X1.length+((W.length+(0+1):Nat):Int)) w=(A++(X1++W))++w::(w::(W2++B)):=by
    rw [d1,ZaF _ _ _ _ i1]
    simp
   refine Za (v:=w) g2 ?_
   refine Za (v:=y) g1 ?_
   refine Za (v:=y) g1 ?_
   rw [s1]
   refine Za (v:=w) (ZT _ _ _ i2) ?_
   rw [ZaF _ _ _ _ i2]
   refine ih2 _ ⟨W,w::W2,by rw [f0];simp,by simp,?_⟩ ?_
   ·dsimp only
    rw [i2]
    simp only [List.length_append,List.length_cons,List.length_nil]
    omega
   ·dsimp only
    rw [i2]
    simp only [List.length_append,List.length_cons,List.length_nil]
    omega
  ·have hW1:W1 = []:=List.length_eq_zero_iff.1 (by omega)
   subst hW1
   rw [List.nil_append] at f0
   subst f0
   refine Zb ⟨X1++y::X3,by simp,?_,ZfA o (by rw [← e0];exact hX) e3 fun v Q e=>o.asym _ _ (e4 v Q e)⟩
   rw [e0]
   exact List.perm_middle
end
end Go.Proofs.YtjoneoobolnnbaaGreatDoor
namespace Go.Proofs.YtjoneoobolnnbaaGreatDoor
open VL
section
variable {α:Type}
theorem ZjR {β:Type} {cmp:α→α→Option Int} {lt:α→α→Bool} (hc:ZeE cmp lt) (A X Y B:List α) {lo hi mid:Nat} (hlh:lo≤hi) (h1:A.length≤lo) (h2:hi≤A.length+X.length) (h3:hi≤mid) (h4:mid≤lo+Y.length) (hs:(A++(X++(Y++B))).length≤1000000) {p:Int} (hp:p=(mid:Int)+A.length+X.length - 1) {tail:Int→Option β} {R:β→Prop}
  (k:∀ s:Nat,lo≤s→s≤hi→(lo<s→∀ x y,X[s - 1 - A.length]? = some x→Y[mid - s]? = some y→lt y x=false)→(s<hi→∀ x y,X[s - A.length]? = some x→Y[mid - 1 - s]? = some y→lt y x=true)→Tot (tail (s:Int)) R) {a0 b0:Int} (ha0:a0=(lo:Int)) (hb0:b0=(hi:Int)) :
  Tot (ZE Zaj (fun f ((st,r):Int×Int)=>
   if (decide (st<r)) then
    (Zjf .u64 (IntKind.wrap .u64 (w64 (st+r))) 1).bind fun q=>
    (atI (A++(X++(Y++B))) (w64 (p - (w64 q)))).bind fun x=>
    (atI (A++(X++(Y++B))) (w64 q)).bind fun y=>
    (cmp x y).bind fun t=>
    if (!decide (t<0)) then
     f ((w64 ((w64 q)+1)),r)
    else
    f (st,(w64 q))
   else
   tail st) (a0,b0)) R:=by
 simp only [List.length_append] at hs
 refine Zj (fun q:Int×Int=>∃ s r:Nat,q.1=s∧q.2=r∧lo≤s∧s≤r∧r≤hi∧(lo<s→∀ x y,X[s - 1 - A.length]? = some x→Y[mid - s]? = some y→lt y x=false)∧(r<hi→∀ x y,X[r - A.length]? = some x→Y[mid - 1 - r]? = some y→lt y x=true)) (fun q=>(q.2 - q.1).toNat)
  ⟨lo,hi,ha0,hb0,Nat.le_refl _,hlh,Nat.le_refl _,fun h=>absurd h (by omega),fun h=>absurd h (by omega)⟩ (by dsimp only;omega) ?_
 rintro ⟨st,r⟩ rec ⟨s,r',e1,e2,e3,e4,e5,e6,e7⟩ ih
 dsimp only at e1 e2 ⊢
 subst e1 e2
 refine Zc (fun h=>?_) fun h=>?_
 ·refine Zcz (by omega) (by omega) fun q hq=>?_
  rw [hq]
  obtain ⟨c,hcc,c1,c2⟩:∃ c:Nat,((s:Int)+(r':Int)) / 2=(c:Int)∧s≤c∧c<r':=⟨(s+r') / 2,by omega,by omega,by omega⟩
  rw [hcc]
  have ix:c - A.length<X.length:=by omega
  have iy:mid - 1 - c<Y.length:=by omega
  have gx:X[c - A.length]? = some X[c - A.length]:=List.getElem?_eq_getElem ix
  have gy:Y[mid - 1 - c]? = some Y[mid - 1 - c]:=List.getElem?_eq_getElem iy
  have g1:atI (A++(X++(Y++B))) (w64 (p - (c:Int)))=some Y[mid - 1 - c]:=by
   rw [Zg (by omega) (by omega),show p - (c:Int)=((A.length+(X.length+(mid - 1 - c)):Nat):Int) by omega,Zgd,List.getElem?_append_right (by omega),List.getElem?_append_right (by omega),List.getElem?_append_left (by omega)]
   rw [← gy]
   congr 1
   omega
  have g2:atI (A++(X++(Y++B))) (c:Int)=some X[c - A.length]:=by
   rw [Zgd,List.getElem?_append_right (by omega),List.getElem?_append_left (by omega),gx]
  refine Za (v:=Y[mid - 1 - c]) g1 ?_
  refine Za (v:=X[c - A.length]) g2 ?_
  refine Zf (hc _ _) fun t ht=>?_
  refine ZQ (fun hlt=>?_) fun hlt=>?_
  ·refine ih _ ⟨c+1,r',?_,rfl,by omega,by omega,e5,fun _ x y hx hy=>?_,e7⟩ ?_
   ·exact (Zg (by omega) (by omega)).trans (by omega)
   ·have q1:c+1 - 1 - A.length=c - A.length:=by omega
    have q2:mid - (c+1)=mid - 1 - c:=by omega
    rw [q1,gx] at hx
    rw [q2,gy] at hy
    injection hx with hx
    injection hy with hy
    rw [← hx,← hy,← ht]
    exact decide_eq_false hlt
   ·dsimp only
    rw [Zg (by omega) (by omega)]
    omega
  ·refine ih _ ⟨s,c,rfl,rfl,e3,c1,by omega,e6,fun _ x y hx hy=>?_⟩ (by dsimp only;omega)
   rw [gx] at hx
   rw [gy] at hy
   injection hx with hx
   injection hy with hy
   rw [← hx,← hy,← ht]
   exact decide_eq_true hlt
 ·obtain rfl:s=r':=by omega
  exact k s e3 e5 e6 e7
def Zmf (rec:List α→Int→Int→Int→Option (List α)) (mid e p3:Int) (d:List α):Option (List α):=
 letk (fun (b:Bool)=>
  if b then
   (rec d mid e p3).bind fun r=>
   (some r:Option (List α))
  else
  (some d:Option (List α))) fun k=>
 if (decide (mid<e)) then
  k (decide (e<p3))
 else
 k false
def Zmg (rec:List α→Int→Int→Int→Option (List α)) (p1 st mid e p3:Int) (d:List α):Option (List α):=
 letk (fun (b:Bool)=>
  letk (fun (d:List α)=>Zmf rec mid e p3 d) fun k=>
  if b then
   (rec d p1 st mid).bind fun r=>
   k r
  else
  k d) fun k=>
 if (decide (p1<st)) then
  k (decide (st<mid))
 else
 k false
def Zmh (rec:List α→Int→Int→Int→Option (List α)) (p0:List α) (p1 p2 p3 st mid e:Int):Option (List α):=
 letk (fun (b:Bool)=>
  letk (fun (d:List α)=>Zmg rec p1 st mid e p3 d) fun k=>
  if b then
   (ZtK p0 st p2 e).bind fun r=>
   k r
  else
  k p0) fun k=>
 if (decide (st<p2)) then
  k (decide (p2<e))
 else
 k false
def ZiY (cmp:α→α→Option Int):Nat→List α→Int→Int→Int→Option (List α)
 | 0,_,_,_,_=>none
 | mF+1,p0,p1,p2,p3=>
   if (decide ((w64 (p2 - p1))=1)) then
    ZlP cmp p0 p1 p2 p3
   else
   if (decide ((w64 (p3 - p2))=1)) then
    ZlR cmp p0 p1 p2 p3
   else
   (Zjf .u64 (IntKind.wrap .u64 (w64 (p1+p3))) 1).bind fun q=>
   letk (fun (s0:Int) (r0:Int)=>
    ZE Zaj (fun f ((st,r):Int×Int)=>
     if (decide (st<r)) then
      (Zjf .u64 (IntKind.wrap .u64 (w64 (st+r))) 1).bind fun q2=>
      (atI p0 (w64 ((w64 ((w64 ((w64 q)+p2)) - 1)) - (w64 q2)))).bind fun x=>
      (atI p0 (w64 q2)).bind fun y=>
      (cmp x y).bind fun t=>
      if (!decide (t<0)) then
       f ((w64 ((w64 q2)+1)),r)
      else
      f (st,(w64 q2))
     else
     Zmh (ZiY cmp mF) p0 p1 p2 p3 st (w64 q) (w64 ((w64 ((w64 q)+p2)) - st))) (s0,r0)) fun k=>
   if (decide ((w64 q)<p2)) then
    k (w64 ((w64 ((w64 q)+p2)) - p3)) (w64 q)
   else
   k p1 p2
theorem ZdL {β:Type} {p q:Prop} [Decidable p] [Decidable q] {k:Bool→Option β} {R:β→Prop} (h1:p→q→Tot (k true) R) (h2:¬ (p∧q)→Tot (k false) R):Tot (letk k fun k=>if decide p=true then k (decide q) else k false) R:=by
 show Tot (if decide p=true then k (decide q) else k false) R
 refine Zc (fun hp=>?_) fun hp=>h2 fun h=>hp h.1
 by_cases hq:q
 ·rw [decide_eq_true hq]
  exact h1 hp hq
 ·rw [decide_eq_false hq]
  exact h2 fun h=>hq h.2
theorem Zk2 {cmp:α→α→Option Int} {lt:α→α→Bool} (o:Ord lt) (hc:ZeE cmp lt):∀ (f:Nat) (A X Y B:List α),0<X.length→0<Y.length→X.length+Y.length≤2 ^ f→(A++(X++(Y++B))).length≤1000000→Srt lt X→Srt lt Y→∀ {a m b:Int},a=(A.length:Int)→m=(A.length:Int)+X.length→b=(A.length:Int)+X.length+Y.length→
  Tot (ZiY cmp (f+1) (A++(X++(Y++B))) a m b) fun r=>∃ Z,r=A++(Z++B)∧Z.Perm (X++Y)∧Srt lt Z:=by
 intro f
 induction f with
 | zero=>intro A X Y B x0 y0 hf;simp at hf;omega
 | succ f ihf=>
 intro A X Y B x0 y0 hf hs hX hY a m b ha hm hb
 have hs':=hs
 simp only [List.length_append] at hs'
 unfold ZiY
 refine Zc (fun h=>?_) fun hn1=>?_
 ·rw [Zg (by omega) (by omega)] at h
  match X,x0 with
  | [x],_=>
    refine (ZlQ o hc A Y B x hY (by simpa using hs) ha (by simpa using hm) (by simpa using hb)).mono fun r ⟨Z,h1,h2,h3⟩=>⟨Z,h1,h2,h3⟩
  | _::_::_,_=>simp only [List.length_cons] at hm;omega
 rw [Zg (by omega) (by omega)] at hn1
 refine Zc (fun h=>?_) fun hn2=>?_
 ·rw [Zg (by omega) (by omega)] at h
  match Y,y0 with
  | [y],_=>
    refine (ZlS o hc A X B y hX (by simpa using hs) ha hm).mono fun r ⟨Z,h1,h2,h3⟩=>⟨Z,h1,h2.trans (List.perm_append_singleton y X).symm,h3⟩
  | _::_::_,_=>simp only [List.length_cons] at hb;omega
 rw [Zg (by omega) (by omega)] at hn2
 refine Zcz (by omega) (by omega) fun q hq=>?_
 obtain ⟨mid,hmid⟩:∃ mid:Nat,(a+b) / 2=(mid:Int):=⟨((a+b) / 2).toNat,by omega⟩
 rw [hq,hmid]
 have hn:w64 ((mid:Int)+m)=(mid:Int)+m:=Zg (by omega) (by omega)
 rw [hn,Zg (n:=(mid:Int)+m - 1) (by omega) (by omega)]
 have hp2:2 ^ (f+1)=2 ^ f+2 ^ f:=by rw [Nat.pow_succ];omega
 have main:∀ (lo hi:Nat),lo≤hi→A.length≤lo→hi≤A.length+X.length→hi≤mid→mid≤lo+Y.length→(lo=A.length∨mid=lo+Y.length)→(hi=A.length+X.length∨hi=mid)→∀ {a0 b0:Int},a0=lo→b0=hi→_:=fun lo hi l1 l2 l3 l4 l5 l6 l7 a0 b0 ea eb=>
  ZjR (lt:=lt) (R:=fun r=>∃ Z,r=A++(Z++B)∧Z.Perm (X++Y)∧Srt lt Z) hc A X Y B l1 l2 l3 l4 l5 hs (p:=(mid:Int)+m - 1) (by omega) (tail:=fun st=>Zmh (ZiY cmp (f+1)) (A++(X++(Y++B))) a m b st (mid:Int) (w64 ((mid:Int)+m - st))) (fun s k1 k2 k3 k4=>by
   have he:w64 ((mid:Int)+m - (s:Int))=(mid:Int)+m - s:=Zg (by omega) (by omega)
   rw [he]
   obtain ⟨X1,X2,cx,lx⟩:=ZcJ X (s - A.length) (by omega)
   obtain ⟨Y1,Y2,cy,ly⟩:=ZcJ Y (mid - s) (by omega)
   have hx2:X1.length+X2.length=X.length:=by rw [cx,List.length_append]
   have hy2:Y1.length+Y2.length=Y.length:=by rw [cy,List.length_append]
   have sx:Srt lt (X1++X2):=by rw [← cx];exact hX
   have sy:Srt lt (Y1++Y2):=by rw [← cy];exact hY
   obtain ⟨sx1,sx2,_⟩:=List.pairwise_append.1 sx
   obtain ⟨sy1,sy2,_⟩:=List.pairwise_append.1 sy
   have hpart:=Zj8 o sx sy (fun P x y Q e1 e2=>by
    have z1:0<X1.length:=by rw [e1];simp
    have z2:0<Y2.length:=by rw [e2];simp
    refine k3 (by omega) x y ?_ ?_
    ·rw [cx,List.getElem?_append_left (by omega),e1]
     have:s - 1 - A.length=P.length:=by
      have:X1.length=P.length+1:=by rw [e1];simp
      omega
     rw [this]
     simp
    ·rw [cy,List.getElem?_append_right (by omega),ly,Nat.sub_self,e2]
     rfl) (fun P x y Q e1 e2=>by
    have z1:0<Y1.length:=by rw [e1];simp
    have z2:0<X2.length:=by rw [e2];simp
    refine k4 (by omega) x y ?_ ?_
    ·rw [cx,List.getElem?_append_right (by omega),lx,Nat.sub_self,e2]
     rfl
    ·rw [cy,List.getElem?_append_left (by omega),e1]
     have:mid - 1 - s=P.length:=by
      have:Y1.length=P.length+1:=by rw [e1];simp
      omega
     rw [this]
     simp)
   have d0:A++(X++(Y++B))=(A++X1)++(X2++(Y1++(Y2++B))):=by rw [cx,cy];simp
   have hC:∀ Z1:List α,Z1.Perm (X1++Y1)→Srt lt Z1→Tot (Zmf (ZiY cmp (f+1)) (mid:Int) ((mid:Int)+m - s) b (A++(Z1++(X2++(Y2++B))))) fun r=>∃ Z,r=A++(Z++B)∧Z.Perm (X++Y)∧Srt lt Z:=fun Z1 p1 q1=>by
    have hz1:Z1.length=mid - A.length:=by
     have:=p1.length_eq
     rw [List.length_append] at this
     omega
    have fin:∀ Z2:List α,Z2.Perm (X2++Y2)→Srt lt Z2→∃ Z,(A++Z1)++(Z2++B)=A++(Z++B)∧Z.Perm (X++Y)∧Srt lt Z:=fun Z2 p2 q2=>by
     refine ⟨Z1++Z2,by simp,?_,Zj9 q1 q2 p1 p2 hpart⟩
     refine (p1.append p2).trans ?_
     rw [cx,cy]
     have h1:(X1++Y1++(X2++Y2)).Perm (X1++(X2++(Y1++Y2))):=by
      rw [List.append_assoc]
      refine List.Perm.append_left X1 ?_
      rw [← List.append_assoc,← List.append_assoc]
      exact List.Perm.append_right Y2 List.perm_append_comm
     refine h1.trans ?_
     simp
    unfold Zmf
    refine ZdL (fun h1 h2=>?_) fun h=>?_
    ·refine Zaw (fun _=>?_) fun e=>by cases e
     have d1:A++(Z1++(X2++(Y2++B)))=(A++Z1)++(X2++(Y2++B)):=by simp
     rw [d1]
     refine Zf (ihf (A++Z1) X2 Y2 B (by omega) (by omega) (by omega) (by simp only [List.length_append];omega) sx2 sy2 (by rw [List.length_append];omega) (by rw [List.length_append];omega) (by rw [List.length_append];omega)) fun r ⟨Z2,h1,h2,h3⟩=>?_
     rw [h1]
     exact Zb (fin Z2 h2 h3)
    ·refine Zaw (fun e=>by cases e) fun _=>?_
     have hz:X2 = []∨Y2 = []:=by
      by_cases hx:X2.length=0
      ·exact .inl (List.length_eq_zero_iff.1 hx)
      ·exact .inr (List.length_eq_zero_iff.1 (by omega))
     have h2:Srt lt (X2++Y2):=by
      rcases hz with e | e
      ·rw [e];exact sy2
      ·rw [e,List.append_nil];exact sx2
     refine Zb ?_
     have:=fin (X2++Y2) (List.Perm.refl _) h2
     simpa using this
   have hD:Tot (Zmg (ZiY cmp (f+1)) a (s:Int) (mid:Int) ((mid:Int)+m - s) b (A++(X1++(Y1++(X2++(Y2++B)))))) fun r=>∃ Z,r=A++(Z++B)∧Z.Perm (X++Y)∧Srt lt Z:=by
    unfold Zmg
    refine ZdL (fun h1 h2=>?_) fun h=>?_
    ·refine ZJ ?_
     refine Zaw (fun _=>?_) fun e=>by cases e
     refine Zf (Q:=fun r=>∃ Z,r=A++(Z++(X2++(Y2++B)))∧Z.Perm (X1++Y1)∧Srt lt Z) (ihf A X1 Y1 (X2++(Y2++B)) (by omega) (by omega) (by omega) (by simp only [List.length_append];omega) sx1 sy1 ha (by omega) (by omega)) fun r hr=>?_
     obtain ⟨Z1,rfl,h2,h3⟩:=hr
     exact hC Z1 h2 h3
    ·refine ZJ ?_
     refine Zaw (fun e=>by cases e) fun _=>?_
     have hz:X1 = []∨Y1 = []:=by
      by_cases hx:X1.length=0
      ·exact .inl (List.length_eq_zero_iff.1 hx)
      ·exact .inr (List.length_eq_zero_iff.1 (by omega))
     have h2:Srt lt (X1++Y1):=by
      rcases hz with e | e
      ·rw [e];exact sy1
      ·rw [e,List.append_nil];exact sx1
     have:=hC (X1++Y1) (List.Perm.refl _) h2
     simpa using this
   unfold Zmh
   refine ZdL (fun h1 h2=>?_) fun h=>?_
   ·refine ZJ ?_
    refine Zaw (fun _=>?_) fun e=>by cases e
    rw [d0]
    refine Zf (Q:=fun r=>r=(A++X1)++(Y1++(X2++(Y2++B)))) (Zpr (A++X1) X2 Y1 (Y2++B) (fun e=>by rw [e] at hx2;simp at hx2;omega) (fun e=>by rw [e] at ly;simp at ly;omega) (by simp only [List.length_append];omega) (by rw [List.length_append];omega) (by rw [List.length_append];omega) (by rw [List.length_append];omega)) fun r hr=>?_
    rw [hr]
    simpa using hD
   ·refine ZJ ?_
    refine Zaw (fun e=>by cases e) fun _=>?_
    have hz:X2 = []∨Y1 = []:=by
     by_cases hx:X2.length=0
     ·exact .inl (List.length_eq_zero_iff.1 hx)
     ·exact .inr (List.length_eq_zero_iff.1 (by omega))
    rw [d0]
    rcases hz with e | e
    ·rw [e] at hD ⊢
     simpa using hD
    ·rw [e] at hD ⊢
     simpa using hD) ea eb
 refine ZJ ?_
 refine Zc (fun h=>?_) fun h=>?_
 ·exact main (mid+A.length+X.length - (A.length+X.length+Y.length)) mid (by omega) (by omega) (by omega) (by omega) (by omega) (.inr (by omega)) (.inr rfl) (by rw [Zg (by omega) (by omega)];omega) rfl
 ·exact main A.length (A.length+X.length) (by omega) (by omega) (by omega) (by omega) (by omega) (.inl rfl) (.inl rfl) ha hm
end
end Go.Proofs.YtjoneoobolnnbaaGreatDoor
namespace Go.Proofs.YtjoneoobolnnbaaGreatDoor
open VL
section
variable {α:Type}
inductive Runs (lt:α→α→Bool) (bs:Nat):List α→Prop
 | last (X:List α) (h:Srt lt X) (hl:X.length≤bs):Runs lt bs X
 | cons (X L:List α) (h:Srt lt X) (hl:X.length=bs) (hr:Runs lt bs L):Runs lt bs (X++L)
variable {lt:α→α→Bool}
theorem Zb0 {bs:Nat} {L:List α} (h:Runs lt bs L) (hl:L.length≤bs):Srt lt L:=by
 cases h with
 | last X h1 h2=>exact h1
 | cons X L h1 h2 h3=>
   rw [List.length_append] at hl
   have:L = []:=List.length_eq_zero_iff.1 (by omega)
   subst this
   rw [List.append_nil]
   exact h1
theorem ZfW {bs:Nat} {L:List α} (h:Runs lt bs L) (hl:bs<L.length):∃ X L',L=X++L'∧X.length=bs∧Srt lt X∧Runs lt bs L':=by
 cases h with
 | last X h1 h2=>omega
 | cons X L h1 h2 h3=>exact ⟨X,L,rfl,h2,h1,h3⟩
theorem ZhR {bs:Nat} (hb:0<bs) {L:List α} (h:Runs lt bs L) (hl:2 * bs≤L.length):∃ X Y L',L=X++(Y++L')∧X.length=bs∧Y.length=bs∧Srt lt X∧Srt lt Y∧Runs lt bs L':=by
 obtain ⟨X,L1,rfl,h1,h2,h3⟩:=ZfW h (by omega)
 rw [List.length_append] at hl
 cases h3 with
 | last Y k1 k2=>exact ⟨X,L1,[],by simp,h1,by omega,h2,k1,.last [] List.Pairwise.nil (Nat.zero_le _)⟩
 | cons Y L k1 k2 k3=>exact ⟨X,Y,L,rfl,h1,k2,h2,k1,k3⟩
def Zmx (cmp:α→α→Option Int) (p0:List α) (p1:Int):Option (List α):=
 ZE Zaj (fun f ((a,b,d):Int×Int×List α)=>
  if (decide (b≤p1)) then
   (Zpq cmp d a b).bind fun d=>
   f (b,(w64 (b+20)),d)
  else
  (Zpq cmp d a p1).bind fun d=>
  ZE Zaj (fun g ((bs,d):Int×List α)=>
   if (decide (bs<p1)) then
    ZE Zaj (fun h ((a,b,d):Int×Int×List α)=>
     if (decide (b≤p1)) then
      (ZiY cmp 64 d a (w64 (a+bs)) b).bind fun d=>
      h (b,(w64 (b+(w64 (2 * bs)))),d)
     else
     letk (fun (d:List α)=>
      g ((w64 (bs * 2)),d)) fun k=>
     if (decide ((w64 (a+bs))<p1)) then
      (ZiY cmp 64 d a (w64 (a+bs)) p1).bind fun d=>
      k d
     else
     k d) (0,(w64 (2 * bs)),d)
   else
   (some d:Option (List α))) (20,d)) (0,20,p0)
theorem ZpK:(1000000:Nat)≤2 ^ 63:=by decide
theorem Zmy {cmp:α→α→Option Int} (o:Ord lt) (hc:ZeE cmp lt) (l:List α) (hl:l.length≤100000) {n:Int} (hn:n=(l.length:Int)):Tot (Zmx cmp l n) fun r=>r.Perm l∧Srt lt r:=by
 unfold Zmx
 refine Zj (fun q:Int×Int×List α=>∃ P W,q.2.2=P++W∧q.1=(P.length:Int)∧q.2.1=(P.length:Int)+20∧(P++W).Perm l∧∀ V,Runs lt 20 V→Runs lt 20 (P++V)) (fun q=>(n - q.1).toNat) ⟨[],l,rfl,rfl,rfl,List.Perm.refl _,fun V h=>h⟩ (by dsimp only;omega) ?_
 rintro ⟨a,b,d⟩ rec ⟨P,W,e1,e2,e3,e4,e5⟩ ih
 dsimp only at e1 e2 e3 ⊢
 subst e1 e2 e3
 have hlen:P.length+W.length=l.length:=by
  have:=e4.length_eq
  rwa [List.length_append] at this
 refine Zc (fun h=>?_) fun h=>?_
 ·obtain ⟨X,W',c1,c2⟩:=ZcJ W 20 (by omega)
  have hw:X.length+W'.length=W.length:=by rw [c1,List.length_append]
  refine Zf (Q:=fun r=>∃ Z,r=P++(Z++W')∧Z.Perm X∧Srt lt Z) (by rw [c1];exact ZhL o hc P X W' (by simp only [List.length_append];omega) rfl (by omega)) fun r hr=>?_
  obtain ⟨Z,rfl,h2,h3⟩:=hr
  have hz:=h2.length_eq
  refine ih _ ⟨P++Z,W',by simp,by dsimp only;rw [List.length_append];omega,?_,?_,fun V hV=>?_⟩ ?_
  ·dsimp only
   rw [Zg (by omega) (by omega),List.length_append]
   omega
  ·refine List.Perm.trans ?_ e4
   rw [c1,List.append_assoc]
   exact List.Perm.append_left P (h2.append_right W')
  ·rw [List.append_assoc]
   exact e5 _ (.cons Z V h3 (by omega) hV)
  ·dsimp only
   omega
 refine Zf (Q:=fun r=>∃ Z,r=P++(Z ++ [])∧Z.Perm W∧Srt lt Z) (by
  have:=ZhL o hc P W [] (by simp only [List.length_append,List.length_nil];omega) (a:=(P.length:Int)) (b:=n) rfl (by omega)
  simpa using this) fun r hr=>?_
 obtain ⟨Z,rfl,h2,h3⟩:=hr
 have hz:=h2.length_eq
 refine Zj (fun q:Int×List α=>∃ bs:Nat,q.1=(bs:Int)∧0<bs∧bs≤200000∧Runs lt bs q.2∧q.2.Perm l) (fun q=>(200001 - q.1).toNat) ⟨20,rfl,by omega,by omega,?_,?_⟩ (by dsimp only;omega) ?_
 ·dsimp only
  rw [List.append_nil]
  exact e5 _ (.last Z h3 (by omega))
 ·dsimp only
  rw [List.append_nil]
  exact (List.Perm.append_left P h2).trans e4
 rintro ⟨bsI,d⟩ rec2 ⟨bs,f1,f2,f3,f4,f5⟩ ih2
 dsimp only at f1 f4 f5 ⊢
 subst f1
 have hd:=f5.length_eq
 refine Zc (fun hlt=>?_) fun hlt=>?_
 ·rw [Zg (n:=2 * (bs:Int)) (by omega) (by omega)]
  refine Zj (fun q:Int×Int×List α=>∃ P W,q.2.2=P++W∧q.1=(P.length:Int)∧q.2.1=(P.length:Int)+2 * bs∧(P++W).Perm l∧(∀ V,Runs lt (2 * bs) V→Runs lt (2 * bs) (P++V))∧Runs lt bs W) (fun q=>(n - q.1).toNat) ⟨[],d,rfl,rfl,by simp,f5,fun V h=>h,f4⟩ (by dsimp only;omega) ?_
  rintro ⟨a2,b2,d2⟩ rec3 ⟨P2,W2,g1,g2,g3,g4,g5,g6⟩ ih3
  dsimp only at g1 g2 g3 ⊢
  subst g1 g2 g3
  have hl2:P2.length+W2.length=l.length:=by
   have:=g4.length_eq
   rwa [List.length_append] at this
  have e1:w64 ((P2.length:Int)+bs)=(P2.length:Int)+bs:=Zg (by omega) (by omega)
  rw [e1]
  refine Zc (fun hle=>?_) fun hle=>?_
  ·obtain ⟨X,Y,L,rfl,x1,y1,x2,y2,hL⟩:=ZhR f2 g6 (by omega)
   simp only [List.length_append] at hl2
   refine Zf (Zk2 o hc 63 P2 X Y L (by omega) (by omega) (Nat.le_trans (by omega) ZpK) (by simp only [List.length_append];omega) x2 y2 rfl (by omega) (by omega)) fun r hr=>?_
   obtain ⟨Z2,rfl,k2,k3⟩:=hr
   have hz2:=k2.length_eq
   rw [List.length_append] at hz2
   refine ih3 _ ⟨P2++Z2,L,by simp,by dsimp only;rw [List.length_append];omega,?_,?_,fun V hV=>?_,hL⟩ ?_
   ·dsimp only
    rw [Zg (by omega) (by omega),List.length_append]
    omega
   ·refine List.Perm.trans ?_ g4
    rw [List.append_assoc]
    refine List.Perm.append_left P2 ?_
    have:=k2.append_right L
    simpa using this
   ·rw [List.append_assoc]
    exact g5 _ (.cons Z2 V k3 (by omega) hV)
   ·dsimp only
    omega
  refine Zx (fun k=>∀ Z2:List α,Z2.Perm W2→Srt lt Z2→Tot (k (P2++Z2)) fun r=>r.Perm l∧Srt lt r) (fun Z2 p1 q1=>?_) fun k hk=>?_
  ·have hz2:=p1.length_eq
   refine ih2 _ ⟨2 * bs,?_,by omega,by omega,g5 _ (.last Z2 q1 (by omega)),(List.Perm.append_left P2 p1).trans g4⟩ ?_
   ·dsimp only
    rw [Zg (by omega) (by omega)]
    omega
   ·dsimp only
    rw [Zg (by omega) (by omega)]
    omega
  ·refine Zc (fun hm=>?_) fun hm=>?_
   ·obtain ⟨X,Y,rfl,x1,x2,hY⟩:=ZfW g6 (by omega)
    simp only [List.length_append] at hl2
    refine Zf (Q:=fun r=>∃ Z,r=P2++(Z ++ [])∧Z.Perm (X++Y)∧Srt lt Z) (by
     have:=Zk2 o hc 63 P2 X Y [] (by omega) (by omega) (Nat.le_trans (by omega) ZpK) (by simp only [List.length_append,List.length_nil];omega) x2 (Zb0 hY (by omega)) (a:=(P2.length:Int)) (m:=(P2.length:Int)+bs) (b:=n) rfl (by omega) (by omega)
     simpa using this) fun r hr=>?_
    obtain ⟨Z2,rfl,k2,k3⟩:=hr
    rw [List.append_nil]
    exact hk Z2 k2 k3
   ·exact hk W2 (List.Perm.refl _) (Zb0 g6 (by omega))
 ·exact Zb ⟨f5,Zb0 f4 (by omega)⟩
end
end Go.Proofs.YtjoneoobolnnbaaGreatDoor
namespace Go.Proofs.YtjoneoobolnnbaaGreatDoor
open VL
instance (a b:Title):Decidable (tlt a b):=inferInstanceAs (Decidable (Title.cmp a b<0))
def Znt (a b:Title):Bool:=decide (tlt a b)
theorem ZbV {a b:Title} (h:tlt a b):¬ tlt b a:=fun k=>ZL a (ZcN h k)
theorem Zhs {a b:Title}:¬ tlt b a↔tlt a b∨a=b:=by
 constructor
 ·intro h
  by_cases e:a=b
  ·exact .inr e
  ·rcases Zie e with k | k
   ·exact .inl k
   ·exact absurd k h
 ·rintro (h | rfl)
  ·exact ZbV h
  ·exact ZL a
theorem ZeA {a b c:Title} (h:¬ tlt b a) (k:¬ tlt c b):¬ tlt c a:=by
 rw [Zhs] at *
 rcases h with h | rfl
 ·rcases k with k | rfl
  ·exact .inl (ZcN h k)
  ·exact .inl h
 ·exact k
theorem ZjB:Ord Znt:=⟨fun a b h=>decide_eq_false (ZbV (of_decide_eq_true h)),fun a b c h k=>decide_eq_false (ZeA (of_decide_eq_false h) (of_decide_eq_false k))⟩
structure KeyF where
 seq:Int
 title:Title
 number:Int
def ZjC (a b:KeyF):Prop:=a.seq<b.seq∨(a.seq=b.seq∧(tlt a.title b.title∨(a.title=b.title∧a.number<b.number)))
instance (a b:KeyF):Decidable (ZjC a b):=by unfold ZjC;infer_instance
def kLt (a b:KeyF):Bool:=decide (ZjC a b)
theorem Zht {a b:KeyF} (h:ZjC a b):¬ ZjC b a:=by
 unfold ZjC at *
 rintro (k | ⟨k1,k2⟩)
 ·rcases h with h | ⟨h1,_⟩<;>omega
 ·rcases h with h | ⟨_,h2⟩
  ·omega
  ·rcases h2 with h2 | ⟨h3,h4⟩
   ·rcases k2 with k2 | ⟨k3,_⟩
    ·exact ZbV h2 k2
    ·rw [k3] at h2
     exact ZL _ h2
   ·rcases k2 with k2 | ⟨_,k4⟩
    ·rw [h3] at k2
     exact ZL _ k2
    ·omega
theorem ZbI {a b:KeyF}:¬ ZjC b a↔a.seq<b.seq∨(a.seq=b.seq∧(tlt a.title b.title∨(a.title=b.title∧a.number≤b.number))):=by
 constructor
 ·intro h
  unfold ZjC at h
  rw [not_or,Classical.not_and_iff_not_or_not,not_or,Classical.not_and_iff_not_or_not] at h
  obtain ⟨h1,h2⟩:=h
  by_cases e:a.seq=b.seq
  ·refine .inr ⟨e,?_⟩
   rcases h2 with h2 | ⟨h2,h3⟩
   ·exact absurd e.symm h2
   ·rcases Zhs.1 h2 with k | k
    ·exact .inl k
    ·refine .inr ⟨k,?_⟩
     rcases h3 with h3 | h3
     ·exact absurd k.symm h3
     ·omega
  ·exact .inl (by omega)
 ·rintro (h | ⟨h1,h2 | ⟨h3,h4⟩⟩) k
  ·rcases k with k | ⟨k1,_⟩<;>omega
  ·rcases k with k | ⟨_,k2 | ⟨k3,_⟩⟩
   ·omega
   ·exact ZbV h2 k2
   ·rw [k3] at h2
    exact ZL _ h2
  ·rcases k with k | ⟨_,k2 | ⟨_,k4⟩⟩
   ·omega
   ·rw [h3] at k2
    exact ZL _ k2
   ·omega
theorem kLt_ord:Ord kLt:=⟨fun a b h=>decide_eq_false (Zht (of_decide_eq_true h)),fun a b c h k=>decide_eq_false (by
 have h1:=ZbI.1 (of_decide_eq_false h)
 have h2:=ZbI.1 (of_decide_eq_false k)
 refine ZbI.2 ?_
 rcases h1 with h1 | ⟨h1,h3⟩
 ·rcases h2 with h2 | ⟨h2,_⟩<;>exact .inl (by omega)
 ·rcases h2 with h2 | ⟨h2,h4⟩
  ·exact .inl (by omega)
  ·refine .inr ⟨by omega,?_⟩
   rcases h3 with h3 | ⟨h3,h5⟩
   ·rcases h4 with h4 | ⟨h4,_⟩
    ·exact .inl (ZcN h3 h4)
    ·rw [← h4]
     exact .inl h3
   ·rcases h4 with h4 | ⟨h4,h6⟩
    ·rw [h3]
     exact .inl h4
    ·exact .inr ⟨h3.trans h4,by omega⟩)⟩
theorem Ord.of {α β:Type} {lt:β→β→Bool} (o:Ord lt) (f:α→β):Ord fun a b=>lt (f a) (f b):=⟨fun a b=>o.asym _ _,fun a b c=>o.tr _ _ _⟩
theorem Zf5 {α:Type} {x:Option α} {v:α} (h:Tot x fun r=>r=v):x=some v:=by
 obtain ⟨w,h1,h2⟩:=h
 rw [h1,h2]
theorem ZdA (x y:Int):Zav x y=some (Lib.compareInt x y):=by
 have e:∀ z:Int,Za2 z=some false:=fun z=>by
  unfold Za2
  simp
 unfold Zav Lib.compareInt
 rw [e,e,Option.bind_some,Option.bind_some]
 by_cases h1:x<y
 ·simp [h1]
 ·by_cases h2:y<x
  ·simp [h1,h2]
  ·simp [h1,h2]
theorem Zwn (l:List Int) (hl:l.length≤1000):Zct l=some (orI l):=by
 refine Zf5 ?_
 unfold Zct
 refine Zj (fun i:Int=>∃ n:Nat,i=n∧n≤l.length∧orI l=orI (l.drop n)) (fun i=>((l.length:Int) - i).toNat) ⟨0,rfl,Nat.zero_le _,by simp⟩ (by first | omega | (dsimp only;omega)) ?_
 rintro i rec ⟨n,rfl,hn,he⟩ ih
 refine Zc (fun h=>?_) fun h=>?_
 ·refine Zl (by omega) h fun e _ hg=>?_
  have hlt:n<l.length:=by omega
  rw [Int.toNat_natCast,List.getElem?_eq_getElem hlt] at hg
  injection hg with hg
  have hd:l.drop n=e::l.drop (n+1):=by rw [List.drop_eq_getElem_cons hlt,hg]
  rw [hd] at he
  refine ZQ (fun hne=>Zb ?_) fun h0=>?_
  ·rw [he]
   show e=if e=0 then _ else e
   rw [if_neg hne]
  ·refine ih _ ⟨n+1,(Zg (by omega) (by omega)).trans (by omega),by omega,?_⟩ ?_
   ·rw [he]
    show (if e=0 then _ else e)=_
    rw [if_pos h0]
   ·rw [Zg (by omega) (by omega)]
    omega
 ·have hd:l.drop n = []:=List.drop_eq_nil_of_le (by omega)
  rw [hd] at he
  exact Zb he.symm
theorem ZcG (a b:Title):Zac a b=some (Title.cmp a b):=by
 unfold Zac strings_Compare
 rw [ZdA,Option.bind_some,Option.bind_some,Zwn _ (by simp),Option.bind_some]
 rfl
theorem Zfn:ZeE Zac Znt:=fun a b=>ZkW (ZcG a b) rfl
theorem Zyq (a b:Title):Title.cmp a b=0↔a=b:=by
 constructor
 ·intro h
  by_cases e:a=b
  ·exact e
  ·exfalso
   rw [ZhF] at h
   split at h
   ·cases h
   ·split at h
    ·cases h
    ·split at h
     ·cases h
     ·split at h
      ·rename_i h1 h2 h3 h4
       exact e (Zkl (by omega) (Zkk h4))
      ·cases h
 ·rintro rfl
  rw [ZhF]
  have h3:¬ Op.bytesLess a.name.toList a.name.toList=true:=fun h=>Zdp a.name h
  rw [if_neg (by omega),if_neg (by omega),if_neg h3,if_pos rfl]
def Zqh (x:Num):KeyF:=⟨x.seq,x.item.title,x.item.number⟩
def nLt (x y:Num):Bool:=kLt (Zqh x) (Zqh y)
theorem ZlU:Ord nLt:=kLt_ord.of Zqh
theorem Zhu (x y:Num):ZS x y=some (orI [Lib.compareInt x.seq y.seq,Title.cmp x.item.title y.item.title,Lib.compareInt x.item.number y.item.number]):=by
 unfold ZS
 rw [ZdA,ZdA,ZcG,Option.bind_some,Option.bind_some,Option.bind_some,Zwn _ (by simp),Option.bind_some]
theorem Zhv:ZeE ZS nLt:=fun x y=>ZkW (Zhu x y) (by
 unfold nLt kLt ZjC Zqh
 dsimp only
 apply decide_eq_decide.2
 show (if Lib.compareInt x.seq y.seq=0 then (if Title.cmp x.item.title y.item.title=0 then (if Lib.compareInt x.item.number y.item.number=0 then 0 else Lib.compareInt x.item.number y.item.number) else Title.cmp x.item.title y.item.title) else Lib.compareInt x.seq y.seq)<0↔_
 have hc:∀ a b:Int,(Lib.compareInt a b=0↔a=b)∧(Lib.compareInt a b<0↔a<b):=fun a b=>by
  unfold Lib.compareInt
  split
  ·constructor<;>constructor<;>intro h<;>omega
  ·split
   ·constructor<;>constructor<;>intro h<;>omega
   ·constructor<;>constructor<;>intro h<;>omega
 obtain ⟨s1,s2⟩:=hc x.seq y.seq
 obtain ⟨n1,n2⟩:=hc x.item.number y.item.number
 have t1:=Zyq x.item.title y.item.title
 by_cases hs:x.seq=y.seq
 ·rw [if_pos (s1.2 hs)]
  by_cases ht:x.item.title=y.item.title
  ·rw [if_pos (t1.2 ht)]
   by_cases hn:x.item.number=y.item.number
   ·rw [if_pos (n1.2 hn)]
    constructor
    ·intro h
     omega
    ·rintro (h | ⟨_,h | ⟨_,h⟩⟩)
     ·omega
     ·rw [ht] at h
      exact absurd h (ZL _)
     ·omega
   ·rw [if_neg (fun h=>hn (n1.1 h))]
    constructor
    ·intro h
     exact .inr ⟨hs,.inr ⟨ht,n2.1 h⟩⟩
    ·rintro (h | ⟨_,h | ⟨_,h⟩⟩)
     ·omega
     ·rw [ht] at h
      exact absurd h (ZL _)
     ·exact n2.2 h
  ·rw [if_neg (fun h=>ht (t1.1 h))]
   constructor
   ·intro h
    exact .inr ⟨hs,.inl h⟩
   ·rintro (h | ⟨_,h | ⟨h,_⟩⟩)
    ·omega
    ·exact h
    ·exact absurd h ht
 ·rw [if_neg (fun h=>hs (s1.1 h))]
  constructor
  ·intro h
   exact .inl (s2.1 h)
  ·rintro (h | ⟨h,_⟩)
   ·exact s2.2 h
   ·exact absurd h hs)
theorem Zpc:∀ f,Zu f=ZiY ZS f
 | 0=>rfl
 | f+1=>by
   funext p0 p1 p2 p3
   rw [Zu,Zpc f,ZiY]
   rfl
theorem Zpd (l:List Num) (n:Int):ZI l n=Zmx ZS l n:=by
 unfold ZI
 rw [Zpc]
 rfl
theorem ZjE (l:List Num) (hl:l.length≤100000):Tot (ZG l) fun r=>r.Perm l∧Srt nLt r:=by
 unfold ZG
 refine Zf (Q:=fun r=>r.Perm l∧Srt nLt r) ?_ fun r hr=>Zb hr
 rw [Zpd]
 exact Zmy ZlU Zhv l hl rfl
theorem Zpe:ZP=Zpq Zac:=rfl
theorem ZlV:(List.range 13).all (fun n=>(Zbo (IntKind.wrap .u64 (n:Int))).isSome)=true:=by kernel_rfl
theorem Zti (n:Nat) (h:n≤12):Tot (Zbo (IntKind.wrap .u64 (n:Int))) fun _=>True:=by
 have:=List.all_eq_true.1 ZlV n (List.mem_range.2 (by omega))
 obtain ⟨v,hv⟩:=Option.isSome_iff_exists.1 this
 exact ⟨v,hv,trivial⟩
theorem ZlW (l:List Title) (hl:l.length≤12):Tot (ZY l) fun r=>r.Perm l∧Srt Znt r:=by
 unfold ZY
 refine Zf (Zti l.length hl) fun k _=>?_
 refine Zf (Q:=fun r=>r.Perm l∧Srt Znt r) ?_ fun r hr=>Zb hr
 unfold Zae
 refine Zj (fun _=>True) (fun _=>0) trivial (by omega) ?_
 rintro _ rec _ _
 rw [Zg (by omega) (by omega)]
 refine Zc (fun _=>?_) fun h=>absurd (by omega) h
 refine Zf (Q:=fun r=>∃ Z,r = []++(Z ++ [])∧Z.Perm l∧Srt Znt Z) (by
  have:=ZhL ZjB Zfn [] l [] (by simp;omega) (a:=0) (b:=(l.length:Int)) rfl (by simp)
  rw [Zpe]
  simpa using this) fun r hr=>?_
 obtain ⟨Z,rfl,h2,h3⟩:=hr
 rw [List.nil_append,List.append_nil]
 exact Zb ⟨h2,h3⟩
theorem Zhw (l:List Title) (hl:l.length≤1000000) (h:l.Nodup):Zad l=some l:=by
 refine Zf5 ?_
 unfold Zad
 refine Zc (fun _=>Zb rfl) fun h2=>?_
 refine Zj (fun i:Int=>1≤i∧i≤(l.length:Int)) (fun i=>((l.length:Int) - i).toNat) ⟨by omega,by omega⟩ (by first | omega | (dsimp only;omega)) ?_
 rintro i rec ⟨h0,h1⟩ ih
 refine Zc (fun hlt=>?_) fun _=>Zb rfl
 refine Zl (by omega) hlt fun e _ he=>?_
 rw [Zg (by omega) (by omega)]
 refine Zl (by omega) (by omega) fun e2 _ he2=>?_
 refine Zc (fun heq=>?_) fun _=>?_
 ·exfalso
  subst heq
  have:=(List.getElem?_inj (i:=i.toNat) (j:=(i - 1).toNat) (by omega) h).1 (he.trans he2.symm)
  omega
 ·rw [Zg (by omega) (by omega)]
  exact ih _ ⟨by omega,by omega⟩ (by omega)
theorem ZlX (l:List Title) (hl:l.length≤12) (h:l.Nodup):Tot (Zc7 l) fun r=>r.Perm l∧Srt Znt r:=by
 unfold Zc7
 refine Zf (ZlW l hl) fun r hr=>?_
 refine Za (Zhw r (by rw [hr.1.length_eq];omega) (hr.1.nodup_iff.2 h)) (Zb hr)
theorem Zgn {s:State} {u:ByteArray} {P:Policy} {G:List ByteArray} (h:RdAt s u P G) (hl:s.pages.length≤1000000) (hh:∀ p ∈ s.pages,1≤p.history.length∧p.history.length≤1000000) (t:Title):ZaI s u t=some (s.pages.any (fun p=>decide (p.title=t))&&ZiO P G 1 t):=by
 have hR:=(ZiD _ h.pol).1
 refine ZV ?_
 unfold ZaI
 refine Za h.prog ?_
 refine Zf (Zjh s t hl hh) fun r hr=>?_
 refine ZJ ?_
 rcases hr with ⟨h1,h2⟩ | ⟨h1,h2,h3⟩
 ·refine Zs h1 (Zb ?_)
  have:s.pages.any (fun p=>decide (p.title=t))=false:=by
   rw [List.any_eq_false]
   intro p hp
   simpa using h2 p hp
  rw [this]
  rfl
 ·refine ZH h1 ?_
  refine Za h.gprog ?_
  refine Za (v:=ZiO P G 1 t) (by unfold ZbY;rw [if_pos (by omega)]) (Zb ?_)
  have:s.pages.any (fun p=>decide (p.title=t))=true:=by
   rw [List.any_eq_true]
   exact ⟨_,h2,decide_eq_true h3⟩
  rw [this]
  rfl
def clip (k:Int) (n:Nat):Int:=if (if (n:Int)<k then (n:Int) else k) > 0 then (if (n:Int)<k then (n:Int) else k) else 0
theorem Zi3 (k:Int) (n:Nat):0≤clip k n∧clip k n≤n:=by
 unfold clip
 constructor<;>split<;>(try split)<;>omega
def Zd4 (t:Title) (r:Revision):Num:=⟨⟨t,r.number,r.user,r.note,r.minute⟩,r.seq⟩
def ZdQ (l:List Stored) (f:Title→Bool) (t:Title):List Num:=if f t=true then (ZC l t).map (Zd4 t) else []
def ents (l:List Stored) (f:Title→Bool) (T:List Title):List Num:=T.flatMap (ZdQ l f)
theorem Zcs {l:List Stored} (h:l.Pairwise fun a b=>tlt a.title b.title) {p:Stored} (hp:p ∈ l):ZC l p.title=p.history:=by
 unfold ZC
 cases hf:l.find? (fun q=>decide (q.title=p.title)) with
 | none=>
   have:=List.find?_eq_none.1 hf p hp
   simp at this
 | some q=>
   have h1:=List.mem_of_find?_eq_some hf
   have h2:=List.find?_some hf
   rw [Zps h h1 hp (of_decide_eq_true h2)]
   rfl
theorem Zje {s:State} {u:ByteArray} {P:Policy} {G:List ByteArray} (h:RdAt s u P G) (hs:s.pages.Pairwise fun a b=>tlt a.title b.title) (hl:s.pages.length≤200) (hh:∀ p ∈ s.pages,1≤p.history.length∧p.history.length≤40) (T:List Title) (hT:T.length≤12) :
  Tot (Zcq s u T) fun r=>∃ L:List Num,L.Perm (ents s.pages (rdB s.pages P G) T)∧Srt nLt L∧L.length≤480∧r=L.map (·.item):=by
 have hh':∀ p ∈ s.pages,1≤p.history.length∧p.history.length≤1000000:=fun p hp=>by
  have:=hh p hp
  omega
 unfold Zcq
 refine Zj (fun a:Int×List Num=>∃ n:Nat,a.1=n∧n≤T.length∧a.2.length≤40 * n∧a.2=ents s.pages (rdB s.pages P G) (T.take n)) (fun a=>((T.length:Int) - a.1).toNat) ⟨0,rfl,Nat.zero_le _,by simp,rfl⟩ (by first | omega | (dsimp only;omega)) ?_
 rintro ⟨i,l⟩ rec ⟨n,e1,hn,hlen,hents⟩ ih
 dsimp only at e1 hlen hents ⊢
 subst e1
 refine Zc (fun hlt=>?_) fun hlt=>?_
 ·have hlt':n<T.length:=by omega
  have htk:T.take (n+1)=T.take n ++ [T[n]]:=List.take_succ_eq_append_getElem hlt'
  refine Zx (fun k=>∀ l':List Num,l'.length≤40 * (n+1)→l'=l++ZdQ s.pages (rdB s.pages P G) T[n]→Tot (k l') fun r=>∃ L:List Num,L.Perm (ents s.pages (rdB s.pages P G) T)∧Srt nLt L∧L.length≤480∧r=L.map (·.item))
   (fun l' hl' hl2=>ih _ ⟨n+1,(Zg (by omega) (by omega)).trans (by omega),by omega,hl',by
    dsimp only
    rw [hl2,hents,htk]
    unfold ents
    rw [List.flatMap_append]
    simp⟩ (by dsimp only;rw [Zg (by omega) (by omega)];omega)) fun k hk=>?_
  refine Zl (by omega) hlt fun t _ htn=>?_
  rw [Int.toNat_natCast,List.getElem?_eq_getElem hlt'] at htn
  injection htn with htn
  rw [htn] at hk
  refine Za (Zgn h (by omega) hh' t) ?_
  change Tot (if (!rdB s.pages P G t)=true then _ else _) _
  refine Zaw (fun hb=>hk _ (by omega) ?_) fun hb=>?_
  ·unfold ZdQ
   rw [if_neg (by simpa using hb),List.append_nil]
  have hb':rdB s.pages P G t=true:=by simpa using hb
  refine Zf (Zjh s t (by omega) hh') fun r hr=>?_
  have hrl:r.1.history.length≤40∧ZC s.pages t=r.1.history:=by
   rcases hr with ⟨_,h2⟩ | ⟨_,h2,h3⟩
   ·exfalso
    have:s.pages.any (fun p=>decide (p.title=t))=false:=by
     rw [List.any_eq_false]
     intro p hp
     simpa using h2 p hp
    unfold rdB at hb'
    rw [this] at hb'
    cases hb'
   ·refine ⟨(hh _ h2).2,?_⟩
    rw [← h3]
    exact Zcs hs h2
  obtain ⟨hrl,hre⟩:=hrl
  refine Zj (fun a:Int×List Num=>∃ m:Nat,a.1=m∧m≤r.1.history.length∧a.2.length≤40 * n+m∧a.2=l++((r.1.history.take m).map (Zd4 t))) (fun a=>((r.1.history.length:Int) - a.1).toNat) ⟨0,rfl,Nat.zero_le _,by dsimp only;omega,by simp⟩ (by first | omega | (dsimp only;omega)) ?_
  rintro ⟨j,l2⟩ rec2 ⟨m,e2,hm,hlen2,hl2⟩ ih2
  dsimp only at e2 hlen2 hl2 ⊢
  subst e2
  refine Zc (fun hlt2=>?_) fun hlt2=>hk _ (by omega) ?_
  ·have hm':m<r.1.history.length:=by omega
   refine Zl (by omega) hlt2 fun e _ he=>?_
   rw [Int.toNat_natCast] at he
   refine ZK 1000 (by simp;omega) (by decide) (by decide) ?_
   refine ih2 _ ⟨m+1,(Zg (by omega) (by omega)).trans (by omega),by omega,by simp;omega,?_⟩ (by dsimp only;rw [Zg (by omega) (by omega)];omega)
   dsimp only
   rw [hl2,List.take_add_one,he]
   simp [Zd4]
  ·have:m=r.1.history.length:=by omega
   subst this
   rw [hl2,List.take_length]
   unfold ZdQ
   rw [if_pos hb',hre]
 ·have hn':n=T.length:=by omega
  subst hn'
  rw [List.take_length] at hents
  refine Zf (ZjE l (by omega)) fun r hr=>?_
  have hr2:=hr.1.length_eq
  refine Zj (fun a:Int×List Item=>∃ m:Nat,a.1=m∧m≤r.length∧a.2=(r.take m).map (·.item)) (fun a=>((r.length:Int) - a.1).toNat) ⟨0,rfl,Nat.zero_le _,by simp⟩ (by first | omega | (dsimp only;omega)) ?_
  rintro ⟨j,l2⟩ rec2 ⟨m,e2,hm,hl2⟩ ih2
  dsimp only at e2 hl2 ⊢
  subst e2
  have hlen2:l2.length=m:=by rw [hl2];simp;omega
  refine Zc (fun hlt2=>?_) fun hlt2=>Zb ⟨r,by rw [← hents];exact hr.1,hr.2,by omega,?_⟩
  ·refine Zl (by omega) hlt2 fun e _ he=>?_
   rw [Int.toNat_natCast] at he
   refine ZK 1000 (by simp;omega) (by decide) (by decide) ?_
   refine ih2 _ ⟨m+1,(Zg (by omega) (by omega)).trans (by omega),by omega,?_⟩ (by dsimp only;rw [Zg (by omega) (by omega)];omega)
   dsimp only
   rw [hl2,List.take_add_one,he]
   simp
  ·have:m=r.length:=by omega
   subst this
   rw [hl2,List.take_length]
theorem Zj4 {α:Type} (l:List α) (i:Int) (x:α) (k:Nat) (h0:0≤i) (h1:i<(l.length:Int)):(ZaS l i x)[k]? = if k=i.toNat then some x else l[k]?:=by
 unfold ZaS
 rw [List.getElem?_set]
 by_cases h:i.toNat=k
 ·rw [if_pos h,if_pos (by omega),if_pos h.symm]
 ·rw [if_neg h,if_neg (fun e=>h e.symm)]
theorem Zmt (l:List Item) (hl:l.length≤1000000):ZaK l=some l.reverse:=by
 refine Zf5 ?_
 unfold ZaK
 rw [Zg (by omega) (by omega)]
 refine Zj (fun a:Int×Int×List Item=>(0≤a.1∧a.2.1<(l.length:Int)∧a.2.1=(l.length:Int) - 1 - a.1∧a.1≤a.2.1+2∧a.2.2.length=l.length)∧∀ k:Nat,k<l.length→a.2.2[k]? = if (k:Int)<a.1∨a.2.1<(k:Int) then l[l.length - 1 - k]? else l[k]?) (fun a=>((l.length:Int) - a.1).toNat)
  ⟨⟨Int.le_refl _,by dsimp only;omega,by dsimp only;omega,by dsimp only;omega,rfl⟩,fun k hk=>by dsimp only;rw [if_neg (by omega)]⟩ (by first | omega | (dsimp only;omega)) ?_
 rintro ⟨i,j,d⟩ rec ⟨⟨h0,h1,h2,h4,h3⟩,h5⟩ ih
 dsimp only at h0 h1 h2 h3 h4 h5 ⊢
 refine Zc (fun hlt=>?_) fun hge=>Zb ?_
 ·refine Zl (by omega) (by omega) fun x _ hx=>?_
  refine Zl (by omega) (by omega) fun y _ hy=>?_
  refine Zl (by omega) (by omega) fun _ _ _=>?_
  refine Zl (by omega) (by rw [Za8];omega) fun _ _ _=>?_
  rw [Zg (n:=i+1) (by omega) (by omega),Zg (n:=j - 1) (by omega) (by omega)]
  refine ih _ ⟨⟨by dsimp only;omega,by dsimp only;omega,by dsimp only;omega,by dsimp only;omega,by dsimp only;rw [Za8,Za8];exact h3⟩,fun k hk=>?_⟩ (by first | omega | (dsimp only;omega))
  dsimp only
  rw [Zj4 _ _ _ _ (by omega) (by rw [Za8];omega),Zj4 _ _ _ _ (by omega) (by omega)]
  have hi:=h5 i.toNat (by omega)
  have hj:=h5 j.toNat (by omega)
  rw [if_neg (by omega)] at hi hj
  rw [hx] at hj
  rw [hy] at hi
  by_cases c1:k=j.toNat
  ·rw [if_pos c1,if_pos (by omega),show l.length - 1 - k=i.toNat by omega,← hi]
  ·rw [if_neg c1]
   by_cases c2:k=i.toNat
   ·rw [if_pos c2,if_pos (by omega),show l.length - 1 - k=j.toNat by omega,← hj]
   ·rw [if_neg c2,h5 k hk]
    by_cases c3:(k:Int)<i∨j<(k:Int)
    ·rw [if_pos c3,if_pos (by omega)]
    ·rw [if_neg c3,if_neg (by omega)]
 ·refine List.ext_getElem? fun k=>?_
  by_cases hk:k<l.length
  ·rw [h5 k hk,List.getElem?_reverse hk]
   by_cases c:(k:Int)<i∨j<(k:Int)
   ·rw [if_pos c]
   ·rw [if_neg c,show l.length - 1 - k=k by omega]
  ·rw [List.getElem?_eq_none (by omega),List.getElem?_eq_none (by rw [List.length_reverse];omega)]
def ZB (l:List Watch) (u:ByteArray):List Title:=(l.filter fun w=>decide (w.user=u)).map (·.title)
theorem Zdx (s:State) (u:ByteArray) (hl:s.watches.length≤1000):ZaE s u=some (ZB s.watches u):=by
 refine ZV ?_
 unfold ZaE
 refine Zj (fun a:Int×List Title=>∃ n:Nat,a.1=n∧n≤s.watches.length∧a.2=ZB (s.watches.take n) u) (fun a=>((s.watches.length:Int) - a.1).toNat) ⟨0,rfl,Nat.zero_le _,rfl⟩ (by first | omega | (dsimp only;omega)) ?_
 rintro ⟨i,l⟩ rec ⟨n,e1,hn,hl2⟩ ih
 dsimp only at e1 hl2 ⊢
 subst e1
 have hll:l.length≤n:=by
  rw [hl2]
  unfold ZB
  rw [List.length_map]
  exact Nat.le_trans (List.length_filter_le ..) (by rw [List.length_take];omega)
 refine Zc (fun hlt=>?_) fun hlt=>?_
 ·refine Zx (fun k=>∀ l':List Title,l'=ZB (s.watches.take (n+1)) u→Tot (k l') fun r=>r=ZB s.watches u) (fun l' hl'=>ih _ ⟨n+1,(Zg (by omega) (by omega)).trans (by omega),by omega,hl'⟩ (by dsimp only;rw [Zg (by omega) (by omega)];omega)) fun k hk=>?_
  refine Zl (by omega) hlt fun e _ he=>?_
  rw [Int.toNat_natCast] at he
  have htk:ZB (s.watches.take (n+1)) u=ZB (s.watches.take n) u++ZB [e] u:=by
   unfold ZB
   rw [List.take_add_one,he,List.filter_append,List.map_append]
   rfl
  refine Zc (fun hu=>?_) fun hu=>hk _ ?_
  ·refine ZK 2000 (by simp;omega) (by decide) (by decide) ?_
   refine hk _ ?_
   rw [htk,hl2]
   unfold ZB
   simp [hu]
  ·rw [htk,hl2]
   unfold ZB
   simp [hu]
 ·refine Zb ?_
  have:n=s.watches.length:=by omega
  subst this
  rw [hl2,List.take_length]
theorem Zb8 {l:List Watch} (h:l.Pairwise wlt) (u:ByteArray):(ZB l u).Pairwise tlt:=by
 unfold ZB
 rw [List.pairwise_map]
 refine List.Pairwise.imp_of_mem (R:=wlt) (fun {a b} ha hb hab=>?_) (h.filter _)
 have h1:=of_decide_eq_true (List.mem_filter.1 ha).2
 have h2:=of_decide_eq_true (List.mem_filter.1 hb).2
 rcases hab with c | ⟨_,c⟩
 ·rw [h1,h2] at c
  exact absurd c (Zdp u)
 ·exact c
theorem Zb6 {l:List Watch} (h:l.Pairwise wlt) (hk:∀ w ∈ l,w.title ∈ ZaJ) (u:ByteArray):(ZB l u).length≤8:=
 ZhW (m:=ZaJ) (Zbg (Zb8 h u)) fun x hx=>by
  obtain ⟨w,hw,rfl⟩:=List.mem_map.1 hx
  exact hk w (List.mem_filter.1 hw).1
theorem Zb7 {α β:Type} {l m:List α} (f:α→List β) (h:l.Perm m):(l.flatMap f).Perm (m.flatMap f):=by
 induction h with
 | nil=>exact .refl _
 | cons x _ ih=>
   rw [List.flatMap_cons,List.flatMap_cons]
   exact ih.append_left _
 | swap x y l=>
   rw [List.flatMap_cons,List.flatMap_cons,List.flatMap_cons,List.flatMap_cons,← List.append_assoc,← List.append_assoc]
   exact List.perm_append_comm.append_right _
 | trans _ _ ih1 ih2=>exact ih1.trans ih2
theorem Zd8 (l:List Item) (h:l.length≤1000000):Zap l=some l:=by
 unfold Zap
 rw [if_pos (by omega)]
theorem ZlT {s:State} {m:Int} {u:ByteArray} {P:Policy} {G:List ByteArray} (hs:Zhr s m) (hR:RdAt s u P G):∃ L:List Num,L.Perm (ents s.pages (rdB s.pages P G) (ZB s.watches u))∧Srt nLt L∧L.length≤480∧∀ k:Int,ZaN s u k=some ((L.map (·.item)).drop (clip k L.length).toNat):=by
 obtain ⟨t0,ht,hv⟩:=hs.1.1.ex
 have hp:=hs.1.plen
 have hh:∀ p ∈ s.pages,1≤p.history.length∧p.history.length≤40:=fun p hp=>⟨(hv.pages p hp).hist.len1,(hv.pages p hp).hist.len2⟩
 have hw:=Zb6 hv.wsort hs.2 u
 obtain ⟨T,hT1,hT2⟩:=ZlX (ZB s.watches u) (by omega) (Zbg (Zb8 hv.wsort u))
 have hT3:=hT2.1.length_eq
 obtain ⟨r,hr,L,hL1,hL2,hL3,rfl⟩:=Zje hR hv.sorted (by omega) hh T (by omega)
 refine ⟨L,hL1.trans (Zb7 _ hT2.1),hL2,hL3,fun k=>?_⟩
 refine ZV ?_
 unfold ZaN
 refine Za (Zdx s u (by have:=hv.wlen;omega)) ?_
 refine Za hT1 ?_
 refine Za hr ?_
 obtain ⟨c1,c2⟩:=Zi3 k L.length
 have e1:((L.map (·.item)).length:Int)=(L.length:Int):=by rw [List.length_map]
 rw [e1]
 refine Zfc c1 c2 (by rw [List.length_map];exact Int.le_refl _) fun x hx _=>?_
 have hx2:x=(L.map (·.item)).drop (clip k L.length).toNat:=by
  rw [hx]
  apply List.take_of_length_le
  rw [List.length_drop,List.length_map]
  show L.length - (clip k L.length).toNat≤(L.length:Int).toNat - (clip k L.length).toNat
  omega
 exact Za (Zd8 x (by rw [hx2,List.length_drop,List.length_map];omega)) (Zb hx2)
theorem ZlI {s:State} {m:Int} {u:ByteArray} {P:Policy} {G:List ByteArray} (hs:Zhr s m) (hR:RdAt s u P G):∃ L:List Num,L.Perm (ents s.pages (rdB s.pages P G) (s.pages.map (·.title)))∧Srt nLt L∧L.length≤480∧∀ k:Int,ZbB s u k=some ((L.map (·.item)).reverse.take (clip k L.length).toNat):=by
 obtain ⟨t0,ht,hv⟩:=hs.1.1.ex
 have hp:=hs.1.plen
 have hh:∀ p ∈ s.pages,1≤p.history.length∧p.history.length≤40:=fun p hp=>⟨(hv.pages p hp).hist.len1,(hv.pages p hp).hist.len2⟩
 obtain ⟨T,hT1,hT2⟩:=ZlX (s.pages.map (·.title)) (by rw [List.length_map];omega) (Zbg hs.1.titles)
 have hT3:=hT2.1.length_eq
 rw [List.length_map] at hT3
 obtain ⟨r,hr,L,hL1,hL2,hL3,rfl⟩:=Zje hR hv.sorted (by omega) hh T (by omega)
 refine ⟨L,hL1.trans (Zb7 _ hT2.1),hL2,hL3,fun k=>?_⟩
 refine ZV ?_
 unfold ZbB
 refine Zj (fun a:Int×List Title=>∃ n:Nat,a.1=n∧n≤s.pages.length∧a.2=(s.pages.take n).map (·.title)) (fun a=>((s.pages.length:Int) - a.1).toNat) ⟨0,rfl,Nat.zero_le _,by simp⟩ (by first | omega | (dsimp only;omega)) ?_
 rintro ⟨i,l⟩ rec ⟨n,e1,hn,e2⟩ ih
 dsimp only at e1 e2 ⊢
 subst e1 e2
 refine Zc (fun hlt=>?_) fun hlt=>?_
 ·refine Zl (by omega) hlt fun p _ hg=>?_
  rw [Int.toNat_natCast] at hg
  refine ZK 1000 (by simp;omega) (by decide) (by decide) ?_
  refine ih _ ⟨n+1,(Zg (by omega) (by omega)).trans (by omega),by omega,?_⟩ (by dsimp only;rw [Zg (by omega) (by omega)];omega)
  dsimp only
  rw [List.take_add_one,hg]
  simp
 ·have:n=s.pages.length:=by omega
  subst this
  rw [List.take_length]
  refine Za hT1 ?_
  refine Za hr ?_
  refine Za (Zmt _ (by rw [List.length_map];omega)) ?_
  obtain ⟨c1,c2⟩:=Zi3 k L.length
  have e1:((L.map (·.item)).reverse.length:Int)=(L.length:Int):=by rw [List.length_reverse,List.length_map]
  rw [e1]
  refine Zfc (Int.le_refl _) c1 (by rw [e1];exact c2) fun x hx _=>?_
  have hx2:x=(L.map (·.item)).reverse.take (clip k L.length).toNat:=by
   rw [hx]
   show List.take ((clip k L.length).toNat - (0:Int).toNat) (List.drop (0:Int).toNat _)=_
   rw [Int.toNat_zero,List.drop_zero,Nat.sub_zero]
  exact Za (Zd8 x (by rw [hx2,List.length_take];omega)) (Zb hx2)
theorem Zhz {w:Int} (h0:0≤w) (h1:w<4) {R:Bool→Prop} {f:ByteArray→Option Bool} (k:∀ u ∈ usersG,Tot (f u) R):Tot ((atI usersG w).bind f) R:=
 Zl h0 h1 fun u hu _=>k u hu
theorem ZhA (l m:List Int) (hl:l.length≤9223372036854775807) (hm:m.length≤9223372036854775807):Tot (Zau l m) fun s=>Zhr s 30:=by
 unfold Zau
 refine Zf (Zo5 madeW l hl) fun s hs=>?_
 refine Zf (ZpJ m hm) fun x hx=>?_
 refine Zf (ZcB x 7 hx (by omega) (by omega)) fun q hq=>?_
 refine Zj (fun a:Int×Int×Int×List Stored×List Stored×List Proposal×Int×List Watch×List Last×List Int×Int×Int=>(0≤a.1∧a.1≤7)∧(⟨a.2.2.2.2.2.2.2.2.2.1,a.2.2.2.2.2.2.2.2.2.2.1,a.2.2.2.2.2.2.2.2.2.2.2⟩:SrcF).ok∧Zhr ⟨a.2.1,a.2.2.1,a.2.2.2.1,a.2.2.2.2.1,a.2.2.2.2.2.1,a.2.2.2.2.2.2.1,a.2.2.2.2.2.2.2.1,a.2.2.2.2.2.2.2.2.1⟩ (27 - a.1)) (fun a=>a.1.toNat) ⟨⟨by dsimp only;omega,by dsimp only;omega⟩,hq.2,madeW.mono _ _ _ hs (by first | omega | (dsimp only;omega))⟩ (by first | omega | (dsimp only;omega)) ?_
 rintro ⟨n,sq,cl,pg,gn,pr,pd,wt,ls,li,ps,sd⟩ rec ⟨⟨h1,h2⟩,h3,h4⟩ ih
 dsimp only at h1 h2 h3 h4
 refine Zc (fun hlt=>?_) fun hlt=>Zb (madeW.mono _ _ _ h4 (by omega))
 refine ZJ ?_
 refine Zf (ZcB _ 3 h3 (by omega) (by omega)) fun a ha=>?_
 refine Zl ha.1.1 (by simpa using ha.1.2) fun c hc _=>?_
 refine Zf (Zmw _ ha.2) fun t ht=>?_
 rw [Zg (by omega) (by omega)]
 refine Zf (madeW.step _ _ _ h4 (by omega) (fun d hd=>?_) (by simp) (by simp)) fun r hr=>?_
 ·simp at hd
  subst hd
  exact ⟨⟨Zb3 _ ht.1,ZcQ,by simp,by simp,by simp,show (⟨#[]⟩:ByteArray).size≤300 by decide⟩,⟨fun _ _=>ht.1,fun e=>by cases e⟩⟩
 refine Zc (fun h0=>?_) fun _=>?_
 ·exact ih _ ⟨⟨by dsimp only;omega,by dsimp only;omega⟩,ht.2,madeW.mono _ _ _ (hr h0) (by first | omega | (dsimp only;omega))⟩ (by first | omega | (dsimp only;omega))
 ·exact ih _ ⟨⟨by dsimp only;omega,by dsimp only;omega⟩,ht.2,madeW.mono _ _ _ h4 (by first | omega | (dsimp only;omega))⟩ (by first | omega | (dsimp only;omega))
def ZzL {α:Type} [DecidableEq α] (p0:List α) (p1:α):Option Bool:=
 ZE Zaj (fun f2 (x10:Int)=>if decide (x10<(p0.length:Int))=true then (atI p0 x10).bind fun e14=>if decide (e14=p1)=true then some true else f2 (w64 (x10+1)) else some false) 0
theorem Zyu {α:Type} [DecidableEq α] (l:List α) (x:α) (hl:l.length≤1000000):ZzL l x=some (decide (x ∈ l)):=by
 refine ZV ?_
 unfold ZzL
 refine Zj (fun i:Int=>∃ n:Nat,i=n∧n≤l.length∧x ∉ l.take n) (fun i=>((l.length:Int) - i).toNat) ⟨0,rfl,Nat.zero_le _,by simp⟩ (by first | omega | (dsimp only;omega)) ?_
 rintro i rec ⟨n,rfl,hn,hno⟩ ih
 refine Zc (fun hlt=>?_) fun hlt=>Zb ?_
 ·refine Zl (by omega) hlt fun e he hg=>?_
  rw [Int.toNat_natCast] at hg
  refine Zc (fun h=>Zb ?_) fun h=>?_
  ·subst h
   rw [decide_eq_true he]
  ·rw [Zg (by omega) (by omega)]
   refine ih _ ⟨n+1,by omega,by omega,fun hx=>?_⟩ (by omega)
   rw [List.take_add_one,hg] at hx
   rcases List.mem_append.1 hx with hx | hx
   ·exact hno hx
   ·simp at hx
    exact h hx.symm
 ·rw [List.take_of_length_le (by omega)] at hno
  rw [decide_eq_false hno]
theorem Zyv (l:List Title) (x:Title) (hl:l.length≤1000000):Zf3 l x=some (decide (x ∈ l)):=Zyu l x hl
theorem Zyw (l:List Item) (x:Item) (hl:l.length≤1000000):Zhc l x=some (decide (x ∈ l)):=Zyu l x hl
theorem Zsk {s:State} {q:Int} {t0:ByteArray} (hv:VS t0 q s) {p:Stored} (hp:p ∈ s.pages) {i:Nat} {r:Revision} (hr:p.history[i]? = some r):ZaU s p.title ((i:Int)+1)=some (r,true):=by
 have hh:=(hv.pages p hp).hist
 have hl:=hh.len2
 have hil:=(List.getElem?_eq_some_iff.1 hr).1
 have hpl:=hv.plen
 refine ZV ?_
 unfold ZaU
 refine Zf (Zu7 s p.title (by omega)) fun x hx=>?_
 rcases hx with ⟨_,h2⟩ | ⟨_,h2,h3⟩
 ·exact absurd rfl (h2 p hp)
 have e:=Zps hv.sorted h2 hp h3
 rw [e]
 refine Zj (fun j:Int=>0≤j∧j≤(i:Int)) (fun j=>((i:Int) - j).toNat) ⟨Int.le_refl _,by omega⟩ (by first | omega | (dsimp only;omega)) ?_
 rintro j rec ⟨h0,h1⟩ ih
 refine Zc (fun hlt=>?_) fun hlt=>absurd (by omega) hlt
 refine Zl h0 hlt fun a _ ha=>?_
 have hn:=hh.num _ _ ha
 refine Zc (fun h=>?_) fun h=>?_
 ·have hji:j.toNat=i:=by omega
  refine Zl h0 hlt fun b _ hb=>Zb ?_
  rw [hji,hr] at hb
  injection hb with hb
  rw [hb]
 ·rw [Zg (by omega) (by omega)]
  exact ih _ ⟨by omega,by omega⟩ (by omega)
theorem Zlv {t0:ByteArray} {q:Int} {s:State} (hv:VS t0 q s) {f:Title→Bool} {T:List Title} {x:Num} (hx:x ∈ ents s.pages f T):∃ p ∈ s.pages,∃ (i:Nat) (r:Revision),p.history[i]? = some r∧x=Zd4 p.title r∧r.number=(i:Int)+1∧f p.title=true∧p.title ∈ T:=by
 obtain ⟨t,ht,hx⟩:=List.mem_flatMap.1 hx
 unfold ZdQ at hx
 split at hx
 ·rename_i hf0
  obtain ⟨r,hr,rfl⟩:=List.mem_map.1 hx
  cases hf:s.pages.find? (fun p=>decide (p.title=t)) with
  | none=>
    unfold ZC at hr
    rw [hf] at hr
    cases hr
  | some p=>
    have h1:=List.mem_of_find?_eq_some hf
    have h2:=of_decide_eq_true (p:=p.title=t) (List.find?_some (p:=fun p:Stored=>decide (p.title=t)) hf)
    subst h2
    rw [Zcs hv.sorted h1] at hr
    obtain ⟨i,hi⟩:=List.getElem?_of_mem hr
    exact ⟨p,h1,i,r,hi,rfl,(hv.pages p h1).hist.num i r hi,hf0,ht⟩
 ·cases hx
theorem Zto {l:List Stored} {f:Title→Bool} {T T':List Title} (h:∀ t ∈ T,f t=true→t ∈ T'):∀ x ∈ ents l f T,x ∈ ents l f T':=fun x hx=>by
 obtain ⟨t,ht,hx⟩:=List.mem_flatMap.1 hx
 refine List.mem_flatMap.2 ⟨t,h t ht ?_,hx⟩
 unfold ZdQ at hx
 split at hx
 ·assumption
 ·cases hx
theorem Zpg (l m:List Int) (who:Int) (hl:l.length≤9223372036854775807) (hm:m.length≤9223372036854775807):Zde l m who=some true:=by
 refine ZV ?_
 unfold Zde
 refine Zf (ZhA l m hl hm) fun s hs=>?_
 refine Za (v:=usersG) rfl ?_
 refine Zf (Zfw who 4 (by omega) (by omega)) fun w hw=>?_
 refine Zhz hw.1 hw.2 fun u hu=>?_
 obtain ⟨t0,ht,hv⟩:=hs.1.1.ex
 obtain ⟨P0,hP,G,hR,-⟩:=Zr7 (u:=u) hv ht hu
 have hpl:=hs.1.plen
 have hwl:=hv.wlen
 obtain ⟨F,hF1,hF2,hF3,hF⟩:=ZlT hs hR.rd
 obtain ⟨R,hR1,hR2,hR3,hRk⟩:=ZlI hs hR.rd
 have eF:ZaN s u 0=some (F.map (·.item)):=by
  rw [hF 0]
  have:(clip 0 F.length).toNat=0:=by
   unfold clip
   split<;>(try split)<;>omega
  rw [this,List.drop_zero]
 have eR:ZbB s u 1000=some (R.map (·.item)).reverse:=by
  rw [hRk 1000,List.take_of_length_le]
  rw [List.length_reverse,List.length_map]
  unfold clip
  split<;>(try split)<;>omega
 refine Za eF ?_
 refine Za eR ?_
 have hfe:rdB s.pages (Zb4 P0 s.pages) G=rdB s.pages (Zb4 P0 s.pages) G:=rfl
 generalize hfd:rdB s.pages (Zb4 P0 s.pages) G=f at *
 have hrd:∀ t,ZaT s u t=some (f t):=fun t=>by
  rw [← hfd]
  exact Zdv hR (by omega) t
 refine Zj (fun a:Int×Int=>∃ n:Nat,a.2=n∧n≤s.pages.length∧a.1=((ents s.pages f ((s.pages.take n).map (·.title))).length:Int)) (fun a=>((s.pages.length:Int) - a.2).toNat) ⟨0,rfl,Nat.zero_le _,rfl⟩ (by first | omega | (dsimp only;omega)) ?_
 rintro ⟨c,i⟩ rec ⟨n,e1,hn,e2⟩ ih
 dsimp only at e1 e2 ⊢
 subst e1
 refine Zc (fun hlt=>?_) fun hlt=>?_
 ·have hlt':n<s.pages.length:=by omega
  have hpm:s.pages[n] ∈ s.pages:=List.getElem_mem hlt'
  have hh:=(hv.pages _ hpm).hist.len2
  have htk:ents s.pages f ((s.pages.take (n+1)).map (·.title))=ents s.pages f ((s.pages.take n).map (·.title))++ZdQ s.pages f s.pages[n].title:=by
   rw [List.take_succ_eq_append_getElem hlt',List.map_append]
   unfold ents
   rw [List.flatMap_append]
   simp
  have hlen:(ents s.pages f ((s.pages.take n).map (·.title))).length≤480:=by
   have h1:=hR1.length_eq
   have h2:(ents s.pages f (s.pages.map (·.title))).length=(ents s.pages f ((s.pages.take n).map (·.title))).length+(ents s.pages f ((s.pages.drop n).map (·.title))).length:=by
    conv=>lhs;rw [← List.take_append_drop n s.pages,List.map_append]
    unfold ents
    rw [List.flatMap_append,List.length_append,List.take_append_drop]
   omega
  refine Zx (fun k=>∀ c':Int,c'=((ents s.pages f ((s.pages.take (n+1)).map (·.title))).length:Int)→Tot (k c') fun r=>r=true) (fun c' hc'=>ih _ ⟨n+1,by dsimp only;rw [Zg (by omega) (by omega)];omega,hlt',hc'⟩ (by dsimp only;rw [Zg (by omega) (by omega)];omega)) fun k hk=>?_
  refine Zl (by omega) hlt fun p _ hp=>?_
  rw [Int.toNat_natCast,List.getElem?_eq_getElem hlt'] at hp
  injection hp with hp
  subst hp
  refine Za (hrd _) ?_
  refine Zaw (fun h=>?_) fun h=>?_
  ·refine Zl (by omega) hlt fun p _ hp=>?_
   rw [Int.toNat_natCast,List.getElem?_eq_getElem hlt'] at hp
   injection hp with hp
   subst hp
   refine hk _ ?_
   rw [Zg (by omega) (by omega),htk,e2]
   unfold ZdQ
   rw [if_pos h,Zcs hv.sorted hpm]
   simp
  ·refine hk _ ?_
   rw [htk,e2]
   unfold ZdQ
   rw [if_neg (by rw [h];simp)]
   simp
 ·have hnn:n=s.pages.length:=by omega
  subst hnn
  rw [List.take_length] at e2
  refine Zj (fun i:Int=>0≤i∧i≤((F.map (·.item)).length:Int)) (fun i=>(((F.map (·.item)).length:Int) - i).toNat) ⟨Int.le_refl _,by omega⟩ (by rw [List.length_map];omega) ?_
  rintro i rec ⟨h0,h1⟩ ih
  rw [List.length_map] at h1
  refine Zc (fun hlt=>?_) fun hlt=>?_
  ·rw [List.length_map] at hlt
   refine Zx (fun k=>Tot (k false) fun r=>r=true) (Zs rfl (ih _ ⟨by rw [Zg (by omega) (by omega)];omega,by rw [Zg (by omega) (by omega),List.length_map];omega⟩ (by rw [Zg (by omega) (by omega),List.length_map];omega))) fun k hk=>?_
   refine Za (Zdx s u (by omega)) ?_
   refine Zl h0 (by rw [List.length_map];omega) fun x hx _=>?_
   obtain ⟨y,hy,rfl⟩:=List.mem_map.1 hx
   have hye:=hF1.mem_iff.1 hy
   obtain ⟨p,hp,j,r,hj,rfl,hjn,hjf,hjt⟩:=Zlv hv hye
   refine Za (Zyv _ _ (by have:=Zb6 hv.wsort hs.2 u;omega)) ?_
   refine Zs (by rw [decide_eq_true (show (Zd4 p.title r).item.title ∈ ZB s.watches u from hjt)];rfl) ?_
   refine Zl h0 (by rw [List.length_map];omega) fun x' hx' _=>?_
   obtain ⟨y',hy',rfl⟩:=List.mem_map.1 hx'
   refine Za (Zyw _ _ (by rw [List.length_reverse,List.length_map];omega)) ?_
   have hin:y'.item ∈ (R.map (·.item)).reverse:=by
    rw [List.mem_reverse]
    refine List.mem_map.2 ⟨y',hR1.mem_iff.2 (Zto (fun t _ hft=>?_) _ (hF1.mem_iff.1 hy')),rfl⟩
    rw [← hfd] at hft
    unfold rdB at hft
    simp only [Bool.and_eq_true,List.any_eq_true,decide_eq_true_eq] at hft
    obtain ⟨⟨p,hp,e⟩,_⟩:=hft
    exact List.mem_map.2 ⟨p,hp,e⟩
   rw [decide_eq_true hin]
   exact hk
  ·refine Zj (fun i:Int=>0≤i∧i≤((R.map (·.item)).reverse.length:Int)) (fun i=>(((R.map (·.item)).reverse.length:Int) - i).toNat) ⟨Int.le_refl _,by omega⟩ (by rw [List.length_reverse,List.length_map];omega) ?_
   rintro i rec ⟨h0,h1⟩ ih
   rw [List.length_reverse,List.length_map] at h1
   have eL:(R.map (·.item)).reverse.length=R.length:=by rw [List.length_reverse,List.length_map]
   rw [eL] at ih ⊢
   refine Zc (fun hlt=>?_) fun hlt=>?_
   ·obtain ⟨y,hy⟩:∃ y,(R.map (·.item)).reverse[i.toNat]? = some y:=⟨_,List.getElem?_eq_getElem (by rw [eL];omega)⟩
    have get:∀ {f:Item→Option Bool} {Q:Bool→Prop},Tot (f y) Q→Tot ((atI (R.map (·.item)).reverse i).bind f) Q:=fun hf=>by
     refine Za ?_ hf
     have:=ZbX hy
     rw [show ((i.toNat:Nat):Int)=i by omega] at this
     exact this
    have hy2:=List.mem_of_getElem? hy
    rw [List.mem_reverse] at hy2
    obtain ⟨z,hz,rfl⟩:=List.mem_map.1 hy2
    obtain ⟨p,hp,j,r,hj,rfl,hjn,hjf,hjt⟩:=Zlv hv (hR1.mem_iff.1 hz)
    refine get (get ?_)
    have eN:(Zd4 p.title r).item.number=(j:Int)+1:=hjn
    rw [eN]
    refine Za (Zsk hv hp hj) ?_
    refine Zx (fun k=>Tot (k false) fun r=>r=true) (Zs rfl (ih _ ⟨by rw [Zg (by omega) (by omega)];omega,by rw [Zg (by omega) (by omega)];omega⟩ (by rw [Zg (by omega) (by omega)];omega))) fun k hk=>?_
    refine Zs rfl ?_
    refine get (Za (hrd _) ?_)
    refine Zs (by rw [show f (Zd4 p.title r).item.title=true from hjf];rfl) ?_
    refine get ?_
    refine ZQ (fun h=>absurd rfl h) fun _=>?_
    refine get ?_
    refine ZQ (fun h=>absurd rfl h) fun _=>?_
    refine get ?_
    rw [decide_eq_true (show r.minute=(Zd4 p.title r).item.minute from rfl)]
    exact hk
   ·refine ZJ ?_
    refine Za Zgm ?_
    refine ZH rfl (Zb ?_)
    rw [e2,← hR1.length_eq]
    exact decide_eq_true rfl
end Go.Proofs.YtjoneoobolnnbaaGreatDoor
namespace Go.Proofs.YtjoneoobolnnbaaGreatDoor
open VL Go.RowKit
theorem Zfm {α:Type} [Enc α] {w:World} {A:Option Addr} {n c:Nat} {xs:List α} (h:SlR w A n c xs):xs.length≤9223372036854775807:=by
 obtain ⟨h1,h2,h3,h4⟩:=h
 omega
theorem Zqp {x:Ctx} (i:Nat) (p:PV) (v:Value) (hp:([]:List PV)[i]? = some p) (hv:([]:List Value)[i]? = some v):Rep x p v:=by simp at hp
theorem Zf4 {x:Ctx} {p:PV} {v:Value} {ps:List PV} {vs:List Value} (h:Rep x p v) (r:∀ (i:Nat) (p:PV) (v:Value),ps[i]? = some p→vs[i]? = some v→Rep x p v) (i:Nat) (q:PV) (w:Value) (hp:(p::ps)[i]? = some q) (hv:(v::vs)[i]? = some w):Rep x q w:=by
 cases i with
 | zero=>injection hp with hp;injection hv with hv;subst hp hv;exact h
 | succ i=>exact r i q w (by simpa using hp) (by simpa using hv)
theorem Zqq {x:Ctx} {ps:List PV} {vs:List Value} (r:∀ (i:Nat) (p:PV) (v:Value),ps[i]? = some p→vs[i]? = some v→Rep x p v) (i:Nat) (p:PV) (v:Value) (hp:ps[i]? = some p) (hv:vs.toArray[i]? = some v):Rep x p v:=r i p v hp (by simpa using hv)
theorem Zlq {A0:Option Addr} {n0 c0:Nat} {l0:List Int} {A1:Option Addr} {n1 c1:Nat} {l1:List Int} (i2:Int) (W:World) (h0:SlR W A0 n0 c0 l0) (h1:SlR W A1 n1 c1 l1) (hI:∀ W',Below W.heap.size W W'→WInv.I Tryz.prog W') :
  Calls Tryz.prog 5 #[.slice A0 n0 c0,.slice A1 n1 c1,.int .i64 i2] W fun e w'=>e = .returned (.bool true)∧Below W.heap.size W w':=
 Zgv (Zj7 l0 l1 i2 true (Zpg l0 l1 i2 (Zfm h0) (Zfm h1))) rfl (fun i p v hp hv=>Zqq (vs:=[.slice A0 n0 c0,.slice A1 n1 c1,.int .i64 i2]) (Zf4 (ZeG h0) (Zf4 (ZeG h1) (Zf4 (.int _ _) Zqp))) i p v hp hv) hI
end Go.Proofs.YtjoneoobolnnbaaGreatDoor
