/- The scanner on lists of bytes. | Comparing titles (taken out of PSb). | Validate of a view: the program's and the reference's say the same. | The tape's policies are valid. | The tape's views are valid. | One cell of a box made pure. No program is named. | Functions of the program as Lean functions. Written by fxgen.py. | Functions of the program as Lean functions. Written by fxgen.py. | The law ViewValidate: what the program and the reference say of a view agrees. | From a reading of an argument to the words of the walks: structs field by field, slices element by element. No program is named. | Readings of the wiki's types at this translation. Written by types.py. | Lists of integers; the invariant in all later worlds, where no rules of edit are laid. | Titles as values (taken out of M2). | What lies in memory, seen as values. No program is named. Written by mkencpv.py. | ViewValidate in worlds: whatever the view, the list and the key, the law returns true. -/
import Derived.Test.YtpffimahajgiaaaGreatDoorVV08
import Derived.Test.YtpffimahajgiaaaGreatDoorVV12
import Derived.Lib.IndexMore
import Derived.Test.YtpffimahajgiaaaGreatDoorVV13
import Derived.Test.YtpffimahajgiaaaGreatDoorVV10
import Derived.Test.YtpffimahajgiaaaGreatDoorVV20
import Derived.Test.YtpffimahajgiaaaGreatDoorVV02
import Derived.Test.YtpffimahajgiaaaGreatDoorVV07
import Derived.Test.YtpffimahajgiaaaGreatDoorVV03
import Derived.Test.YtpffimahajgiaaaGreatDoorVV01
import Derived.ProofKit
import Derived.OpenShut
import Derived.Deep.Slices
import Derived.Deep.Strs
import Derived.Test.YtpffimahajgiaaaGreatDoorRows
import Derived.Test.YtpffimahajgiaaaGreatDoorVV06
import Derived.MakeChecks
import Derived.FnData
import Derived.ChangeSame
import Derived.Test.YtpffimahajgiaaaGreatDoorVV05
namespace Go.Proofs.YtpffimahajgiaaaGreatDoor
open VL
theorem Zff {α β:Type} {n m:Nat} {F:(α→Option β)→α→Option β} {a:α} {R:β→Prop} (e:m=n+1) (h:Tot (F (Zbf n F) a) R):Tot (Zbf m F a) R:=by
 subst e
 exact h
end Go.Proofs.YtpffimahajgiaaaGreatDoor
set_option maxRecDepth 100000
namespace Go.Proofs.YtpffimahajgiaaaGreatDoor
open VL
open Go.Sort
theorem Zl6 (a b:Int):ZaM a b=some (Lib.compareInt a b):=by
 refine ZcZ ?_
 unfold ZaM Zbr Lib.compareInt
 refine ZT rfl (ZT rfl ?_)
 rw [decide_eq_true (rfl:a=a),decide_eq_true (rfl:b=b)]
 refine ZaE (fun h=>by cases h) fun _=>ZaE (fun h=>by cases h) fun _=>?_
 refine ZK (fun h=>?_) fun h=>?_
 ·rw [if_pos h];exact ZU rfl
 ·rw [if_neg h]
  refine ZK (fun h2=>?_) fun h2=>?_
  ·rw [if_pos h2];exact ZU rfl
  ·rw [if_neg h2];exact ZU rfl
theorem ZoO (a b:Int):ZbC [a,b]=some (orI [a,b]):=by
 rw [Zkb]
 unfold Zmu
 refine ZcZ ?_
 unfold ZbC
 refine Zff (n:=4611686018427387903) rfl (ZK (fun _=>?_) fun h=>absurd (show (0:Int)<2 by decide) h)
 refine ZT (v:=a) rfl (Zkt (fun h=>?_) fun h=>?_)
 ·rw [if_neg h];exact ZU rfl
 ·rw [if_pos h]
  refine Zff (n:=4611686018427387902) rfl (ZK (fun _=>?_) fun h=>absurd (show (1:Int)<2 by decide) h)
  refine ZT (v:=b) rfl (Zkt (fun h=>ZU rfl) fun h=>?_)
  rw [h]
  exact Zff (n:=4611686018427387901) rfl (ZK (fun h=>absurd h (show ¬ (2:Int)<2 by decide)) fun _=>ZU rfl)
theorem Zfz (a b:Title):Za1 a b=some (Title.cmp a b):=by
 unfold Za1 strings_Compare
 rw [Zl6]
 show (ZbC [Lib.compareInt a.space b.space,Lib.compareBytes a.name.data.toList b.name.data.toList]).bind _=_
 rw [ZoO]
 rfl
end Go.Proofs.YtpffimahajgiaaaGreatDoor
set_option linter.unusedVariables false
namespace Go.Proofs.YtpffimahajgiaaaGreatDoor
open VL
theorem Zox (a b:ByteArray):(!ltS a b)=(ltS b a||decide (b=a)):=by
 rw [ZgP,ZgP]
 by_cases h:cB a b<0
 ·rw [decide_eq_true h,decide_eq_false (Znh cmpStr_laws a b h),decide_eq_false fun e=>ZkB cmpStr_laws h e.symm]
  rfl
 ·rw [decide_eq_false h]
  by_cases e:b=a
  ·rw [decide_eq_true e];simp
  ·have h0:cB a b≠0:=fun hz=>e ((cmpStr_laws.zero a b).1 hz).symm
   rw [decide_eq_true ((cmpStr_laws.neg b a).2 (show 0<cB a b by omega))]
   rfl
def Zgr:Option Page→Page→Bool
 | none,_=>false
 | some q,p=>decide (0≤Title.cmp q.title p.title)
def ZbP:Option Page→List Page→Int
 | _,[]=>0
 | q,p::l=>if p.title.valid=false then 1 else if Zgr q p=true then 6 else if 8192<p.text.size then 3 else if p.revision<1 then 2 else ZbP (some p) l
def Ze3:Option ByteArray→ByteArray→Bool
 | none,_=>false
 | some q,p=>!ltS q p
def Za4:Option ByteArray→List ByteArray→Int
 | _,[]=>0
 | q,p::l=>if Zao p=false then 1 else if Ze3 q p=true then 6 else Za4 (some p) l
def Zcu:List Asked→List Asked→Int
 | _,[]=>0
 | A,a::B=>if (A.any fun x=>decide (x.key=a.key))=true then 5 else if 32768<a.answer.text.size then 3 else Zcu (A ++ [a]) B
def Zhc (v:View):Int:=
 if 200<v.pages.length then 3 else if 26<v.groups.length then 3 else if 20000<v.fixed.length then 3
 else if ZbP none v.pages=0 then (if ZbZ v.policy=0 then (if Za4 none v.groups=0 then (if v.clock<0∨52596000≤v.clock then 2 else Zcu [] v.fixed) else Za4 none v.groups) else ZbZ v.policy) else ZbP none v.pages
theorem ZhX {α:Type} {l A B:List α} {x q:α} (h:l=A++x::B) (hq:A.getLast? = some q) (hl:l.length≤1000000):0<A.length∧atI l (w64 ((A.length:Int) - 1))=some q:=by
 rcases List.eq_nil_or_concat A with rfl | ⟨A',q',rfl⟩
 ·cases hq
 ·have hA:A'.concat q'=A' ++ [q']:=List.concat_eq_append
  rw [hA] at h hq ⊢
  have e0:(A' ++ [q']).getLast? = some q':=by simp
  rw [e0] at hq
  injection hq with hq
  subst hq
  have e:(((A' ++ [q']).length:Nat):Int) - 1=(A'.length:Int):=by simp
  have hle:A'.length≤1000000:=by
   rw [h,List.length_append,List.length_append] at hl
   omega
  refine ⟨by simp,?_⟩
  rw [e,ZaT (by omega) (by omega)]
  exact ZdD (B:=x::B) (by rw [h];simp) rfl
theorem ZhY {α:Type} {A:List α} (h:A.getLast? = none):A.length=0:=by
 rw [List.getLast?_eq_none_iff] at h
 rw [h]
 rfl
theorem Ze4 {α:Type} (A:List α) (x:α):(A ++ [x]).getLast? = some x:=by simp
theorem ZdO (q:Option Page) (p:Page) (l:List Page):ZbP q (p::l)=if p.title.valid=false then 1 else if Zgr q p=true then 6 else if 8192<p.text.size then 3 else if p.revision<1 then 2 else ZbP (some p) l:=rfl
theorem Zcg (q:Option ByteArray) (p:ByteArray) (l:List ByteArray):Za4 q (p::l)=if Zao p=false then 1 else if Ze3 q p=true then 6 else Za4 (some p) l:=rfl
def Zmq (cmp:Title→Title→Option Int) (l:List Page) (E:Option Int):Option Int:=
 Zbf Zdy (fun f8 (x38:Int)=>
  if (decide (x38<(l.length:Int))) then
   (atI l x38).bind fun e60=>
   (Zbo e60.title).bind fun r61=>
   if (!r61) then
    (some 1:Option Int)
   else
   letk (fun (x64:Bool)=>
    if x64 then
     (some 6:Option Int)
    else
    if (decide (8192<(e60.text.size:Int))) then
     (some 3:Option Int)
    else
    if (decide (e60.revision<1)) then
     (some 2:Option Int)
    else
    f8 (w64 (x38+1))) fun k10=>
   if (decide (0<x38)) then
    (atI l (w64 (x38 - 1))).bind fun e65=>
    (cmp e65.title e60.title).bind fun r66=>
    k10 (decide (0≤r66))
   else
   k10 false
  else
  E) 0
theorem ZiM (cmp:Title→Title→Option Int) (hc:∀ a b,cmp a b=some (Title.cmp a b)) (l:List Page) (hl:l.length≤1000000) (E:Option Int) (z:Int) (hE:ZbP none l=0→E=some z):Tot (Zmq cmp l E) fun r=>r=if ZbP none l=0 then z else ZbP none l:=by
 unfold Zmq
 refine ZaH (fun i=>∃ A B,l=A++B∧i=(A.length:Int)∧ZbP none l=ZbP A.getLast? B) (fun i=>l.length - i.toNat) ⟨[],l,rfl,rfl,rfl⟩ (by omega) ?_
 rintro i rec ⟨A,B,hA,rfl,hB⟩ ih
 have ll:l.length=A.length+B.length:=by rw [hA,List.length_append]
 refine ZK (fun hlt=>?_) fun hge=>?_
 ·cases B with
  | nil=>simp only [List.length_nil] at ll;omega
  | cons p B=>
    simp only [List.length_cons] at ll
    refine ZT (ZdD hA rfl) (ZT (v:=p.title.valid) rfl (ZaE (fun hv=>?_) fun hv=>?_))
    ·have hv:p.title.valid=false:=by simpa using hv
     rw [ZdO,if_pos hv] at hB
     rw [hB]
     exact ZU rfl
    have hv:¬ p.title.valid=false:=by simpa using hv
    rw [ZdO,if_neg hv] at hB
    refine Zar (fun q=>∀ b,b=Zgr A.getLast? p→Tot (q b) fun r=>r=if ZbP none l=0 then z else ZbP none l) (fun b hb=>?_) fun k hk=>?_
    ·rw [← hb] at hB
     refine ZaE (fun h=>?_) fun h=>?_
     ·rw [if_pos h] at hB
      rw [hB]
      exact ZU rfl
     rw [if_neg (by rw [h];decide)] at hB
     refine ZK (fun h=>?_) fun h=>?_
     ·rw [if_pos (by omega)] at hB
      rw [hB]
      exact ZU rfl
     rw [if_neg (by omega)] at hB
     refine ZK (fun h=>?_) fun h=>?_
     ·rw [if_pos h] at hB
      rw [hB]
      exact ZU rfl
     rw [if_neg h] at hB
     rw [ZaT (by omega) (by omega)]
     exact ih _ ⟨A ++ [p],B,by rw [hA];simp,by simp,by rw [Ze4];exact hB⟩ (by omega)
    ·cases hq:A.getLast? with
     | none=>
       have h0:=ZhY hq
       refine ZK (fun h=>by omega) fun _=>hk _ (by rw [hq];rfl)
     | some q=>
       obtain ⟨h0,h1⟩:=ZhX hA hq hl
       exact ZK (fun _=>ZT h1 (ZT (hc _ _) (hk _ (by rw [hq];rfl)))) fun h=>by omega
 ·have hb:B = []:=List.eq_nil_of_length_eq_zero (by omega)
  subst hb
  have h0:ZbP none l=0:=hB
  rw [if_pos h0,hE h0]
  exact ZU rfl
theorem ZlE (l:List ByteArray) (hl:l.length≤1000000):Tot (Za2 l) fun r=>r=Za4 none l:=by
 unfold Za2
 refine ZaH (fun i=>∃ A B,l=A++B∧i=(A.length:Int)∧Za4 none l=Za4 A.getLast? B) (fun i=>l.length - i.toNat) ⟨[],l,rfl,rfl,rfl⟩ (by omega) ?_
 rintro i rec ⟨A,B,hA,rfl,hB⟩ ih
 have ll:l.length=A.length+B.length:=by rw [hA,List.length_append]
 refine ZK (fun hlt=>?_) fun hge=>?_
 ·cases B with
  | nil=>simp only [List.length_nil] at ll;omega
  | cons p B=>
    simp only [List.length_cons] at ll
    refine ZT (ZdD hA rfl) (ZT (v:=Zao p) rfl (ZaE (fun hv=>?_) fun hv=>?_))
    ·have hv:Zao p=false:=by simpa using hv
     rw [Zcg,if_pos hv] at hB
     rw [hB]
     exact ZU rfl
    have hv:¬ Zao p=false:=by simpa using hv
    rw [Zcg,if_neg hv] at hB
    refine Zar (fun q=>∀ b,b=Ze3 A.getLast? p→Tot (q b) fun r=>r=Za4 none l) (fun b hb=>?_) fun k hk=>?_
    ·rw [← hb] at hB
     refine ZaE (fun h=>?_) fun h=>?_
     ·rw [if_pos h] at hB
      rw [hB]
      exact ZU rfl
     rw [if_neg (by rw [h];decide)] at hB
     rw [ZaT (by omega) (by omega)]
     exact ih _ ⟨A ++ [p],B,by rw [hA];simp,by simp,by rw [Ze4];exact hB⟩ (by omega)
    ·cases hq:A.getLast? with
     | none=>
       have h0:=ZhY hq
       refine ZK (fun h=>by omega) fun _=>hk _ (by rw [hq];rfl)
     | some q=>
       obtain ⟨h0,h1⟩:=ZhX hA hq hl
       exact ZK (fun _=>ZT h1 (hk _ (by rw [hq];rfl))) fun h=>by omega
 ·have hb:B = []:=List.eq_nil_of_length_eq_zero (by omega)
  subst hb
  exact ZU hB.symm
def Zmr (l:List ByteArray) (E:Option Int):Option Int:=
 Zbf Zdy (fun f19 (x106:Int)=>
  if (decide (x106<(l.length:Int))) then
   (atI l x106).bind fun e128=>
   (ZdT e128).bind fun r129=>
   if (!r129) then
    (some 1:Option Int)
   else
   letk (fun (x132:Bool)=>
    if x132 then
     (some 6:Option Int)
    else
    f19 (w64 (x106+1))) fun k21=>
   if (decide (0<x106)) then
    (atI l x106).bind fun e133=>
    (atI l (w64 (x106 - 1))).bind fun e134=>
    k21 (ltS e133 e134||decide (e133=e134))
   else
   k21 false
  else
  E) 0
theorem ZlF (l:List ByteArray) (hl:l.length≤1000000) (E:Option Int) (z:Int) (hE:Za4 none l=0→E=some z):Tot (Zmr l E) fun r=>r=if Za4 none l=0 then z else Za4 none l:=by
 unfold Zmr
 refine ZaH (fun i=>∃ A B,l=A++B∧i=(A.length:Int)∧Za4 none l=Za4 A.getLast? B) (fun i=>l.length - i.toNat) ⟨[],l,rfl,rfl,rfl⟩ (by omega) ?_
 rintro i rec ⟨A,B,hA,rfl,hB⟩ ih
 have ll:l.length=A.length+B.length:=by rw [hA,List.length_append]
 refine ZK (fun hlt=>?_) fun hge=>?_
 ·cases B with
  | nil=>simp only [List.length_nil] at ll;omega
  | cons p B=>
    simp only [List.length_cons] at ll
    refine ZT (ZdD hA rfl) (ZT (v:=Zao p) rfl (ZaE (fun hv=>?_) fun hv=>?_))
    ·have hv:Zao p=false:=by simpa using hv
     rw [Zcg,if_pos hv] at hB
     rw [hB]
     exact ZU rfl
    have hv:¬ Zao p=false:=by simpa using hv
    rw [Zcg,if_neg hv] at hB
    refine Zar (fun q=>∀ b,b=Ze3 A.getLast? p→Tot (q b) fun r=>r=if Za4 none l=0 then z else Za4 none l) (fun b hb=>?_) fun k hk=>?_
    ·rw [← hb] at hB
     refine ZaE (fun h=>?_) fun h=>?_
     ·rw [if_pos h] at hB
      rw [hB]
      exact ZU rfl
     rw [if_neg (by rw [h];decide)] at hB
     rw [ZaT (by omega) (by omega)]
     exact ih _ ⟨A ++ [p],B,by rw [hA];simp,by simp,by rw [Ze4];exact hB⟩ (by omega)
    ·cases hq:A.getLast? with
     | none=>
       have h0:=ZhY hq
       refine ZK (fun h=>by omega) fun _=>hk _ (by rw [hq];rfl)
     | some q=>
       obtain ⟨h0,h1⟩:=ZhX hA hq hl
       exact ZK (fun _=>ZT (ZdD hA rfl) (ZT h1 (hk _ (by rw [hq,← Zox];rfl)))) fun h=>by omega
 ·have hb:B = []:=List.eq_nil_of_length_eq_zero (by omega)
  subst hb
  have h0:Za4 none l=0:=hB
  rw [if_pos h0,hE h0]
  exact ZU rfl
theorem Ze5 (A:List Asked) (a:Asked) (B:List Asked):Zcu A (a::B)=if (A.any fun x=>decide (x.key=a.key))=true then 5 else if 32768<a.answer.text.size then 3 else Zcu (A ++ [a]) B:=rfl
theorem Zkc {α β:Type} [DecidableEq α] (k k':α) (v:β):∀ m:List (α×β),Zbw (Zb0 m k v) k'=if k=k' then some v else Zbw m k'
 | []=>by
   simp only [Zb0,Zbw]
   by_cases h:k'=k
   ·rw [if_pos h,if_pos h.symm]
   ·rw [if_neg h,if_neg fun e=>h e.symm]
 | (j,b)::m=>by
  have ih:=Zkc k k' v m
  simp only [Zb0]
  by_cases h:k=j
  ·subst h
   rw [if_pos rfl]
   simp only [Zbw]
   by_cases h2:k'=k
   ·rw [if_pos h2,if_pos h2.symm]
   ·rw [if_neg h2,if_neg fun e=>h2 e.symm,if_neg h2]
  ·rw [if_neg h]
   simp only [Zbw]
   by_cases h2:k'=j
   ·rw [if_pos h2,if_pos h2,if_neg fun e=>h (e.trans h2)]
   ·rw [if_neg h2,if_neg h2,ih]
theorem Zm0 (l:List Asked) (hl:l.length≤1000000):Tot (Za8 l) fun r=>r=Zcu [] l:=by
 unfold Za8
 refine ZaH (fun x=>∃ A B,l=A++B∧x.1=(A.length:Int)∧Zcu [] l=Zcu A B∧∀ k,(Zbw x.2 k).getD false=A.any fun y=>decide (y.key=k)) (fun x=>l.length - x.1.toNat) ⟨[],l,rfl,rfl,rfl,fun k=>rfl⟩ (by dsimp only;omega) ?_
 rintro ⟨i,m⟩ rec ⟨A,B,hA,hi,hB,hm⟩ ih
 dsimp only at hi hm ih ⊢
 subst hi
 have ll:l.length=A.length+B.length:=by rw [hA,List.length_append]
 refine ZK (fun hlt=>?_) fun hge=>?_
 ·cases B with
  | nil=>simp only [List.length_nil] at ll;omega
  | cons a B=>
    simp only [List.length_cons] at ll
    rw [Ze5,← hm] at hB
    refine ZT (ZdD hA rfl) (ZaE (fun h=>?_) fun h=>?_)
    ·rw [if_pos h] at hB
     rw [hB]
     exact ZU rfl
    rw [if_neg (by rw [h];decide)] at hB
    refine ZK (fun h=>?_) fun h=>?_
    ·rw [if_pos (by omega)] at hB
     rw [hB]
     exact ZU rfl
    rw [if_neg (by omega)] at hB
    rw [ZaT (by omega) (by omega)]
    refine ih _ ⟨A ++ [a],B,by rw [hA];simp,by simp,hB,fun k=>?_⟩ (by dsimp only;omega)
    dsimp only
    rw [Zkc,List.any_append,← hm k]
    by_cases hk:a.key=k
    ·rw [if_pos hk];simp [hk]
    ·rw [if_neg hk];simp [hk]
 ·have hb:B = []:=List.eq_nil_of_length_eq_zero (by omega)
  subst hb
  exact ZU hB.symm
theorem ZlG (l:List Asked) (k:Key) (hl:l.length≤1000000):Tot (Zdx l k) fun r=>r.2=l.any fun y=>decide (y.key=k):=by
 unfold Zdx
 refine ZaH (fun i=>∃ A B,l=A++B∧i=(A.length:Int)∧(A.any fun y=>decide (y.key=k))=false) (fun i=>l.length - i.toNat) ⟨[],l,rfl,rfl,rfl⟩ (by omega) ?_
 rintro i rec ⟨A,B,hA,rfl,hB⟩ ih
 have ll:l.length=A.length+B.length:=by rw [hA,List.length_append]
 refine ZK (fun hlt=>?_) fun hge=>?_
 ·cases B with
  | nil=>simp only [List.length_nil] at ll;omega
  | cons a B=>
    simp only [List.length_cons] at ll
    refine ZT (ZdD hA rfl) (ZK (fun h=>ZT (ZdD hA rfl) (ZU ?_)) fun h=>?_)
    ·rw [hA]
     simp [h]
    rw [ZaT (by omega) (by omega)]
    exact ih _ ⟨A ++ [a],B,by rw [hA];simp,by simp,by rw [List.any_append,hB];simp [h]⟩ (by omega)
 ·have hb:B = []:=List.eq_nil_of_length_eq_zero (by omega)
  subst hb
  rw [List.append_nil] at hA
  exact ZU (by dsimp only;rw [hA,hB])
def Zms (l:List Asked):Option Int:=
 Zbf Zdy (fun f24 (x169:Int)=>
  if (decide (x169<(l.length:Int))) then
   (Zfx l 0 x169).bind fun l182=>
   (atI l x169).bind fun e183=>
   (Zdx l182 e183.key).bind fun r184=>
   if r184.2 then
    (some 5:Option Int)
   else
   (atI l x169).bind fun e185=>
   if (decide (32768<(e185.answer.text.size:Int))) then
    (some 3:Option Int)
   else
   f24 (w64 (x169+1))
  else
  (some 0:Option Int)) 0
theorem ZlH (l:List Asked) (hl:l.length≤1000000):Tot (Zms l) fun r=>r=Zcu [] l:=by
 unfold Zms
 refine ZaH (fun i=>∃ A B,l=A++B∧i=(A.length:Int)∧Zcu [] l=Zcu A B) (fun i=>l.length - i.toNat) ⟨[],l,rfl,rfl,rfl⟩ (by omega) ?_
 rintro i rec ⟨A,B,hA,rfl,hB⟩ ih
 have ll:l.length=A.length+B.length:=by rw [hA,List.length_append]
 refine ZK (fun hlt=>?_) fun hge=>?_
 ·cases B with
  | nil=>simp only [List.length_nil] at ll;omega
  | cons a B=>
    simp only [List.length_cons] at ll
    have hs:Zfx l 0 (A.length:Int)=some A:=by
     unfold Zfx
     rw [if_pos ⟨by omega,by omega,by omega⟩,hA]
     simp
    rw [Ze5] at hB
    refine ZT hs (ZT (ZdD hA rfl) (ZG (ZlG A a.key (by omega)) fun r hr=>?_))
    rw [← hr] at hB
    refine ZaE (fun h=>?_) fun h=>?_
    ·rw [if_pos h] at hB
     rw [hB]
     exact ZU rfl
    rw [if_neg (by rw [h];decide)] at hB
    refine ZT (ZdD hA rfl) (ZK (fun h=>?_) fun h=>?_)
    ·rw [if_pos (by omega)] at hB
     rw [hB]
     exact ZU rfl
    rw [if_neg (by omega)] at hB
    rw [ZaT (by omega) (by omega)]
    exact ih _ ⟨A ++ [a],B,by rw [hA];simp,by simp,hB⟩ (by omega)
 ·have hb:B = []:=List.eq_nil_of_length_eq_zero (by omega)
  subst hb
  exact ZU hB.symm
structure SmallV (v:View):Prop where
 pages:v.pages.length≤1000000
 groups:v.groups.length≤1000000
 fixed:v.fixed.length≤1000000
 pol:Zmc v.policy=true
theorem Zej (v:View) (h:SmallV v):ZaQ v=some (Zhc v):=by
 obtain ⟨h1,h2,h3,h4⟩:=h
 generalize hE:Zhc v=e
 unfold Zhc at hE
 refine ZcZ ?_
 unfold ZaQ
 refine Zar (fun q=>∀ b,b=(decide (200<v.pages.length)||(decide (26<v.groups.length)||decide (20000<v.fixed.length)))→Tot (q b) fun r=>r=e) (fun b hb=>?_) fun k hk=>?_
 ·refine ZaE (fun h=>ZU ?_) fun h=>?_
  ·rw [h] at hb
   by_cases c1:200<v.pages.length
   ·rw [if_pos c1] at hE;exact hE
   rw [if_neg c1] at hE
   by_cases c2:26<v.groups.length
   ·rw [if_pos c2] at hE;exact hE
   rw [if_neg c2] at hE
   by_cases c3:20000<v.fixed.length
   ·rw [if_pos c3] at hE;exact hE
   simp [c1,c2,c3] at hb
  ·rw [h] at hb
   have hb':=hb.symm
   simp only [Bool.or_eq_false_iff,decide_eq_false_iff_not] at hb'
   rw [if_neg hb'.1,if_neg hb'.2.1,if_neg hb'.2.2] at hE
   refine ZG (Q:=fun r=>r=ZbP none v.pages) ?_ fun r hr=>?_
   ·have:=ZiM Za1 Zfz v.pages h1 (some 0) 0 fun _=>rfl
    refine this.mono fun r hr=>?_
    rw [hr]
    split
    ·rename_i e;exact e.symm
    ·rfl
   subst hr
   refine ZaE (fun h=>ZU ?_) fun h=>?_
   ·rw [if_neg (by simpa using h)] at hE;exact hE
   rw [if_pos (by simpa using h)] at hE
   refine ZT (if_pos h4) (ZaE (fun h=>ZU ?_) fun h=>?_)
   ·rw [if_neg (by simpa using h)] at hE;exact hE
   rw [if_pos (by simpa using h)] at hE
   refine ZG (ZlE v.groups h2) fun r hr=>?_
   subst hr
   refine ZaE (fun h=>ZU ?_) fun h=>?_
   ·rw [if_neg (by simpa using h)] at hE;exact hE
   rw [if_pos (by simpa using h)] at hE
   refine Zar (fun q=>∀ b,b=decide (v.clock<0∨52596000≤v.clock)→Tot (q b) fun r=>r=e) (fun b hb=>?_) fun k hk=>?_
   ·refine ZaE (fun h=>ZU ?_) fun h=>?_
    ·rw [h] at hb
     rw [if_pos (of_decide_eq_true hb.symm)] at hE;exact hE
    ·rw [h] at hb
     rw [if_neg (of_decide_eq_false hb.symm)] at hE
     exact ZG (Zm0 v.fixed h3) fun r hr=>ZU (hr.trans hE)
   ·refine ZK (fun h=>hk _ (decide_eq_true (.inl h)).symm) fun h=>hk _ ?_
    by_cases h5:52596000≤v.clock
    ·rw [decide_eq_true h5,decide_eq_true (.inr h5)]
    ·rw [decide_eq_false h5,decide_eq_false (by omega)]
 ·refine ZK (fun h=>hk _ ?_) fun h=>ZK (fun h2=>hk _ ?_) fun h2=>hk _ ?_
  ·rw [decide_eq_true (show 200<v.pages.length by omega)];rfl
  ·rw [decide_eq_true (show 26<v.groups.length by omega)];simp
  ·rw [decide_eq_false (show ¬ 200<v.pages.length by omega),decide_eq_false (show ¬ 26<v.groups.length by omega),Bool.false_or,Bool.false_or]
   by_cases h3:20000<v.fixed.length
   ·rw [decide_eq_true h3,decide_eq_true (by omega)]
   ·rw [decide_eq_false h3,decide_eq_false (by omega)]
theorem ZfP (v:View) (h:SmallV v):Zbq v=some (Zhc v):=by
 obtain ⟨h1,h2,h3,h4⟩:=h
 generalize hE:Zhc v=e
 unfold Zhc at hE
 refine ZcZ ?_
 unfold Zbq
 refine Zar (fun q=>∀ b,b=(decide (200<v.pages.length)||(decide (26<v.groups.length)||decide (20000<v.fixed.length)))→Tot (q b) fun r=>r=e) (fun b hb=>?_) fun k hk=>?_
 ·refine ZaE (fun h=>ZU ?_) fun h=>?_
  ·rw [h] at hb
   by_cases c1:200<v.pages.length
   ·rw [if_pos c1] at hE;exact hE
   rw [if_neg c1] at hE
   by_cases c2:26<v.groups.length
   ·rw [if_pos c2] at hE;exact hE
   rw [if_neg c2] at hE
   by_cases c3:20000<v.fixed.length
   ·rw [if_pos c3] at hE;exact hE
   simp [c1,c2,c3] at hb
  ·rw [h] at hb
   have hb':=hb.symm
   simp only [Bool.or_eq_false_iff,decide_eq_false_iff_not] at hb'
   rw [if_neg hb'.1,if_neg hb'.2.1,if_neg hb'.2.2] at hE
   refine (ZiM ZcA (fun _ _=>rfl) v.pages h1 _ (if ZbZ v.policy=0 then (if Za4 none v.groups=0 then (if v.clock<0∨52596000≤v.clock then 2 else Zcu [] v.fixed) else Za4 none v.groups) else ZbZ v.policy) fun _=>?_).mono fun r hr=>hr.trans hE
   clear hE
   generalize hE:(if ZbZ v.policy=0 then (if Za4 none v.groups=0 then (if v.clock<0∨52596000≤v.clock then 2 else Zcu [] v.fixed) else Za4 none v.groups) else ZbZ v.policy)=e
   refine ZcZ (ZT (if_pos h4) (ZaE (fun h=>ZU ?_) fun h=>?_))
   ·rw [if_neg (by simpa using h)] at hE;exact hE
   rw [if_pos (by simpa using h)] at hE
   refine (ZlF v.groups h2 _ (if v.clock<0∨52596000≤v.clock then 2 else Zcu [] v.fixed) fun _=>?_).mono fun r hr=>hr.trans hE
   clear hE
   generalize hE:(if v.clock<0∨52596000≤v.clock then (2:Int) else Zcu [] v.fixed)=e
   refine ZcZ ?_
   refine Zar (fun q=>∀ b,b=decide (v.clock<0∨52596000≤v.clock)→Tot (q b) fun r=>r=e) (fun b hb=>?_) fun k hk=>?_
   ·refine ZaE (fun h=>ZU ?_) fun h=>?_
    ·rw [h] at hb
     rw [if_pos (of_decide_eq_true hb.symm)] at hE;exact hE
    ·rw [h] at hb
     rw [if_neg (of_decide_eq_false hb.symm)] at hE
     exact (ZlH v.fixed h3).mono fun r hr=>hr.trans hE
   ·refine ZK (fun h=>hk _ (decide_eq_true (.inl h)).symm) fun h=>hk _ ?_
    by_cases h5:52596000≤v.clock
    ·rw [decide_eq_true h5,decide_eq_true (.inr h5)]
    ·rw [decide_eq_false h5,decide_eq_false (by omega)]
 ·refine ZK (fun h=>hk _ ?_) fun h=>ZK (fun h2=>hk _ ?_) fun h2=>hk _ ?_
  ·rw [decide_eq_true (show 200<v.pages.length by omega)];rfl
  ·rw [decide_eq_true (show 26<v.groups.length by omega)];simp
  ·rw [decide_eq_false (show ¬ 200<v.pages.length by omega),decide_eq_false (show ¬ 26<v.groups.length by omega),Bool.false_or,Bool.false_or]
   by_cases h3:20000<v.fixed.length
   ·rw [decide_eq_true h3,decide_eq_true (by omega)]
   ·rw [decide_eq_false h3,decide_eq_false (by omega)]
def exN (N:List ByteArray) (s:ByteArray):Bool:=(N.any fun x=>decide (x=s))||Zbt s
def Zei (N:List ByteArray) (m:ByteArray):Int:=if (Zcq m).2 then (if Zao (Zcq m).1 then (if exN N (Zcq m).1 then 0 else 4) else 1) else (if Zao m then 0 else 1)
theorem ZiG (G:List Group) (s:ByteArray):Zaq G s=exN (G.map Group.name) s:=by
 unfold Zaq exN
 rw [List.any_map]
 rfl
theorem ZjK (G:List Group) (m:ByteArray):Zb1 G m=Zei (G.map Group.name) m:=by
 unfold Zb1 Zei
 rw [ZiG]
abbrev threeN:List ByteArray:=[⟨#[115,116,97,102,102]⟩,⟨#[109,111,100,115]⟩,⟨#[103,111,108,100]⟩]
abbrev ZmH:List ByteArray:=[⟨#[97,110,110]⟩,⟨#[98,111,98]⟩,⟨#[115,116,97,102,102]⟩,⟨#[109,111,100,115]⟩,⟨#[122,111,101]⟩]
def ZjL (n:Nat) (m:ByteArray):Prop:=m ∈ (⟨#[64,117,115,101,114,115]⟩:ByteArray)::ZmH∨∃ e ∈ threeN.take n,m=⟨#[64]⟩++e
theorem ZnL {n:Nat} (hn:n≤3) {m:ByteArray} (h:ZjL n m):Zei (threeN.take n) m=0:=by
 have k1:∀ n ∈ [0,1,2,3],(((⟨#[64,117,115,101,114,115]⟩:ByteArray)::ZmH).all fun m=>decide (Zei (threeN.take n) m=0))=true:=by
  intro n hn
  simp only [List.mem_cons,List.not_mem_nil,or_false] at hn
  rcases hn with rfl | rfl | rfl | rfl<;>kernel_rfl
 have k2:∀ n ∈ [0,1,2,3],((threeN.take n).all fun e=>decide (Zei (threeN.take n) (⟨#[64]⟩++e)=0))=true:=by
  intro n hn
  simp only [List.mem_cons,List.not_mem_nil,or_false] at hn
  rcases hn with rfl | rfl | rfl | rfl<;>kernel_rfl
 have h4:n ∈ [0,1,2,3]:=by simp only [List.mem_cons,List.not_mem_nil,or_false];omega
 rcases h with h | ⟨e,he,rfl⟩
 ·exact of_decide_eq_true (List.all_eq_true.1 (k1 n h4) m h)
 ·exact of_decide_eq_true (List.all_eq_true.1 (k2 n h4) e he)
theorem ZjM {i:Nat} {x:ByteArray} (h:threeN[i]? = some x):Zao x=true∧exN (threeN.take i) x=false:=by
 have k:∀ i ∈ [0,1,2],∀ x,threeN[i]? = some x→Zao x=true∧exN (threeN.take i) x=false:=by
  intro i hi x hx
  simp only [List.mem_cons,List.not_mem_nil,or_false] at hi
  rcases hi with rfl | rfl | rfl<;>cases hx<;>exact ⟨by kernel_rfl,by kernel_rfl⟩
 have hl:i<3:=(List.getElem?_eq_some_iff.1 h).1
 exact k i (by simp only [List.mem_cons,List.not_mem_nil,or_false];omega) x h
theorem ZnM (G:List Group):∀ l:List ByteArray,(∀ m ∈ l,Zb1 G m=0)→ZbG G l=0
 | [],_=>rfl
 | m::l,h=>by
   rw [ZbG,if_pos (h m (List.mem_cons_self ..))]
   exact ZnM G l fun x hx=>h x (List.mem_cons_of_mem _ hx)
theorem ZjN {α:Type} (f:α→Int):∀ l:List α,(∀ m ∈ l,f m=0)→ZaN f l=0
 | [],_=>rfl
 | m::l,h=>by
   rw [ZaN,if_pos (h m (List.mem_cons_self ..))]
   exact ZjN f l fun x hx=>h x (List.mem_cons_of_mem _ hx)
theorem ZjO (G:List Group) (h:∀ i g,G[i]? = some g→Za6 G i g=0):∀ (B A:List Group),G=A++B→ZaG G A.length B=0
 | [],_,_=>rfl
 | g::B,A,e=>by
   have hg:Za6 G A.length g=0:=h _ _ (by rw [e];simp)
   rw [ZaG,if_pos hg]
   have:=ZjO G h B (A ++ [g]) (by rw [e];simp)
   simpa using this
structure GrpOk (n:Nat) (G:List Group):Prop where
 nm:G.map Group.name=threeN.take n
 mem:∀ g ∈ G,g.members.length≤3∧∀ m ∈ g.members,Zei (threeN.take n) m=0
theorem ZmI {n:Nat} (hn:n≤3) {G:List Group} (h:GrpOk n G) (i:Nat) (g:Group) (hg:G[i]? = some g):Za6 G i g=0:=by
 have h1:(threeN.take n)[i]? = some g.name:=by rw [← h.nm,List.getElem?_map,hg];rfl
 have hi:i<n:=by
  have:=(List.getElem?_eq_some_iff.1 h1).1
  rw [List.length_take] at this
  omega
 have h2:threeN[i]? = some g.name:=by rw [List.getElem?_take_of_lt hi] at h1;exact h1
 obtain ⟨k1,k2⟩:=ZjM h2
 obtain ⟨m1,m2⟩:=h.mem g (List.mem_of_getElem? hg)
 unfold Za6
 rw [if_pos k1,if_neg (by rw [ZiG,List.map_take,h.nm,List.take_take,Nat.min_eq_left (Nat.le_of_lt hi),k2];simp),if_neg (by omega)]
 exact ZnM G _ fun m hm=>by rw [ZjK,h.nm];exact m2 m hm
structure PolV (p:Policy):Prop where
 err:ZbZ p=0
 glen:p.groups.length≤3
 gmem:∀ g ∈ p.groups,g.members.length≤3∧Zao g.name=true
 rlen:p.rules.length≤8
 ulen:p.guards.length≤5
theorem PolV.sz {p:Policy} (h:PolV p):Zmc p=true:=by
 have h1:=h.glen
 have h2:=h.rlen
 have h3:=h.ulen
 unfold Zmc
 rw [decide_eq_true (show p.groups.length≤1000000 by omega),decide_eq_true (show p.rules.length≤1000000 by omega),decide_eq_true (show p.guards.length≤1000000 by omega)]
 rfl
theorem ZmJ {n:Nat} (hn:n≤3) {p:Policy} (h:GrpOk n p.groups) (hr:p.rules.length≤8) (hu:p.guards.length≤5) (h1:∀ r ∈ p.rules,(1≤r.right∧r.right≤5)∧exN (threeN.take n) r.group=true∧Zbe r.scope=true) (h2:∀ g ∈ p.guards,exN (threeN.take n) g.group=true∧g.title.valid=true∧ZgT g.section_=true):PolV p:=by
 have hl:p.groups.length≤3:=by
  have:=congrArg List.length h.nm
  rw [List.length_map,List.length_take] at this
  omega
 refine ⟨?_,hl,fun g hg=>⟨(h.mem g hg).1,?_⟩,hr,hu⟩
 ·unfold ZbZ
  rw [if_neg (by omega),if_neg (by omega),if_neg (by omega),if_pos (show ZaG p.groups 0 p.groups=0 from ZjO p.groups (ZmI hn h) p.groups [] rfl),if_pos (ZjN _ _ fun r hr=>?_)]
  ·refine ZjN _ _ fun g hg=>?_
   obtain ⟨a,b,c⟩:=h2 g hg
   unfold ZaV
   rw [ZiG,h.nm,if_pos a,b,c]
   rfl
  ·obtain ⟨a,b,c⟩:=h1 r hr
   unfold ZaP
   rw [if_pos a,ZiG,h.nm,if_pos b,if_pos c]
 ·obtain ⟨i,hi⟩:=List.getElem?_of_mem hg
  have h1:(threeN.take n)[i]? = some g.name:=by rw [← h.nm,List.getElem?_map,hi];rfl
  have hi:i<n:=by
   have:=(List.getElem?_eq_some_iff.1 h1).1
   rw [List.length_take] at this
   omega
  rw [List.getElem?_take_of_lt hi] at h1
  exact (ZjM h1).1
theorem ZhR (s:TapeF) (L:List ByteArray) (hs:s.ok) (h0:0<L.length):Tot (ZW s L) fun r=>r.1 ∈ L∧r.2.ok:=by
 unfold ZW
 refine ZG (Zaa s _ hs (by omega)) fun r hr=>?_
 exact ZaX hr.1.1 hr.1.2 fun e he _=>ZU ⟨he,hr.2⟩
abbrev tenN:List ByteArray:=[⟨#[65]⟩,⟨#[66]⟩,⟨#[65,47,66]⟩,⟨#[67]⟩,⟨#[84]⟩,⟨#[85,47,120]⟩,⟨#[65,47,66,47,99]⟩,⟨#[76,111,110,103,32,110,97,109,101]⟩,⟨#[49]⟩,⟨#[88]⟩]
theorem ZnN {i:Int} (h0:0≤i) (h1:i<6) {x:ByteArray} (h:x ∈ tenN):Title.valid ⟨i,x⟩=true:=by
 have k:(([0,1,2,3,4,5]:List Int).all fun i=>tenN.all fun x=>Title.valid ⟨i,x⟩)=true:=by kernel_rfl
 have hi:i ∈ ([0,1,2,3,4,5]:List Int):=by simp only [List.mem_cons,List.not_mem_nil,or_false];omega
 exact List.all_eq_true.1 (List.all_eq_true.1 k i hi) x h
theorem ZiH (s:TapeF) (hs:s.ok):Tot (ZaK s) fun r=>r.1.valid=true∧r.2.ok:=by
 unfold ZaK
 refine ZG (Zaa _ 6 hs (by decide)) fun r hr=>ZG (ZhR _ _ hr.2 (by simp)) fun r2 hr2=>ZU ⟨ZnN hr.1.1 hr.1.2 hr2.1,hr2.2⟩
theorem ZmK (s:TapeF) (hs:s.ok):Tot (ZbL s) fun r=>r.1 ∈ ZmH∧r.2.ok:=by
 unfold ZbL
 exact ZG (ZhR _ _ hs (by simp)) fun r hr=>ZU hr
theorem ZgZ {N:List ByteArray} {x:ByteArray} (h:x ∈ [(⟨#[97,108,108]⟩:ByteArray),⟨#[117,115,101,114,115]⟩]++N):exN N x=true:=by
 unfold exN
 rw [List.mem_append] at h
 rcases h with h | h
 ·have hb:Zbt x=true:=by
   simp only [List.mem_cons,List.not_mem_nil,or_false] at h
   rcases h with rfl | rfl<;>kernel_rfl
  rw [hb,Bool.or_true]
 ·rw [List.any_eq_true.2 ⟨x,h,decide_eq_true rfl⟩]
  rfl
theorem ZjP {l:List ByteArray} {i:Nat} {x:ByteArray} (h:l[i]? = some x):l.take i ++ [x]=l.take (i+1):=by
 rw [List.take_add_one,h]
 rfl
theorem ZnO {x:ByteArray} (h:x ∈ [(⟨#[]⟩:ByteArray),⟨#[115]⟩,⟨#[116]⟩,⟨#[97,32,98]⟩]):ZgT x=true:=by
 simp only [List.mem_cons,List.not_mem_nil,or_false] at h
 rcases h with rfl | rfl | rfl | rfl<;>kernel_rfl
theorem Zlo (i:Int) (h0:0≤i) (h1:i<6):Zbe ⟨2,⟨i,⟨#[]⟩⟩⟩=true:=by
 unfold Zbe
 rw [if_neg (show ¬ (2:Int)=1 by decide),if_pos rfl,decide_eq_true h0,decide_eq_true h1]
 rfl
theorem ZmL (t:Title) (h:t.valid=true):Zbe ⟨3,t⟩=true:=by
 unfold Zbe
 rw [if_neg (show ¬ (3:Int)=1 by decide),if_neg (show ¬ (3:Int)=2 by decide),if_pos rfl]
 exact h
def Zmo (N:List ByteArray) (r:Rule):Prop:=(1≤r.right∧r.right≤5)∧exN N r.group=true∧Zbe r.scope=true
def ZmM (N:List ByteArray) (g:Guard):Prop:=exN N g.group=true∧g.title.valid=true∧ZgT g.section_=true
abbrev Zlp (r:Policy×TapeF):Prop:=PolV r.1∧r.2.ok
set_option maxHeartbeats 4000000 in
theorem ZjQ (s:TapeF) (hs:s.ok):Tot (Zbi s) Zlp:=by
 unfold Zbi
 refine ZG (Zaa _ 4 hs (by decide)) fun r1 h1=>?_
 obtain ⟨⟨n0,n1⟩,k1⟩:=h1
 refine ZaH (fun x=>((0≤x.1∧x.1≤r1.1)∧TapeF.ok ⟨x.2.1,x.2.2.1⟩)∧x.2.2.2.map Group.name=threeN.take x.1.toNat∧∀ g ∈ x.2.2.2,g.members.length≤3∧∀ m ∈ g.members,ZjL r1.1.toNat m) (fun x=>4 - x.1.toNat) ⟨⟨⟨by simp,by dsimp only;omega⟩,k1⟩,rfl,by simp⟩ (by dsimp only;omega) ?_
 rintro ⟨i,l,p,G⟩ rec ⟨⟨⟨g0,g1⟩,g2⟩,g3,g4⟩ ih
 dsimp only at g0 g1 g2 g3 g4 ih ⊢
 have gl:G.length≤3:=by
  have:=congrArg List.length g3
  rw [List.length_map,List.length_take] at this
  simp only [List.length_cons,List.length_nil] at this
  omega
 refine ZK (fun hlt=>?_) fun hge=>?_
 ·refine ZaX (by omega) (by simp only [List.length_cons,List.length_nil];omega) fun e _ he=>?_
  refine ZaH (fun x=>((0≤x.1∧x.1≤3)∧TapeF.ok ⟨x.2.1,x.2.2.1⟩)∧(x.2.2.2.length:Int)≤x.1∧∀ m ∈ x.2.2.2,ZjL r1.1.toNat m) (fun x=>4 - x.1.toNat) ⟨⟨⟨by simp,by simp⟩,g2⟩,by simp,by simp⟩ (by dsimp only;omega) ?_
  rintro ⟨j,l2,p2,M⟩ rec2 ⟨⟨⟨q0,q1⟩,q2⟩,q3,q4⟩ ih2
  dsimp only at q0 q1 q2 q3 q4 ih2 ⊢
  refine ZG (Zaa _ 3 q2 (by decide)) fun r2 h2=>?_
  obtain ⟨⟨a0,a1⟩,a2⟩:=h2
  refine ZK (fun hlt2=>?_) fun hge2=>?_
  ·refine ZG (ZmK _ a2) fun r3 h3=>ZG (Zaa _ 3 h3.2 (by decide)) fun r4 h4=>?_
   refine Zar (fun q=>∀ (b:ByteArray) (l:List Int) (p:Int),ZjL r1.1.toNat b→TapeF.ok ⟨l,p⟩→Tot (q b l p) Zlp) (fun b l p hb hlp=>?_) fun k hk=>?_
   ·refine ZG (Zaa _ 9 hlp (by decide)) fun r5 h5=>?_
    refine Zar (fun q=>∀ (b:ByteArray),ZjL r1.1.toNat b→Tot (q b) Zlp) (fun b hb=>?_) fun k2 hk2=>?_
    ·refine ZaU 100 (by simp only [List.length_nil];omega) (by omega) (by omega) ?_
     refine ZaU 100 (by simp only [List.nil_append,List.length_singleton];omega) (by omega) (by omega) ?_
     rw [ZaT (by omega) (by omega)]
     refine ih2 _ ⟨⟨⟨by dsimp only;omega,by dsimp only;omega⟩,h5.2⟩,by dsimp only;simp only [List.nil_append,List.length_append,List.length_singleton];omega,fun m hm=>?_⟩ (by dsimp only;omega)
     rcases List.mem_append.1 hm with hm | hm
     ·exact q4 m (by simpa using hm)
     ·rw [List.mem_singleton.1 hm];exact hb
    ·exact ZK (fun _=>hk2 _ (.inl (List.mem_cons_self ..))) fun _=>hk2 _ hb
   ·refine ZK (fun _=>?_) fun _=>hk _ _ _ (.inl (List.mem_cons_of_mem _ h3.1)) h4.2
    refine ZG (Zaa _ r1.1 h4.2 (by omega)) fun r6 h6=>?_
    refine ZaX h6.1.1 (by simp only [List.length_cons,List.length_nil];omega) fun e2 he2 hee2=>?_
    have hsz:e2.size≤30:=by
     simp only [List.mem_cons,List.not_mem_nil,or_false] at he2
     rcases he2 with rfl | rfl | rfl<;>decide
    have hin:e2 ∈ threeN.take r1.1.toNat:=List.mem_of_getElem? (i:=r6.1.toNat) (by
     rw [List.getElem?_take_of_lt (by omega)]
     exact hee2)
    have e1:(⟨#[64]⟩:ByteArray).size=1:=rfl
    exact Zb4 (by omega) fun _=>hk _ _ _ (.inr ⟨e2,hin,rfl⟩) h6.2
  ·refine ZaU 100 (by simp only [List.length_nil];omega) (by omega) (by omega) ?_
   refine ZaU 100 (by simp only [List.nil_append,List.length_singleton];omega) (by omega) (by omega) ?_
   rw [ZaT (by omega) (by omega)]
   have hi:(i+1).toNat=i.toNat+1:=by omega
   refine ih _ ⟨⟨⟨by dsimp only;omega,by dsimp only;omega⟩,a2⟩,?_,fun g hg=>?_⟩ (by dsimp only;omega)
   ·dsimp only
    rw [hi,← ZjP he,← g3]
    simp
   rcases List.mem_append.1 hg with hg | hg
   ·exact g4 g (by simpa using hg)
   ·rw [List.mem_singleton.1 hg];exact ⟨by dsimp only;omega,q4⟩
 ·have hin:i=r1.1:=by omega
  subst hin
  have hn3:r1.1.toNat≤3:=by omega
  have hG:GrpOk r1.1.toNat G:=⟨g3,fun g hg=>⟨(g4 g hg).1,fun m hm=>ZnL hn3 ((g4 g hg).2 m hm)⟩⟩
  refine ZlV (by omega) n0 (by simp only [List.length_cons,List.length_nil];omega) fun m hm hml=>?_
  have hm:m=threeN.take r1.1.toNat:=hm
  subst hm
  refine ZaU 100 (by simp only [List.length_cons,List.length_nil];omega) (by omega) (by omega) ?_
  generalize hK : [(⟨#[97,108,108]⟩:ByteArray),(⟨#[117,115,101,114,115]⟩:ByteArray)]++threeN.take r1.1.toNat=K
  have hK0:0<K.length:=by rw [← hK];simp
  have hKk:∀ x ∈ K,exN (threeN.take r1.1.toNat) x=true:=fun x hx=>ZgZ (by rw [hK];exact hx)
  have hR:∀ r ∈ [(⟨true,1,⟨#[97,108,108]⟩,⟨1,⟨0,⟨#[]⟩⟩⟩⟩:Rule)],Zmo (threeN.take r1.1.toNat) r:=by
   intro r hr
   rw [List.mem_singleton.1 hr]
   exact ⟨⟨by decide,by decide⟩,ZgZ (by simp),by kernel_rfl⟩
  refine ZaH (fun x=>((0≤x.1∧x.1≤7)∧TapeF.ok ⟨x.2.1,x.2.2.1⟩)∧(x.2.2.2.length:Int)≤1+x.1∧∀ r ∈ x.2.2.2,Zmo (threeN.take r1.1.toNat) r) (fun x=>8 - x.1.toNat) ⟨⟨⟨by simp,by simp⟩,g2⟩,by simp,hR⟩ (by dsimp only;omega) ?_
  rintro ⟨j,l2,p2,R⟩ rec2 ⟨⟨⟨q0,q1⟩,q2⟩,q3,q4⟩ ih2
  dsimp only at q0 q1 q2 q3 q4 ih2 ⊢
  refine ZG (Zaa _ 7 q2 (by decide)) fun r2 h2=>?_
  obtain ⟨⟨a0,a1⟩,a2⟩:=h2
  refine ZK (fun hlt2=>?_) fun hge2=>?_
  ·refine ZG (Zaa _ 3 a2 (by decide)) fun r3 h3=>ZG (Zaa _ 5 h3.2 (by decide)) fun r4 h4=>ZG (ZhR _ _ h4.2 hK0) fun r5 h5=>ZG (Zaa _ 3 h5.2 (by decide)) fun r6 h6=>?_
   have e4:w64 (1+r4.1)=1+r4.1:=ZaT (by omega) (by omega)
   refine Zar (fun q=>∀ (l:List Int) (p a b:Int) (c:ByteArray),TapeF.ok ⟨l,p⟩→Zbe ⟨a,⟨b,c⟩⟩=true→Tot (q l p a b c) Zlp) (fun l p a b c hlp hsc=>?_) fun k hk=>?_
   ·refine ZaU 100 (by simp only [List.length_nil];omega) (by omega) (by omega) ?_
    refine ZaU 100 (by simp only [List.nil_append,List.length_singleton];omega) (by omega) (by omega) ?_
    rw [ZaT (n:=j+1) (by omega) (by omega)]
    refine ih2 _ ⟨⟨⟨by dsimp only;omega,by dsimp only;omega⟩,hlp⟩,by dsimp only;simp only [List.nil_append,List.length_append,List.length_singleton];omega,fun r hr=>?_⟩ (by dsimp only;omega)
    rcases List.mem_append.1 hr with hr | hr
    ·exact q4 r (by simpa using hr)
    ·rw [List.mem_singleton.1 hr]
     exact ⟨⟨by dsimp only;omega,by dsimp only;omega⟩,hKk _ h5.1,hsc⟩
   ·refine ZK (fun _=>hk _ _ _ _ _ h6.2 (by kernel_rfl)) fun _=>ZK (fun _=>?_) fun _=>?_
    ·exact ZG (Zaa _ 6 h6.2 (by decide)) fun r7 h7=>hk _ _ _ _ _ h7.2 (Zlo _ h7.1.1 h7.1.2)
    ·exact ZG (ZiH _ h6.2) fun r7 h7=>hk _ _ _ _ _ h7.2 (ZmL _ h7.1)
  ·refine ZaH (fun x=>((0≤x.1∧x.1≤4)∧TapeF.ok ⟨x.2.1,x.2.2.1⟩)∧(x.2.2.2.length:Int)≤x.1∧∀ g ∈ x.2.2.2,ZmM (threeN.take r1.1.toNat) g) (fun x=>5 - x.1.toNat) ⟨⟨⟨by simp,by simp⟩,a2⟩,by simp,by simp⟩ (by dsimp only;omega) ?_
   rintro ⟨j3,l3,p3,U⟩ rec3 ⟨⟨⟨u0,u1⟩,u2⟩,u3,u4⟩ ih3
   dsimp only at u0 u1 u2 u3 u4 ih3 ⊢
   refine ZG (Zaa _ 4 u2 (by decide)) fun r3 h3=>?_
   obtain ⟨⟨b0,b1⟩,b2⟩:=h3
   refine ZK (fun hlt3=>?_) fun hge3=>ZU ⟨ZmJ hn3 hG (by dsimp only;omega) (by dsimp only;omega) q4 u4,b2⟩
   refine ZG (Zaa _ 3 b2 (by decide)) fun r4 h4=>ZG (ZhR _ _ h4.2 hK0) fun r5 h5=>ZG (ZiH _ h5.2) fun r6 h6=>ZG (ZhR _ _ h6.2 (by simp)) fun r7 h7=>?_
   refine ZaU 100 (by simp only [List.length_nil];omega) (by omega) (by omega) ?_
   refine ZaU 100 (by simp only [List.nil_append,List.length_singleton];omega) (by omega) (by omega) ?_
   rw [ZaT (by omega) (by omega)]
   refine ih3 _ ⟨⟨⟨by dsimp only;omega,by dsimp only;omega⟩,h7.2⟩,by dsimp only;simp only [List.nil_append,List.length_append,List.length_singleton];omega,fun g hg=>?_⟩ (by dsimp only;omega)
   rcases List.mem_append.1 hg with hg | hg
   ·exact u4 g (by simpa using hg)
   ·rw [List.mem_singleton.1 hg]
    exact ⟨hKk _ h5.1,h6.1,ZnO h7.1⟩
theorem Zmy:∀ (l:List Page) (q:Option Page),(∀ p ∈ l,p.title.valid=true∧p.text.size≤8192∧1≤p.revision)→l.Pairwise (fun a b=>Title.cmp a.title b.title<0)→(∀ a,q=some a→∀ p ∈ l,Title.cmp a.title p.title<0)→ZbP q l=0
 | [],_,_,_,_=>by unfold ZbP;rfl
 | p::l,q,h,hp,hq=>by
   obtain ⟨h1,h2,h3⟩:=h p (List.mem_cons_self ..)
   have hb:Zgr q p=false:=by
    cases q with
    | none=>rfl
    | some a=>
      have:=hq a rfl p (List.mem_cons_self ..)
      exact decide_eq_false (by omega)
   rw [ZdO,if_neg (by rw [h1];simp),if_neg (by rw [hb];simp),if_neg (by omega),if_neg (by omega)]
   rw [List.pairwise_cons] at hp
   exact Zmy l (some p) (fun x hx=>h x (List.mem_cons_of_mem _ hx)) hp.2 fun a ha x hx=>by cases ha;exact hp.1 x hx
theorem Zmz:∀ (l:List ByteArray) (q:Option ByteArray),(∀ p ∈ l,Zao p=true)→l.Pairwise (fun a b=>cB a b<0)→(∀ a,q=some a→∀ p ∈ l,cB a p<0)→Za4 q l=0
 | [],_,_,_,_=>by unfold Za4;rfl
 | p::l,q,h,hp,hq=>by
   have h1:=h p (List.mem_cons_self ..)
   have hb:Ze3 q p=false:=by
    cases q with
    | none=>rfl
    | some a=>
      have:=hq a rfl p (List.mem_cons_self ..)
      show (!ltS a p)=false
      rw [ZgP,decide_eq_true this]
      rfl
   rw [Zcg,if_neg (by rw [h1];simp),if_neg (by rw [hb];simp)]
   rw [List.pairwise_cons] at hp
   exact Zmz l (some p) (fun x hx=>h x (List.mem_cons_of_mem _ hx)) hp.2 fun a ha x hx=>by cases ha;exact hp.1 x hx
theorem Znu (l:List Title) (t:Title) (h:l.length≤1000000) (hl:Asc Title.cmp (fun x=>x) l):Tot (Zc5 l t) fun r=>Asc Title.cmp (fun x=>x) r∧r.length≤l.length+1∧∀ x ∈ r,x ∈ l∨x=t:=by
 obtain ⟨r,e,h1,h2⟩:=ZmU l t h
 refine ⟨r,e,?_,h1,h2⟩
 have e2:Zc5 l t=some (Zig Title.cmp (fun x=>x) l t):=by
  rw [ZjV]
  exact Zj6 (key:=fun x:Title=>x) 24 (fun a b=>rfl) (fun _ _=>rfl) (by decide) l t h
 rw [e2] at e
 injection e with e
 rw [← e]
 exact ZkC Zgp hl t
abbrev mainN:List ByteArray:=[⟨#[65]⟩,⟨#[66]⟩,⟨#[65,47,66]⟩,⟨#[67]⟩,⟨#[68]⟩]
abbrev tmplN:List ByteArray:=[⟨#[84]⟩,⟨#[65]⟩,⟨#[66]⟩,⟨#[85,47,120]⟩,⟨#[88]⟩]
theorem Znv {x:ByteArray} (h:x ∈ mainN):Title.valid ⟨0,x⟩=true:=
 List.all_eq_true.1 (show (mainN.all fun x=>Title.valid ⟨0,x⟩)=true by kernel_rfl) x h
theorem Znw {x:ByteArray} (h:x ∈ tmplN):Title.valid ⟨3,x⟩=true:=
 List.all_eq_true.1 (show (tmplN.all fun x=>Title.valid ⟨3,x⟩)=true by kernel_rfl) x h
theorem Znx (s:TapeF) (hs:s.ok):Tot (Zaw s) fun r=>(r.1.space=0∧r.1.valid=true)∧r.2.ok:=by
 unfold Zaw
 refine ZG (ZhR _ _ hs (by simp)) fun r hr=>ZU ⟨⟨rfl,Znv hr.1⟩,hr.2⟩
structure ViewV (v:View):Prop where
 err:Zhc v=0
 pol:PolV v.policy
 plen:v.pages.length≤6
 glen:v.groups.length≤5
 fix:v.fixed = []
theorem Zmi {v:View} (hf:v.fixed = []) (hp:PolV v.policy) (hc:0≤v.clock∧v.clock<52596000) (hg:Asc cB (fun x=>x) v.groups) (hgm:∀ y ∈ v.groups,y ∈ (⟨#[97,108,108]⟩:ByteArray)::⟨#[117,115,101,114,115]⟩::v.policy.groups.map Group.name)
  (hl:v.pages.length≤6) (ha:Asc Title.cmp (fun x=>x) (v.pages.map Page.title)) (h1:∀ p ∈ v.pages,p.title.valid=true∧p.text.size≤8192∧1≤p.revision):ViewV v:=by
 have h5:v.groups.length≤5:=by
  have h:=Zgq v.groups _ (hg.imp fun h=>ZkB cmpStr_laws h) hgm
  have:=hp.glen
  simp only [List.length_cons,List.length_map] at h
  omega
 refine ⟨?_,hp,hl,h5,hf⟩
 have k1:ZbP none v.pages=0:=Zmy _ _ h1 (List.pairwise_map.1 ha) fun a ha=>by cases ha
 have hn:∀ p ∈ v.groups,Zao p=true:=fun p h=>by
  have:=hgm p h
  simp only [List.mem_cons,List.mem_map] at this
  rcases this with h1 | h1 | ⟨g,h1,h2⟩
  ·rw [h1];exact (show Zao (⟨#[97,108,108]⟩:ByteArray)=true by kernel_rfl)
  ·rw [h1];exact (show Zao (⟨#[117,115,101,114,115]⟩:ByteArray)=true by kernel_rfl)
  ·rw [← h2];exact (hp.gmem g h1).2
 have k2:Za4 none v.groups=0:=Zmz _ _ hn hg fun a ha=>by cases ha
 unfold Zhc
 rw [hf,if_neg (by omega),if_neg (by omega),if_neg (by simp),if_pos k1,if_pos hp.err,if_pos k2,if_neg (by omega)]
 rfl
theorem ZkZ {L:List Page} {T:List Title} {j:Nat} {t:Title} {p:Page} (h:L.map Page.title=T.take j) (ht:T[j]? = some t) (hp:p.title=t):(L ++ [p]).map Page.title=T.take (j+1):=by
 rw [List.map_append,h,List.map_singleton,hp,List.take_add_one,ht]
 rfl
abbrev ZmA (r:View×TapeF):Prop:=ViewV r.1∧r.2.ok
set_option maxHeartbeats 1000000 in
theorem Zny (s:TapeF) (hs:s.ok):Tot (ZbN s 2) ZmA:=by
 unfold ZbN
 refine ZG (ZjQ s hs) fun r1 h1=>ZG (Zaa _ 600000 h1.2 (by decide)) fun r2 h2=>ZG (ZmT _ h2.2) fun r3 h3=>?_
 have hP:=h1.1
 refine ZG (ZjD _ _ (by have:=h3.1;omega) (by have:=hP.glen;omega) (fun g hg=>by have:=(hP.gmem g hg).1;omega)) fun r4 h4=>?_
 have ec:w64 (r2.1 * 80)=r2.1 * 80:=ZaT (by omega) (by omega)
 refine ZG (Zaa _ 6 h3.2 (by decide)) fun r5 h5=>?_
 obtain ⟨⟨n0,n1⟩,k5⟩:=h5
 refine ZaH (fun x=>((0≤x.2.1∧x.2.1≤r5.1)∧TapeF.ok ⟨x.2.2.1,x.2.2.2⟩)∧(x.1.length:Int)≤x.2.1∧Asc Title.cmp (fun x=>x) x.1∧∀ t ∈ x.1,t.valid=true) (fun x=>7 - x.2.1.toNat) ⟨⟨⟨by simp,by dsimp only;omega⟩,k5⟩,by simp,List.Pairwise.nil,by simp⟩ (by dsimp only;omega) ?_
 rintro ⟨T,i,l,p⟩ rec ⟨⟨⟨g0,g1⟩,g2⟩,g3,g4,g5⟩ ih
 dsimp only at g0 g1 g2 g3 g4 g5 ih ⊢
 refine ZK (fun hlt=>?_) fun hge=>?_
 ·refine ZG (Znx _ g2) fun r6 h6=>ZG (Zaa _ 3 h6.2 (by decide)) fun r7 h7=>?_
  refine Zar (fun q=>∀ (l:List Int) (p a:Int) (b:ByteArray),TapeF.ok ⟨l,p⟩→Title.valid ⟨a,b⟩=true→Tot (q l p a b) ZmA) (fun l p a b hlp hb=>?_) fun k hk=>?_
  ·refine ZG (Znu _ _ (by omega) g4) fun r8 h8=>?_
   rw [ZaT (by omega) (by omega)]
   refine ih _ ⟨⟨⟨by dsimp only;omega,by dsimp only;omega⟩,hlp⟩,by dsimp only;have:=h8.2.1;omega,h8.1,fun t ht=>?_⟩ (by dsimp only;omega)
   rcases h8.2.2 t ht with h | h
   ·exact g5 t h
   ·rw [h];exact hb
  ·exact ZK (fun _=>ZG (ZhR _ _ h7.2 (by simp)) fun r8 h8=>hk _ _ _ _ h8.2 (Znw h8.1)) fun _=>hk _ _ _ _ h7.2 h6.1.2
 ·refine ZaH (fun x=>((0≤x.1∧x.1≤(T.length:Int))∧TapeF.ok ⟨x.2.1,x.2.2.1⟩)∧x.2.2.2.map Page.title=T.take x.1.toNat∧∀ p ∈ x.2.2.2,p.title.valid=true∧p.text.size≤8192∧1≤p.revision) (fun x=>T.length - x.1.toNat) ⟨⟨⟨by simp,by simp⟩,g2⟩,by simp,by simp⟩ (by dsimp only;omega) ?_
  rintro ⟨j,l2,p2,L⟩ rec2 ⟨⟨⟨q0,q1⟩,q2⟩,q3,q4⟩ ih2
  dsimp only at q0 q1 q2 q3 q4 ih2 ⊢
  have ll:(L.length:Int)≤j:=by
   have:=congrArg List.length q3
   rw [List.length_map,List.length_take] at this
   omega
  refine ZK (fun hlt2=>?_) fun hge2=>ZU ⟨?_,q2⟩
  ·refine ZaX q0 hlt2 fun e he hee=>ZG (ZmR _ q2) fun r6 h6=>ZG (Zaa _ 9 h6.2 (by decide)) fun r7 h7=>?_
   have er:w64 (1+r7.1)=1+r7.1:=ZaT (by omega) (by omega)
   refine ZaU 100 (by simp only [List.length_singleton];omega) (by omega) (by omega) ?_
   rw [ZaT (n:=j+1) (by omega) (by omega)]
   have hj:(j+1).toNat=j.toNat+1:=by omega
   refine ih2 _ ⟨⟨⟨by dsimp only;omega,by dsimp only;omega⟩,h7.2⟩,by dsimp only;rw [hj];exact ZkZ q3 hee rfl,fun p hp=>?_⟩ (by dsimp only;omega)
   rcases List.mem_append.1 hp with h | h
   ·exact q4 p h
   ·rw [List.mem_singleton.1 h];exact ⟨g5 e he,h6.1,by dsimp only;omega⟩
  ·have hT:L.map Page.title=T:=by
    rw [q3,List.take_of_length_le (by omega)]
   refine Zmi rfl hP ⟨?_,?_⟩ h4.1 h4.2 ?_ ?_ q4
   ·dsimp only;omega
   ·dsimp only;omega
   ·dsimp only;omega
   ·dsimp only;rw [hT];exact g4
end Go.Proofs.YtpffimahajgiaaaGreatDoor
namespace Go.Proofs.YtpffimahajgiaaaGreatDoor
namespace VL
open Go.RowKit
theorem Zjq {s:FS} {u j:Nat} {g:Gen} {cs:List PV} {p q:PV} {us:List (Nat×Option (Gen×VObj))} (h0:s.ob u=some (g,.box cs)) (hj:cs[j]? = some p) (h:Zgm s.ob p=some (q,us)):Shift s ⟨s.tm,ZbA (flips s.ob us) u (some (g,.box (cs.set j q))),s.ng⟩:=fun r a x hX=>by
 obtain ⟨_,b,T,vs,e1,e2,e3,e4,e5,e6,e7⟩:=hX.ob u g _ h0
 have hlt:j<vs.size:=by rw [← e3];exact (List.getElem?_eq_some_iff.1 hj).1
 have hv:vs[j]? = some (vs.getD j undef):=by simp [Array.getD,hlt]
 obtain ⟨F',st,hX',hR,hP,hf⟩:=Zb8 (Flip.refl _) hX h (e5 j p _ hj hv)
 have hu:(flips s.ob us) u=some (g,.box cs):=by
  rcases hf u with e | ⟨g2,E2,k2,sh2,els2,e,_⟩
  ·rw [e,h0]
  ·rw [h0] at e;cases e
 refine ⟨{ x with F:=F' },rfl,hX'.defers,hX'.size,hX'.gr,hX'.gens,hX'.tm,fun t' g' o' ho=>?_,fun t1 t2 g1 g2 o1 o2 bb hne k1 k2 hb=>?_,hX'.flt,hX'.f0,hX'.fnew,hX'.rho,hX'.inv,hX'.keep⟩
 ·change (if t'=u then some (g,VObj.box (cs.set j q)) else flips s.ob us t')=some (g',o') at ho
  split at ho
  ·injection ho with ho
   injection ho with j1 j2
   subst j1 j2
   obtain ⟨j0,b2,T2,vs2,j1,j2,j3,j4,j5,j6,j7⟩:=hX'.ob u g _ hu
   have jb:b2=b:=by
    change x.ρ g=_ at j1
    rw [e1] at j1
    injection j1 with j1
    injection j1 with j1
    injection j1 with j1
    exact j1.symm
   subst jb
   have jv:Obj.cells vs2 T2=Obj.cells vs T:=by
    change x.W.heap[b2]? = some _ at j2
    rw [e2] at j2
    injection j2 with j2
    exact j2.symm
   injection jv with jv jt
   subst jv jt
   refine ⟨j0,b2,T2,vs2,e1,e2,by rw [List.length_set];exact e3,fun p' hp=>?_,fun i p' v hp hv'=>?_,e6,fun o hF=>?_⟩
   ·rcases List.mem_or_eq_of_mem_set hp with hp | rfl
    ·exact j4 p' hp
    ·exact PV.cell_of_pure hP
   ·rw [List.getElem?_set] at hp
    split at hp
    ·rename_i e
     subst e
     split at hp
     ·injection hp with hp
      subst hp
      rw [hv] at hv'
      injection hv' with hv'
      rw [← hv']
      exact hR
     ·cases hp
    ·exact j5 i p' v hp hv'
   ·exact j7 o hF
  ·exact hX'.ob t' g' o' ho
 ·change (if t1=u then some (g,VObj.box (cs.set j q)) else flips s.ob us t1)=some (g1,o1) at k1
  change (if t2=u then some (g,VObj.box (cs.set j q)) else flips s.ob us t2)=some (g2,o2) at k2
  have f1:∃ o1',(flips s.ob us) t1=some (g1,o1'):=by
   split at k1
   ·rename_i e;subst e;injection k1 with k1;injection k1 with e3 e4;subst e3;exact ⟨_,hu⟩
   ·exact ⟨_,k1⟩
  have f2:∃ o2',(flips s.ob us) t2=some (g2,o2'):=by
   split at k2
   ·rename_i e;subst e;injection k2 with k2;injection k2 with e3 e4;subst e3;exact ⟨_,hu⟩
   ·exact ⟨_,k2⟩
  obtain ⟨o1',f1⟩:=f1
  obtain ⟨o2',f2⟩:=f2
  exact hX'.apart t1 t2 g1 g2 o1' o2' bb hne f1 f2 hb
section
variable {tm:List (Nat×PV)} {ob:List (Nat×Option (Gen×VObj))} {ng:Nat}
theorem Zfe (u j:Nat) {g:Gen} {cs:List PV} {p q:PV} {us:List (Nat×Option (Gen×VObj))} (h0:Zai ob u=some (g,.box cs)) (hj:cs[j]? = some p) (h:Zgm (Zai ob) p=some (q,us)):Shift (mkS tm ob ng) (mkS tm ((u,some (g,.box (cs.set j q)))::(us.reverse++ob)) ng):=by
 have:=Zjq (s:=mkS tm ob ng) (u:=u) (j:=j) (g:=g) (cs:=cs) (p:=p) (q:=q) (us:=us) h0 hj h
 have e:(⟨look tm,ZbA (flips (Zai ob) us) u (some (g,.box (cs.set j q))),ng⟩:FS)=mkS tm ((u,some (g,.box (cs.set j q)))::(us.reverse++ob)) ng:=by
  rw [ZbE,Zd3]
  rfl
 rw [← e]
 exact this
theorem Zbc (u j t w:Nat) {gu g:Gen} {cs:List PV} {o:VObj} (ht:(t == u)=false) (hw:(w == u)=false) (h0:Zai ob u=some (gu,.box cs)) (hj:cs[j]? = some (.row t g)) (h1:Zai ob t=some (g,o)):Shift (mkS tm ob ng) (mkS tm ((u,some (gu,.box (cs.set j (.row w g))))::(w,some (g,o))::(t,none)::ob) ng):=fun r a x hX=>by
 have ht':t≠u:=by simpa using ht
 have hw':w≠u:=by simpa using hw
 have old:∀ t' g' o',Zai ((u,some (gu,VObj.box (cs.set j (.row w g))))::(w,some (g,o))::(t,none)::ob) t'=some (g',o')→(t'=u∧g'=gu∧o' = .box (cs.set j (.row w g)))∨(t'≠u∧t'=w∧g'=g∧o'=o)∨(t'≠u∧t'≠w∧t'≠t∧Zai ob t'=some (g',o')):=fun t' g' o' ho=>by
  change (if t'=u then some (gu,VObj.box (cs.set j (.row w g))) else if t'=w then some (g,o) else if t'=t then none else Zai ob t')=some (g',o') at ho
  split at ho
  ·rename_i e
   injection ho with ho
   injection ho with e1 e2
   exact .inl ⟨e,e1.symm,e2.symm⟩
  ·rename_i n1
   split at ho
   ·rename_i e
    injection ho with ho
    injection ho with e1 e2
    exact .inr (.inl ⟨n1,e,e1.symm,e2.symm⟩)
   ·rename_i n2
    split at ho
    ·cases ho
    ·rename_i n3
     exact .inr (.inr ⟨n1,n2,n3,ho⟩)
 refine ⟨x,rfl,hX.defers,hX.size,hX.gr,hX.gens,hX.tm,fun t' g' o' ho=>?_,fun t1 t2 g1 g2 o1 o2 b hne k1 k2 hb=>?_,hX.flt,hX.f0,hX.fnew,hX.rho,hX.inv,hX.keep⟩
 ·rcases old t' g' o' ho with ⟨rfl,rfl,rfl⟩ | ⟨_,rfl,rfl,rfl⟩ | ⟨_,_,_,ho⟩
  ·obtain ⟨j0,b,T,vs,e1,e2,e3,e4,e5,e6,e7⟩:=hX.ob t' _ _ h0
   refine ⟨j0,b,T,vs,e1,e2,by rw [List.length_set];exact e3,fun p hp=>?_,fun i p v hp hv=>?_,e6,e7⟩
   ·rcases List.mem_or_eq_of_mem_set hp with hp | rfl
    ·exact e4 p hp
    ·rfl
   ·rw [List.getElem?_set] at hp
    split at hp
    ·rename_i e
     subst e
     split at hp
     ·injection hp with hp
      subst hp
      have:=e5 j _ v hj hv
      cases this with
      | row _ _ A n c hG hv2=>exact .row w g A n c hG hv2
     ·cases hp
    ·exact e5 i p v hp hv
  ·exact hX.ob t _ _ h1
  ·exact hX.ob t' _ _ ho
 ·have f:∀ t' g' o',Zai ((u,some (gu,VObj.box (cs.set j (.row w g))))::(w,some (g,o))::(t,none)::ob) t'=some (g',o')→∃ o2,Zai ob (if t'=u then u else if t'=w then t else t')=some (g',o2):=fun t' g' o' ho=>by
   rcases old t' g' o' ho with ⟨rfl,rfl,rfl⟩ | ⟨n1,rfl,rfl,rfl⟩ | ⟨n1,n2,_,ho⟩
   ·exact ⟨_,by rw [if_pos rfl];exact h0⟩
   ·exact ⟨_,by rw [if_neg n1,if_pos rfl];exact h1⟩
   ·exact ⟨_,by rw [if_neg n1,if_neg n2];exact ho⟩
  obtain ⟨q1,f1⟩:=f t1 g1 o1 k1
  obtain ⟨q2,f2⟩:=f t2 g2 o2 k2
  refine hX.apart _ _ g1 g2 q1 q2 b ?_ f1 f2 hb
  rcases old t1 g1 o1 k1 with ⟨a1,_⟩ | ⟨a1,a2,_⟩ | ⟨a1,a2,a3,_⟩<;>rcases old t2 g2 o2 k2 with ⟨b1,_⟩ | ⟨b1,b2,_⟩ | ⟨b1,b2,b3,_⟩
  ·exact absurd (a1.trans b1.symm) hne
  ·rw [if_pos a1,if_neg b1,if_pos b2];exact fun e=>ht' e.symm
  ·rw [if_pos a1,if_neg b1,if_neg b2];exact fun e=>b1 e.symm
  ·rw [if_neg a1,if_pos a2,if_pos b1];exact ht'
  ·exact absurd (a2.trans b2.symm) hne
  ·rw [if_neg a1,if_pos a2,if_neg b1,if_neg b2];exact fun e=>b3 e.symm
  ·rw [if_neg a1,if_neg a2,if_pos b1];exact a1
  ·rw [if_neg a1,if_neg a2,if_neg b1,if_pos b2];exact a3
  ·rw [if_neg a1,if_neg a2,if_neg b1,if_neg b2];exact hne
end
end VL
end Go.Proofs.YtpffimahajgiaaaGreatDoor
set_option maxHeartbeats 4000000
namespace Go.Proofs.YtpffimahajgiaaaGreatDoor
open VL
def Zfd (p0:TapeF):Option (Key×TapeF):=
 (ZS p0 7).bind fun r1=>
 (ZaK r1.2).bind fun r2=>
 (ZS r2.2 2).bind fun r3=>
 letk (fun (x6:List Int) (x7:Int) (x8:Int)=>
  letk (fun (x13:List Int) (x14:Int) (x15:Int) (x16:ByteArray) (x17:Int)=>
   (ZS (⟨x13,x14⟩:TapeF) 12).bind fun r18=>
   letk (fun (x20:List Int) (x21:Int) (x22:Int)=>
    (some ((⟨(w64 (1+r1.1)),(⟨x15,x16⟩:Title),x22⟩:Key),(⟨x20,x21⟩:TapeF)):Option (Key×TapeF))) fun k4=>
   if (decide (r18.1=0)) then
    (ZS r18.2 9).bind fun r23=>
    k4 r23.2.l r23.2.pos (w64 (r23.1 - 1))
   else
   k4 r18.2.l r18.2.pos x17) fun k3=>
  letk (fun (x24:Bool)=>
   if x24 then
    (ZW (⟨x6,x7⟩:TapeF) [(⟨#[88]⟩:ByteArray),(⟨#[65]⟩:ByteArray)]).bind fun r25=>
    k3 r25.2.l r25.2.pos 4 r25.1 0
   else
   if (decide ((w64 (1+r1.1))=5)) then
    (ZS (⟨x6,x7⟩:TapeF) 5).bind fun r26=>
    k3 r26.2.l r26.2.pos 0 (⟨#[]⟩:ByteArray) (w64 (1+r26.1))
   else
   if (decide ((w64 (1+r1.1))=6)) then
    (ZS (⟨x6,x7⟩:TapeF) 5).bind fun r27=>
    k3 r27.2.l r27.2.pos x8 r2.1.name (w64 (1+r27.1))
   else
   k3 x6 x7 x8 r2.1.name 0) fun k5=>
  if (decide ((w64 (1+r1.1))=3)) then
   k5 (decide ((w64 (1+r1.1))=3))
  else
  k5 (decide ((w64 (1+r1.1))=4))) fun k1=>
 if (decide (r3.1=0)) then
  (ZS r3.2 2).bind fun r28=>
  (atI [0,3] r28.1).bind fun e29=>
  k1 r28.2.l r28.2.pos e29
 else
 k1 r3.2.l r3.2.pos r2.1.space
theorem Zkx (p0:TapeF) (r:Key×TapeF) (h:Zfd p0=some r):Contract Tryz.prog 10 [.ptr 0 (0,0) 0] (some (0,p0.cs)) (r.1.pv) (r.2).cs:=by
 refine ZaA (R:=fun r=>r.1.pv) (O:=fun r=>(r.2).cs) h mix Tryz.func10 (by kernel_rfl) rfl (by kernel_rfl) fun r h=>?_
 unfold Zfd at h
 refine Zac ?_
 refine rg ?_
 refine rg ?_
 refine aO h (ZI _ _) fun r1 h=>?_
 refine aO h (Zce _) fun r2 h=>?_
 refine rg ?_
 refine aO h (ZI _ _) fun r3 h=>?_
 refine Zbk h fun k1 hk1 h=>?_
 refine Zbv (α:=(List Int)×Int×Int) (fun a _=>mkS [(0,.ptr 0 (0,0) 0),(2,.ptr 2 (1,2) 0),(3,.ptr 3 (1,3) 0)] [(0,some ((0,0),.box [.sl (List.map csI a.1),.int .i64 a.2.1])),(2,some ((1,2),.box [.int .i64 0,.int .i64 0,.str (⟨#[]⟩:ByteArray),.int .i64 0])),(3,some ((1,3),.box [.int .i64 (w64 (1+r1.1)),.int .i64 a.2.2,.str r2.1.name,.int .i64 0]))] 2) (fun a=>k1 a.1 a.2.1 a.2.2=some r) (Zac ?_) (fun a _ h=>?_)
 ·refine cS h rfl (fun h=>?_) fun h=>?_
  ·refine rg ?_
   refine bM csI ([0,3]:List Int) ?_
   refine aO h (ZI _ _) fun r28 h=>?_
   obtain ⟨e29,h16,h⟩:=bnd h
   refine ZcN rfl h16 rfl rfl rfl (Zac ?_)
   refine Zgu rfl h16 rfl rfl rfl (Zac ?_)
   exact jn (r28.2.l,r28.2.pos,e29) h (sR [(2,1,0),(3,2,6)])
  exact jn (r3.2.l,r3.2.pos,r2.1.space) h (sR [(2,1,0),(3,2,6)])
 obtain ⟨x6,x7,x8⟩:=a
 subst hk1
 dsimp only at h ⊢
 refine Zac ?_
 refine rg ?_
 refine Zbk h fun k3 hk3 h=>?_
 refine Zbv (α:=(List Int)×Int×Int×ByteArray×Int) (fun a _=>mkS [(0,.ptr 0 (0,0) 0),(2,.ptr 2 (1,2) 0),(3,.ptr 3 (1,3) 0)] [(0,some ((0,0),.box [.sl (List.map csI a.1),.int .i64 a.2.1])),(2,some ((1,2),.box [.int .i64 0,.int .i64 0,.str (⟨#[]⟩:ByteArray),.int .i64 0])),(3,some ((1,3),.box [.int .i64 (w64 (1+r1.1)),.int .i64 a.2.2.1,.str a.2.2.2.1,.int .i64 a.2.2.2.2]))] 2) (fun a=>k3 a.1 a.2.1 a.2.2.1 a.2.2.2.1 a.2.2.2.2=some r) (Zac ?_) (fun a _ h=>?_)
 ·refine bl ?_
  refine rg ?_
  refine jL h (fun x24=>mkS [(0,.ptr 0 (0,0) 0),(2,.ptr 2 (1,2) 0),(3,.ptr 3 (1,3) 0),(21,.int .i64 (w64 (1+r1.1))),(22,.bool x24)] [(0,some ((0,0),.box [.sl (List.map csI x6),.int .i64 x7])),(2,some ((1,2),.box [.int .i64 0,.int .i64 0,.str (⟨#[]⟩:ByteArray),.int .i64 0])),(3,some ((1,3),.box [.int .i64 (w64 (1+r1.1)),.int .i64 x8,.str r2.1.name,.int .i64 0]))] 2) (fun k5 h=>?_) fun x24 h=>?_
  ·refine cS h rfl (fun h=>?_) fun h=>?_
   ·exact jn (decide ((w64 (1+r1.1))=3)) h (sR [(2,1,2),(3,1,3)])
   refine rg ?_
   exact jn (decide ((w64 (1+r1.1))=4)) h (sR [(2,1,2),(3,1,3)])
  refine cS h rfl (fun h=>?_) fun h=>?_
  ·refine rg ?_
   refine bM csS ([(⟨#[88]⟩:ByteArray),(⟨#[65]⟩:ByteArray)]:List ByteArray) ?_
   refine aO h (ZX _ _) fun r25 h=>?_
   exact jn (r25.2.l,r25.2.pos,4,r25.1,0) h (sR [(2,1,2),(3,1,3)])
  refine rg ?_
  refine cS h rfl (fun h=>?_) fun h=>?_
  ·refine rg ?_
   refine aO h (ZI _ _) fun r26 h=>?_
   exact jn (r26.2.l,r26.2.pos,0,(⟨#[]⟩:ByteArray),(w64 (1+r26.1))) h (sR [(2,1,2),(3,1,3)])
  refine rg ?_
  refine cS h rfl (fun h=>?_) fun h=>?_
  ·refine rg ?_
   refine aO h (ZI _ _) fun r27 h=>?_
   exact jn (r27.2.l,r27.2.pos,x8,r2.1.name,(w64 (1+r27.1))) h (sR [(2,1,2),(3,1,3)])
  exact jn (x6,x7,x8,r2.1.name,0) h (sR [(2,1,2),(3,1,3)])
 obtain ⟨x13,x14,x15,x16,x17⟩:=a
 subst hk3
 dsimp only at h ⊢
 refine Zac ?_
 refine rg ?_
 refine aO h (ZI _ _) fun r18 h=>?_
 refine Zbk h fun k4 hk4 h=>?_
 refine Zbv (α:=(List Int)×Int×Int) (fun a _=>mkS [(0,.ptr 0 (0,0) 0),(2,.ptr 2 (1,2) 0),(3,.ptr 3 (1,3) 0)] [(0,some ((0,0),.box [.sl (List.map csI a.1),.int .i64 a.2.1])),(2,some ((1,2),.box [.int .i64 0,.int .i64 0,.str (⟨#[]⟩:ByteArray),.int .i64 0])),(3,some ((1,3),.box [.int .i64 (w64 (1+r1.1)),.int .i64 x15,.str x16,.int .i64 a.2.2]))] 2) (fun a=>k4 a.1 a.2.1 a.2.2=some r) (Zac ?_) (fun a _ h=>?_)
 ·refine cS h rfl (fun h=>?_) fun h=>?_
  ·refine rg ?_
   refine aO h (ZI _ _) fun r23 h=>?_
   exact jn (r23.2.l,r23.2.pos,(w64 (r23.1 - 1))) h (sR [(2,1,2),(3,1,3)])
  exact jn (r18.2.l,r18.2.pos,x17) h (sR [(2,1,2),(3,1,3)])
 obtain ⟨x20,x21,x22⟩:=a
 subst hk4
 dsimp only at h ⊢
 refine Zac ?_
 refine rg ?_
 cases h
 exact ZaF rfl rfl rfl rfl rfl
def Zdd (p0:View) (p1:TapeF):Option (View×TapeF):=
 (Zc8 48 [] p0.pages).bind fun l1=>
 (ZS p1 (if (l1.length:Int) > 1 then (l1.length:Int) else 1)).bind fun r2=>
 (ZS r2.2 14).bind fun r3=>
 letk (fun (x17:List Int) (x18:Int) (x19:List Rule) (x20:List ByteArray) (x21:Int) (x22:List Asked) (x23:List Page)=>
  if (decide ((x23.length:Int)=0)) then
   (some ((⟨x23,(⟨p0.policy.groups,x19,p0.policy.guards⟩:Policy),x20,x21,x22⟩:View),(⟨x17,x18⟩:TapeF)):Option (View×TapeF))
  else
  (ZS (⟨x17,x18⟩:TapeF) 8).bind fun r24=>
  letk (fun (x31:List Int) (x32:Int) (x33:List Page)=>
   (some ((⟨x33,(⟨p0.policy.groups,x19,p0.policy.guards⟩:Policy),x20,x21,x22⟩:View),(⟨x31,x32⟩:TapeF)):Option (View×TapeF))) fun k2=>
  if (decide (r24.1=0)) then
   (ZS r24.2 2).bind fun r34=>
   (atI x23 r2.1).bind fun e35=>
   k2 r34.2.l r34.2.pos (ZlK x23 r2.1 (⟨e35.title,e35.text,r34.1⟩:Page))
  else
  if (decide (r24.1=1)) then
   (ZS r24.2 2).bind fun r36=>
   (strings_Repeat (⟨#[120]⟩:ByteArray) (w64 (8192+r36.1))).bind fun r37=>
   (atI x23 r2.1).bind fun e38=>
   k2 r36.2.l r36.2.pos (ZlK x23 r2.1 (⟨e38.title,r37,e38.revision⟩:Page))
  else
  if (decide (r24.1=2)) then
   (atI x23 r2.1).bind fun e39=>
   k2 r24.2.l r24.2.pos (ZlK x23 r2.1 (⟨(⟨e39.title.space,(⟨#[97]⟩:ByteArray)⟩:Title),e39.text,e39.revision⟩:Page))
  else
  k2 r24.2.l r24.2.pos x23) fun k1=>
 if (decide (r3.1=0)) then
  (ZS r3.2 3).bind fun r40=>
  (atI [(-1),52595999,52596000] r40.1).bind fun e41=>
  k1 r40.2.l r40.2.pos p0.policy.rules p0.groups e41 p0.fixed l1
 else
 if (decide (r3.1=1)) then
  (Zc8 16 [] p0.groups).bind fun l42=>
  (ZW r3.2 [(⟨#[97,108,108]⟩:ByteArray),(⟨#[122,122]⟩:ByteArray),(⟨#[90,122]⟩:ByteArray),(⟨#[]⟩:ByteArray)]).bind fun r43=>
  (Zc8 16 l42 [r43.1]).bind fun l44=>
  k1 r43.2.l r43.2.pos p0.policy.rules l44 p0.clock p0.fixed l1
 else
 if (decide (r3.1=2)) then
  (ZS r3.2 3).bind fun r45=>
  k1 r45.2.l r45.2.pos p0.policy.rules p0.groups p0.clock [(⟨(⟨1,(⟨0,(⟨#[]⟩:ByteArray)⟩:Title),0⟩:Key),(⟨false,(⟨#[]⟩:ByteArray),0⟩:Answer)⟩:Asked),(⟨(⟨r45.1,(⟨0,(⟨#[]⟩:ByteArray)⟩:Title),0⟩:Key),(⟨false,(⟨#[]⟩:ByteArray),0⟩:Answer)⟩:Asked)] l1
 else
 if (decide (r3.1=3)) then
  (ZS r3.2 2).bind fun r46=>
  (strings_Repeat (⟨#[120]⟩:ByteArray) (w64 (32768+r46.1))).bind fun r47=>
  k1 r46.2.l r46.2.pos p0.policy.rules p0.groups p0.clock [(⟨(⟨0,(⟨0,(⟨#[]⟩:ByteArray)⟩:Title),0⟩:Key),(⟨false,r47,0⟩:Answer)⟩:Asked)] l1
 else
 if (decide (r3.1=4)) then
  (Zc8 64 [] p0.policy.rules).bind fun l48=>
  (ZS r3.2 8).bind fun r49=>
  (Zc8 64 l48 [(⟨false,r49.1,(⟨#[97,108,108]⟩:ByteArray),(⟨1,(⟨0,(⟨#[]⟩:ByteArray)⟩:Title)⟩:Scope)⟩:Rule)]).bind fun l50=>
  k1 r49.2.l r49.2.pos l50 p0.groups p0.clock p0.fixed l1
 else
 if (decide (r3.1=5)) then
  (Zaw r3.2).bind fun r51=>
  (Zc8 48 l1 [(⟨r51.1,(⟨#[]⟩:ByteArray),1⟩:Page)]).bind fun l52=>
  k1 r51.2.l r51.2.pos p0.policy.rules p0.groups p0.clock p0.fixed l52
 else
 if (decide (r3.1=6)) then
  (ZlU 48 201).bind fun _=>
  k1 r3.2.l r3.2.pos p0.policy.rules p0.groups p0.clock p0.fixed (List.replicate (201:Int).toNat (⟨(⟨0,(⟨#[]⟩:ByteArray)⟩:Title),(⟨#[]⟩:ByteArray),0⟩:Page))
 else
 if (decide (r3.1=7)) then
  (ZlU 16 27).bind fun _=>
  k1 r3.2.l r3.2.pos p0.policy.rules (List.replicate (27:Int).toNat (⟨#[]⟩:ByteArray)) p0.clock p0.fixed l1
 else
 k1 r3.2.l r3.2.pos p0.policy.rules p0.groups p0.clock p0.fixed l1
theorem Zie (p0:View) (p1:TapeF) (r:View×TapeF) (h:Zdd p0 p1=some r):Contract Tryz.prog 9 [p0.pv,.ptr 1 (0,1) 0] (some (1,p1.cs)) (r.1.pv) (r.2).cs:=by
 refine ZaA (R:=fun r=>r.1.pv) (O:=fun r=>(r.2).cs) h mix Tryz.func9 (by kernel_rfl) rfl (by kernel_rfl) fun r h=>?_
 unfold Zdd at h
 refine Zac ?_
 refine rg ?_
 refine rg ?_
 obtain ⟨l1,h1,h⟩:=bnd h
 refine Zd8 (f:=Page.cs) rfl h1 (fun _=>rfl) rfl rfl rfl (Zac ?_)
 refine rg ?_
 refine lM Page.cs l1 ?_
 refine ZoH rfl rfl rfl (Zac ?_)
 refine aO h (ZI _ _) fun r2 h=>?_
 refine rg ?_
 refine aO h (ZI _ _) fun r3 h=>?_
 refine Zbk h fun k1 hk1 h=>?_
 refine Zbv (α:=(List Int)×Int×(List Rule)×(List ByteArray)×Int×(List Asked)×(List Page)) (fun a _=>mkS [(1,.ptr 1 (0,1) 0),(2,.ptr 2 (1,2) 0),(4,.ptr 4 (1,4) 0),(5,.int .i64 r2.1)] [(1,some ((0,1),.box [.sl (List.map csI a.1),.int .i64 a.2.1])),(2,some ((1,2),.box [.row 1200 (1,1200),.sl (List.map Group.cs p0.policy.groups),.sl (List.map Rule.cs a.2.2.1),.sl (List.map Guard.cs p0.policy.guards),.sl (List.map csS a.2.2.2.1),.int .i64 a.2.2.2.2.1,.sl (List.map Asked.cs a.2.2.2.2.2.1)])),(4,some ((1,4),.box [.nil,.nil,.nil,.nil,.nil,.int .i64 0,.nil])),(1200,some ((1,1200),.row 54 4 false (List.map Page.cs a.2.2.2.2.2.2)))] 2) (fun a=>k1 a.1 a.2.1 a.2.2.1 a.2.2.2.1 a.2.2.2.2.1 a.2.2.2.2.2.1 a.2.2.2.2.2.2=some r) (Zac ?_) (fun a _ h=>?_)
 ·refine bl ?_
  refine rg ?_
  refine cS h rfl (fun h=>?_) fun h=>?_
  ·refine rg ?_
   refine bM csI ([(-1),52595999,52596000]:List Int) ?_
   refine aO h (ZI _ _) fun r40 h=>?_
   obtain ⟨e41,h33,h⟩:=bnd h
   refine ZcN rfl h33 rfl rfl rfl (Zac ?_)
   refine Zgu rfl h33 rfl rfl rfl (Zac ?_)
   exact jn (r40.2.l,r40.2.pos,p0.policy.rules,p0.groups,e41,p0.fixed,l1) h (Shift.trans (Zbc 2 0 8 1200 rfl rfl rfl rfl rfl) (sR [(2,1,0),(4,1,1),(1200,2,2)]))
  refine rg ?_
  refine cS h rfl (fun h=>?_) fun h=>?_
  ·refine rg ?_
   obtain ⟨l42,h34,h⟩:=bnd h
   refine Zd8 (f:=csS) rfl h34 (fun _=>rfl) rfl rfl rfl (Zac ?_)
   refine bM csS ([(⟨#[97,108,108]⟩:ByteArray),(⟨#[122,122]⟩:ByteArray),(⟨#[90,122]⟩:ByteArray),(⟨#[]⟩:ByteArray)]:List ByteArray) ?_
   refine aO h (ZX _ _) fun r43 h=>?_
   refine bM csS ([r43.1]:List ByteArray) ?_
   refine pR csS h fun l44 h=>?_
   exact jn (r43.2.l,r43.2.pos,p0.policy.rules,l44,p0.clock,p0.fixed,l1) h (Shift.trans (Zbc 2 0 8 1200 rfl rfl rfl rfl rfl) (Shift.trans (Zfe 2 4 rfl rfl rfl) (sR [(2,1,0),(4,1,1),(1200,2,2)])))
  refine rg ?_
  refine cS h rfl (fun h=>?_) fun h=>?_
  ·refine rg ?_
   refine aO h (ZI _ _) fun r45 h=>?_
   refine Zbn (M:=([(⟨(⟨1,(⟨0,(⟨#[]⟩:ByteArray)⟩:Title),0⟩:Key),(⟨false,(⟨#[]⟩:ByteArray),0⟩:Answer)⟩:Asked),(⟨(⟨r45.1,(⟨0,(⟨#[]⟩:ByteArray)⟩:Title),0⟩:Key),(⟨false,(⟨#[]⟩:ByteArray),0⟩:Answer)⟩:Asked)]:List Asked)) (f:=Asked.cs) rfl rfl rfl rfl (Nat.le_of_ble_eq_true rfl) rfl (Zac ?_)
   exact jn (r45.2.l,r45.2.pos,p0.policy.rules,p0.groups,p0.clock,[(⟨(⟨1,(⟨0,(⟨#[]⟩:ByteArray)⟩:Title),0⟩:Key),(⟨false,(⟨#[]⟩:ByteArray),0⟩:Answer)⟩:Asked),(⟨(⟨r45.1,(⟨0,(⟨#[]⟩:ByteArray)⟩:Title),0⟩:Key),(⟨false,(⟨#[]⟩:ByteArray),0⟩:Answer)⟩:Asked)],l1) h (Shift.trans (Zbc 2 0 8 1200 rfl rfl rfl rfl rfl) (Shift.trans (Zfe 2 6 rfl rfl rfl) (sR [(2,1,0),(4,1,1),(1200,2,2)])))
  refine rg ?_
  refine cS h rfl (fun h=>?_) fun h=>?_
  ·refine rg ?_
   refine aO h (ZI _ _) fun r46 h=>?_
   refine aC h (ZcW _ _) fun r47 h=>?_
   refine Zbn (M:=([(⟨(⟨0,(⟨0,(⟨#[]⟩:ByteArray)⟩:Title),0⟩:Key),(⟨false,r47,0⟩:Answer)⟩:Asked)]:List Asked)) (f:=Asked.cs) rfl rfl rfl rfl (Nat.le_of_ble_eq_true rfl) rfl (Zac ?_)
   exact jn (r46.2.l,r46.2.pos,p0.policy.rules,p0.groups,p0.clock,[(⟨(⟨0,(⟨0,(⟨#[]⟩:ByteArray)⟩:Title),0⟩:Key),(⟨false,r47,0⟩:Answer)⟩:Asked)],l1) h (Shift.trans (Zbc 2 0 8 1200 rfl rfl rfl rfl rfl) (Shift.trans (Zfe 2 6 rfl rfl rfl) (sR [(2,1,0),(4,1,1),(1200,2,2)])))
  refine rg ?_
  refine cS h rfl (fun h=>?_) fun h=>?_
  ·refine rg ?_
   obtain ⟨l48,h40,h⟩:=bnd h
   refine Zd8 (f:=Rule.cs) rfl h40 (fun _=>rfl) rfl rfl rfl (Zac ?_)
   refine aO h (ZI _ _) fun r49 h=>?_
   refine Zbn (M:=([(⟨false,r49.1,(⟨#[97,108,108]⟩:ByteArray),(⟨1,(⟨0,(⟨#[]⟩:ByteArray)⟩:Title)⟩:Scope)⟩:Rule)]:List Rule)) (f:=Rule.cs) rfl rfl rfl rfl (Nat.le_of_ble_eq_true rfl) rfl (Zac ?_)
   refine pR Rule.cs h fun l50 h=>?_
   exact jn (r49.2.l,r49.2.pos,l50,p0.groups,p0.clock,p0.fixed,l1) h (Shift.trans (Zbc 2 0 8 1200 rfl rfl rfl rfl rfl) (Shift.trans (Zfe 2 2 rfl rfl rfl) (sR [(2,1,0),(4,1,1),(1200,2,2)])))
  refine rg ?_
  refine cS h rfl (fun h=>?_) fun h=>?_
  ·refine rg ?_
   refine aO h (Zcf _) fun r51 h=>?_
   refine Zbn (M:=([(⟨r51.1,(⟨#[]⟩:ByteArray),1⟩:Page)]:List Page)) (f:=Page.cs) rfl rfl rfl rfl (Nat.le_of_ble_eq_true rfl) rfl (Zac ?_)
   refine pR Page.cs h fun l52 h=>?_
   exact jn (r51.2.l,r51.2.pos,p0.policy.rules,p0.groups,p0.clock,p0.fixed,l52) h (Shift.trans (Zbc 2 0 8 1200 rfl rfl rfl rfl rfl) (sR [(2,1,0),(4,1,1),(1200,11,6)]))
  refine rg ?_
  refine cS h rfl (fun h=>?_) fun h=>?_
  ·refine rg ?_
   obtain ⟨_,h45,h⟩:=bnd h
   refine Zkq Page.cs (⟨(⟨0,(⟨#[]⟩:ByteArray)⟩:Title),(⟨#[]⟩:ByteArray),0⟩:Page) rfl rfl rfl h45 rfl rfl (Zac ?_)
   exact jn (r3.2.l,r3.2.pos,p0.policy.rules,p0.groups,p0.clock,p0.fixed,(List.replicate (201:Int).toNat (⟨(⟨0,(⟨#[]⟩:ByteArray)⟩:Title),(⟨#[]⟩:ByteArray),0⟩:Page))) h (Shift.trans (Zbc 2 0 83 1200 rfl rfl rfl rfl rfl) (sR [(2,1,0),(4,1,1),(1200,12,0)]))
  refine rg ?_
  refine cS h rfl (fun h=>?_) fun h=>?_
  ·refine rg ?_
   obtain ⟨_,h46,h⟩:=bnd h
   refine Zkq csS (⟨#[]⟩:ByteArray) rfl rfl rfl h46 rfl rfl (Zac ?_)
   exact jn (r3.2.l,r3.2.pos,p0.policy.rules,(List.replicate (27:Int).toNat (⟨#[]⟩:ByteArray)),p0.clock,p0.fixed,l1) h (Shift.trans (Zbc 2 0 8 1200 rfl rfl rfl rfl rfl) (Shift.trans (Zfe 2 4 rfl rfl rfl) (sR [(2,1,0),(4,1,1),(1200,2,2)])))
  exact jn (r3.2.l,r3.2.pos,p0.policy.rules,p0.groups,p0.clock,p0.fixed,l1) h (Shift.trans (Zbc 2 0 8 1200 rfl rfl rfl rfl rfl) (sR [(2,1,0),(4,1,1),(1200,2,2)]))
 obtain ⟨x17,x18,x19,x20,x21,x22,x23⟩:=a
 subst hk1
 dsimp only at h ⊢
 refine Zac ?_
 refine rg ?_
 refine lM Page.cs x23 ?_
 refine cS h rfl (fun h=>?_) fun h=>?_
 ·refine rg ?_
  cases h
  exact ZaF rfl rfl rfl rfl rfl
 refine rg ?_
 refine aO h (ZI _ _) fun r24 h=>?_
 refine Zbk h fun k2 hk2 h=>?_
 refine Zbv (α:=(List Int)×Int×(List Page)) (fun a _=>mkS [(1,.ptr 1 (0,1) 0),(2,.ptr 2 (1,2) 0),(4,.ptr 4 (1,4) 0)] [(1,some ((0,1),.box [.sl (List.map csI a.1),.int .i64 a.2.1])),(2,some ((1,2),.box [.row 1200 (1,1200),.sl (List.map Group.cs p0.policy.groups),.sl (List.map Rule.cs x19),.sl (List.map Guard.cs p0.policy.guards),.sl (List.map csS x20),.int .i64 x21,.sl (List.map Asked.cs x22)])),(4,some ((1,4),.box [.nil,.nil,.nil,.nil,.nil,.int .i64 0,.nil])),(1200,some ((1,1200),.row 54 4 false (List.map Page.cs a.2.2)))] 2) (fun a=>k2 a.1 a.2.1 a.2.2=some r) (Zac ?_) (fun a _ h=>?_)
 ·refine bl ?_
  refine rg ?_
  refine cS h rfl (fun h=>?_) fun h=>?_
  ·refine rg ?_
   refine aO h (ZI _ _) fun r34 h=>?_
   obtain ⟨e35,h27,h⟩:=bnd h
   refine ZcN rfl h27 rfl rfl rfl (Zac ?_)
   refine Zgv (e':=(⟨e35.title,e35.text,r34.1⟩:Page)) rfl h27 rfl rfl rfl rfl rfl rfl (Nat.le_of_ble_eq_true rfl) rfl rfl (Zac ?_)
   exact jn (r34.2.l,r34.2.pos,(ZlK x23 r2.1 (⟨e35.title,e35.text,r34.1⟩:Page))) h (sR [(2,1,2),(4,1,4),(1200,1,1200)])
  refine rg ?_
  refine cS h rfl (fun h=>?_) fun h=>?_
  ·refine rg ?_
   refine aO h (ZI _ _) fun r36 h=>?_
   refine aC h (ZcW _ _) fun r37 h=>?_
   obtain ⟨e38,h30,h⟩:=bnd h
   refine ZcN rfl h30 rfl rfl rfl (Zac ?_)
   refine Zgv (e':=(⟨e38.title,r37,e38.revision⟩:Page)) rfl h30 rfl rfl rfl rfl rfl rfl (Nat.le_of_ble_eq_true rfl) rfl rfl (Zac ?_)
   exact jn (r36.2.l,r36.2.pos,(ZlK x23 r2.1 (⟨e38.title,r37,e38.revision⟩:Page))) h (sR [(2,1,2),(4,1,4),(1200,1,1200)])
  refine rg ?_
  refine cS h rfl (fun h=>?_) fun h=>?_
  ·refine rg ?_
   obtain ⟨e39,h31,h⟩:=bnd h
   refine ZcN rfl h31 rfl rfl rfl (Zac ?_)
   refine Zgv (e':=(⟨(⟨e39.title.space,(⟨#[97]⟩:ByteArray)⟩:Title),e39.text,e39.revision⟩:Page)) rfl h31 rfl rfl rfl rfl rfl rfl (Nat.le_of_ble_eq_true rfl) rfl rfl (Zac ?_)
   exact jn (r24.2.l,r24.2.pos,(ZlK x23 r2.1 (⟨(⟨e39.title.space,(⟨#[97]⟩:ByteArray)⟩:Title),e39.text,e39.revision⟩:Page))) h (sR [(2,1,2),(4,1,4),(1200,1,1200)])
  exact jn (r24.2.l,r24.2.pos,x23) h (sR [(2,1,2),(4,1,4),(1200,1,1200)])
 obtain ⟨x31,x32,x33⟩:=a
 subst hk2
 dsimp only at h ⊢
 refine Zac ?_
 refine rg ?_
 cases h
 exact ZaF rfl rfl rfl rfl rfl
def Zbm (p0:View) (p1:List Int) (p2:Key):Option Bool:=
 letk (fun (x2:Bool)=>
  if x2 then
   (Zdl).bind fun r4=>
   (some r4:Option Bool)
  else
  (ZkR p1).bind fun r5=>
  (ZbN r5 2).bind fun r6=>
  (Zdd r6.1 r6.2).bind fun r7=>
  (Zfd r7.2).bind fun r8=>
  letk (fun (x19:Bool)=>
   (some x19:Option Bool)) fun k2=>
  (ZaQ p0).bind fun r20=>
  (Zbq p0).bind fun r21=>
  if (decide (r20=r21)) then
   (ZaQ r6.1).bind fun r22=>
   if (decide (r22=0)) then
    (ZaQ r7.1).bind fun r23=>
    (Zbq r7.1).bind fun r24=>
    if (decide (r23=r24)) then
     (ZaL p2).bind fun r25=>
     (ZbU p2).bind fun r26=>
     if (r25 == r26) then
      (ZaL r8.1).bind fun r27=>
      (ZbU r8.1).bind fun r28=>
      if (r27 == r28) then
       (Zdl).bind fun r29=>
       k2 r29
      else
      k2 false
     else
     k2 false
    else
    k2 false
   else
   k2 false
  else
  k2 false) fun k1=>
 (Zdm p0).bind fun r30=>
 if r30 then
  k1 true
 else
 k1 (decide (300<(p2.title.name.size:Int)))
theorem Zd7 (p0:View) (p1:List Int) (p2:Key) (r:Bool) (h:Zbm p0 p1 p2=some r):ZH Tryz.prog 3 [p0.pv,.sl (List.map csI p1),p2.pv] (.bool r):=by
 refine cF (fun r=>.bool r) h mix Tryz.func3 fun r h=>?_
 unfold Zbm at h
 refine Zac ?_
 refine rg ?_
 refine jL h (fun x2=>mkS [(1,.sl (List.map csI p1)),(3,.ptr 3 (1,3) 0),(5,.ptr 5 (1,5) 0),(19,.bool x2)] [(3,some ((1,3),.box (View.cs p0))),(5,some ((1,5),.box (Key.cs p2)))] 2) (fun k1 h=>?_) fun x2 h=>?_
 ·refine rg ?_
  refine aC h (Zis _) fun r30 h=>?_
  refine kS 13 h rfl (fun h=>?_) fun h=>?_
  ·iterate 5 refine ZY rfl (Zac ?_)
   exact jn true h (sR [(3,1,0),(5,1,1)])
  exact jn (decide (300<(p2.title.name.size:Int))) h (sR [(3,1,0),(5,1,1)])
 refine cS h rfl (fun h=>?_) fun h=>?_
 ·refine rg ?_
  refine aC h Zfo fun r4 h=>?_
  cases h
  exact rQ
 refine rg ?_
 refine aN h (Zme _) fun r5 h=>?_
 refine rg ?_
 refine aO h (Zfw _ _) fun r6 h=>?_
 refine rg ?_
 obtain ⟨r7,h6,h⟩:=bnd h
 refine Zld (pre:=[_]) (pre':=[_]) (Zie _ _ _ h6) rfl rfl rfl rfl rfl rfl (Zac ?_)
 refine rg ?_
 refine aO h (Zkx _) fun r8 h=>?_
 refine jL h (fun x19=>mkS [(6,.bool x19)] [] 2) (fun k2 h=>?_) fun x19 h=>?_
 ·refine rg ?_
  refine aC h (Zbx _) fun r20 h=>?_
  refine aC h (ZdH _) fun r21 h=>?_
  refine kS 35 h rfl (fun h=>?_) fun h=>?_
  ·refine aC h (Zbx _) fun r22 h=>?_
   refine kS 40 h rfl (fun h=>?_) fun h=>?_
   ·refine aC h (Zbx _) fun r23 h=>?_
    refine aC h (ZdH _) fun r24 h=>?_
    refine kS 47 h rfl (fun h=>?_) fun h=>?_
    ·refine aC h (Zby _) fun r25 h=>?_
     refine aC h (ZdI _) fun r26 h=>?_
     refine ZkH rfl rfl rfl (Zac ?_)
     refine kS 54 h rfl (fun h=>?_) fun h=>?_
     ·refine aC h (Zby _) fun r27 h=>?_
      refine aC h (ZdI _) fun r28 h=>?_
      refine ZkH rfl rfl rfl (Zac ?_)
      refine kS 61 h rfl (fun h=>?_) fun h=>?_
      ·refine aC h Zfo fun r29 h=>?_
       exact jn r29 h (sR [])
      refine ZY rfl (Zac ?_)
      exact jn false h (sR [])
     iterate 6 refine ZY rfl (Zac ?_)
     exact jn false h (sR [])
    iterate 11 refine ZY rfl (Zac ?_)
    exact jn false h (sR [])
   iterate 16 refine ZY rfl (Zac ?_)
   exact jn false h (sR [])
  iterate 19 refine ZY rfl (Zac ?_)
  exact jn false h (sR [])
 cases h
 exact rQ
theorem Zmt:Zdl=some true:=by kernel_rfl
theorem Zh6 {p:Policy} (h1:p.groups.length≤1000000) (h2:p.rules.length≤1000000) (h3:p.guards.length≤1000000):Zmc p=true:=by
 unfold Zmc
 rw [decide_eq_true h1,decide_eq_true h2,decide_eq_true h3]
 rfl
theorem Zm4 (v:View):Tot (Zdm v) fun r=>r=false→SmallV v:=by
 unfold Zdm
 refine Zar (fun q=>∀ b,(b=false→v.pages.length≤8∧v.fixed.length≤30∧v.groups.length≤20∧v.policy.groups.length≤8∧v.policy.rules.length≤20∧v.policy.guards.length≤20)→Tot (q b) fun r=>r=false→SmallV v) (fun b hb=>ZaE (fun _=>ZU fun h=>by cases h) fun h=>?_) fun k hk=>?_
 ·obtain ⟨b1,b2,b3,b4,b5,b6⟩:=hb h
  have hS:SmallV v:=⟨by omega,by omega,by omega,Zh6 (by omega) (by omega) (by omega)⟩
  refine ZaH (fun i=>0≤i∧i≤(v.pages.length:Int)) (fun i=>v.pages.length - i.toNat) ⟨by omega,by omega⟩ (by omega) ?_
  rintro i rec ⟨g0,g1⟩ ih
  refine ZK (fun hlt=>?_) fun _=>?_
  ·refine Zar (fun q=>∀ b,Tot (q b) fun r=>r=false→SmallV v) (fun b=>ZaE (fun _=>ZU fun h=>by cases h) fun _=>?_) fun k2 hk2=>?_
   ·rw [ZaT (by omega) (by omega)]
    exact ih _ ⟨by omega,by omega⟩ (by omega)
   ·exact ZaX g0 hlt fun e _ _=>ZK (fun _=>hk2 _) fun _=>ZaX g0 hlt fun e _ _=>hk2 _
  ·refine ZaH (fun i=>0≤i∧i≤(v.fixed.length:Int)) (fun i=>v.fixed.length - i.toNat) ⟨by omega,by omega⟩ (by omega) ?_
   rintro i rec ⟨g0,g1⟩ ih
   refine ZK (fun hlt=>?_) fun _=>?_
   ·refine ZaX g0 hlt fun e _ _=>ZK (fun _=>ZU fun h=>by cases h) fun _=>?_
    rw [ZaT (by omega) (by omega)]
    exact ih _ ⟨by omega,by omega⟩ (by omega)
   ·refine ZaH (fun i=>0≤i∧i≤(v.policy.groups.length:Int)) (fun i=>v.policy.groups.length - i.toNat) ⟨by omega,by omega⟩ (by omega) ?_
    rintro i rec ⟨g0,g1⟩ ih
    refine ZK (fun hlt=>?_) fun _=>ZU fun _=>hS
    refine ZaX g0 hlt fun e _ _=>ZK (fun _=>ZU fun h=>by cases h) fun _=>?_
    rw [ZaT (by omega) (by omega)]
    exact ih _ ⟨by omega,by omega⟩ (by omega)
 ·refine ZK (fun _=>hk _ fun h=>by cases h) fun h1=>ZK (fun _=>hk _ fun h=>by cases h) fun h2=>ZK (fun _=>hk _ fun h=>by cases h) fun h3=>ZK (fun _=>hk _ fun h=>by cases h) fun h4=>ZK (fun _=>hk _ fun h=>by cases h) fun h5=>hk _ fun h=>?_
  have h6:=of_decide_eq_false h
  exact ⟨by omega,by omega,by omega,by omega,by omega,by omega⟩
theorem ZiQ {s:ByteArray} {c:Int} {β:Type} {f:ByteArray→Option β} {R:β→Prop} (h0:0≤c) (h1:c≤100000) (hs:s.size=1) (k:∀ x,Tot (f x) R):Tot ((strings_Repeat s c).bind f) R:=by
 unfold strings_Repeat
 rw [if_pos ⟨h0,by omega,by rw [hs];omega⟩]
 exact k _
abbrev Zh7 (r:View×TapeF):Prop:=SmallV r.1∧r.2.ok
theorem Zm5 (w:View) (s:TapeF) (hw:ViewV w) (hs:s.ok):Tot (Zdd w s) Zh7:=by
 have h1:=hw.plen
 have h2:=hw.glen
 have h3:w.fixed.length=0:=by rw [hw.fix];rfl
 have p1:=hw.pol.glen
 have p2:=hw.pol.rlen
 have p3:=hw.pol.ulen
 unfold Zdd
 refine ZaU 100 (by simp only [List.length_nil];omega) (by omega) (by omega) ?_
 rw [List.nil_append]
 refine ZG (Zaa _ _ hs (by split<;>omega)) fun r2 k2=>ZG (Zaa _ 14 k2.2 (by decide)) fun r3 k3=>?_
 have m0:=k2.1.1
 have m1:r2.1<7∧(w.pages.length=0∨r2.1<(w.pages.length:Int))∧r2.1<(w.pages.length:Int)+1:=by
  have:=k2.1.2
  split at this<;>omega
 refine Zar (fun q=>∀ (l:List Int) (p:Int) (R:List Rule) (G:List ByteArray) (c:Int) (F:List Asked) (P:List Page),TapeF.ok ⟨l,p⟩→R.length≤10→G.length≤100→F.length≤10→P.length≤1000→(P.length=0∨r2.1<(P.length:Int))→Tot (q l p R G c F P) Zh7) (fun l p R G c F P hlp hR hG hF hP hx=>?_) fun k hk=>?_
 ·refine ZK (fun _=>ZU ⟨⟨by dsimp only;omega,by dsimp only;omega,by dsimp only;omega,Zh6 (by dsimp only;omega) (by dsimp only;omega) (by dsimp only;omega)⟩,hlp⟩) fun hne=>?_
  have hx:r2.1<(P.length:Int):=by omega
  refine ZG (Zaa _ 8 hlp (by decide)) fun r4 k4=>?_
  refine Zar (fun q=>∀ (l:List Int) (p:Int) (P:List Page),TapeF.ok ⟨l,p⟩→P.length≤1000→Tot (q l p P) Zh7) (fun l p P hlp hP=>?_) fun k hk=>?_
  ·exact ZU ⟨⟨by dsimp only;omega,by dsimp only;omega,by dsimp only;omega,Zh6 (by dsimp only;omega) (by dsimp only;omega) (by dsimp only;omega)⟩,hlp⟩
  refine ZK (fun _=>?_) fun _=>ZK (fun _=>?_) fun _=>ZK (fun _=>?_) fun _=>hk _ _ _ k4.2 hP
  ·exact ZG (Zaa _ 2 k4.2 (by decide)) fun r5 k5=>ZaX m0 hx fun e _ _=>hk _ _ _ k5.2 (by rw [ZgM];exact hP)
  ·refine ZG (Zaa _ 2 k4.2 (by decide)) fun r5 k5=>?_
   have e5:w64 (8192+r5.1)=8192+r5.1:=ZaT (by omega) (by omega)
   exact ZiQ (by omega) (by omega) rfl fun x=>ZaX m0 hx fun e _ _=>hk _ _ _ k5.2 (by rw [ZgM];exact hP)
  ·exact ZaX m0 hx fun e _ _=>hk _ _ _ k4.2 (by rw [ZgM];exact hP)
 ·refine ZK (fun _=>?_) fun _=>ZK (fun _=>?_) fun _=>ZK (fun _=>?_) fun _=>ZK (fun _=>?_) fun _=>ZK (fun _=>?_) fun _=>ZK (fun _=>?_) fun _=>ZK (fun _=>?_) fun _=>ZK (fun _=>?_) fun _=>hk _ _ _ _ _ _ _ k3.2 (by omega) (by omega) (by omega) (by omega) (by omega)
  ·exact ZG (Zaa _ 3 k3.2 (by decide)) fun r4 k4=>ZaX k4.1.1 (by simp only [List.length_cons,List.length_nil];omega) fun e _ _=>hk _ _ _ _ _ _ _ k4.2 (by omega) (by omega) (by omega) (by omega) (by omega)
  ·refine ZaU 100 (by simp only [List.length_nil];omega) (by omega) (by omega) ?_
   rw [List.nil_append]
   refine ZG (ZmP _ _ k3.2 (by simp)) fun r4 k4=>?_
   refine ZaU 100 (by simp only [List.length_singleton];omega) (by omega) (by omega) ?_
   exact hk _ _ _ _ _ _ _ k4 (by omega) (by simp only [List.length_append,List.length_singleton];omega) (by omega) (by omega) (by omega)
  ·exact ZG (Zaa _ 3 k3.2 (by decide)) fun r4 k4=>hk _ _ _ _ _ _ _ k4.2 (by omega) (by omega) (by simp) (by omega) (by omega)
  ·refine ZG (Zaa _ 2 k3.2 (by decide)) fun r4 k4=>?_
   have e5:w64 (32768+r4.1)=32768+r4.1:=ZaT (by omega) (by omega)
   exact ZiQ (by omega) (by omega) rfl fun x=>hk _ _ _ _ _ _ _ k4.2 (by omega) (by omega) (by simp) (by omega) (by omega)
  ·refine ZaU 100 (by simp only [List.length_nil];omega) (by omega) (by omega) ?_
   rw [List.nil_append]
   refine ZG (Zaa _ 8 k3.2 (by decide)) fun r4 k4=>?_
   refine ZaU 100 (by simp only [List.length_singleton];omega) (by omega) (by omega) ?_
   exact hk _ _ _ _ _ _ _ k4.2 (by simp only [List.length_append,List.length_singleton];omega) (by omega) (by omega) (by omega) (by omega)
  ·refine ZG (ZmS _ k3.2) fun r4 k4=>?_
   refine ZaU 100 (by simp only [List.length_singleton];omega) (by omega) (by omega) ?_
   exact hk _ _ _ _ _ _ _ k4.2 (by omega) (by omega) (by omega) (by simp only [List.length_append,List.length_singleton];omega) (.inr (by simp only [List.length_append,List.length_singleton];omega))
  ·exact ZT (v:=()) (by kernel_rfl) (hk _ _ _ _ _ _ _ k3.2 (by omega) (by omega) (by omega) (by simp) (.inr (by simp;omega)))
  ·exact ZT (v:=()) (by kernel_rfl) (hk _ _ _ _ _ _ _ k3.2 (by omega) (by simp) (by omega) (by omega) (by omega))
theorem Zoy (s:TapeF) (hs:s.ok):Tot (Zfd s) fun _=>True:=by
 unfold Zfd
 refine ZG (Zaa _ 7 hs (by decide)) fun r1 h1=>ZG (Zlx _ h1.2) fun r2 h2=>ZG (Zaa _ 2 h2 (by decide)) fun r3 h3=>?_
 refine Zar (fun q=>∀ (l:List Int) (p a:Int),TapeF.ok ⟨l,p⟩→Tot (q l p a) fun _=>True) (fun l p a hlp=>?_) fun k hk=>?_
 ·refine Zar (fun q=>∀ (l:List Int) (p a:Int) (b:ByteArray) (c:Int),TapeF.ok ⟨l,p⟩→Tot (q l p a b c) fun _=>True) (fun l p a b c hlp=>?_) fun k hk=>?_
  ·refine ZG (Zaa _ 12 hlp (by decide)) fun r4 h4=>?_
   refine Zar (fun q=>∀ (l:List Int) (p a:Int),Tot (q l p a) fun _=>True) (fun l p a=>ZU trivial) fun k hk=>?_
   exact ZK (fun _=>ZG (Zaa _ 9 h4.2 (by decide)) fun r5 h5=>hk _ _ _) fun _=>hk _ _ _
  ·refine Zar (fun q=>∀ b,Tot (q b) fun _=>True) (fun b=>?_) fun k2 hk2=>?_
   ·refine ZaE (fun _=>?_) fun _=>ZK (fun _=>?_) fun _=>ZK (fun _=>?_) fun _=>hk _ _ _ _ _ hlp
    ·exact ZG (ZmP _ _ hlp (by simp)) fun r4 h4=>hk _ _ _ _ _ h4
    ·exact ZG (Zaa _ 5 hlp (by decide)) fun r4 h4=>hk _ _ _ _ _ h4.2
    ·exact ZG (Zaa _ 5 hlp (by decide)) fun r4 h4=>hk _ _ _ _ _ h4.2
   ·exact ZK (fun _=>hk2 _) fun _=>hk2 _
 ·refine ZK (fun _=>?_) fun _=>hk _ _ _ h3.2
  exact ZG (Zaa _ 2 h3.2 (by decide)) fun r4 h4=>ZaX h4.1.1 (by simp only [List.length_cons,List.length_nil];omega) fun e _ _=>hk _ _ _ h4.2
theorem Zh8:ZbU=ZaL:=rfl
theorem ZfS (k:Key):Tot (ZaL k) fun _=>True:=by
 unfold ZaL
 have hS:∀ b:Bool,Tot (some b) fun _=>True:=fun b=>ZU trivial
 have hT:Zbo k.title=some k.title.valid:=rfl
 refine Zar (fun q=>∀ b,Tot (q b) fun _=>True) (fun b=>ZaE (fun _=>?_) fun _=>?_) fun k7 hk=>?_
 ·exact Zar (fun q=>∀ b,Tot (q b) fun _=>True) hS fun k hk=>ZT hT (ZaE (fun _=>hk _) fun _=>hk _)
 ·refine Zar (fun q=>∀ b,Tot (q b) fun _=>True) (fun b=>ZaE (fun _=>?_) fun _=>ZK (fun _=>?_) fun _=>ZK (fun _=>?_) fun _=>hS _) fun k9 hk9=>ZK (fun _=>hk9 _) fun _=>hk9 _
  ·exact Zar (fun q=>∀ b,Tot (q b) fun _=>True) hS fun k hk=>ZT hT (ZaE (fun _=>ZK (fun _=>hk _) fun _=>hk _) fun _=>hk _)
  ·exact Zar (fun q=>∀ b,Tot (q b) fun _=>True) hS fun k hk=>ZK (fun _=>ZK (fun _=>hk _) fun _=>hk _) fun _=>hk _
  ·exact Zar (fun q=>∀ b,Tot (q b) fun _=>True) hS fun k hk=>ZT hT (ZaE (fun _=>ZK (fun _=>hk _) fun _=>hk _) fun _=>hk _)
 ·exact ZK (fun _=>hk _) fun _=>ZK (fun _=>hk _) fun _=>hk _
theorem ViewV.small {w:View} (h:ViewV w):SmallV w:=by
 have h1:=h.plen
 have h2:=h.glen
 have h3:w.fixed.length=0:=by rw [h.fix];rfl
 exact ⟨by omega,by omega,by omega,h.pol.sz⟩
theorem Zhj (v:View) (l:List Int) (k:Key) (hl:l.length≤9223372036854775807):Zbm v l k=some true:=by
 refine ZcZ ?_
 unfold Zbm
 refine Zar (fun q=>∀ b,(b=false→SmallV v)→Tot (q b) fun r=>r=true) (fun b hb=>ZaE (fun _=>ZT Zmt (ZU rfl)) fun h=>?_) fun k1 hk1=>?_
 ·have hv:=hb h
  refine ZT (v:=⟨l,0⟩) rfl (ZG (Zny _ ⟨hl,Int.le_refl _⟩) fun r6 h6=>ZG (Zm5 r6.1 r6.2 h6.1 h6.2) fun r7 h7=>ZG (Zoy r7.2 h7.2) fun r8 _=>?_)
  refine Zar (fun q=>Tot (q true) fun r=>r=true) (ZU rfl) fun k2 hk2=>?_
  obtain ⟨a1,e1,_⟩:=ZfS k
  obtain ⟨a2,e2,_⟩:=ZfS r8.1
  refine ZT (Zej v hv) (ZT (ZfP v hv) (ZK (fun _=>?_) fun h=>absurd rfl h))
  refine ZT (Zej r6.1 h6.1.small) (ZK (fun _=>?_) fun h=>absurd h6.1.err h)
  refine ZT (Zej r7.1 h7.1) (ZT (ZfP r7.1 h7.1) (ZK (fun _=>?_) fun h=>absurd rfl h))
  rw [Zh8]
  refine ZT e1 (ZT e1 (ZaE (fun _=>?_) fun h=>?_))
  ·refine ZT e2 (ZT e2 (ZaE (fun _=>ZT Zmt hk2) fun h=>?_))
   rw [beq_self_eq_true] at h;cases h
  ·rw [beq_self_eq_true] at h;cases h
 ·refine ZG (Zm4 v) fun r hr=>ZaE (fun _=>hk1 _ fun h=>by cases h) fun h=>hk1 _ fun _=>hr h
end Go.Proofs.YtpffimahajgiaaaGreatDoor
namespace Go.Proofs.YtpffimahajgiaaaGreatDoor
open Go.RowKit Go.ChangeShapes Go.WideShapes Go.Deep
theorem Zec {α:Type} (f:Nat→Option α):∀ n,(∀ i,i<n→∃ t,f i=some t)→((List.range n).filterMap f).length=n∧∀ i,i<n→((List.range n).filterMap f)[i]? = f i
 | 0,_=>⟨rfl,fun i h=>absurd h (by omega)⟩
 | n+1,h=>by
   obtain ⟨h1,h2⟩:=Zec f n fun i hi=>h i (by omega)
   obtain ⟨t,ht⟩:=h n (by omega)
   rw [List.range_succ,List.filterMap_append]
   have e:List.filterMap f [n] = [t]:=by simp [ht]
   rw [e]
   refine ⟨by simp [h1],fun i hi=>?_⟩
   rcases Nat.lt_or_ge i n with hl | hl
   ·rw [List.getElem?_append_left (by omega)];exact h2 i hl
   ·obtain rfl:i=n:=by omega
    rw [List.getElem?_append_right (by omega),h1,ht];simp
section
variable {H:Type} {enc:TypeId×Value→H} {P:Program} {W:World}
def Rd (enc:TypeId×Value→H) (P:Program) (W:World) (T:TypeId) (α:Type) [Enc α]:Prop:=
 ∀ fuel cs x,DataW.trod enc P W 0 (fun _=>true) true fuel T cs=some x→∃ t:α,Enc.RT W t cs
theorem Zoh {T:TypeId} (hT:P.underlying T=some (.int .i64)):Rd enc P W T Int:=fun _ _ _ h=>by
 obtain ⟨n,hc,_⟩:=DataW.trod_int hT h
 exact ⟨n,hc⟩
theorem Znq {T:TypeId} (hT:P.underlying T=some .bool):Rd enc P W T Bool:=fun _ _ _ h=>by
 obtain ⟨n,hc,_⟩:=DataW.trod_bool hT h
 exact ⟨n,hc⟩
theorem ZkP {T:TypeId} (hT:P.underlying T=some .string):Rd enc P W T ByteArray:=fun _ _ _ h=>by
 obtain ⟨n,hc,_⟩:=DataW.trod_string hT h
 exact ⟨n,hc⟩
theorem ZcP {S E:TypeId} {α:Type} [Enc α] (hS:P.underlying S=some (.slice E)) (hk:P.cellsOf E=Enc.k α) (h0:0<Enc.k α) (hE:Rd enc P W E α):Rd enc P W S (List α):=fun fuel cs x h=>by
 rcases open_slice hS h with ⟨hc,_⟩ | ⟨a,len,cap,m,n,D,Pl,hc,_,hl,hm,hmm,_,hel⟩
 ·exact ⟨[],none,0,0,hc,SlR.nil W⟩
 ·have hm':m=cap:=by simpa using hmm
  have hx:∀ i,∃ (cs':List Value) (t:Option α),i<len→∃ t',t=some t'∧Enc.RT W t' cs'∧∀ j v,cs'[j]? = some v→W.cell? (a.add (i * P.cellsOf E+j))=some v:=fun i=>by
   by_cases hi:i<len
   ·obtain ⟨cs',h1,h2⟩:=hel i (by omega)
    obtain ⟨t,ht⟩:=hE _ _ _ h2
    obtain ⟨_,hlen,hcell⟩:=World.cells?_some h1
    refine ⟨cs',some t,fun _=>⟨t,rfl,ht,fun j v hj=>?_⟩⟩
    have hjl:j<P.cellsOf E:=by rw [← hlen];exact (List.getElem?_eq_some_iff.1 hj).1
    rw [← Go.Deep.add_add,hcell j hjl,hj]
   ·exact ⟨[],none,fun h=>absurd h hi⟩
  obtain ⟨css,hx⟩:=Classical.axiomOfChoice hx
  obtain ⟨ts,hx⟩:=Classical.axiomOfChoice hx
  refine ⟨(List.range len).filterMap ts,some a,len,cap,hc,?_⟩
  have hlen:((List.range len).filterMap ts).length=len∧∀ i,i<len→((List.range len).filterMap ts)[i]? = ts i:=Zec ts len fun i hi=>by
   obtain ⟨t,ht,_⟩:=hx i hi
   exact ⟨t,ht⟩
  refine ⟨hlen.1.symm,hl,by unfold maxLen at hm;exact hm,fun hpos=>?_⟩
  obtain ⟨t0,_,hR0,hc0⟩:=hx 0 hpos
  have hl0:=Enc.len hR0
  have hcell0:=hc0 0 ((css 0)[0]'(by omega)) (List.getElem?_eq_getElem (by omega))
  obtain ⟨b,off,spot⟩:=a
  have hspot:spot=none:=by
   simp only [Nat.zero_mul,Nat.add_zero,Addr.add,if_true] at hcell0
   cases spot with
   | none=>rfl
   | some s=>
     exfalso
     unfold World.cell? at hcell0
     split at hcell0<;>simp at hcell0
  subst hspot
  refine ⟨b,off,css,rfl,trivial,?_,fun i x hi=>?_⟩
  ·simp only [Nat.zero_mul,Nat.add_zero,Addr.add,if_true] at hcell0
   exact ZbX hcell0
  ·have hil:i<len:=by rw [← hlen.1];exact (List.getElem?_eq_some_iff.1 hi).1
   obtain ⟨t,ht,hR,hcell⟩:=hx i hil
   rw [hlen.2 i hil,ht] at hi
   obtain rfl:t=x:=by simpa using hi
   refine ⟨hR,fun j v hj=>?_⟩
   have:=hcell j v hj
   rw [hk] at this
   unfold Addr.add at this
   split at this
   ·rename_i h0;rw [Nat.add_assoc,h0];exact this
   ·rw [Nat.add_assoc];exact this
theorem Zak {T:TypeId} {fs:Array Field} {fuel:Nat} {cs:List Value} {x:DataW H×List MemPlace} {α:Type} [Enc α] (hT:P.underlying T=some (.struct fs))
  (h:DataW.trod enc P W 0 (fun _=>true) true fuel T cs=some x) (j o k:Nat) (T':TypeId) (hj:(fs[j]?).map (fun f=>(f.offset,f.type))=some (o,T')) (hk:P.cellsOf T'=k) (hR:Rd enc P W T' α):∃ t:α,Enc.RT W t ((cs.drop o).take k):=by
 obtain ⟨xs,n,_,_,hl,hlen,hf⟩:=DataW.trod_struct hT h
 cases hfj:fs[j]? with
 | none=>rw [hfj] at hj;cases hj
 | some f=>
   rw [hfj] at hj
   simp only [Option.map_some,Option.some.injEq,Prod.mk.injEq] at hj
   obtain ⟨rfl,rfl⟩:=hj
   subst hk
   have h1:=hf j f hfj
   have hjl:j<xs.length:=by rw [hlen];exact (Array.getElem?_eq_some_iff.1 hfj).1
   rw [List.getElem?_eq_getElem hjl] at h1
   exact hR _ _ _ h1
theorem ZhQ {α:Type}:∀ {l:List α},l.length=2→∃ a b,l = [a,b]
 | [a,b],_=>⟨a,b,rfl⟩
theorem Znr {α:Type}:∀ {l:List α},l.length=3→∃ a b c,l = [a,b,c]
 | [a,b,c],_=>⟨a,b,c,rfl⟩
theorem Zoi {α:Type}:∀ {l:List α},l.length=4→∃ a b c d,l = [a,b,c,d]
 | [a,b,c,d],_=>⟨a,b,c,d,rfl⟩
theorem ZoC {α:Type}:∀ {l:List α},l.length=5→∃ a b c d e,l = [a,b,c,d,e]
 | [a,b,c,d,e],_=>⟨a,b,c,d,e,rfl⟩
theorem ZoD {α:Type}:∀ {l:List α},l.length=6→∃ a b c d e f,l = [a,b,c,d,e,f]
 | [a,b,c,d,e,f],_=>⟨a,b,c,d,e,f,rfl⟩
theorem Zoj {α:Type}:∀ {l:List α},l.length=7→∃ a b c d e f g,l = [a,b,c,d,e,f,g]
 | [a,b,c,d,e,f,g],_=>⟨a,b,c,d,e,f,g,rfl⟩
theorem Zdh {T:TypeId} {fs:Array Field} {fuel:Nat} {cs:List Value} {x:DataW H×List MemPlace} (hT:P.underlying T=some (.struct fs))
  (h:DataW.trod enc P W 0 (fun _=>true) true fuel T cs=some x):cs.length=P.cellsOf T:=by
 obtain ⟨xs,n,_,_,hl,_⟩:=DataW.trod_struct hT h
 exact hl
theorem Zi0 {T:TypeId} {fs:Array Field} {v:Value} {d:DataW H} {p:List MemPlace} {α:Type} [Enc α] {b0:Nat} (hT:P.underlying T=some (.struct fs)) (hv:Value.okWide P W .any b0 T v)
  (h:DataW.Trod enc P W 0 (fun _=>true) true T v d p) (hR:Rd enc P W T α):∃ (t:α) (cs:List Value),v = .agg cs.toArray∧Enc.RT W t cs:=by
 obtain ⟨cs,rfl,_⟩:=okWide_struct hT hv
 obtain ⟨fuel,hf⟩:=h
 obtain ⟨t,ht⟩:=hR _ _ _ hf
 exact ⟨t,cs.toList,by simp,ht⟩
end
end Go.Proofs.YtpffimahajgiaaaGreatDoor
namespace Go.Proofs.YtpffimahajgiaaaGreatDoor
open Go.RowKit Go.ChangeShapes Go.WideShapes Go.Deep
theorem Zb5:Tryz.prog.cellsOf 3=1:=by kernel_rfl
theorem Ze8:Tryz.prog.cellsOf 4=1:=by kernel_rfl
theorem Za7:Tryz.prog.cellsOf 9=1:=by kernel_rfl
theorem ZcC:Tryz.prog.cellsOf 34=2:=by kernel_rfl
theorem ZiR:Tryz.prog.cellsOf 36=4:=by kernel_rfl
theorem Ze9:Tryz.prog.cellsOf 59=3:=by kernel_rfl
theorem ZfU:Tryz.prog.cellsOf 65=7:=by kernel_rfl
theorem ZfV:Tryz.prog.cellsOf 81=3:=by kernel_rfl
theorem Zhk:Tryz.prog.cellsOf 83=6:=by kernel_rfl
theorem ZfW:Tryz.prog.cellsOf 128=5:=by kernel_rfl
theorem ZfX:Tryz.prog.cellsOf 67=2:=by kernel_rfl
theorem Zfa:Tryz.prog.cellsOf 27=3:=by kernel_rfl
theorem Zhl:Tryz.prog.cellsOf 54=4:=by kernel_rfl
theorem Zkv:Tryz.prog.cellsOf 31=7:=by kernel_rfl
theorem ZeI:Tryz.prog.cellsOf 28=1:=by kernel_rfl
theorem Zib:Tryz.prog.cellsOf 23=1:=by kernel_rfl
theorem Zjl:Tryz.prog.cellsOf 24=1:=by kernel_rfl
theorem Zic:Tryz.prog.cellsOf 25=1:=by kernel_rfl
theorem Zjm:Tryz.prog.cellsOf 22=1:=by kernel_rfl
theorem Zid:Tryz.prog.cellsOf 29=1:=by kernel_rfl
section
variable {H:Type} {enc:TypeId×Value→H} {W:World}
theorem ZgD:Rd enc Tryz.prog W 3 Int:=Zoh Tryz.underlying3
theorem Zkw:Rd enc Tryz.prog W 4 Bool:=Znq Tryz.underlying4
theorem Zcw:Rd enc Tryz.prog W 9 ByteArray:=ZkP Tryz.underlying9
set_option maxRecDepth 100000 in
theorem ZgE:Rd enc Tryz.prog W 34 Title:=fun _ cs _ h=>by
 have hl:=Zdh Tryz.underlying34 h
 obtain ⟨t0,e0⟩:=Zak Tryz.underlying34 h 0 0 1 _ rfl Zb5 ZgD
 obtain ⟨t1,e1⟩:=Zak Tryz.underlying34 h 1 1 1 _ rfl Za7 Zcw
 rw [ZcC] at hl
 obtain ⟨x0,x1,rfl⟩:=ZhQ hl
 cases (show [x0] = [_] from e0)
 cases (show [x1] = [_] from e1)
 exact ⟨⟨t0,t1⟩,rfl⟩
set_option maxRecDepth 100000 in
theorem Zn3:Rd enc Tryz.prog W 36 Key:=fun _ cs _ h=>by
 have hl:=Zdh Tryz.underlying36 h
 obtain ⟨t0,e0⟩:=Zak Tryz.underlying36 h 0 0 1 _ rfl Zb5 ZgD
 obtain ⟨t1,e1⟩:=Zak Tryz.underlying36 h 1 1 2 _ rfl ZcC ZgE
 obtain ⟨t2,e2⟩:=Zak Tryz.underlying36 h 2 3 1 _ rfl Zb5 ZgD
 rw [ZiR] at hl
 obtain ⟨x0,x1,x2,x3,rfl⟩:=Zoi hl
 cases (show [x0] = [_] from e0)
 cases (show [x1,x2] = [_,_] from e1)
 cases (show [x3] = [_] from e2)
 exact ⟨⟨t0,t1,t2⟩,rfl⟩
set_option maxRecDepth 100000 in
theorem Zl1:Rd enc Tryz.prog W 59 Answer:=fun _ cs _ h=>by
 have hl:=Zdh Tryz.underlying59 h
 obtain ⟨t0,e0⟩:=Zak Tryz.underlying59 h 0 0 1 _ rfl Ze8 Zkw
 obtain ⟨t1,e1⟩:=Zak Tryz.underlying59 h 1 1 1 _ rfl Za7 Zcw
 obtain ⟨t2,e2⟩:=Zak Tryz.underlying59 h 2 2 1 _ rfl Zb5 ZgD
 rw [Ze9] at hl
 obtain ⟨x0,x1,x2,rfl⟩:=Znr hl
 cases (show [x0] = [_] from e0)
 cases (show [x1] = [_] from e1)
 cases (show [x2] = [_] from e2)
 exact ⟨⟨t0,t1,t2⟩,rfl⟩
set_option maxRecDepth 100000 in
theorem Zm9:Rd enc Tryz.prog W 65 Asked:=fun _ cs _ h=>by
 have hl:=Zdh Tryz.underlying65 h
 obtain ⟨t0,e0⟩:=Zak Tryz.underlying65 h 0 0 4 _ rfl ZiR Zn3
 obtain ⟨t1,e1⟩:=Zak Tryz.underlying65 h 1 4 3 _ rfl Ze9 Zl1
 rw [ZfU] at hl
 obtain ⟨x0,x1,x2,x3,x4,x5,x6,rfl⟩:=Zoj hl
 cases (show [x0,x1,x2,x3] = [_,_,_,_] from e0)
 cases (show [x4,x5,x6] = [_,_,_] from e1)
 exact ⟨⟨t0,t1⟩,rfl⟩
set_option maxRecDepth 100000 in
theorem Zna:Rd enc Tryz.prog W 81 Scope:=fun _ cs _ h=>by
 have hl:=Zdh Tryz.underlying81 h
 obtain ⟨t0,e0⟩:=Zak Tryz.underlying81 h 0 0 1 _ rfl Zb5 ZgD
 obtain ⟨t1,e1⟩:=Zak Tryz.underlying81 h 1 1 2 _ rfl ZcC ZgE
 rw [ZfV] at hl
 obtain ⟨x0,x1,x2,rfl⟩:=Znr hl
 cases (show [x0] = [_] from e0)
 cases (show [x1,x2] = [_,_] from e1)
 exact ⟨⟨t0,t1⟩,rfl⟩
set_option maxRecDepth 100000 in
theorem Zn4:Rd enc Tryz.prog W 83 Rule:=fun _ cs _ h=>by
 have hl:=Zdh Tryz.underlying83 h
 obtain ⟨t0,e0⟩:=Zak Tryz.underlying83 h 0 0 1 _ rfl Ze8 Zkw
 obtain ⟨t1,e1⟩:=Zak Tryz.underlying83 h 1 1 1 _ rfl Zb5 ZgD
 obtain ⟨t2,e2⟩:=Zak Tryz.underlying83 h 2 2 1 _ rfl Za7 Zcw
 obtain ⟨t3,e3⟩:=Zak Tryz.underlying83 h 3 3 3 _ rfl ZfV Zna
 rw [Zhk] at hl
 obtain ⟨x0,x1,x2,x3,x4,x5,rfl⟩:=ZoD hl
 cases (show [x0] = [_] from e0)
 cases (show [x1] = [_] from e1)
 cases (show [x2] = [_] from e2)
 cases (show [x3,x4,x5] = [_,_,_] from e3)
 exact ⟨⟨t0,t1,t2,t3⟩,rfl⟩
set_option maxRecDepth 100000 in
theorem Znb:Rd enc Tryz.prog W 128 Guard:=fun _ cs _ h=>by
 have hl:=Zdh Tryz.underlying128 h
 obtain ⟨t0,e0⟩:=Zak Tryz.underlying128 h 0 0 1 _ rfl Ze8 Zkw
 obtain ⟨t1,e1⟩:=Zak Tryz.underlying128 h 1 1 1 _ rfl Za7 Zcw
 obtain ⟨t2,e2⟩:=Zak Tryz.underlying128 h 2 2 2 _ rfl ZcC ZgE
 obtain ⟨t3,e3⟩:=Zak Tryz.underlying128 h 3 4 1 _ rfl Za7 Zcw
 rw [ZfW] at hl
 obtain ⟨x0,x1,x2,x3,x4,rfl⟩:=ZoC hl
 cases (show [x0] = [_] from e0)
 cases (show [x1] = [_] from e1)
 cases (show [x2,x3] = [_,_] from e2)
 cases (show [x4] = [_] from e3)
 exact ⟨⟨t0,t1,t2,t3⟩,rfl⟩
theorem Zhm:Rd enc Tryz.prog W 28 (List ByteArray):=ZcP Tryz.underlying28 Za7 (by decide) Zcw
set_option maxRecDepth 100000 in
theorem Znc:Rd enc Tryz.prog W 67 Group:=fun _ cs _ h=>by
 have hl:=Zdh Tryz.underlying67 h
 obtain ⟨t0,e0⟩:=Zak Tryz.underlying67 h 0 0 1 _ rfl Za7 Zcw
 obtain ⟨t1,e1⟩:=Zak Tryz.underlying67 h 1 1 1 _ rfl ZeI Zhm
 rw [ZfX] at hl
 obtain ⟨x0,x1,rfl⟩:=ZhQ hl
 cases (show [x0] = [_] from e0)
 obtain ⟨A1_0,n1_0,c1_0,g1,s1_0⟩:=e1
 cases (show [x1] = [_] from g1)
 exact ⟨⟨t0,t1⟩,_,_,_,rfl,s1_0⟩
theorem Zl2:Rd enc Tryz.prog W 23 (List Group):=ZcP Tryz.underlying23 ZfX (by decide) Znc
theorem Znd:Rd enc Tryz.prog W 24 (List Rule):=ZcP Tryz.underlying24 Zhk (by decide) Zn4
theorem Zl3:Rd enc Tryz.prog W 25 (List Guard):=ZcP Tryz.underlying25 ZfW (by decide) Znb
set_option maxRecDepth 100000 in
theorem Zl4:Rd enc Tryz.prog W 27 Policy:=fun _ cs _ h=>by
 have hl:=Zdh Tryz.underlying27 h
 obtain ⟨t0,e0⟩:=Zak Tryz.underlying27 h 0 0 1 _ rfl Zib Zl2
 obtain ⟨t1,e1⟩:=Zak Tryz.underlying27 h 1 1 1 _ rfl Zjl Znd
 obtain ⟨t2,e2⟩:=Zak Tryz.underlying27 h 2 2 1 _ rfl Zic Zl3
 rw [Zfa] at hl
 obtain ⟨x0,x1,x2,rfl⟩:=Znr hl
 obtain ⟨A0_0,n0_0,c0_0,g0,s0_0⟩:=e0
 cases (show [x0] = [_] from g0)
 obtain ⟨A1_0,n1_0,c1_0,g1,s1_0⟩:=e1
 cases (show [x1] = [_] from g1)
 obtain ⟨A2_0,n2_0,c2_0,g2,s2_0⟩:=e2
 cases (show [x2] = [_] from g2)
 exact ⟨⟨t0,t1,t2⟩,_,_,_,_,_,_,_,_,_,rfl,s0_0,s1_0,s2_0⟩
set_option maxRecDepth 100000 in
theorem Zn5:Rd enc Tryz.prog W 54 Page:=fun _ cs _ h=>by
 have hl:=Zdh Tryz.underlying54 h
 obtain ⟨t0,e0⟩:=Zak Tryz.underlying54 h 0 0 2 _ rfl ZcC ZgE
 obtain ⟨t1,e1⟩:=Zak Tryz.underlying54 h 1 2 1 _ rfl Za7 Zcw
 obtain ⟨t2,e2⟩:=Zak Tryz.underlying54 h 2 3 1 _ rfl Zb5 ZgD
 rw [Zhl] at hl
 obtain ⟨x0,x1,x2,x3,rfl⟩:=Zoi hl
 cases (show [x0,x1] = [_,_] from e0)
 cases (show [x2] = [_] from e1)
 cases (show [x3] = [_] from e2)
 exact ⟨⟨t0,t1,t2⟩,rfl⟩
theorem Zne:Rd enc Tryz.prog W 22 (List Page):=ZcP Tryz.underlying22 Zhl (by decide) Zn5
theorem Zl5:Rd enc Tryz.prog W 29 (List Asked):=ZcP Tryz.underlying29 ZfU (by decide) Zm9
set_option maxRecDepth 100000 in
theorem Zn6:Rd enc Tryz.prog W 31 View:=fun _ cs _ h=>by
 have hl:=Zdh Tryz.underlying31 h
 obtain ⟨t0,e0⟩:=Zak Tryz.underlying31 h 0 0 1 _ rfl Zjm Zne
 obtain ⟨t1,e1⟩:=Zak Tryz.underlying31 h 1 1 3 _ rfl Zfa Zl4
 obtain ⟨t2,e2⟩:=Zak Tryz.underlying31 h 2 4 1 _ rfl ZeI Zhm
 obtain ⟨t3,e3⟩:=Zak Tryz.underlying31 h 3 5 1 _ rfl Zb5 ZgD
 obtain ⟨t4,e4⟩:=Zak Tryz.underlying31 h 4 6 1 _ rfl Zid Zl5
 rw [Zkv] at hl
 obtain ⟨x0,x1,x2,x3,x4,x5,x6,rfl⟩:=Zoj hl
 obtain ⟨A0_0,n0_0,c0_0,g0,s0_0⟩:=e0
 cases (show [x0] = [_] from g0)
 obtain ⟨A1_0,n1_0,c1_0,A1_1,n1_1,c1_1,A1_2,n1_2,c1_2,g1,s1_0,s1_1,s1_2⟩:=e1
 cases (show [x1,x2,x3] = [_,_,_] from g1)
 obtain ⟨A2_0,n2_0,c2_0,g2,s2_0⟩:=e2
 cases (show [x4] = [_] from g2)
 cases (show [x5] = [_] from e3)
 obtain ⟨A4_0,n4_0,c4_0,g4,s4_0⟩:=e4
 cases (show [x6] = [_] from g4)
 exact ⟨⟨t0,t1,t2,t3,t4⟩,_,_,_,_,_,_,_,_,_,_,_,_,_,_,_,_,_,_,rfl,s0_0,s1_0,s1_1,s1_2,s2_0,s4_0⟩
end
end Go.Proofs.YtpffimahajgiaaaGreatDoor
namespace Go.Proofs.YtpffimahajgiaaaGreatDoor
open VL Go.RowKit Go.ChangeShapes Go.WideShapes
theorem Zn7 {H:Type} {enc:TypeId×Value→H} {W:World}:Rd enc Tryz.prog W 32 (List Int):=ZcP Tryz.underlying32 Zb5 (by decide) ZgD
theorem Zn8 {W:World} (hG:ZnJ W) (W':World) (hb:Below W.heap.size W W'):WInv.I Tryz.prog W':=
 ⟨hG.imp fun _ hm=>re1 hb (ZbX hm) hm,trivial⟩
end Go.Proofs.YtpffimahajgiaaaGreatDoor

namespace Go.Proofs.YtpffimahajgiaaaGreatDoor
open VL Go.RowKit
def Zk6 (x:Ctx) (ps:List PV) (vs:List Value):Prop:=ps.length=vs.length∧∀ (j:Nat) (p:PV) (v:Value),ps[j]? = some p→vs[j]? = some v→p.pure=true∧Rep x p v
theorem ZcS (x:Ctx):Zk6 x [] []:=⟨rfl,fun j p v h _=>by simp at h⟩
theorem Zaf {x:Ctx} {p:PV} {v:Value} {ps:List PV} {vs:List Value} (h:p.pure=true) (hr:Rep x p v) (ht:Zk6 x ps vs):Zk6 x (p::ps) (v::vs):=
 ⟨by simp [ht.1],fun j q u hq hu=>by
  cases j with
  | zero=>simp at hq hu;subst hq hu;exact ⟨h,hr⟩
  | succ j=>exact ht.2 j q u (by simpa using hq) (by simpa using hu)⟩
theorem Zk7 {x:Ctx} {ps:List PV} {vs:List Value} (h:Zk6 x ps vs):Rep x (.agg ps) (.agg vs.toArray):=by
 refine .agg ps _ (by simpa using h.1) fun i p v hp hv=>?_
 exact (h.2 i p v hp (by simpa using hv)).2
theorem Asked.repL (w:World) (x:Asked) (vs:List Value) (h:Enc.R (fun _=>True) w x vs):Zk6 (ZiN w) x.cs vs:=by
 cases h
 exact Zaf rfl (.int .i64 _) (Zaf rfl (.int .i64 _) (Zaf rfl (.str _) (Zaf rfl (.int .i64 _) (Zaf rfl (.bool _) (Zaf rfl (.str _) (Zaf rfl (.int .i64 _) (ZcS _)))))))
instance:EncPV Asked:=⟨Asked.cs,fun w x vs h=>⟨by rw [(Asked.repL w x vs h).1];exact Enc.len h,(Asked.repL w x vs h).2⟩⟩
theorem Rule.repL (w:World) (x:Rule) (vs:List Value) (h:Enc.R (fun _=>True) w x vs):Zk6 (ZiN w) x.cs vs:=by
 cases h
 exact Zaf rfl (.bool _) (Zaf rfl (.int .i64 _) (Zaf rfl (.str _) (Zaf rfl (.int .i64 _) (Zaf rfl (.int .i64 _) (Zaf rfl (.str _) (ZcS _))))))
instance:EncPV Rule:=⟨Rule.cs,fun w x vs h=>⟨by rw [(Rule.repL w x vs h).1];exact Enc.len h,(Rule.repL w x vs h).2⟩⟩
theorem Guard.repL (w:World) (x:Guard) (vs:List Value) (h:Enc.R (fun _=>True) w x vs):Zk6 (ZiN w) x.cs vs:=by
 cases h
 exact Zaf rfl (.bool _) (Zaf rfl (.str _) (Zaf rfl (.int .i64 _) (Zaf rfl (.str _) (Zaf rfl (.str _) (ZcS _)))))
instance:EncPV Guard:=⟨Guard.cs,fun w x vs h=>⟨by rw [(Guard.repL w x vs h).1];exact Enc.len h,(Guard.repL w x vs h).2⟩⟩
theorem Page.repL (w:World) (x:Page) (vs:List Value) (h:Enc.R (fun _=>True) w x vs):Zk6 (ZiN w) x.cs vs:=by
 cases h
 exact Zaf rfl (.int .i64 _) (Zaf rfl (.str _) (Zaf rfl (.str _) (Zaf rfl (.int .i64 _) (ZcS _))))
instance:EncPV Page:=⟨Page.cs,fun w x vs h=>⟨by rw [(Page.repL w x vs h).1];exact Enc.len h,(Page.repL w x vs h).2⟩⟩
theorem Group.repL (w:World) (x:Group) (vs:List Value) (h:Enc.R (fun _=>True) w x vs):Zk6 (ZiN w) x.cs vs:=by
 obtain ⟨A0,n0,c0,rfl,h0⟩:=h
 exact Zaf rfl (.str _) (Zaf rfl (ZbQ h0) (ZcS _))
instance:EncPV Group:=⟨Group.cs,fun w x vs h=>⟨by rw [(Group.repL w x vs h).1];exact Enc.len h,(Group.repL w x vs h).2⟩⟩
theorem View.repL (w:World) (x:View) (vs:List Value) (h:Enc.R (fun _=>True) w x vs):Zk6 (ZiN w) x.cs vs:=by
 obtain ⟨A0,n0,c0,A1,n1,c1,A2,n2,c2,A3,n3,c3,A4,n4,c4,A5,n5,c5,rfl,h0,h1,h2,h3,h4,h5⟩:=h
 exact Zaf rfl (ZbQ h0) (Zaf rfl (ZbQ h1) (Zaf rfl (ZbQ h2) (Zaf rfl (ZbQ h3) (Zaf rfl (ZbQ h4) (Zaf rfl (.int .i64 _) (Zaf rfl (ZbQ h5) (ZcS _)))))))
theorem ZmW {α:Type} [Enc α] {w:World} {A:Option Addr} {n c:Nat} {xs:List α} (h:SlR w A n c xs):xs.length≤9223372036854775807:=by
 obtain ⟨h1,h2,h3,h4⟩:=h
 omega
theorem Key.repL (w:World) (x:Key) (vs:List Value) (h:Enc.R (fun _=>True) w x vs):Zk6 (ZiN w) x.cs vs:=by
 cases h
 exact Zaf rfl (.int .i64 _) (Zaf rfl (.int .i64 _) (Zaf rfl (.str _) (Zaf rfl (.int .i64 _) (ZcS _))))
theorem Zot {x:Ctx} {p0 p1 p2:PV} {v0 v1 v2:Value} (h0:Rep x p0 v0) (h1:Rep x p1 v1) (h2:Rep x p2 v2) (i:Nat) (p:PV) (v:Value)
  (hp : [p0,p1,p2][i]? = some p) (hv : #[v0,v1,v2][i]? = some v):Rep x p v:=by
 match i,hp,hv with
 | 0,hp,hv=>injection hp with hp;injection hv with hv;subst hp hv;exact h0
 | 1,hp,hv=>injection hp with hp;injection hv with hv;subst hp hv;exact h1
 | 2,hp,hv=>injection hp with hp;injection hv with hv;subst hp hv;exact h2
 | i+3,hp,_=>simp at hp
theorem ZeO {a:View} {ca:List Value} {b:Key} {cb:List Value} {A:Option Addr} {n c:Nat} {l:List Int} (W:World) (ha:Enc.RT W a ca) (hl:SlR W A n c l) (hb:Enc.RT W b cb) (hI:∀ W',Below W.heap.size W W'→WInv.I Tryz.prog W') :
  Calls Tryz.prog 3 #[.agg ca.toArray,.slice A n c,.agg cb.toArray] W fun e w'=>e = .returned (.bool true)∧Below W.heap.size W w':=
 Zjg (Zd7 a l b true (Zhj a l b (ZmW hl))) rfl
  (Zot (Zk7 (View.repL W a ca ha)) (ZbQ hl) (Zk7 (Key.repL W b cb hb))) hI
end Go.Proofs.YtpffimahajgiaaaGreatDoor
