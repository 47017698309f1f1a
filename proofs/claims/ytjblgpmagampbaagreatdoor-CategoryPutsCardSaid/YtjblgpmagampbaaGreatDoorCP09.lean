/- The library's stable sorting at memberships: merging in place, whatever the lengths. | slices.SortStableFunc at memberships is the stable sorting. | == and != of links. | Functions of the program as Lean functions. Written by fxgen.py. | slices.Compact and CompactFunc: runs of equals become one. | The reference's way to put an element into a sorted list. | Sorted and compacted lists: what is in them, and the first of each kind. | Titles as the keys of maps. | == and != of rows of categories. | Functions of the program as Lean functions. Written by fxgen.py. | cmp.Compare at strings. | The comparison of two rows of categories, in whatever world; slices.SortFunc at them, of whatever length. | Functions of the program as Lean functions. Written by fxgen.py. | slices.Clone at rows of categories, empty slices too. | Functions of the program as Lean functions. Written by fxgen.py. -/
import Derived.Test.YtjblgpmagampbaaGreatDoorCP08
import Derived.Test.YtjblgpmagampbaaGreatDoorCP05
import Derived.Test.YtjblgpmagampbaaGreatDoorCP03
import Derived.Test.YtjblgpmagampbaaGreatDoorCP06
import Derived.Test.YtjblgpmagampbaaGreatDoorCP04
import Derived.Test.YtjblgpmagampbaaGreatDoorRows
import Derived.Laws.AppendOwn
import Derived.Lib.SliceRun

namespace Go.Proofs.YtjblgpmagampbaaGreatDoor
open Go.RowKit
theorem Zsi (a b:Link) (W:World):(binOp .eql 185 (.agg #[.int .i64 a.kind,.int .i64 a.title.space,.string a.title.name]) (.agg #[.int .i64 b.kind,.int .i64 b.title.space,.string b.title.name])).run Tryz.prog W = .ok (.bool (decide (a=b))) W:=by
 have e:(if a.kind=b.kind then if a.title.space=b.title.space then if a.title.name.toList=b.title.name.toList then true else false else false else false)=(decide (a=b)):=by
  obtain ⟨a1,⟨a2,a3⟩⟩:=a
  obtain ⟨b1,⟨b2,b3⟩⟩:=b
  simp only [Link.mk.injEq,Title.mk.injEq,Zcg]
  (repeat' split)<;>simp_all
 rw [← e]
 go_simp
 (repeat' split)<;>simp_all
theorem Zsj (a b:Link) (W:World):(binOp .neq 185 (.agg #[.int .i64 a.kind,.int .i64 a.title.space,.string a.title.name]) (.agg #[.int .i64 b.kind,.int .i64 b.title.space,.string b.title.name])).run Tryz.prog W = .ok (.bool (!decide (a=b))) W:=by
 have e:(if a.kind=b.kind then if a.title.space=b.title.space then if a.title.name.toList=b.title.name.toList then false else true else true else true)=(!decide (a=b)):=by
  obtain ⟨a1,⟨a2,a3⟩⟩:=a
  obtain ⟨b1,⟨b2,b3⟩⟩:=b
  simp only [Link.mk.injEq,Title.mk.injEq,Zcg]
  (repeat' split)<;>simp_all
 rw [← e]
 go_simp
 (repeat' split)<;>simp_all
end Go.Proofs.YtjblgpmagampbaaGreatDoor
set_option linter.unusedVariables false
set_option maxHeartbeats 4000000
set_option maxRecDepth 100000
namespace Go.Proofs.YtjblgpmagampbaaGreatDoor
open VL
def Zb9 (p0:List Link):Option (List Link):=
 if (decide ((p0.length:Int)<2)) then
  (some p0:Option (List Link))
 else
 Zas Zck (fun f82 (x570:Int)=>
  if (decide (x570<(p0.length:Int))) then
   (atI p0 x570).bind fun e784=>
   (atI p0 (w64 (x570 - 1))).bind fun e785=>
   if (decide (e784=e785)) then
    (Zlo p0 x570).bind fun _=>
    Zas Zck (fun f97 ((x830,x831,x832):Int×Int×(List Link))=>
     if (decide (x831<(Zr0 x832 x570))) then
      letk (fun (x847:Int) (x848:List Link)=>
       f97 (x847,(w64 (x831+1)),x848)) fun k98=>
      (atQ x832 x570 x831).bind fun e849=>
      (atQ x832 x570 (w64 (x831 - 1))).bind fun e850=>
      if (!decide (e849=e850)) then
       (atQ x832 x570 x831).bind fun e851=>
       (atI x832 x830).bind fun e852=>
       k98 (w64 (x830+1)) (ZdH x832 x830 e851)
      else
      k98 x830 x832
     else
     (Zlo x832 x830).bind fun _=>
     (Zjm (ZoX x832 x830 (⟨0,(⟨0,(⟨#[]⟩:ByteArray)⟩:Title)⟩:Link)) 0 x830).bind fun l854=>
     (some l854:Option (List Link))) (x570,1,p0)
   else
   f82 (w64 (x570+1))
  else
  (some p0:Option (List Link))) 1
theorem Zfk (p0:List Link) (r:List Link) (h:Zb9 p0=some r):ContractS Tryz.prog 115 [] 185 3 (List.map Link.cs p0) (List.map Link.cs r):=by
 refine ZdL (O:=fun r=>(List.map Link.cs r)) h mix Tryz.func115 (by kernel_rfl) rfl (by kernel_rfl) fun r h=>?_
 unfold Zb9 at h
 refine Zj ?_
 refine rg ?_
 refine rg ?_
 refine lM Link.cs p0 ?_
 refine cS h rfl (fun h=>?_) fun h=>?_
 ·refine rg ?_
  cases h
  exact ZeX rfl rfl
 refine rg ?_
 refine bl ?_
 refine Zu h fun f82 mf82 hf82 h=>?_
 refine Zq (α:=Nat×Int) (fun a _=>mkS [(0,.row 0 (0,0)),(3,.int .i64 a.2)] [(0,some ((0,0),.row 185 3 false (List.map Link.cs p0)))] 2) (fun a=>Zas a.1 f82 a.2=some r) (fun a=>a.1) (mf82,1) 2 h (sR []) (fun a _ h=>?_)
 obtain ⟨mf82,x570⟩:=a
 obtain ⟨mf82,rfl,h⟩:=Zv hf82 h
 dsimp only at h ⊢
 refine Zj ?_
 refine rg ?_
 refine lM Link.cs p0 ?_
 refine cS h rfl (fun h=>?_) fun h=>?_
 ·refine bl ?_
  refine rg ?_
  obtain ⟨e784,h584,h⟩:=bnd h
  refine Zw rfl h584 rfl rfl rfl (Zj ?_)
  refine ZM rfl h584 rfl rfl rfl (Zj ?_)
  obtain ⟨e785,h585,h⟩:=bnd h
  refine Zw rfl h585 rfl rfl rfl (Zj ?_)
  refine ZM rfl h585 rfl rfl rfl (Zj ?_)
  refine Ziw (.inl rfl) rfl rfl rfl rfl rfl (fun W=>Zsi e784 e785 W) (Zj ?_)
  refine cS h rfl (fun h=>?_) fun h=>?_
  ·refine rg ?_
   obtain ⟨_,h586,h⟩:=bnd h
   refine ZiH rfl h586 rfl rfl rfl (Zj ?_)
   refine rg ?_
   refine bl ?_
   refine Zu h fun f97 mf97 hf97 h=>?_
   refine Zq (α:=Nat×(Int×Int×(List Link))) (fun a _=>mkS [(0,.row 0 (0,0)),(3,.int .i64 a.2.1),(4,.suf 0 (0,0) (x570).toNat 3),(5,.int .i64 a.2.2.1)] [(0,some ((0,0),.row 185 3 false (List.map Link.cs a.2.2.2)))] 2) (fun a=>Zas a.1 f97 a.2=some r) (fun a=>a.1) (mf97,x570,1,p0) 2 h (sR []) (fun a _ h=>?_)
   obtain ⟨mf97,x830,x831,x832⟩:=a
   obtain ⟨mf97,rfl,h⟩:=Zv hf97 h
   dsimp only at h ⊢
   refine Zj ?_
   refine rg ?_
   refine ZoY (M:=x832) (f:=Link.cs) rfl rfl rfl (Zj ?_)
   refine cS h rfl (fun h=>?_) fun h=>?_
   ·refine Za6 h fun k98 hk98 h=>?_
    refine ZaV (α:=Int×(List Link)) (fun a _=>mkS [(0,.row 0 (0,0)),(3,.int .i64 a.1),(4,.suf 0 (0,0) (x570).toNat 3),(5,.int .i64 x831)] [(0,some ((0,0),.row 185 3 false (List.map Link.cs a.2)))] 2) (fun a=>k98 a.1 a.2=some r) (Zj ?_) (fun a _ h=>?_)
    ·refine bl ?_
     refine rg ?_
     obtain ⟨e849,h631,h⟩:=bnd h
     refine Zcm rfl h631 rfl rfl rfl (Zj ?_)
     refine ZM rfl (Zei h631) rfl rfl rfl (Zj ?_)
     obtain ⟨e850,h632,h⟩:=bnd h
     refine Zcm rfl h632 rfl rfl rfl (Zj ?_)
     refine ZM rfl (Zei h632) rfl rfl rfl (Zj ?_)
     refine Ziw (.inr rfl) rfl rfl rfl rfl rfl (fun W=>Zsj e849 e850 W) (Zj ?_)
     refine cS h rfl (fun h=>?_) fun h=>?_
     ·refine rg ?_
      obtain ⟨e851,h633,h⟩:=bnd h
      refine Zcm rfl h633 rfl rfl rfl (Zj ?_)
      refine ZM rfl (Zei h633) rfl rfl rfl (Zj ?_)
      obtain ⟨e852,h634,h⟩:=bnd h
      refine Zw rfl h634 rfl rfl rfl (Zj ?_)
      refine Zbb (e':=e851) rfl h634 rfl rfl rfl rfl rfl rfl (Nat.le_of_ble_eq_true rfl) rfl rfl (Zj ?_)
      refine rg ?_
      exact jn ((w64 (x830+1)),(ZdH x832 x830 e851)) h (sR [])
     exact jn (x830,x832) h (sR [])
    obtain ⟨x847,x848⟩:=a
    subst hk98
    dsimp only at h ⊢
    refine Zj ?_
    refine rg ?_
    exact rn (mf97,x847,(w64 (x831+1)),x848) h (sR [])
   refine rg ?_
   obtain ⟨_,h635,h⟩:=bnd h
   refine ZiH rfl h635 rfl rfl rfl (Zj ?_)
   refine Zib (M:=x832) (f:=Link.cs) (zr:=(⟨0,(⟨0,(⟨#[]⟩:ByteArray)⟩:Title)⟩:Link)) rfl rfl rfl rfl rfl (Zj ?_)
   refine rg ?_
   obtain ⟨l854,h636,h⟩:=bnd h
   refine Zic rfl h636 rfl rfl rfl (Zj ?_)
   cases h
   exact ZeX rfl rfl
  refine rg ?_
  exact rn (mf82,(w64 (x570+1))) h (sR [])
 refine rg ?_
 cases h
 exact ZeX rfl rfl
def ZkS {α:Type} (eq:α→α→Option Bool) (z:α) (p0:List α):Option (List α):=
 if (decide ((p0.length:Int)<2)) then
  (some p0:Option (List α))
 else
 Zas Zck (fun f82 (x570:Int)=>
  if (decide (x570<(p0.length:Int))) then
   (atI p0 x570).bind fun e784=>
   (atI p0 (w64 (x570 - 1))).bind fun e785=>
   (eq e784 e785).bind fun r=>
   if r then
    (Zlo p0 x570).bind fun _=>
    Zas Zck (fun f97 ((x830,x831,x832):Int×Int×(List α))=>
     if (decide (x831<(Zr0 x832 x570))) then
      letk (fun (x847:Int) (x848:List α)=>
       f97 (x847,(w64 (x831+1)),x848)) fun k98=>
      (atQ x832 x570 x831).bind fun e849=>
      (atQ x832 x570 (w64 (x831 - 1))).bind fun e850=>
      (eq e849 e850).bind fun r=>
      if (!r) then
       (atQ x832 x570 x831).bind fun e851=>
       (atI x832 x830).bind fun _=>
       k98 (w64 (x830+1)) (ZdH x832 x830 e851)
      else
      k98 x830 x832
     else
     (Zlo x832 x830).bind fun _=>
     (Zjm (ZoX x832 x830 z) 0 x830).bind fun l854=>
     (some l854:Option (List α))) (x570,1,p0)
   else
   f82 (w64 (x570+1))
  else
  (some p0:Option (List α))) 1
def ZcR {α:Type} (eq:α→α→Bool):α→List α→List α
 | _,[]=>[]
 | x,y::l=>if eq y x=true then ZcR eq y l else y::ZcR eq y l
def ZkT {α:Type} (eq:α→α→Bool):List α→List α
 | []=>[]
 | x::l=>x::ZcR eq x l
theorem Zj8 {α:Type} {eq:α→α→Bool} (y z:α):∀ (x:α) (A:List α),ZcR eq x (A ++ [z] ++ [y])=ZcR eq x (A ++ [z])++(if eq y z=true then [] else [y])
 | x,[]=>by
   show (if eq z x=true then ZcR eq z [y] else z::ZcR eq z [y])=(if eq z x=true then [] else [z])++_
   have:ZcR eq z [y]=if eq y z=true then [] else [y]:=rfl
   rw [this]
   split<;>rfl
 | x,a::A=>by
   show (if eq a x=true then ZcR eq a (A ++ [z] ++ [y]) else a::ZcR eq a (A ++ [z] ++ [y]))=(if eq a x=true then ZcR eq a (A ++ [z]) else a::ZcR eq a (A ++ [z]))++_
   rw [Zj8 y z a A]
   split<;>rfl
theorem ZfR {α:Type} {eq:α→α→Bool} (A:List α) (z y:α):ZkT eq (A ++ [z] ++ [y])=ZkT eq (A ++ [z])++(if eq y z=true then [] else [y]):=by
 cases A with
 | nil=>
   show z::ZcR eq z [y] = [z]++_
   rfl
 | cons a A=>
   show a::ZcR eq a (A ++ [z] ++ [y])=a::ZcR eq a (A ++ [z])++_
   rw [Zj8]
   rfl
theorem ZmD {α:Type} {l A B:List α} {x:α} {q i:Int} (h:l=A++x::B) (h0:0≤q) (h1:0≤i) (hn:q+i=(A.length:Int)):atQ l q i=some x:=by
 unfold atQ
 rw [if_pos ⟨h0,h1⟩]
 exact ZfX h hn
theorem ZpU {α:Type} (eqM:α→α→Option Bool) (eq:α→α→Bool) (heq:∀ a b,eqM a b=some (eq a b)) (z0:α) (L:List α) (hL:L.length≤1000000):ZkS eqM z0 L=some (ZkT eq L):=by
 refine Zfg ?_
 unfold ZkS
 refine Zbh (fun h=>?_) fun h=>?_
 ·refine Zar ?_
  match L,h with
  | [],_=>rfl
  | [x],_=>rfl
  | x::y::l,h=>simp only [List.length_cons] at h;omega
 ·refine ZcY (fun x=>∃ A z B,L=A++z::B∧x=(A.length:Int)+1∧ZkT eq (A ++ [z])=A ++ [z]) (fun x=>L.length - x.toNat) ?_ (by omega) ?_
  ·cases L with
   | nil=>simp only [List.length_nil] at h;omega
   | cons x l=>exact ⟨[],x,l,rfl,rfl,rfl⟩
  rintro k rec ⟨A,z,B,hd,hk,hc⟩ ih
  have lL:L.length=A.length+1+B.length:=by rw [hd];simp only [List.length_append,List.length_cons];omega
  refine Zbh (fun hlt=>?_) fun hge=>?_
  ·obtain ⟨y,B,rfl⟩:∃ y B',B=y::B':=by
    cases B with
    | nil=>simp only [List.length_nil] at lL;omega
    | cons y B'=>exact ⟨y,B',rfl⟩
   simp only [List.length_cons] at lL
   have d1:L=(A ++ [z])++y::B:=by rw [hd];simp
   rw [ZsL (by omega) (by omega) (by omega) (by omega)]
   refine Zp (ZfX d1 (by simp only [List.length_append,List.length_singleton];omega)) (Zp (ZfX hd (by omega)) (Zp (heq y z) (Zee (fun hyz=>?_) fun hyz=>?_)))
   ·have hs:Zlo L k=some ():=by
     unfold Zlo
     rw [if_pos ⟨by omega,by omega⟩]
    refine Zp hs ?_
    refine ZcY (fun x=>∃ K J L1 z B,x.2.2=K++J++z::B∧L=L1++z::B∧x.1=(K.length:Int)∧K.length+J.length=L1.length∧1≤x.2.1∧k+x.2.1=(L1.length:Int)+1∧ZkT eq (L1 ++ [z])=K) (fun x=>L.length - x.2.1.toNat)
     ⟨A ++ [z],[],A ++ [z],y,B,by dsimp only;rw [d1];simp,d1,by dsimp only;simp only [List.length_append,List.length_singleton];omega,by simp,by dsimp only;omega,by dsimp only;simp only [List.length_append,List.length_singleton];omega,by rw [ZfR,hc,if_pos hyz,List.append_nil]⟩ (by dsimp only;omega) ?_
    rintro ⟨kd,k2,l⟩ rec2 ⟨K,J,L1,u,C,hl,hLd,hkd,hlen,h1,hk2,hK⟩ ih2
    dsimp only at hl hkd h1 hk2 ih2 ⊢
    have lC:L.length=L1.length+1+C.length:=by rw [hLd];simp only [List.length_append,List.length_cons];omega
    have ll:l.length=L.length:=by rw [hl];simp only [List.length_append,List.length_cons];omega
    have hq:Zr0 l k=(L.length:Int) - k:=by unfold Zr0;rw [ll];omega
    rw [hq]
    refine Zbh (fun hlt2=>?_) fun hge2=>?_
    ·obtain ⟨v,C,rfl⟩:∃ v C',C=v::C':=by
      cases C with
      | nil=>simp only [List.length_nil] at lC;omega
      | cons v C'=>exact ⟨v,C',rfl⟩
     simp only [List.length_cons] at lC
     have e1:l=(K++J ++ [u])++v::C:=by rw [hl];simp
     have n1:k+k2=((K++J ++ [u]).length:Int):=by simp only [List.length_append,List.length_singleton];omega
     have n2:k+(k2 - 1)=((K++J).length:Int):=by simp only [List.length_append];omega
     have hLd2:L=(L1 ++ [u])++v::C:=by rw [hLd];simp
     refine ZgY ?_
     rw [ZsL (by omega) (by omega) (by omega) (by omega),Zjp (a:=k2) (by omega) (by omega) (by omega) (by omega)]
     refine Zp (ZmD e1 (by omega) (by omega) n1) (Zp (ZmD hl (by omega) (by omega) n2) (Zp (heq v u) ?_))
     cases hvu:eq v u with
     | false=>
       refine Zee (fun _=>?_) fun h=>by cases h
       obtain ⟨w,J2,hJ⟩:∃ w J2,J ++ [u]=w::J2:=by
        cases J with
        | nil=>exact ⟨u,[],rfl⟩
        | cons w J2=>exact ⟨w,J2 ++ [u],rfl⟩
       have lJ:J.length+1=J2.length+1:=by have:=congrArg List.length hJ;simpa using this
       have e2:l=K++w::(J2++v::C):=by rw [e1,List.append_assoc K J [u],hJ];simp
       refine Zp (ZmD e1 (by omega) (by omega) n1) (Zp (ZfX e2 hkd) ?_)
       dsimp only
       rw [Zjp (by omega) (by omega) (by omega) (by omega)]
       refine ih2 _ ⟨K ++ [v],J2,L1 ++ [u],v,C,?_,hLd2,by dsimp only;simp only [List.length_append,List.length_singleton];omega,by simp only [List.length_append,List.length_singleton];omega,by dsimp only;omega,by dsimp only;simp only [List.length_append,List.length_singleton];omega,?_⟩ (by dsimp only;omega)
       ·dsimp only
        rw [Zoo e2 hkd]
        simp
       ·rw [ZfR,hK,hvu]
        rfl
     | true=>
       refine Zee (fun h=>by cases h) fun _=>?_
       dsimp only
       refine ih2 _ ⟨K,J ++ [u],L1 ++ [u],v,C,by dsimp only;rw [hl];simp,hLd2,hkd,by simp only [List.length_append,List.length_singleton];omega,by dsimp only;omega,by dsimp only;simp only [List.length_append,List.length_singleton];omega,?_⟩ (by dsimp only;omega)
       rw [ZfR,hK,hvu]
       exact List.append_nil _
    ·have hC:C = []:=List.eq_nil_of_length_eq_zero (by omega)
     subst hC
     have hs2:Zlo l kd=some ():=by
      unfold Zlo
      rw [if_pos ⟨by omega,by omega⟩]
     refine Zp hs2 ?_
     have hcl:ZoX l kd z0=K++List.replicate (l.length - K.length) z0:=by
      unfold ZoX
      rw [hkd,Int.toNat_natCast,hl]
      congr 1
      rw [List.append_assoc,List.take_left]
     refine Zp (v:=K) ?_ (Zar ?_)
     ·rw [hcl]
      unfold Zjm
      rw [if_pos ⟨by omega,by omega,by rw [hkd,List.length_append];omega⟩,hkd]
      simp
     ·rw [← hK,hLd]
   ·rw [Zjp (by omega) (by omega) (by omega) (by omega)]
    refine ih _ ⟨A ++ [z],y,B,d1,by simp only [List.length_append,List.length_singleton];omega,?_⟩ (by omega)
    rw [ZfR,hc,if_neg (by rw [hyz];decide)]
  ·have hB:B = []:=List.eq_nil_of_length_eq_zero (by omega)
   subst hB
   refine Zar ?_
   rw [hd,hc]
def Ztr {α:Type} (w:Nat) (bf:α→α→Option Bool) (eq:α→α→Bool) (p0:List α) (p1:α):Option (List α):=
 Zas Zck (fun f7 (x22:Int)=>
  letk (fun (x30:Bool)=>
   if x30 then
    f7 (w64 (x22+1))
   else
   letk (fun (x32:Bool)=>
    if x32 then
     (some p0:Option (List α))
    else
    (Zjm p0 0 x22).bind fun l33=>
    (ZfA w [] l33).bind fun l34=>
    (ZfA w l34 [p1]).bind fun l35=>
    (Zjm p0 x22 (p0.length:Int)).bind fun l36=>
    (ZfA w l35 l36).bind fun l37=>
    (some l37:Option (List α))) fun k9=>
   if (decide (x22<(p0.length:Int))) then
    (atI p0 x22).bind fun e38=>
    k9 (eq e38 p1)
   else
   k9 false) fun k8=>
  if (decide (x22<(p0.length:Int))) then
   (atI p0 x22).bind fun e39=>
   (bf e39 p1).bind fun r40=>
   k8 r40
  else
  k8 false) 0
theorem Zo0 {α:Type} {A B:List α} {y:α} {n:Nat} (h:A.length=n):atI (A++y::B) (n:Int)=some y:=by
 unfold atI
 rw [if_pos (by omega),Int.toNat_natCast,List.getElem?_append_right (by omega),h,Nat.sub_self]
 rfl
theorem Zs7 {α κ:Type} [DecidableEq κ] {c:κ→κ→Int} {key:α→κ} (w:Nat) {bf:α→α→Option Bool} {eq:α→α→Bool} (hb:∀ a b,bf a b=some (decide (c (key a) (key b)<0))) (he:∀ a b,eq a b=decide (key a=key b)) (hw:w≤80) (l:List α) (x:α) (h:l.length≤1000000):Ztr w bf eq l x=some (Zj7 c key l x):=by
 obtain ⟨A,B,rfl,hA,_,hcase⟩:=Zg0 c key l x
 rw [List.length_append] at h
 refine Zfg ?_
 unfold Ztr
 refine ZcY (fun i=>∃ n:Nat,i=(n:Int)∧n≤A.length) (fun i=>A.length - i.toNat) ⟨0,rfl,Nat.zero_le _⟩ (by omega) ?_
 rintro i rec ⟨n,rfl,hn⟩ ih
 have hlen:((A++B).length:Int)=(A.length:Int)+(B.length:Int):=by rw [List.length_append];omega
 refine ZkP (fun q=>(n<A.length→Tot (q true) fun z=>z=Zj7 c key (A++B) x)∧(n=A.length→Tot (q false) fun z=>z=Zj7 c key (A++B) x)) ⟨fun hlt=>Zee (fun _=>?_) (fun h=>by cases h),fun hl=>Zee (fun h=>by cases h) fun _=>?_⟩ fun k8 hk8=>?_
 ·rw [Zg2 (by omega) (by omega)]
  exact ih _ ⟨n+1,by omega,hlt⟩ (by omega)
 ·subst hl
  refine ZkP (fun q=>((∃ y b,B=y::b∧key y=key x)→Tot (q true) fun z=>z=Zj7 c key (A++B) x)∧((∀ y b,B=y::b→¬ key y=key x)→Tot (q false) fun z=>z=Zj7 c key (A++B) x)) ⟨fun ⟨y,b,h1,h2⟩=>Zee (fun _=>Zar ?_) (fun h=>by cases h),fun hno=>Zee (fun h=>by cases h) fun _=>?_⟩ fun k9 hk9=>?_
  ·rcases hcase with ⟨rfl,_⟩ | ⟨y',b',rfl,_,⟨_,e⟩ | ⟨hk,_⟩⟩
   ·cases h1
   ·exact e.symm
   ·injection h1 with h3 h4
    subst h3
    exact absurd h2 hk
  ·have e:A++x::B=Zj7 c key (A++B) x:=by
    rcases hcase with ⟨rfl,e⟩ | ⟨y',b',rfl,_,⟨hk,_⟩ | ⟨_,e⟩⟩
    ·rw [e,List.append_nil]
    ·exact absurd hk (hno y' b' rfl)
    ·exact e.symm
   have s1:Zjm (A++B) 0 (A.length:Int)=some A:=by
    unfold Zjm
    rw [if_pos ⟨by omega,by omega,by omega⟩]
    simp
   have s2:Zjm (A++B) (A.length:Int) ((A++B).length:Int)=some B:=by
    unfold Zjm
    rw [if_pos ⟨by omega,by omega,by omega⟩,Int.toNat_natCast,Int.toNat_natCast,List.drop_left,List.take_of_length_le (by rw [List.length_append];omega)]
   have cap:∀ u v:List α,u.length+v.length≤1000001→ZfA w u v=some (u++v):=fun u v h=>ZmF 1000001 h (Nat.le_trans (Nat.mul_le_mul_left _ hw) (by decide)) (by decide)
   refine Zp s1 (Zp (cap _ _ (by simp;omega)) (Zp (cap _ _ (by simp;omega)) (Zp s2 (Zp (cap _ _ (by simp;omega)) (Zar ?_)))))
   rw [← e]
   simp
  ·cases B with
   | nil=>exact Zbh (fun h=>absurd h (by simp)) fun _=>hk9.2 fun y b h=>by cases h
   | cons y b=>
     refine Zbh (fun _=>Zp (Zo0 rfl) ?_) fun h=>absurd (by rw [hlen,List.length_cons];omega) h
     rw [he]
     by_cases hk:key y=key x
     ·rw [decide_eq_true hk]
      exact hk9.1 ⟨y,b,rfl,hk⟩
     ·rw [decide_eq_false hk]
      refine hk9.2 fun y' b' h=>?_
      injection h with h1 h2
      rw [← h1]
      exact hk
 ·by_cases hlt:n<A.length
  ·obtain ⟨A1,y,A2,e,h1⟩:∃ A1 y A2,A=A1++y::A2∧A1.length=n:=⟨A.take n,A[n],A.drop (n+1),by rw [← List.drop_eq_getElem_cons hlt,List.take_append_drop],by rw [List.length_take];omega⟩
   refine Zbh (fun _=>Zp (v:=y) (by rw [e,List.append_assoc];exact Zo0 h1) (Zp (hb y x) ?_)) fun h=>absurd (by rw [hlen];omega) h
   rw [decide_eq_true (hA y (by rw [e];simp))]
   exact hk8.1 hlt
  ·have hn2:n=A.length:=by omega
   cases B with
   | nil=>exact Zbh (fun h=>absurd h (by rw [hlen];simp;omega)) fun _=>hk8.2 hn2
   | cons y b=>
     refine Zbh (fun _=>Zp (Zo0 hn2.symm) (Zp (hb y x) ?_)) fun h=>absurd (by rw [hlen,List.length_cons];omega) h
     rcases hcase with ⟨h,_⟩ | ⟨y',b',h,hy,_⟩
     ·cases h
     ·injection h with h3 h4
      subst h3
      rw [decide_eq_false hy]
      exact hk8.2 hn2
theorem Zlj {α:Type} [DecidableEq α] (e:α):∀ (l:List α) (x:α),e ∈ x::ZcR (fun a b=>decide (a=b)) x l↔e ∈ x::l
 | [],x=>Iff.rfl
 | y::l,x=>by
   show e ∈ x::(if decide (y=x)=true then ZcR (fun a b=>decide (a=b)) y l else y::ZcR (fun a b=>decide (a=b)) y l)↔_
   have ih:=Zlj e l y
   by_cases h:y=x
   ·rw [if_pos (decide_eq_true h)]
    subst h
    simp only [List.mem_cons] at ih ⊢
    constructor
    ·intro g
     rcases ih.1 g with g | g
     ·exact .inl g
     ·exact .inr (.inr g)
    ·intro g
     rcases g with g | g
     ·exact .inl g
     ·exact ih.2 g
   ·rw [if_neg (by rw [decide_eq_false h];decide)]
    simp only [List.mem_cons] at ih ⊢
    rw [ih]
theorem ZoK {α:Type} [DecidableEq α] (e:α) (l:List α):e ∈ ZkT (fun a b=>decide (a=b)) l↔e ∈ l:=by
 cases l with
 | nil=>exact Iff.rfl
 | cons x l=>exact Zlj e l x
theorem ZiD {α:Type} {eq:α→α→Bool}:∀ (l:List α) (x e:α),e ∈ ZcR eq x l→e ∈ l
 | [],x,e,h=>by cases h
 | y::l,x,e,h=>by
   have h:e ∈ (if eq y x=true then ZcR eq y l else y::ZcR eq y l):=h
   split at h
   ·exact List.mem_cons_of_mem _ (ZiD l y e h)
   ·rcases List.mem_cons.1 h with rfl | h
    ·exact List.mem_cons_self
    ·exact List.mem_cons_of_mem _ (ZiD l y e h)
theorem ZmT {α κ:Type} [DecidableEq κ] {le:α→α→Bool} (key:α→κ) (ha:∀ a b,le a b=true→le b a=true→key a=key b) (hk:∀ a b,key a=key b→∀ c,le c a=le c b∧le a c=le b c) :
  ∀ (l:List α) (x:α),(x::l).Pairwise (fun a b=>le a b=true)→(x::ZcR (fun a b=>decide (key a=key b)) x l).Pairwise fun a b=>¬ key a=key b
 | [],x,_=>List.pairwise_singleton _ _
 | y::l,x,h=>by
   obtain ⟨h1,h2⟩:=List.pairwise_cons.1 h
   have ih:=ZmT key ha hk l y h2
   show (x::(if decide (key y=key x)=true then ZcR (fun a b=>decide (key a=key b)) y l else y::ZcR (fun a b=>decide (key a=key b)) y l)).Pairwise _
   obtain ⟨i1,i2⟩:=List.pairwise_cons.1 ih
   by_cases hy:key y=key x
   ·rw [if_pos (decide_eq_true hy)]
    exact List.pairwise_cons.2 ⟨fun e he=>by rw [← hy];exact i1 e he,i2⟩
   ·rw [if_neg (by rw [decide_eq_false hy];decide)]
    refine List.pairwise_cons.2 ⟨fun e he=>?_,ih⟩
    rcases List.mem_cons.1 he with rfl | he
    ·exact fun h=>hy h.symm
    ·intro hxe
     have hle:=(List.pairwise_cons.1 h2).1 e (ZiD l y e he)
     have hxy:=h1 y List.mem_cons_self
     rw [← ((hk x e hxe y).1)] at hle
     exact hy (ha y x hle hxy)
theorem Zqp {α κ:Type} [DecidableEq κ] {le:α→α→Bool} (key:α→κ) (ha:∀ a b,le a b=true→le b a=true→key a=key b) (hk:∀ a b,key a=key b→∀ c,le c a=le c b∧le a c=le b c) (l:List α) (h:l.Pairwise (fun a b=>le a b=true)):(ZkT (fun a b=>decide (key a=key b)) l).Pairwise fun a b=>¬ key a=key b:=by
 cases l with
 | nil=>exact .nil
 | cons x l=>exact ZmT key ha hk l x h
end Go.Proofs.YtjblgpmagampbaaGreatDoor
namespace Go.Proofs.YtjblgpmagampbaaGreatDoor
open VL Go.RowKit
theorem ZnN (em:Bool) (a:Title) (W:World):(Instr.checkKey em 10000 24 (.agg #[.int .i64 a.space,.string a.name])).run Tryz.prog W = .ok () W:=by
 unfold Instr.checkKey
 go_simp
 have i1:(Instr.checkKey em 9999 3 (.int .i64 a.space)).run Tryz.prog W = .ok () W:=MapKept.run_checkKey (d:=.int .i64) Tryz.underlying3 (show MapKept.IsKey (.int .i64) (.int .i64 a.space) from rfl) em 9998
 have i2:(Instr.checkKey em 9999 9 (.string a.name)).run Tryz.prog W = .ok () W:=MapKept.run_checkKey (d:=.string) Tryz.underlying9 (show MapKept.IsKey .string (.string a.name) from trivial) em 9998
 rw [i1,Result.andThen_ok,i2]
instance:KeyE Tryz.prog 24 Title.pv (fun a=>[.int .i64 a.space,.string a.name]) where
 desc:=⟨_,Tryz.underlying24⟩
 plain _:=rfl
 eq a b W:=by
  have h:=Zka a b W
  rw [run_eql_struct] at h
  show (Op.equalIn 10000 _ _ _).run _ _=_
  generalize (Op.equalIn 10000 24 _ _).run Tryz.prog W=R at h ⊢
  cases R with
  | ok v w=>
    simp only [Result.andThen_ok,Result.ok.injEq,Value.bool.injEq] at h
    rw [h.1,h.2]
  | halt v w=>simp [Result.andThen] at h
 check em a W:=ZnN em a W
 stays a:=by
  have:(a.name == a.name)=true:=by rw [beq_toListBytes];simp
  simp [Instr.sameBits,this]
end Go.Proofs.YtjblgpmagampbaaGreatDoor
namespace Go.Proofs.YtjblgpmagampbaaGreatDoor
open Go.RowKit
deriving instance DecidableEq for CatRow
theorem Zlk (a b:CatRow) (W:World):(binOp .eql 34 (.agg #[.int .i64 a.page.space,.string a.page.name,.int .i64 a.memb.category.space,.string a.memb.category.name,.string a.memb.sort]) (.agg #[.int .i64 b.page.space,.string b.page.name,.int .i64 b.memb.category.space,.string b.memb.category.name,.string b.memb.sort])).run Tryz.prog W = .ok (.bool (decide (a=b))) W:=by
 have e:(if a.page.space=b.page.space then if a.page.name.toList=b.page.name.toList then if a.memb.category.space=b.memb.category.space then if a.memb.category.name.toList=b.memb.category.name.toList then if a.memb.sort.toList=b.memb.sort.toList then true else false else false else false else false else false)=(decide (a=b)):=by
  obtain ⟨⟨a1,a2⟩,⟨a3,a4⟩,a5⟩:=a
  obtain ⟨⟨b1,b2⟩,⟨b3,b4⟩,b5⟩:=b
  simp only [CatRow.mk.injEq,Title.mk.injEq,Memb.mk.injEq,Zcg]
  (repeat' split)<;>simp_all
 rw [← e]
 go_simp
 (repeat' split)<;>simp_all
theorem Zll (a b:CatRow) (W:World):(binOp .neq 34 (.agg #[.int .i64 a.page.space,.string a.page.name,.int .i64 a.memb.category.space,.string a.memb.category.name,.string a.memb.sort]) (.agg #[.int .i64 b.page.space,.string b.page.name,.int .i64 b.memb.category.space,.string b.memb.category.name,.string b.memb.sort])).run Tryz.prog W = .ok (.bool (!decide (a=b))) W:=by
 have e:(if a.page.space=b.page.space then if a.page.name.toList=b.page.name.toList then if a.memb.category.space=b.memb.category.space then if a.memb.category.name.toList=b.memb.category.name.toList then if a.memb.sort.toList=b.memb.sort.toList then false else true else true else true else true else true)=(!decide (a=b)):=by
  obtain ⟨⟨a1,a2⟩,⟨a3,a4⟩,a5⟩:=a
  obtain ⟨⟨b1,b2⟩,⟨b3,b4⟩,b5⟩:=b
  simp only [CatRow.mk.injEq,Title.mk.injEq,Memb.mk.injEq,Zcg]
  (repeat' split)<;>simp_all
 rw [← e]
 go_simp
 (repeat' split)<;>simp_all
end Go.Proofs.YtjblgpmagampbaaGreatDoor
namespace Go.Proofs.YtjblgpmagampbaaGreatDoor
open VL
def Zb3 (p0:ByteArray):Option Bool:=
 (some (!decide (p0=p0)):Option Bool)
theorem Zd8 (p0:ByteArray) (r:Bool) (h:Zb3 p0=some r):Zd Tryz.prog 101 [.str p0] (.bool r):=by
 refine cF (fun r=>.bool r) h mix Tryz.func101 fun r h=>?_
 unfold Zb3 at h
 refine Zj ?_
 refine rg ?_
 refine rg ?_
 cases h
 exact rQ
def Zcp (p0:ByteArray) (p1:ByteArray):Option Int:=
 (Zb3 p0).bind fun r1=>
 (Zb3 p1).bind fun r2=>
 if r1 then
  if r2 then
   (some 0:Option Int)
  else
  (some (-1):Option Int)
 else
 if r2 then
  (some 1:Option Int)
 else
 if (ltS p0 p1) then
  (some (-1):Option Int)
 else
 if (!(ltS p0 p1||decide (p0=p1))) then
  (some 1:Option Int)
 else
 (some 0:Option Int)
theorem ZfT (p0:ByteArray) (p1:ByteArray) (r:Int) (h:Zcp p0 p1=some r):Zd Tryz.prog 62 [.str p0,.str p1] (.int .i64 r):=by
 refine cF (fun r=>.int .i64 r) h mix Tryz.func62 fun r h=>?_
 unfold Zcp at h
 refine Zj ?_
 refine rg ?_
 refine rg ?_
 refine aC h (Zd8 _) fun r1 h=>?_
 refine rg ?_
 refine aC h (Zd8 _) fun r2 h=>?_
 refine rg ?_
 refine cS h rfl (fun h=>?_) fun h=>?_
 ·refine rg ?_
  refine cS h rfl (fun h=>?_) fun h=>?_
  ·refine rg ?_
   cases h
   exact rQ
  refine rg ?_
  cases h
  exact rQ
 refine rg ?_
 refine cS h rfl (fun h=>?_) fun h=>?_
 ·refine rg ?_
  cases h
  exact rQ
 refine rg ?_
 refine cS h rfl (fun h=>?_) fun h=>?_
 ·refine rg ?_
  cases h
  exact rQ
 refine rg ?_
 refine cS h rfl (fun h=>?_) fun h=>?_
 ·refine rg ?_
  cases h
  exact rQ
 refine rg ?_
 cases h
 exact rQ
def ZeJ (p0:List ByteArray):Option ByteArray:=
 Zas Zck (fun f2 (x10:Int)=>
  if (decide (x10<(p0.length:Int))) then
   (atI p0 x10).bind fun e14=>
   if (!decide (e14=(⟨#[]⟩:ByteArray))) then
    (some e14:Option ByteArray)
   else
   f2 (w64 (x10+1))
  else
  (some (⟨#[]⟩:ByteArray):Option ByteArray)) 0
theorem ZiR (p0:List ByteArray) (r:ByteArray) (h:ZeJ p0=some r):Zd Tryz.prog 58 [.sl (List.map csS p0)] (.str r):=by
 refine cF (fun r=>.str r) h mix Tryz.func58 fun r h=>?_
 unfold ZeJ at h
 refine Zj ?_
 refine rg ?_
 refine rg ?_
 refine rg ?_
 refine lM csS p0 ?_
 refine bl ?_
 refine Zu h fun f2 mf2 hf2 h=>?_
 refine Zq (α:=Nat×Int) (fun a _=>mkS [(3,.str (⟨#[]⟩:ByteArray)),(6,.sl (List.map csS p0)),(7,.int .i64 (p0.length:Int)),(8,.int .i64 a.2)] [] 2) (fun a=>Zas a.1 f2 a.2=some r) (fun a=>a.1) (mf2,0) 2 h (sR []) (fun a _ h=>?_)
 obtain ⟨mf2,x10⟩:=a
 obtain ⟨mf2,rfl,h⟩:=Zv hf2 h
 dsimp only at h ⊢
 refine Zj ?_
 refine rg ?_
 refine cS h rfl (fun h=>?_) fun h=>?_
 ·refine bl ?_
  refine rg ?_
  refine aI csS h fun e14 h=>?_
  refine rg ?_
  refine cS h rfl (fun h=>?_) fun h=>?_
  ·refine rg ?_
   cases h
   exact rQ
  refine rg ?_
  exact rn (mf2,(w64 (x10+1))) h (sR [])
 refine rg ?_
 cases h
 exact rQ
def ZcU (p0:CatRow) (p1:Title):Option Bool:=
 (some (decide (p0.page=p1)):Option Bool)
theorem ZhX (p0:CatRow) (p1:Title) (r:Bool) (h:ZcU p0 p1=some r):Zd Tryz.prog 43 [p0.pv,.cel [.int .i64 p1.space,.str p1.name]] (.bool r):=by
 refine cF (fun r=>.bool r) h mix Tryz.func43 fun r h=>?_
 unfold ZcU at h
 refine Zj ?_
 refine rg ?_
 refine rg ?_
 refine Ziw (.inl rfl) rfl rfl rfl rfl rfl (fun W=>Zka p0.page p1 W) (Zj ?_)
 cases h
 exact rQ
def ZY (p0:List CatRow) (qf1:CatRow→Option Bool):Option Int:=
 Zas Zck (fun f2 (x18:Int)=>
  if (decide (x18<(p0.length:Int))) then
   (atI p0 x18).bind fun e25=>
   (qf1 e25).bind fun r26=>
   if r26 then
    (some x18:Option Int)
   else
   f2 (w64 (x18+1))
  else
  (some (-1):Option Int)) 0
theorem Zc4 (p0:List CatRow) (qf1:CatRow→Option Bool) (fv1:Nat) (Lv1:List (List PV)) (hq1:∀ (y0:CatRow) (r:Bool),qf1 y0=some r→Zd Tryz.prog fv1 ([y0.pv]++Lv1.map .cel) (.bool r)) (r:Int) (h:ZY p0 qf1=some r):Zd Tryz.prog 79 [.sl (List.map CatRow.cs p0),.fn fv1 (Lv1.map .cel)] (.int .i64 r):=by
 refine cF (fun r=>.int .i64 r) h mix Tryz.func79 fun r h=>?_
 unfold ZY at h
 refine Zj ?_
 refine rg ?_
 refine rg ?_
 refine lM CatRow.cs p0 ?_
 refine bl ?_
 refine Zu h fun f2 mf2 hf2 h=>?_
 refine Zq (α:=Nat×Int) (fun a _=>mkS [(0,.sl (List.map CatRow.cs p0)),(1,.fn fv1 (Lv1.map .cel)),(7,.int .i64 (p0.length:Int)),(8,.int .i64 a.2)] [] 2) (fun a=>Zas a.1 f2 a.2=some r) (fun a=>a.1) (mf2,0) 2 h (Zl [] ⟨rfl,Zey _ _ _,rfl,rfl,trivial⟩ trivial rfl) (fun a _ h=>?_)
 obtain ⟨mf2,x18⟩:=a
 obtain ⟨mf2,rfl,h⟩:=Zv hf2 h
 dsimp only at h ⊢
 refine Zj ?_
 refine rg ?_
 refine cS h rfl (fun h=>?_) fun h=>?_
 ·refine bl ?_
  refine rg ?_
  refine rg ?_
  refine aI CatRow.cs h fun e25 h=>?_
  obtain ⟨r26,h24,h⟩:=bnd h
  refine ZcW (args1:=[e25.pv]) (hq1 e25 _ h24) rfl rfl rfl rfl (Zj ?_)
  refine cS h rfl (fun h=>?_) fun h=>?_
  ·refine rg ?_
   cases h
   exact rQ
  refine rg ?_
  exact rn (mf2,(w64 (x18+1))) h (Zl [] ⟨rfl,Zey _ _ _,rfl,rfl,trivial⟩ trivial rfl)
 refine rg ?_
 cases h
 exact rQ
def ZT (p0:List CatRow) (qf1:CatRow→Option Bool):Option (List CatRow):=
 (ZY p0 qf1).bind fun r1=>
 if (decide (r1=(-1))) then
  (some p0:Option (List CatRow))
 else
 Zas Zck (fun f7 ((x37,x38,x39):Int×Int×(List CatRow))=>
  if (decide (x38<(x39.length:Int))) then
   letk (fun (x51:Int) (x52:List CatRow)=>
    f7 (x51,(w64 (x38+1)),x52)) fun k8=>
   (atI x39 x38).bind fun e53=>
   (qf1 e53).bind fun r54=>
   if (!r54) then
    (atI x39 x37).bind fun e55=>
    k8 (w64 (x37+1)) (ZdH x39 x37 e53)
   else
   k8 x37 x39
  else
  (Zlo x39 x37).bind fun _=>
  (Zjm (ZoX x39 x37 (⟨(⟨0,(⟨#[]⟩:ByteArray)⟩:Title),(⟨(⟨0,(⟨#[]⟩:ByteArray)⟩:Title),(⟨#[]⟩:ByteArray)⟩:Memb)⟩:CatRow)) 0 x37).bind fun l57=>
  (some l57:Option (List CatRow))) (r1,(w64 (r1+1)),p0)
theorem ZcF (p0:List CatRow) (qf1:CatRow→Option Bool) (fv1:Nat) (Lv1:List (List PV)) (hq1:∀ (y0:CatRow) (r:Bool),qf1 y0=some r→Zd Tryz.prog fv1 ([y0.pv]++Lv1.map .cel) (.bool r)) (r:List CatRow) (h:ZT p0 qf1=some r):ContractS Tryz.prog 41 [.fn fv1 (Lv1.map .cel)] 34 5 (List.map CatRow.cs p0) (List.map CatRow.cs r):=by
 refine ZdL (O:=fun r=>(List.map CatRow.cs r)) h mix Tryz.func41 (by kernel_rfl) rfl (by kernel_rfl) fun r h=>?_
 unfold ZT at h
 refine Zj ?_
 refine rg ?_
 refine rg ?_
 obtain ⟨r1,h1,h⟩:=bnd h
 refine Zsl (pre:=[.row 0 (0,0)]) (pre':=[.sl (List.map CatRow.cs p0)]) (Zc4 _ qf1 fv1 Lv1 hq1 _ h1) rfl rfl rfl rfl (Zj ?_)
 refine rg ?_
 refine cS h rfl (fun h=>?_) fun h=>?_
 ·refine rg ?_
  cases h
  exact ZeX rfl rfl
 refine rg ?_
 refine bl ?_
 refine Zu h fun f7 mf7 hf7 h=>?_
 refine Zq (α:=Nat×(Int×Int×(List CatRow))) (fun a _=>mkS [(0,.row 0 (0,0)),(1,.fn fv1 (Lv1.map .cel)),(5,.int .i64 a.2.1),(6,.int .i64 a.2.2.1)] [(0,some ((0,0),.row 34 5 false (List.map CatRow.cs a.2.2.2)))] 2) (fun a=>Zas a.1 f7 a.2=some r) (fun a=>a.1) (mf7,r1,(w64 (r1+1)),p0) 2 h (Zl [] ⟨rfl,Zey _ _ _,rfl,rfl,trivial⟩ ⟨⟨rfl,rfl⟩,trivial⟩ rfl) (fun a _ h=>?_)
 obtain ⟨mf7,x37,x38,x39⟩:=a
 obtain ⟨mf7,rfl,h⟩:=Zv hf7 h
 dsimp only at h ⊢
 refine Zj ?_
 refine rg ?_
 refine lM CatRow.cs x39 ?_
 refine cS h rfl (fun h=>?_) fun h=>?_
 ·refine Za6 h fun k8 hk8 h=>?_
  refine ZaV (α:=Int×(List CatRow)) (fun a _=>mkS [(0,.row 0 (0,0)),(1,.fn fv1 (Lv1.map .cel)),(5,.int .i64 a.1),(6,.int .i64 x38)] [(0,some ((0,0),.row 34 5 false (List.map CatRow.cs a.2)))] 2) (fun a=>k8 a.1 a.2=some r) (Zj ?_) (fun a _ h=>?_)
  ·refine bl ?_
   refine rg ?_
   obtain ⟨e53,h35,h⟩:=bnd h
   refine Zw rfl h35 rfl rfl rfl (Zj ?_)
   refine ZM rfl h35 rfl rfl rfl (Zj ?_)
   refine rg ?_
   obtain ⟨r54,h36,h⟩:=bnd h
   refine ZcW (args1:=[e53.pv]) (hq1 e53 _ h36) rfl rfl rfl rfl (Zj ?_)
   refine cS h rfl (fun h=>?_) fun h=>?_
   ·refine rg ?_
    obtain ⟨e55,h37,h⟩:=bnd h
    refine Zw rfl h37 rfl rfl rfl (Zj ?_)
    refine Zbb (e':=e53) rfl h37 rfl rfl rfl rfl rfl rfl (Nat.le_of_ble_eq_true rfl) rfl rfl (Zj ?_)
    refine rg ?_
    exact jn ((w64 (x37+1)),(ZdH x39 x37 e53)) h (Zl [] ⟨rfl,Zey _ _ _,rfl,rfl,trivial⟩ ⟨⟨rfl,rfl⟩,trivial⟩ rfl)
   exact jn (x37,x39) h (Zl [] ⟨rfl,Zey _ _ _,rfl,rfl,trivial⟩ ⟨⟨rfl,rfl⟩,trivial⟩ rfl)
  obtain ⟨x51,x52⟩:=a
  subst hk8
  dsimp only at h ⊢
  refine Zj ?_
  refine rg ?_
  exact rn (mf7,x51,(w64 (x38+1)),x52) h (Zl [] ⟨rfl,Zey _ _ _,rfl,rfl,trivial⟩ ⟨⟨rfl,rfl⟩,trivial⟩ rfl)
 refine rg ?_
 obtain ⟨_,h38,h⟩:=bnd h
 refine ZiH rfl h38 rfl rfl rfl (Zj ?_)
 refine Zib (M:=x39) (f:=CatRow.cs) (zr:=(⟨(⟨0,(⟨#[]⟩:ByteArray)⟩:Title),(⟨(⟨0,(⟨#[]⟩:ByteArray)⟩:Title),(⟨#[]⟩:ByteArray)⟩:Memb)⟩:CatRow)) rfl rfl rfl rfl rfl (Zj ?_)
 refine rg ?_
 obtain ⟨l57,h39,h⟩:=bnd h
 refine Zic rfl h39 rfl rfl rfl (Zj ?_)
 cases h
 exact ZeX rfl rfl
def Zax (p0:List CatRow):Option (List CatRow):=
 if (decide ((p0.length:Int)<2)) then
  (some p0:Option (List CatRow))
 else
 Zas Zck (fun f82 (x570:Int)=>
  if (decide (x570<(p0.length:Int))) then
   (atI p0 x570).bind fun e784=>
   (atI p0 (w64 (x570 - 1))).bind fun e785=>
   if (decide (e784=e785)) then
    (Zlo p0 x570).bind fun _=>
    Zas Zck (fun f97 ((x830,x831,x832):Int×Int×(List CatRow))=>
     if (decide (x831<(Zr0 x832 x570))) then
      letk (fun (x847:Int) (x848:List CatRow)=>
       f97 (x847,(w64 (x831+1)),x848)) fun k98=>
      (atQ x832 x570 x831).bind fun e849=>
      (atQ x832 x570 (w64 (x831 - 1))).bind fun e850=>
      if (!decide (e849=e850)) then
       (atQ x832 x570 x831).bind fun e851=>
       (atI x832 x830).bind fun e852=>
       k98 (w64 (x830+1)) (ZdH x832 x830 e851)
      else
      k98 x830 x832
     else
     (Zlo x832 x830).bind fun _=>
     (Zjm (ZoX x832 x830 (⟨(⟨0,(⟨#[]⟩:ByteArray)⟩:Title),(⟨(⟨0,(⟨#[]⟩:ByteArray)⟩:Title),(⟨#[]⟩:ByteArray)⟩:Memb)⟩:CatRow)) 0 x830).bind fun l854=>
     (some l854:Option (List CatRow))) (x570,1,p0)
   else
   f82 (w64 (x570+1))
  else
  (some p0:Option (List CatRow))) 1
theorem Zdm (p0:List CatRow) (r:List CatRow) (h:Zax p0=some r):ContractS Tryz.prog 82 [] 34 5 (List.map CatRow.cs p0) (List.map CatRow.cs r):=by
 refine ZdL (O:=fun r=>(List.map CatRow.cs r)) h mix Tryz.func82 (by kernel_rfl) rfl (by kernel_rfl) fun r h=>?_
 unfold Zax at h
 refine Zj ?_
 refine rg ?_
 refine rg ?_
 refine lM CatRow.cs p0 ?_
 refine cS h rfl (fun h=>?_) fun h=>?_
 ·refine rg ?_
  cases h
  exact ZeX rfl rfl
 refine rg ?_
 refine bl ?_
 refine Zu h fun f82 mf82 hf82 h=>?_
 refine Zq (α:=Nat×Int) (fun a _=>mkS [(0,.row 0 (0,0)),(3,.int .i64 a.2)] [(0,some ((0,0),.row 34 5 false (List.map CatRow.cs p0)))] 2) (fun a=>Zas a.1 f82 a.2=some r) (fun a=>a.1) (mf82,1) 2 h (sR []) (fun a _ h=>?_)
 obtain ⟨mf82,x570⟩:=a
 obtain ⟨mf82,rfl,h⟩:=Zv hf82 h
 dsimp only at h ⊢
 refine Zj ?_
 refine rg ?_
 refine lM CatRow.cs p0 ?_
 refine cS h rfl (fun h=>?_) fun h=>?_
 ·refine bl ?_
  refine rg ?_
  obtain ⟨e784,h584,h⟩:=bnd h
  refine Zw rfl h584 rfl rfl rfl (Zj ?_)
  refine ZM rfl h584 rfl rfl rfl (Zj ?_)
  obtain ⟨e785,h585,h⟩:=bnd h
  refine Zw rfl h585 rfl rfl rfl (Zj ?_)
  refine ZM rfl h585 rfl rfl rfl (Zj ?_)
  refine Ziw (.inl rfl) rfl rfl rfl rfl rfl (fun W=>Zlk e784 e785 W) (Zj ?_)
  refine cS h rfl (fun h=>?_) fun h=>?_
  ·refine rg ?_
   obtain ⟨_,h586,h⟩:=bnd h
   refine ZiH rfl h586 rfl rfl rfl (Zj ?_)
   refine rg ?_
   refine bl ?_
   refine Zu h fun f97 mf97 hf97 h=>?_
   refine Zq (α:=Nat×(Int×Int×(List CatRow))) (fun a _=>mkS [(0,.row 0 (0,0)),(3,.int .i64 a.2.1),(4,.suf 0 (0,0) (x570).toNat 5),(5,.int .i64 a.2.2.1)] [(0,some ((0,0),.row 34 5 false (List.map CatRow.cs a.2.2.2)))] 2) (fun a=>Zas a.1 f97 a.2=some r) (fun a=>a.1) (mf97,x570,1,p0) 2 h (sR []) (fun a _ h=>?_)
   obtain ⟨mf97,x830,x831,x832⟩:=a
   obtain ⟨mf97,rfl,h⟩:=Zv hf97 h
   dsimp only at h ⊢
   refine Zj ?_
   refine rg ?_
   refine ZoY (M:=x832) (f:=CatRow.cs) rfl rfl rfl (Zj ?_)
   refine cS h rfl (fun h=>?_) fun h=>?_
   ·refine Za6 h fun k98 hk98 h=>?_
    refine ZaV (α:=Int×(List CatRow)) (fun a _=>mkS [(0,.row 0 (0,0)),(3,.int .i64 a.1),(4,.suf 0 (0,0) (x570).toNat 5),(5,.int .i64 x831)] [(0,some ((0,0),.row 34 5 false (List.map CatRow.cs a.2)))] 2) (fun a=>k98 a.1 a.2=some r) (Zj ?_) (fun a _ h=>?_)
    ·refine bl ?_
     refine rg ?_
     obtain ⟨e849,h631,h⟩:=bnd h
     refine Zcm rfl h631 rfl rfl rfl (Zj ?_)
     refine ZM rfl (Zei h631) rfl rfl rfl (Zj ?_)
     obtain ⟨e850,h632,h⟩:=bnd h
     refine Zcm rfl h632 rfl rfl rfl (Zj ?_)
     refine ZM rfl (Zei h632) rfl rfl rfl (Zj ?_)
     refine Ziw (.inr rfl) rfl rfl rfl rfl rfl (fun W=>Zll e849 e850 W) (Zj ?_)
     refine cS h rfl (fun h=>?_) fun h=>?_
     ·refine rg ?_
      obtain ⟨e851,h633,h⟩:=bnd h
      refine Zcm rfl h633 rfl rfl rfl (Zj ?_)
      refine ZM rfl (Zei h633) rfl rfl rfl (Zj ?_)
      obtain ⟨e852,h634,h⟩:=bnd h
      refine Zw rfl h634 rfl rfl rfl (Zj ?_)
      refine Zbb (e':=e851) rfl h634 rfl rfl rfl rfl rfl rfl (Nat.le_of_ble_eq_true rfl) rfl rfl (Zj ?_)
      refine rg ?_
      exact jn ((w64 (x830+1)),(ZdH x832 x830 e851)) h (sR [])
     exact jn (x830,x832) h (sR [])
    obtain ⟨x847,x848⟩:=a
    subst hk98
    dsimp only at h ⊢
    refine Zj ?_
    refine rg ?_
    exact rn (mf97,x847,(w64 (x831+1)),x848) h (sR [])
   refine rg ?_
   obtain ⟨_,h635,h⟩:=bnd h
   refine ZiH rfl h635 rfl rfl rfl (Zj ?_)
   refine Zib (M:=x832) (f:=CatRow.cs) (zr:=(⟨(⟨0,(⟨#[]⟩:ByteArray)⟩:Title),(⟨(⟨0,(⟨#[]⟩:ByteArray)⟩:Title),(⟨#[]⟩:ByteArray)⟩:Memb)⟩:CatRow)) rfl rfl rfl rfl rfl (Zj ?_)
   refine rg ?_
   obtain ⟨l854,h636,h⟩:=bnd h
   refine Zic rfl h636 rfl rfl rfl (Zj ?_)
   cases h
   exact ZeX rfl rfl
  refine rg ?_
  exact rn (mf82,(w64 (x570+1))) h (sR [])
 refine rg ?_
 cases h
 exact ZeX rfl rfl
end Go.Proofs.YtjblgpmagampbaaGreatDoor
namespace Go.Proofs.YtjblgpmagampbaaGreatDoor
open Go.RowKit
theorem Zrv (a:ByteArray) (w:World):Calls Tryz.prog 101 #[.string a] w fun e w'=>e = .returned (.bool false)∧w=w':=by
 go_enter Tryz.func101,Tryz.ntmps101
 go_wp2
 go_ret
 exact ⟨rfl,rfl⟩
theorem Zmu (a b:ByteArray) (w:World):Calls Tryz.prog 62 #[.string a,.string b] w fun e w'=>e = .returned (.int .i64 (Lib.compareBytes a.data.toList b.data.toList))∧w=w':=by
 have hc:=Zkf a.data.toList b.data.toList
 rw [← ByteArray.toList_eq a,← ByteArray.toList_eq b] at hc
 rw [← ByteArray.toList_eq a,← ByteArray.toList_eq b]
 by_cases h1:Op.bytesLess a.toList b.toList=true
 ·rw [if_pos h1] at hc
  go_enter Tryz.func62,Tryz.ntmps62
  go_wp2_with (go_at_call 101;refine (Zrv _ _).mono ?_;rintro e w' ⟨rfl,rfl⟩)
  go_ret
  exact ⟨Zjg hc.symm,rfl⟩
 ·rw [if_neg h1] at hc
  go_enter Tryz.func62,Tryz.ntmps62
  go_wp2_with (go_at_call 101;refine (Zrv _ _).mono ?_;rintro e w' ⟨rfl,rfl⟩)
  all_goals
   rename_i he
   go_ret
   refine ⟨Zjg ?_,rfl⟩
   rw [hc]
   simp at he
   simp [he]
end Go.Proofs.YtjblgpmagampbaaGreatDoor
namespace Go.Proofs.YtjblgpmagampbaaGreatDoor
open VL Go.RowKit
open Go.Sort
def Zc3 (a b:CatRow):Int:=orI [Title.cmp a.memb.category b.memb.category,Lib.compareBytes a.memb.sort.data.toList b.memb.sort.data.toList,Title.cmp a.page b.page]
def ZjS (x:CatRow):List Value:=[.int .i64 x.page.space,.string x.page.name,.int .i64 x.memb.category.space,.string x.memb.category.name,.string x.memb.sort]
set_option maxRecDepth 100000 in
set_option maxHeartbeats 4000000 in
theorem Zlq (s1 s2 t1 t2:Int) (n1 n2 k1 m1 m2 k2:ByteArray) (w:World):Calls Tryz.prog 81 #[.agg #[.int .i64 s1,.string n1,.int .i64 s2,.string n2,.string k1],.agg #[.int .i64 t1,.string m1,.int .i64 t2,.string m2,.string k2]] w fun e w'=>e = .returned (.int .i64 (orI [Title.cmp ⟨s2,n2⟩ ⟨t2,m2⟩,Lib.compareBytes k1.data.toList k2.data.toList,Title.cmp ⟨s1,n1⟩ ⟨t1,m1⟩]))∧Gw w w':=by
 have hT:∀ (s t:Int) (n m:ByteArray) (w:World),Calls Tryz.prog 63 #[.agg #[.int .i64 s,.string n],.agg #[.int .i64 t,.string m]] w fun e w'=>e = .returned (.int .i64 (Title.cmp ⟨s,n⟩ ⟨t,m⟩))∧Gw w w':=fun s t n m w=>Zfr ⟨s,n⟩ ⟨t,m⟩ w
 have T2:=Zmu k1 k2
 generalize hc2:Lib.compareBytes k1.data.toList k2.data.toList=ck
 rw [hc2] at T2
 clear hc2
 go_enter Tryz.func81,Tryz.ntmps81
 go_wp2
 generalize hw1:(w.alloc _).alloc _=w1
 have c0:w1.cell? ⟨w.heap.size,0,none⟩=some (.int .i64 s1):=by subst hw1;go_simp
 have c1:w1.cell? ⟨w.heap.size,1,none⟩=some (.string n1):=by subst hw1;go_simp
 have c2:w1.cell? ⟨w.heap.size,2,none⟩=some (.int .i64 s2):=by subst hw1;go_simp
 have c3:w1.cell? ⟨w.heap.size,3,none⟩=some (.string n2):=by subst hw1;go_simp
 have c4:w1.cell? ⟨w.heap.size,4,none⟩=some (.string k1):=by subst hw1;go_simp
 have c5:w1.cell? ⟨w.heap.size+1,0,none⟩=some (.int .i64 t1):=by subst hw1;go_simp
 have c6:w1.cell? ⟨w.heap.size+1,1,none⟩=some (.string m1):=by subst hw1;go_simp
 have c7:w1.cell? ⟨w.heap.size+1,2,none⟩=some (.int .i64 t2):=by subst hw1;go_simp
 have c8:w1.cell? ⟨w.heap.size+1,3,none⟩=some (.string m2):=by subst hw1;go_simp
 have c9:w1.cell? ⟨w.heap.size+1,4,none⟩=some (.string k2):=by subst hw1;go_simp
 have hb:Gw w w1:=by subst hw1;exact ((Gw.refl _).alloc _).alloc _
 have HB:=Lib.hid hb
 have HF:Hid (∀ W,Gw w1 W→W.cell? ⟨w.heap.size,0,none⟩=some (.int .i64 s1)∧W.cell? ⟨w.heap.size,1,none⟩=some (.string n1)∧W.cell? ⟨w.heap.size,2,none⟩=some (.int .i64 s2)∧W.cell? ⟨w.heap.size,3,none⟩=some (.string n2)∧W.cell? ⟨w.heap.size,4,none⟩=some (.string k1)∧W.cell? ⟨w.heap.size+1,0,none⟩=some (.int .i64 t1)∧W.cell? ⟨w.heap.size+1,1,none⟩=some (.string m1)∧W.cell? ⟨w.heap.size+1,2,none⟩=some (.int .i64 t2)∧W.cell? ⟨w.heap.size+1,3,none⟩=some (.string m2)∧W.cell? ⟨w.heap.size+1,4,none⟩=some (.string k2)):=Lib.hid fun W hW=>⟨re1 hW.below (Za0 c0) c0,re1 hW.below (Za0 c1) c1,re1 hW.below (Za0 c2) c2,re1 hW.below (Za0 c3) c3,re1 hW.below (Za0 c4) c4,re1 hW.below (Za0 c5) c5,re1 hW.below (Za0 c6) c6,re1 hW.below (Za0 c7) c7,re1 hW.below (Za0 c8) c8,re1 hW.below (Za0 c9) c9⟩
 clear hw1 hb
 go_region_held3 (fun W=>Gw w1 W∧W.cell? ⟨w.heap.size,0,none⟩=some (.int .i64 s1)∧W.cell? ⟨w.heap.size,1,none⟩=some (.string n1)∧W.cell? ⟨w.heap.size,2,none⟩=some (.int .i64 s2)∧W.cell? ⟨w.heap.size,3,none⟩=some (.string n2)∧W.cell? ⟨w.heap.size,4,none⟩=some (.string k1)∧W.cell? ⟨w.heap.size+1,0,none⟩=some (.int .i64 t1)∧W.cell? ⟨w.heap.size+1,1,none⟩=some (.string m1)∧W.cell? ⟨w.heap.size+1,2,none⟩=some (.int .i64 t2)∧W.cell? ⟨w.heap.size+1,3,none⟩=some (.string m2)∧W.cell? ⟨w.heap.size+1,4,none⟩=some (.string k2)) (refine ⟨?_,HF.out _ ?_⟩<;>(repeat' first | assumption | exact Gw.refl _ | apply Gw.drew | apply Gw.alloc)) (first | (go_at_call 62;refine (T2 _).mono ?_;rintro e w' ⟨rfl,rfl⟩) | (go_at_call 63;refine (hT _ _ _ _ _).mono ?_;rintro e w2 ⟨rfl,hb2⟩;have hb3:Gw w1 w2:=Gw.trans (by (repeat' first | assumption | exact Gw.refl _ | apply Gw.drew | apply Gw.alloc)) hb2) | (go_at_call 61;refine (Zo5 _ _ _ [Title.cmp ⟨s2,n2⟩ ⟨t2,m2⟩,ck,Title.cmp ⟨s1,n1⟩ ⟨t1,m1⟩] _ (by exact SlR.built (fun x:Int=>[.int .i64 x]) (fun _ _ _=>rfl) _ _ rfl (by decide) rfl)).mono ?_;rintro e w' ⟨rfl,rfl⟩))
 go_wp2
 go_ret
 exact ⟨rfl,HB.out.trans (by (repeat' first | assumption | exact Gw.refl _ | apply Gw.drew | apply Gw.alloc))⟩
theorem Zkx (a b:CatRow) (w:World):Calls Tryz.prog 81 #[.agg (ZjS a).toArray,.agg (ZjS b).toArray] w fun e w'=>e = .returned (.int .i64 (Zc3 a b))∧Gw w w':=by
 obtain ⟨⟨s1,n1⟩,⟨s2,n2⟩,k1⟩:=a
 obtain ⟨⟨t1,m1⟩,⟨t2,m2⟩,k2⟩:=b
 exact Zlq s1 s2 t1 t2 n1 n2 k1 m1 m2 k2 w
theorem ZmY (a b c:Int):orI [a,b,c]=ZmK a (ZmK b c):=by
 rw [← Zmi b c]
 unfold ZmK
 show (if a=0 then orI [b,c] else a)=_
 rfl
theorem catCmp_laws:CmpLaws Zc3:=by
 have h2:=cmpStr_laws.lex titleCmp_laws (f:=fun x:ByteArray×Title=>x.1) (g:=fun x=>x.2) (fun x y h1 h2=>by cases x;cases y;simp_all)
 have h:=titleCmp_laws.lex h2 (f:=fun x:CatRow=>x.memb.category) (g:=fun x=>(x.memb.sort,x.page)) (fun x y h1 h2=>by
  obtain ⟨p,c,s⟩:=x
  obtain ⟨p',c',s'⟩:=y
  simp only [Prod.mk.injEq] at h1 h2
  obtain ⟨e1,e2⟩:=h2
  subst h1 e1 e2
  rfl)
 have e:Zc3=fun x y=>ZmK (Title.cmp x.memb.category y.memb.category) (ZmK (Lib.compareBytes x.memb.sort.data.toList y.memb.sort.data.toList) (Title.cmp x.page y.page)):=by
  funext x y
  exact ZmY _ _ _
 rw [e]
 exact h
instance:Inhabited CatRow:=⟨⟨⟨0,⟨#[]⟩⟩,⟨0,⟨#[]⟩⟩,⟨#[]⟩⟩⟩
def Zao (p0:List CatRow):Option (List CatRow):=if p0.length<4611686018427387904 then some (Zd0 (leC Zc3) p0) else none
theorem Zc8 (p0:List CatRow) (r:List CatRow) (h:Zao p0=some r):ContractR Tryz.prog 80 [.fn 81 []] 34 5 (List.map CatRow.cs p0) (.tup []) (List.map CatRow.cs r):=by
 unfold Zao at h
 split at h
 ·rename_i hl
  injection h with h
  subst h
  have hk:∀ x,(ZjS x).length=5:=fun _=>rfl
  have eg:∀ args w,(callFunc 81 args).run Tryz.prog w = .ok (.enter 81 args) w:=enters_of Tryz.func81 (by kernel_rfl) rfl
  refine Zj9 (enc:=ZjS) (cf:=Zc3) (by kernel_rfl) (fun _=>rfl) hk (fun _=>rfl) (fun x p hp=>?_) catCmp_laws.swo catCmp_laws.tot (fun cap W A=>AnyF.slices_SortFunc_none { Tryz.sortCat with } A cap _ W) (fun blk off cap d w hH hb hs=>?_) p0 hl
  ·simp [CatRow.cs] at hp
   rcases hp with rfl | rfl | rfl | rfl | rfl<;>rfl
  ·exact AnyQ.slices_SortFunc_total Tryz.sortCat 5 Tryz.isAgg34 Tryz.sizeOf34 ZjS hk (fun x v hv=>by simp [ZjS] at hv;rcases hv with rfl | rfl | rfl | rfl | rfl<;>rfl) Zc3 catCmp_laws.swo 81 #[] blk off cap d w eg (fun m os dk _ x y=>(Zkx x y _).mono fun e w' h=>⟨h.1,h.2⟩) hH hb hs catCmp_laws.tot
 ·cases h
end Go.Proofs.YtjblgpmagampbaaGreatDoor
namespace Go.Proofs.YtjblgpmagampbaaGreatDoor
open VL
def ZaH (p0:List CatRow):Option (List CatRow):=
 (neL p0).bind fun u1=>
 (ZfA 64 [] p0).bind fun l2=>
 (some l2:Option (List CatRow))
theorem ZdF (p0:List CatRow) (r:List CatRow) (h:ZaH p0=some r):ContractN Tryz.prog 42 [.sl (List.map CatRow.cs p0)] (.row 34 5 false (List.map CatRow.cs r)):=by
 refine Zi9 (O:=fun r=>.row 34 5 false (List.map CatRow.cs r)) h mix Tryz.func42 (by kernel_rfl) rfl (by kernel_rfl) fun r h=>?_
 unfold ZaH at h
 refine Zj ?_
 refine rg ?_
 refine rg ?_
 obtain ⟨u1,h1,h⟩:=bnd h
 refine Zr7 rfl h1 rfl (Zj ?_)
 refine Zf rfl rfl (Zj ?_)
 refine rg ?_
 refine Zaw (M:=([]:List CatRow)) (f:=CatRow.cs) rfl rfl rfl rfl (Nat.le_of_ble_eq_true rfl) rfl (Zj ?_)
 refine pR CatRow.cs h fun l2 h=>?_
 injection h with h
 subst h
 exact Zry (t:=5) (g:=(3,2)) (o2:=.row 34 5 false (List.map CatRow.cs l2)) rfl rfl rfl
end Go.Proofs.YtjblgpmagampbaaGreatDoor
namespace Go.Proofs.YtjblgpmagampbaaGreatDoor
open VL Go.RowKit
set_option maxHeartbeats 2000000 in
set_option maxRecDepth 100000 in
theorem Zml (a:Addr) (c:Nat) (w:World):Calls Tryz.prog 42 #[.slice (some a) 0 c] w fun e w'=>∃ v',e = .returned v'∧w'.ownsRow w.heap.size 34 5 v' 0 []∧Below w.heap.size w w':=by
 obtain ⟨i0,hi0⟩:∃ i,Tryz.prog.info? 34=some i:=⟨_,rfl⟩
 have q22:∀ (w:World) (a:Option Addr) (n c n' c':Nat),(binOp .eql 22 (.slice a n c) (.slice none n' c')).run Tryz.prog w = .ok (.bool a.isNone) w:=fun w a n c n' c'=>Lib.run_eql_slice_nil w _ 34 a n c n' c' (by kernel_rfl)
 have u22:∀ w,Sem.run Tryz.prog (underlying 22) w = .ok (TypeDesc.slice 34) w:=run_underlying (by kernel_rfl)
 go_enter Tryz.func42,Tryz.ntmps42
 go_wp2_with (at_builtin;refine wpList_append_own _ rfl _ _ 22 rfl w.heap.size 34 _ _ 5 _ (by kernel_rfl) rfl rfl rfl rfl rfl (by decide) _ _ _ rfl (World.ownsRow_made w #[] 0 (Nat.le_refl _) (Nat.zero_le _) (by simp)) a 0 c [] rfl ?qc1 ?qc2 ?qc3 ?qc4 ?qc5 ?qc6 ?_)
 case qc1=>rfl
 case qc2=>
  intro j u hj
  simp at hj
 case qc3=>simp
 case qc4=>simp [maxLen]
 case qc5=>simp
 case qc6=>simp
 intro v' w1 hown hgrow hnil
 go_wp2
 go_ret
 exact ⟨v',rfl,by simpa using hown,((Below.refl _ w).alloc (Nat.le_refl _) _).grown hgrow (by simp) (by intro k hk;simp [Value.ownBlock] at hk;omega)⟩
set_option maxHeartbeats 2000000 in
set_option maxRecDepth 100000 in
theorem Zmm (c:Nat) (w:World):Calls Tryz.prog 42 #[.slice none 0 c] w fun e w'=>e = .returned (.slice none 0 0)∧Below w.heap.size w w':=by
 have q22:∀ (w:World) (a:Option Addr) (n c n' c':Nat),(binOp .eql 22 (.slice a n c) (.slice none n' c')).run Tryz.prog w = .ok (.bool a.isNone) w:=fun w a n c n' c'=>Lib.run_eql_slice_nil w _ 34 a n c n' c' (by kernel_rfl)
 go_enter Tryz.func42,Tryz.ntmps42
 go_wp2
 go_ret
 exact ⟨rfl,Below.refl _ _⟩
theorem Zqq:ContractN Tryz.prog 42 [.sl []] (.row 34 5 false []):=by
 refine ⟨by kernel_rfl,⟨fun cs h=>(by cases h),fun E k els h=>(by cases h)⟩,fun x vs hpre hI=>?_⟩
 obtain ⟨v,rfl⟩:∃ v,vs = #[v]:=by
  obtain ⟨l⟩:=vs
  have hs:=hpre.size
  match l,hs with
  | [v],_=>exact ⟨v,rfl⟩
  | [],hs=>simp at hs
  | _::_::_,hs=>simp at hs
 have hv:=hpre.rep 0 (.sl []) v rfl rfl
 have fin:∀ (w':World) (v':Value),Below x.W.heap.size x.W w'→w'.ownsRow x.W.heap.size 34 5 v' 0 []→∃ y v,y.W=w'∧Ending.returned v' = .returned v∧Step x y∧Gr (fun _=>False) x.W y.W∧(∀ b o,y.F b o→x.F b o∨x.W.heap.size≤b)∧(∀ b o,y.F b o→b<y.W.heap.size)∧∃ g,y.ρ g=v∧ObRep y x.W.heap.size (fun _=>False) g (.row 34 5 false []):=fun w' v' hb hown=>by
  have hF:∀ b o v,x.F b o→x.W.cell? ⟨b,o,none⟩=some v→w'.cell? ⟨b,o,none⟩=some v:=fun b o v hF hv=>(World.cell?_of_block (hb.block b (hpre.flt b o hF))).trans hv
  have hG:∀ g,¬ x.G g:=fun g hg=>by
   obtain ⟨j,os,h,_⟩:=hpre.gen g hg
   cases h
  refine ⟨⟨x.G,x.F,w',fun _=>v'⟩,v',rfl,rfl,⟨fun g hg=>absurd hg (hG g),fun _ _ h=>h,hF⟩,⟨hb.os,hb.tape,hb.output,hb.size,fun b hlt _=>hb.block b hlt⟩,fun _ _ h=>.inl h,fun b o h=>Nat.lt_of_lt_of_le (hpre.flt b o h) hb.size,(0,0),rfl,by simp,by simp,[],?_,by simp,fun b hb'=>⟨.inl ?_,fun o hFF=>?_⟩⟩
  ·refine ⟨hown.1,?_⟩
   rcases hown.2 with h | ⟨g,cap,cur,h1,_,h3⟩
   ·exact .inl h
   ·exact .inr ⟨g,cap,cur,h1,Nat.zero_le _,h3⟩
  ·rcases hown.2 with ⟨h,_⟩ | ⟨g,cap,cur,h1,h2,_⟩
   ·rw [h] at hb';simp [blk] at hb'
   ·rw [h1] at hb'
    have:g=b:=by simpa [blk] using hb'
    omega
  ·rcases hown.2 with ⟨h,_⟩ | ⟨g,cap,cur,h1,h2,_⟩
   ·rw [h] at hb';simp [blk] at hb'
   ·rw [h1] at hb'
    have h3:g=b:=by simpa [blk] using hb'
    have:=hpre.flt b o hFF
    omega
 cases hv with
 | sl _ A n c k b off f hn hc hm hk hA hcell hh=>
 obtain rfl:n=0:=hn
 cases A with
 | none=>
   refine (Zmm c x.W).mono ?_
   rintro e w' ⟨rfl,hb⟩
   exact fin w' _ hb (World.ownsRow_nil w' _ _ _)
 | some a=>
   refine (Zml a c x.W).mono ?_
   rintro e w' ⟨v',rfl,hown,hb⟩
   exact fin w' v' hb hown
def ZaO (l:List CatRow):Option (List CatRow):=if l.length≤1000000 then some l else none
theorem Zqr (l:List CatRow) (h0:l≠[]) (hl:l.length≤1000000):ZaH l=some l:=by
 unfold ZaH
 have e1:neL l=some ():=by
  unfold neL
  cases l with
  | nil=>exact absurd rfl h0
  | cons x l=>rfl
 rw [e1,Option.bind_some,ZmF l.length (by simp) (by omega) (by omega),Option.bind_some]
 rfl
theorem Zd2 (l r:List CatRow) (h:ZaO l=some r):ContractN Tryz.prog 42 [.sl (List.map CatRow.cs l)] (.row 34 5 false (List.map CatRow.cs r)):=by
 unfold ZaO at h
 split at h
 ·rename_i hl
  injection h with h
  subst h
  by_cases h0:l = []
  ·subst h0
   exact Zqq
  ·exact ZdF l l (Zqr l h0 hl)
 ·cases h
end Go.Proofs.YtjblgpmagampbaaGreatDoor
namespace Go.Proofs.YtjblgpmagampbaaGreatDoor
open VL
def Zbd (p0:List CatRow):Option (List CatRow):=
 (Zao p0).bind fun r1=>
 (Zax r1).bind fun r2=>
 (some r2:Option (List CatRow))
theorem Zec (p0:List CatRow) (r:List CatRow) (h:Zbd p0=some r):ContractS Tryz.prog 44 [] 34 5 (List.map CatRow.cs p0) (List.map CatRow.cs r):=by
 refine ZdL (O:=fun r=>(List.map CatRow.cs r)) h mix Tryz.func44 (by kernel_rfl) rfl (by kernel_rfl) fun r h=>?_
 unfold Zbd at h
 refine Zj ?_
 refine rg ?_
 refine rg ?_
 obtain ⟨r1,h1,h⟩:=bnd h
 refine Zbn (Zc8 _ _ h1) rfl rfl rfl rfl rfl (Zj ?_)
 refine rg ?_
 obtain ⟨r2,h2,h⟩:=bnd h
 refine ZiO (Zdm _ _ h2) rfl rfl rfl rfl (Zj ?_)
 cases h
 exact ZeX rfl rfl
def Zbe (p0:List CatRow) (p1:Title) (p2:List CatRow):Option (List CatRow):=
 (ZaO p0).bind fun r1=>
 (ZT r1 (fun y0=>ZcU y0 p1)).bind fun r2=>
 (ZfA 64 r2 p2).bind fun l3=>
 (Zbd l3).bind fun r4=>
 (some r4:Option (List CatRow))
theorem ZcV (p0:List CatRow) (p1:Title) (p2:List CatRow) (r:List CatRow) (h:Zbe p0 p1 p2=some r):Zd Tryz.prog 14 [.sl (List.map CatRow.cs p0),p1.pv,.sl (List.map CatRow.cs p2)] (.sl (List.map CatRow.cs r)):=by
 refine cF (fun r=>.sl (List.map CatRow.cs r)) h mix Tryz.func14 fun r h=>?_
 unfold Zbe at h
 refine Zj ?_
 refine rg ?_
 refine rg ?_
 refine aN h (Zd2 _) fun r1 h=>?_
 refine Znm rfl rfl (Zj ?_)
 obtain ⟨r2,h2,h⟩:=bnd h
 refine Zqu (ZcF _ (fun y0=>ZcU y0 p1) 43 [[.int .i64 p1.space,.str p1.name]] (fun y0 r h=>ZhX y0 p1 r h) _ h2) (Zr1 (fun _=>rfl) _) rfl rfl rfl rfl (Zj ?_)
 refine rg ?_
 refine pR CatRow.cs h fun l3 h=>?_
 obtain ⟨r4,h4,h⟩:=bnd h
 refine ZiO (Zec _ _ h4) rfl rfl rfl rfl (Zj ?_)
 cases h
 exact rQ
end Go.Proofs.YtjblgpmagampbaaGreatDoor
