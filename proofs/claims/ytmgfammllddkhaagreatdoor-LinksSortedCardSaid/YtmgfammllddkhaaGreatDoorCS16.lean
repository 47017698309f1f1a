/- slices.SortStableFunc at memberships is the stable sorting. | slices.Compact and CompactFunc: runs of equals become one. | Sorted and compacted lists: what is in them, and the first of each kind. | The first example of the chapter. | LinksSorted: the law. | From a reading of an argument to the words of the walks: structs field by field, slices element by element. No program is named. | Readings of the wiki's types at this translation. Written by types.py. | Lists of integers; the invariant in all later worlds, where no rules of edit are laid. | LinksSorted in worlds: whatever the lists and the numbers, the law returns true. -/
import Derived.Test.YtmgfammllddkhaaGreatDoorCS15
import Derived.Test.YtmgfammllddkhaaGreatDoorCS11
import Derived.Test.YtmgfammllddkhaaGreatDoorCS13
import Derived.Test.YtmgfammllddkhaaGreatDoorCS01
import Derived.ProofKit
import Derived.OpenShut
import Derived.Deep.Slices
import Derived.Deep.Strs
import Derived.Test.YtmgfammllddkhaaGreatDoorRows
import Derived.Test.YtmgfammllddkhaaGreatDoorCS03
import Derived.Test.YtmgfammllddkhaaGreatDoorCS02
import Derived.Test.YtmgfammllddkhaaGreatDoorCS04
import Derived.MakeChecks
import Derived.FnData
import Derived.ChangeSame
set_option maxRecDepth 100000
namespace Go.Proofs.YtmgfammllddkhaaGreatDoor
open VL
open Go.Sort
def sbk (n:Nat) (L:List Memb):List Memb:=if _h:0<n∧n≤L.length then Zak leM (L.take n)++sbk n (L.drop n) else Zak leM L
 termination_by L.length
 decreasing_by rw [List.length_drop];omega
theorem ZhI {n:Nat} {L:List Memb} (h0:0<n) (h:n≤L.length):sbk n L=Zak leM (L.take n)++sbk n (L.drop n):=by
 rw [sbk,dif_pos ⟨h0,h⟩]
theorem ZgF {n:Nat} {L:List Memb} (h:L.length≤n):sbk n L=Zak leM L:=by
 rw [sbk]
 split
 ·rename_i h1
  have:n=L.length:=by omega
  rw [this,List.take_length,List.drop_length]
  rw [sbk,dif_neg (fun h=>by have h2:=h.1;have h3:=h.2;simp only [List.length_nil] at h3;omega)]
  exact List.append_nil _
 ·rfl
theorem ZqU (n:Nat):∀ (k:Nat) (L:List Memb),L.length≤k→(sbk n L).length=L.length
 | 0,L,h=>by
   rw [ZgF (by omega),Zaa]
 | k+1,L,h=>by
   by_cases h1:0<n∧n≤L.length
   ·rw [ZhI h1.1 h1.2,List.length_append,Zaa,ZqU n k (L.drop n) (by rw [List.length_drop];omega),List.length_take,List.length_drop]
    omega
   ·rw [sbk,dif_neg h1,Zaa]
theorem isrt (L:List Memb):Srt (Zak leM L):=ZeK Zbo ZfD L
theorem Zmm (A B:List Memb):Zad leM (Zak leM A) (Zak leM B)=Zak leM (A++B):=(Zfs Zbo ZfD A B).symm
theorem Zsr (L:List Memb) (hL:L.length≤1000000):Zab L (L.length:Int)=some (Zak leM L):=by
 refine Za2 ?_
 unfold Zab
 refine Zan (fun x=>∃ R E:List Memb,x.1=(R.length:Int)∧x.2.1=(R.length:Int)+20∧x.2.2=R++E∧R++sbk 20 E=sbk 20 L∧R.length+E.length=L.length) (fun x=>L.length - x.1.toNat) ⟨[],L,rfl,rfl,rfl,rfl,by simp⟩ (by dsimp only;omega) ?_
 rintro ⟨a,b,l⟩ rec ⟨R,E,ha,hb,hl,hR,hlen⟩ ih
 dsimp only at ha hb hl ih ⊢
 refine Zg (fun hle=>?_) fun hgt=>?_
 ·have h20:20≤E.length:=by omega
  have e:l=R++E.take 20++E.drop 20:=by rw [hl,List.append_assoc,List.take_append_drop]
  have ht:(E.take 20).length=20:=by rw [List.length_take];omega
  rw [e]
  refine Zb (ZuF R (E.take 20) (E.drop 20) (by rw [← e,hl,List.length_append];omega) a b ha (by rw [List.length_append];omega)) ?_
  rw [ZeO (by omega) (by omega) (by omega) (by omega)]
  refine ih _ ⟨R++Zak leM (E.take 20),E.drop 20,by dsimp only;rw [List.length_append,Zaa];omega,by dsimp only;rw [List.length_append,Zaa];omega,rfl,?_,by rw [List.length_append,Zaa,List.length_drop];omega⟩ (by dsimp only;omega)
  rw [← hR,ZhI (by decide) h20,List.append_assoc]
 ·have e:l=R++E ++ []:=by rw [hl,List.append_nil]
  rw [e]
  refine Zb (ZuF R E [] (by rw [← e,hl,List.length_append];omega) a _ ha (by rw [List.length_append];omega)) ?_
  rw [List.append_nil,← ZgF (n:=20) (L:=E) (by omega),hR]
  clear ih hR e hl ha hb hgt hlen rec
  refine Zan (fun x=>∃ n:Nat,0<n∧n≤2000000∧x.1=(n:Int)∧x.2=sbk n L) (fun x=>2000000 - x.1.toNat) ⟨20,by decide,by decide,rfl,rfl⟩ (by dsimp only;omega) ?_
  rintro ⟨bsz,l⟩ rec ⟨n,hn0,hn1,hbn,hl⟩ ih
  dsimp only at hbn hl ih ⊢
  refine Zg (fun hlt=>?_) fun hge=>?_
  ·have e2:w64 (2 * bsz)=2 * bsz:=ZaO (by omega) (by omega)
   rw [e2]
   refine Zan (fun x=>∃ R E:List Memb,x.1=(R.length:Int)∧x.2.1=(R.length:Int)+2 * (n:Int)∧x.2.2=R++sbk n E∧R++sbk (2 * n) E=sbk (2 * n) L∧R.length+E.length=L.length) (fun x=>L.length - x.1.toNat) ⟨[],L,rfl,by dsimp only;simp;omega,by rw [hl];rfl,rfl,by simp⟩ (by dsimp only;omega) ?_
   rintro ⟨a,b,l2⟩ rec2 ⟨R,E,ha,hb,hl2,hR,hlen⟩ ih2
   dsimp only at ha hb hl2 ih2 ⊢
   have eA:w64 (a+bsz)=a+bsz:=ZeO (by omega) (by omega) (by omega) (by omega)
   refine Zg (fun hle=>?_) fun hgt=>?_
   ·have h2n:2 * n≤E.length:=by omega
    have t1:(E.take n).length=n:=by rw [List.length_take];omega
    have t2:((E.drop n).take n).length=n:=by rw [List.length_take,List.length_drop];omega
    have e:l2=R++Zak leM (E.take n)++Zak leM ((E.drop n).take n)++sbk n (E.drop (2 * n)):=by
     rw [hl2,ZhI hn0 (by omega),ZhI hn0 (by rw [List.length_drop];omega),List.drop_drop,show n+n=2 * n by omega]
     simp only [List.append_assoc]
    have hd:(sbk n (E.drop (2 * n))).length=E.length - 2 * n:=by rw [ZqU n _ _ (Nat.le_refl _),List.length_drop]
    rw [eA,e]
    refine Zb (Zsn 64 R _ _ _ (isrt _) (isrt _) (by rw [Zaa];omega) (by rw [Zaa];omega) (by simp only [List.length_append,Zaa];omega) (by rw [Zaa,Zaa];omega) a (a+bsz) b ha (by rw [List.length_append,Zaa];omega) (by simp only [List.length_append,Zaa];omega)) ?_
    have et:E.take n++(E.drop n).take n=E.take (2 * n):=by rw [show 2 * n=n+n by omega,List.take_add]
    rw [Zmm,et,show w64 (b+2 * bsz)=b+2 * bsz from ZaO (by omega) (by omega)]
    have t3:(E.take (2 * n)).length=2 * n:=by rw [List.length_take];omega
    refine ih2 _ ⟨R++Zak leM (E.take (2 * n)),E.drop (2 * n),by dsimp only;rw [List.length_append,Zaa];omega,by dsimp only;rw [List.length_append,Zaa];omega,rfl,?_,by rw [List.length_append,Zaa,List.length_drop];omega⟩ (by dsimp only;omega)
    rw [← hR,ZhI (n:=2 * n) (by omega) h2n,List.append_assoc]
   ·have go:l2=R++sbk (2 * n) E→Tot (rec (w64 (bsz * 2),l2)) fun r=>r=Zak leM L:=fun h=>by
     rw [show w64 (bsz * 2)=bsz * 2 from ZaO (by omega) (by omega)]
     exact ih _ ⟨2 * n,by omega,by omega,by dsimp only;omega,by dsimp only;rw [h,hR]⟩ (by dsimp only;omega)
    refine Zap (fun q=>∀ l3,l3=R++sbk (2 * n) E→Tot (q l3) fun r=>r=Zak leM L) (fun l3 h3=>?_) fun q hq=>?_
    ·rw [show w64 (bsz * 2)=bsz * 2 from ZaO (by omega) (by omega)]
     exact ih _ ⟨2 * n,by omega,by omega,by dsimp only;omega,by dsimp only;rw [h3,hR]⟩ (by dsimp only;omega)
    ·rw [eA]
     refine Zg (fun hlt2=>?_) fun hge2=>?_
     ·have t1:(E.take n).length=n:=by rw [List.length_take];omega
      have t2:(E.drop n).length=E.length - n:=List.length_drop
      have e:l2=R++Zak leM (E.take n)++Zak leM (E.drop n) ++ []:=by
       rw [hl2,ZhI hn0 (by omega),ZgF (n:=n) (L:=E.drop n) (by omega)]
       simp only [List.append_assoc,List.append_nil]
      rw [e]
      refine Zb (Zsn 64 R _ _ _ (isrt _) (isrt _) (by rw [Zaa];omega) (by rw [Zaa];omega) (by simp only [List.length_append,Zaa,List.length_nil];omega) (by rw [Zaa,Zaa];omega) a (a+bsz) _ ha (by rw [List.length_append,Zaa];omega) (by simp only [List.length_append,Zaa];omega)) ?_
      refine hq _ ?_
      rw [Zmm,List.take_append_drop,List.append_nil,ZgF (n:=2 * n) (by omega)]
     ·refine hq _ ?_
      rw [hl2,ZgF (n:=n) (L:=E) (by omega),ZgF (n:=2 * n) (by omega)]
  ·refine Zc ?_
   rw [hl,ZgF (by omega)]
theorem Zmn (L:List Memb) (hL:L.length≤1000000):ZL L=some (Zak leM L):=by
 unfold ZL
 rw [Zsr L hL]
 rfl
end Go.Proofs.YtmgfammllddkhaaGreatDoor
namespace Go.Proofs.YtmgfammllddkhaaGreatDoor
open VL
def Zif {α:Type} (eq:α→α→Option Bool) (z:α) (p0:List α):Option (List α):=
 if (decide ((p0.length:Int)<2)) then
  (some p0:Option (List α))
 else
 Zbq Zel (fun f82 (x570:Int)=>
  if (decide (x570<(p0.length:Int))) then
   (atI p0 x570).bind fun e784=>
   (atI p0 (w64 (x570 - 1))).bind fun e785=>
   (eq e784 e785).bind fun r=>
   if r then
    (ZoO p0 x570).bind fun _=>
    Zbq Zel (fun f97 ((x830,x831,x832):Int×Int×(List α))=>
     if (decide (x831<(ZtX x832 x570))) then
      letk (fun (x847:Int) (x848:List α)=>
       f97 (x847,(w64 (x831+1)),x848)) fun k98=>
      (atQ x832 x570 x831).bind fun e849=>
      (atQ x832 x570 (w64 (x831 - 1))).bind fun e850=>
      (eq e849 e850).bind fun r=>
      if (!r) then
       (atQ x832 x570 x831).bind fun e851=>
       (atI x832 x830).bind fun _=>
       k98 (w64 (x830+1)) (ZeX x832 x830 e851)
      else
      k98 x830 x832
     else
     (ZoO x832 x830).bind fun _=>
     (ZsR (Zs6 x832 x830 z) 0 x830).bind fun l854=>
     (some l854:Option (List α))) (x570,1,p0)
   else
   f82 (w64 (x570+1))
  else
  (some p0:Option (List α))) 1
def Zdy {α:Type} (eq:α→α→Bool):α→List α→List α
 | _,[]=>[]
 | x,y::l=>if eq y x=true then Zdy eq y l else y::Zdy eq y l
def ZiV {α:Type} (eq:α→α→Bool):List α→List α
 | []=>[]
 | x::l=>x::Zdy eq x l
theorem Zj3 {α:Type} {eq:α→α→Bool} (y z:α):∀ (x:α) (A:List α),Zdy eq x (A ++ [z] ++ [y])=Zdy eq x (A ++ [z])++(if eq y z=true then [] else [y])
 | x,[]=>by
   show (if eq z x=true then Zdy eq z [y] else z::Zdy eq z [y])=(if eq z x=true then [] else [z])++_
   have:Zdy eq z [y]=if eq y z=true then [] else [y]:=rfl
   rw [this]
   split<;>rfl
 | x,a::A=>by
   show (if eq a x=true then Zdy eq a (A ++ [z] ++ [y]) else a::Zdy eq a (A ++ [z] ++ [y]))=(if eq a x=true then Zdy eq a (A ++ [z]) else a::Zdy eq a (A ++ [z]))++_
   rw [Zj3 y z a A]
   split<;>rfl
theorem ZfX {α:Type} {eq:α→α→Bool} (A:List α) (z y:α):ZiV eq (A ++ [z] ++ [y])=ZiV eq (A ++ [z])++(if eq y z=true then [] else [y]):=by
 cases A with
 | nil=>
   show z::Zdy eq z [y] = [z]++_
   rfl
 | cons a A=>
   show a::Zdy eq a (A ++ [z] ++ [y])=a::Zdy eq a (A ++ [z])++_
   rw [Zj3]
   rfl
theorem ZmL {α:Type} {l A B:List α} {x:α} {q i:Int} (h:l=A++x::B) (h0:0≤q) (h1:0≤i) (hn:q+i=(A.length:Int)):atQ l q i=some x:=by
 unfold atQ
 rw [if_pos ⟨h0,h1⟩]
 exact Zbu h hn
theorem ZlC {α:Type} (eqM:α→α→Option Bool) (eq:α→α→Bool) (heq:∀ a b,eqM a b=some (eq a b)) (z0:α) (L:List α) (hL:L.length≤1000000):Zif eqM z0 L=some (ZiV eq L):=by
 refine Za2 ?_
 unfold Zif
 refine Zg (fun h=>?_) fun h=>?_
 ·refine Zc ?_
  match L,h with
  | [],_=>rfl
  | [x],_=>rfl
  | x::y::l,h=>simp only [List.length_cons] at h;omega
 ·refine Zan (fun x=>∃ A z B,L=A++z::B∧x=(A.length:Int)+1∧ZiV eq (A ++ [z])=A ++ [z]) (fun x=>L.length - x.toNat) ?_ (by omega) ?_
  ·cases L with
   | nil=>simp only [List.length_nil] at h;omega
   | cons x l=>exact ⟨[],x,l,rfl,rfl,rfl⟩
  rintro k rec ⟨A,z,B,hd,hk,hc⟩ ih
  have lL:L.length=A.length+1+B.length:=by rw [hd];simp only [List.length_append,List.length_cons];omega
  refine Zg (fun hlt=>?_) fun hge=>?_
  ·obtain ⟨y,B,rfl⟩:∃ y B',B=y::B':=by
    cases B with
    | nil=>simp only [List.length_nil] at lL;omega
    | cons y B'=>exact ⟨y,B',rfl⟩
   simp only [List.length_cons] at lL
   have d1:L=(A ++ [z])++y::B:=by rw [hd];simp
   rw [Zey (by omega) (by omega) (by omega) (by omega)]
   refine Zb (Zbu d1 (by simp only [List.length_append,List.length_singleton];omega)) (Zb (Zbu hd (by omega)) (Zb (heq y z) (ZZ (fun hyz=>?_) fun hyz=>?_)))
   ·have hs:ZoO L k=some ():=by
     unfold ZoO
     rw [if_pos ⟨by omega,by omega⟩]
    refine Zb hs ?_
    refine Zan (fun x=>∃ K J L1 z B,x.2.2=K++J++z::B∧L=L1++z::B∧x.1=(K.length:Int)∧K.length+J.length=L1.length∧1≤x.2.1∧k+x.2.1=(L1.length:Int)+1∧ZiV eq (L1 ++ [z])=K) (fun x=>L.length - x.2.1.toNat)
     ⟨A ++ [z],[],A ++ [z],y,B,by dsimp only;rw [d1];simp,d1,by dsimp only;simp only [List.length_append,List.length_singleton];omega,by simp,by dsimp only;omega,by dsimp only;simp only [List.length_append,List.length_singleton];omega,by rw [ZfX,hc,if_pos hyz,List.append_nil]⟩ (by dsimp only;omega) ?_
    rintro ⟨kd,k2,l⟩ rec2 ⟨K,J,L1,u,C,hl,hLd,hkd,hlen,h1,hk2,hK⟩ ih2
    dsimp only at hl hkd h1 hk2 ih2 ⊢
    have lC:L.length=L1.length+1+C.length:=by rw [hLd];simp only [List.length_append,List.length_cons];omega
    have ll:l.length=L.length:=by rw [hl];simp only [List.length_append,List.length_cons];omega
    have hq:ZtX l k=(L.length:Int) - k:=by unfold ZtX;rw [ll];omega
    rw [hq]
    refine Zg (fun hlt2=>?_) fun hge2=>?_
    ·obtain ⟨v,C,rfl⟩:∃ v C',C=v::C':=by
      cases C with
      | nil=>simp only [List.length_nil] at lC;omega
      | cons v C'=>exact ⟨v,C',rfl⟩
     simp only [List.length_cons] at lC
     have e1:l=(K++J ++ [u])++v::C:=by rw [hl];simp
     have n1:k+k2=((K++J ++ [u]).length:Int):=by simp only [List.length_append,List.length_singleton];omega
     have n2:k+(k2 - 1)=((K++J).length:Int):=by simp only [List.length_append];omega
     have hLd2:L=(L1 ++ [u])++v::C:=by rw [hLd];simp
     refine ZaM ?_
     rw [Zey (by omega) (by omega) (by omega) (by omega),ZeO (a:=k2) (by omega) (by omega) (by omega) (by omega)]
     refine Zb (ZmL e1 (by omega) (by omega) n1) (Zb (ZmL hl (by omega) (by omega) n2) (Zb (heq v u) ?_))
     cases hvu:eq v u with
     | false=>
       refine ZZ (fun _=>?_) fun h=>by cases h
       obtain ⟨w,J2,hJ⟩:∃ w J2,J ++ [u]=w::J2:=by
        cases J with
        | nil=>exact ⟨u,[],rfl⟩
        | cons w J2=>exact ⟨w,J2 ++ [u],rfl⟩
       have lJ:J.length+1=J2.length+1:=by have:=congrArg List.length hJ;simpa using this
       have e2:l=K++w::(J2++v::C):=by rw [e1,List.append_assoc K J [u],hJ];simp
       refine Zb (ZmL e1 (by omega) (by omega) n1) (Zb (Zbu e2 hkd) ?_)
       dsimp only
       rw [ZeO (by omega) (by omega) (by omega) (by omega)]
       refine ih2 _ ⟨K ++ [v],J2,L1 ++ [u],v,C,?_,hLd2,by dsimp only;simp only [List.length_append,List.length_singleton];omega,by simp only [List.length_append,List.length_singleton];omega,by dsimp only;omega,by dsimp only;simp only [List.length_append,List.length_singleton];omega,?_⟩ (by dsimp only;omega)
       ·dsimp only
        rw [Ze4 e2 hkd]
        simp
       ·rw [ZfX,hK,hvu]
        rfl
     | true=>
       refine ZZ (fun h=>by cases h) fun _=>?_
       dsimp only
       refine ih2 _ ⟨K,J ++ [u],L1 ++ [u],v,C,by dsimp only;rw [hl];simp,hLd2,hkd,by simp only [List.length_append,List.length_singleton];omega,by dsimp only;omega,by dsimp only;simp only [List.length_append,List.length_singleton];omega,?_⟩ (by dsimp only;omega)
       rw [ZfX,hK,hvu]
       exact List.append_nil _
    ·have hC:C = []:=List.eq_nil_of_length_eq_zero (by omega)
     subst hC
     have hs2:ZoO l kd=some ():=by
      unfold ZoO
      rw [if_pos ⟨by omega,by omega⟩]
     refine Zb hs2 ?_
     have hcl:Zs6 l kd z0=K++List.replicate (l.length - K.length) z0:=by
      unfold Zs6
      rw [hkd,Int.toNat_natCast,hl]
      congr 1
      rw [List.append_assoc,List.take_left]
     refine Zb (v:=K) ?_ (Zc ?_)
     ·rw [hcl]
      unfold ZsR
      rw [if_pos ⟨by omega,by omega,by rw [hkd,List.length_append];omega⟩,hkd]
      simp
     ·rw [← hK,hLd]
   ·rw [ZeO (by omega) (by omega) (by omega) (by omega)]
    refine ih _ ⟨A ++ [z],y,B,d1,by simp only [List.length_append,List.length_singleton];omega,?_⟩ (by omega)
    rw [ZfX,hc,if_neg (by rw [hyz];decide)]
  ·have hB:B = []:=List.eq_nil_of_length_eq_zero (by omega)
   subst hB
   refine Zc ?_
   rw [hd,hc]
theorem ZkL:ZaQ=Zif (fun a b=>some (decide (a=b))) ⟨0,⟨0,⟨#[]⟩⟩⟩:=rfl
theorem ZkM:ZU=Zif Zec ⟨⟨0,⟨#[]⟩⟩,⟨#[]⟩⟩:=rfl
theorem ZkN (L:List Link) (hL:L.length≤1000000):ZaQ L=some (ZiV (fun a b=>decide (a=b)) L):=by
 rw [ZkL]
 exact ZlC _ _ (fun _ _=>rfl) _ L hL
theorem ZkO (L:List Memb) (hL:L.length≤1000000):ZU L=some (ZiV (fun a b=>decide (a.category=b.category)) L):=by
 rw [ZkM]
 exact ZlC _ _ (fun _ _=>rfl) _ L hL
set_option linter.unusedVariables false
theorem ZiT {α:Type} {eq:α→α→Bool}:∀ (l:List α) (x e:α),e ∈ Zdy eq x l→e ∈ l
 | [],x,e,h=>by cases h
 | y::l,x,e,h=>by
   have h:e ∈ (if eq y x=true then Zdy eq y l else y::Zdy eq y l):=h
   split at h
   ·exact List.mem_cons_of_mem _ (ZiT l y e h)
   ·rcases List.mem_cons.1 h with rfl | h
    ·exact List.mem_cons_self
    ·exact List.mem_cons_of_mem _ (ZiT l y e h)
theorem Zns {α κ:Type} [DecidableEq κ] {le:α→α→Bool} (key:α→κ) (ha:∀ a b,le a b=true→le b a=true→key a=key b) (hk:∀ a b,key a=key b→∀ c,le c a=le c b∧le a c=le b c) :
  ∀ (l:List α) (x:α),(x::l).Pairwise (fun a b=>le a b=true)→(x::Zdy (fun a b=>decide (key a=key b)) x l).Pairwise fun a b=>¬ key a=key b
 | [],x,_=>List.pairwise_singleton _ _
 | y::l,x,h=>by
   obtain ⟨h1,h2⟩:=List.pairwise_cons.1 h
   have ih:=Zns key ha hk l y h2
   show (x::(if decide (key y=key x)=true then Zdy (fun a b=>decide (key a=key b)) y l else y::Zdy (fun a b=>decide (key a=key b)) y l)).Pairwise _
   obtain ⟨i1,i2⟩:=List.pairwise_cons.1 ih
   by_cases hy:key y=key x
   ·rw [if_pos (decide_eq_true hy)]
    exact List.pairwise_cons.2 ⟨fun e he=>by rw [← hy];exact i1 e he,i2⟩
   ·rw [if_neg (by rw [decide_eq_false hy];decide)]
    refine List.pairwise_cons.2 ⟨fun e he=>?_,ih⟩
    rcases List.mem_cons.1 he with rfl | he
    ·exact fun h=>hy h.symm
    ·intro hxe
     have hle:=(List.pairwise_cons.1 h2).1 e (ZiT l y e he)
     have hxy:=h1 y List.mem_cons_self
     rw [← ((hk x e hxe y).1)] at hle
     exact hy (ha y x hle hxy)
theorem Znt {α κ:Type} [DecidableEq κ] {le:α→α→Bool} (key:α→κ) (ha:∀ a b,le a b=true→le b a=true→key a=key b) (hk:∀ a b,key a=key b→∀ c,le c a=le c b∧le a c=le b c) (l:List α) (h:l.Pairwise (fun a b=>le a b=true)):(ZiV (fun a b=>decide (key a=key b)) l).Pairwise fun a b=>¬ key a=key b:=by
 cases l with
 | nil=>exact .nil
 | cons x l=>exact Zns key ha hk l x h
end Go.Proofs.YtmgfammllddkhaaGreatDoor
set_option maxRecDepth 1000000
namespace Go.Proofs.YtmgfammllddkhaaGreatDoor
theorem Zpp:ZfO=some true:=by kernel_rfl
end Go.Proofs.YtmgfammllddkhaaGreatDoor
set_option linter.unusedVariables false
namespace Go.Proofs.YtmgfammllddkhaaGreatDoor
open VL
theorem Zno (a b:ByteArray) (h:a.size≤1000000):Tot (Zbc a b) fun r=>r.1.size≤a.size:=by
 unfold Zbc Zav
 refine Zu (Q:=fun r=>r.1.size≤a.size) (Zu (Zto a b h) fun r hr=>?_) fun r hr=>Zc hr
 cases r with
 | false=>exact ZZ (fun _=>Zc (Nat.le_refl _)) fun h=>by cases h
 | true=>
   have:=hr rfl
   refine ZZ (fun h=>by cases h) fun _=>?_
   exact ZaT (by omega) (by omega) (by omega) fun m _ hm=>Zc (by dsimp only;omega)
theorem Zvc (s:ByteArray) (h:s.size≤300000):Tot (Zcc s) fun r=>r.2=true→r.1.valid=true:=by
 unfold Zcc
 refine Zu (Zno s _ (by omega)) fun r1 h1=>ZZ (fun _=>Zc fun h=>by cases h) fun _=>?_
 have h2:(ZbS Zor r1.1).size≤r1.1.size:=Zne _ _
 refine Zb (v:=ZbS Zor r1.1) (by unfold Zbd;rw [if_pos rfl]) ?_
 generalize ZbS Zor r1.1=r2 at h2 ⊢
 refine Zu (Zno r2 _ (by omega)) fun r3 h3=>Zu (Zqo r3.1 (by omega)) fun r4 h4=>?_
 refine Zap (fun q=>Tot (q true) (fun r=>r.2=true→r.1.valid=true)∧(0≤r4→Tot (q false) (fun r=>r.2=true→r.1.valid=true))) ⟨?_,fun h0=>?_⟩ fun k1 hk=>?_
 ·exact ZZ (fun _=>Zc fun h=>by cases h) fun h=>by cases h
 ·refine ZZ (fun h=>by cases h) fun _=>?_
  refine ZaT (by omega) (by omega) (by omega) fun m _ hm=>Zu (ZoQ m (by omega)) fun r11 h11=>Zc fun h=>h11 (of_decide_eq_true h)
 ·refine ZZ (fun _=>hk.1) fun _=>Zg (fun _=>hk.1) fun h5=>?_
  refine ZaT (by omega) (by omega) (by omega) fun m _ hm=>Zu (Zsa m _ (by omega)) fun r13 _=>ZZ (fun _=>hk.1) fun _=>?_
  refine ZaT (by omega) (by omega) (by omega) fun m _ hm=>Zu (Zsa m _ (by omega)) fun r15 _=>?_
  cases r15 with
  | true=>exact hk.1
  | false=>exact hk.2 (by omega)
theorem ZiP {α:Type} {eq:α→α→Bool}:∀ (l:List α) (x:α),(Zdy eq x l).Sublist l
 | [],_=>.slnil
 | y::l,x=>by
   show (if eq y x=true then Zdy eq y l else y::Zdy eq y l).Sublist (y::l)
   split
   ·exact (ZiP l y).cons y
   ·exact (ZiP l y).cons_cons y
theorem ZeE {α:Type} {eq:α→α→Bool} (l:List α):(ZiV eq l).Sublist l:=by
 cases l with
 | nil=>exact .slnil
 | cons x l=>exact (ZiP l x).cons_cons x
theorem ZsD {α:Type} {R S:α→α→Prop} {l:List α} (h:l.Pairwise R) (k:l.Pairwise S):l.Pairwise fun a b=>R a b∧S a b:=by
 induction l with
 | nil=>exact .nil
 | cons x l ih=>
   obtain ⟨h1,h2⟩:=List.pairwise_cons.1 h
   obtain ⟨k1,k2⟩:=List.pairwise_cons.1 k
   exact List.pairwise_cons.2 ⟨fun y hy=>⟨h1 y hy,k1 y hy⟩,ih h2 k2⟩
def Zs9 (L:List Link):List Link:=ZiV (fun a b=>decide (a=b)) (Zak (leC Zcj) L)
def Zta (L:List Memb):List Memb:=ZiV (fun a b=>decide (a.category=b.category)) (Zak leM L)
theorem Znp {α:Type} {c:α→α→Int} (h:CmpLaws c) {a b:α} (k:leC c a b=true) (hn:¬ a=b):c a b<0:=by
 have k2:ltOf c b a=false:=by unfold leC at k;simpa using k
 have k3:¬ c b a<0:=of_decide_eq_false k2
 have k4:¬ c b a=0:=fun e=>hn ((h.zero b a).1 e).symm
 exact (h.neg a b).2 (by omega)
theorem Ztb (L:List Link):(Zs9 L).Pairwise fun a b=>Zcj a b<0:=by
 have s:(Zak (leC Zcj) L).Pairwise (fun a b=>leC Zcj a b=true):=ZeK (Zi2 linkCmp_laws.swo) (Zi3 linkCmp_laws.swo) L
 have d:(Zs9 L).Pairwise fun a b=>¬ a=b:=Znt (le:=leC Zcj) (fun a:Link=>a) (fun a b h k=>Znz linkCmp_laws.tot a b h k) (fun a b e c=>by rw [show a=b from e];exact ⟨rfl,rfl⟩) _ s
 exact (ZsD (s.sublist (ZeE _)) d).imp fun ⟨h1,h2⟩=>Znp linkCmp_laws h1 h2
theorem Ztc (L:List Memb):(Zta L).Pairwise fun a b=>Title.cmp a.category b.category<0:=by
 have s:(Zak leM L).Pairwise (fun a b=>leM a b=true):=ZeK Zbo ZfD L
 have k1:∀ a b:Memb,a.category=b.category→∀ c:Memb,leM c a=leM c b∧leM a c=leM b c:=fun a b h c=>by
  unfold leM leC ltOf Zd8
  rw [h]
  exact ⟨rfl,rfl⟩
 have k2:∀ a b:Memb,leM a b=true→leM b a=true→a.category=b.category:=fun a b h k=>by
  refine titleCmp_laws.tot a.category b.category ?_ ?_
  ·unfold leM leC at k
   have k2:ltOf Zd8 a b=false:=by simpa using k
   exact k2
  ·unfold leM leC at h
   have k2:ltOf Zd8 b a=false:=by simpa using h
   exact k2
 have d:(Zta L).Pairwise fun a b=>¬ a.category=b.category:=Znt (le:=leM) Memb.category k2 k1 _ s
 exact (ZsD (s.sublist (ZeE _)) d).imp fun {a b} ⟨h1,h2⟩=>Znp (c:=Title.cmp) titleCmp_laws (a:=a.category) (b:=b.category) h1 h2
theorem ZjZ {a b:Title} (h:Title.cmp a b<0):a.space<b.space∨(a.space=b.space∧ltS a.name b.name=true):=by
 rw [ZsX] at h
 split at h
 ·exact .inl (by assumption)
 ·split at h
  ·omega
  ·split at h
   ·rename_i h1 h2 h3
    exact .inr ⟨by omega,h3⟩
   ·split at h<;>omega
theorem Zrx {a b:Title} (h:Title.cmp a b<0):ZeP a b=some true:=by
 unfold ZeP
 refine Za2 (Zap (fun q=>∀ c:Bool,c=true→Tot (q c) (fun r=>r=true)) (fun c hc=>Zc hc) fun k hk=>?_)
 rcases ZjZ h with h1 | ⟨h1,h2⟩
 ·exact Zg (fun _=>hk _ rfl) fun h=>absurd h1 h
 ·exact Zg (fun _=>hk _ rfl) fun _=>Zg (fun _=>hk _ h2) fun h=>absurd h1 h
theorem Ztd {a b:Link} (h:Zcj a b<0):¬ b.kind<a.kind∧(a.kind=b.kind→Title.cmp a.title b.title<0):=by
 have e:Zcj a b=ZpH (Lib.compareInt a.kind b.kind) (Title.cmp a.title b.title):=Zlb _ _
 rw [e] at h
 unfold ZpH Lib.compareInt at h
 by_cases h1:a.kind<b.kind
 ·exact ⟨by omega,fun h=>by omega⟩
 ·rw [if_neg h1] at h
  by_cases h2:a.kind > b.kind
  ·rw [if_pos h2,if_neg (by decide)] at h
   cases h
  ·rw [if_neg h2,if_pos rfl] at h
   exact ⟨by omega,fun _=>h⟩
theorem Zuo {α:Type} {R:α→α→Prop} {l:List α} (h:l.Pairwise R) {i:Int} {a b:α} (h0:0<i) (ha:l[(i - 1).toNat]? = some a) (hb:l[i.toNat]? = some b):R a b:=by
 obtain ⟨l1,e1⟩:=List.getElem?_eq_some_iff.1 ha
 obtain ⟨l2,e2⟩:=List.getElem?_eq_some_iff.1 hb
 have:=List.pairwise_iff_getElem.1 h (i - 1).toNat i.toNat l1 l2 (by omega)
 rw [e1,e2] at this
 exact this
def okL (l:Link):Prop:=(l.kind=1∨l.kind=2∨l.kind=4)∧l.title.valid=true
theorem Zte (s:ByteArray) (h:s.size≤1500):∃ L M,Zd2 s=some (Zs9 L,Zta M,0)∧L.length≤700000∧M.length≤700000∧(∀ x ∈ L,okL x)∧∀ x ∈ M,x.category.space=4:=by
 obtain ⟨l,hp,hw⟩:=ZqK s.data.toList (by have e:s.data.toList.length=s.size:=rfl;omega)
 have hp:ZdW s=some (l,0):=hp
 obtain ⟨f1,e1,g1⟩:=Znf 300001 l ⟨[],[]⟩ 0 300000 hw (by omega) (by omega) (by omega) ⟨by simp,by simp,(fun x hx=>by cases hx),(fun x hx=>by cases hx)⟩
 obtain ⟨f2,e2,g2⟩:=ZgG 300001 l f1 (0+300000) 300000 hw (by omega) (by omega) (by omega) g1
 obtain ⟨r4,e4,g4⟩:=Zvc s (by omega)
 have hl2:=g2.ll
 have hm2:=g2.ml
 have gl:∀ x ∈ f2.links,okL x:=fun x hx=>by
  obtain ⟨h1,h2⟩:=g2.gl x hx
  exact ⟨h1.elim .inl fun h=>.inr (.inl h),h2⟩
 have fin:∀ L:List Link,L.length≤700000→((Za4 L).bind fun r7=>(ZL f2.members).bind fun r8=>(ZU r8).bind fun r9=>(ZaQ r7).bind fun r10=>(some (r10,r9,0):Option ((List Link)×(List Memb)×Int)))=some (Zs9 L,Zta f2.members,0):=fun L hL=>by
  refine Za2 ?_
  refine Zb (v:=Zak (leC Zcj) L) (by unfold Za4;rw [if_pos (by omega)]) ?_
  refine Zb (Zmn f2.members (by omega)) ?_
  refine Zb (ZkO _ (by rw [Zaa];omega)) ?_
  exact Zb (ZkN _ (by rw [Zaa];omega)) (Zc rfl)
 cases hr:r4.2 with
 | false=>
   refine ⟨f2.links,f2.members,Za2 ?_,by omega,by omega,gl,g2.gm⟩
   unfold Zd2
   refine Zb hp (ZdY (fun h=>absurd rfl h) fun _=>Zb e1 (Zb e2 (Zb e4 (ZaM ?_))))
   rw [hr]
   exact ZZ (fun h=>by cases h) fun _=>Zpw (fin _ (by omega)) rfl
 | true=>
   refine ⟨f2.links ++ [⟨4,r4.1⟩],f2.members,Za2 ?_,by simp only [List.length_append,List.length_singleton];omega,by omega,fun x hx=>?_,g2.gm⟩
   ·unfold Zd2
    refine Zb hp (ZdY (fun h=>absurd rfl h) fun _=>Zb e1 (Zb e2 (Zb e4 (ZaM ?_))))
    rw [hr]
    refine ZZ (fun _=>?_) fun h=>by cases h
    refine Zic 1000000 (by simp only [List.length_singleton];omega) (by omega) (by omega) ?_
    exact Zpw (fin _ (by simp only [List.length_append,List.length_singleton];omega)) rfl
   ·rcases List.mem_append.1 hx with hx | hx
    ·exact gl x hx
    ·rw [List.mem_singleton.1 hx]
     exact ⟨.inr (.inr rfl),g4 hr⟩
theorem Zob (l:List Int) (hl:l.length≤9223372036854775807):ZcA l=some true:=by
 refine Za2 ?_
 unfold ZcA
 refine Zb (v:=(⟨l,0⟩:TapeF)) rfl (Zu (Zuh ⟨l,0⟩ ⟨hl,Int.le_refl _⟩) fun r2 _=>?_)
 refine Zg (fun _=>Zb Zpp (Zc rfl)) fun hsz=>?_
 obtain ⟨L,M,hO,hL,hM,okl,okm⟩:=Zte r2.1 (by omega)
 refine Zb hO ?_
 have sL:=Ztb L
 have sM:=Ztc M
 have gL:∀ x ∈ Zs9 L,okL x:=fun x hx=>okl x ((ZcX (leC Zcj) L).mem_iff.1 ((ZeE _).subset hx))
 have gM:∀ x ∈ Zta M,x.category.space=4:=fun x hx=>okm x ((ZcX leM M).mem_iff.1 ((ZeE _).subset hx))
 have zL:(Zs9 L).length≤700000:=Nat.le_trans (ZeE _).length_le (by rw [Zaa];exact hL)
 have zM:(Zta M).length≤700000:=Nat.le_trans (ZeE _).length_le (by rw [Zaa];exact hM)
 generalize Zs9 L=A at sL gL zL
 generalize Zta M=B at sM gM zM
 dsimp only
 refine Zan (fun i=>0≤i) (fun i=>A.length - i.toNat) (by omega) (by omega) fun i rec h0 ih=>?_
 refine Zg (fun hlt=>?_) fun _=>?_
 ·refine Zap (fun k=>Tot (k false) (fun r=>r=true)) (ZZ (fun h=>by cases h) fun _=>?_) fun k21 hk21=>?_
  ·refine Zap (fun k=>Tot (k false) (fun r=>r=true)) (ZZ (fun h=>by cases h) fun _=>?_) fun k22 hk22=>?_
   ·rw [ZaO (by omega) (by omega)]
    exact ih _ (by omega) (by omega)
   ·refine Zg (fun hpos=>?_) fun _=>hk22
    rw [ZaO (by omega) (by omega)]
    obtain ⟨a,ha⟩:∃ a,A[(i - 1).toNat]? = some a:=⟨_,List.getElem?_eq_getElem (by omega)⟩
    obtain ⟨b,hb⟩:∃ b,A[i.toNat]? = some b:=⟨_,List.getElem?_eq_getElem (by omega)⟩
    have ea:atI A (i - 1)=some a:=by unfold atI;rw [if_pos (by omega)];exact ha
    have eb:atI A i=some b:=by unfold atI;rw [if_pos h0];exact hb
    obtain ⟨r1,r2⟩:=Ztd (Zuo sL hpos ha hb)
    refine Zb ea (Zb eb (Zg (fun h=>absurd h r1) fun _=>?_))
    refine Zb ea (Zb eb (Zg (fun h=>?_) fun _=>hk22))
    exact Zb ea (Zb eb (Zb (Zrx (r2 h)) hk22))
  ·obtain ⟨b,hb⟩:∃ b,A[i.toNat]? = some b:=⟨_,List.getElem?_eq_getElem (by omega)⟩
   have eb:atI A i=some b:=by unfold atI;rw [if_pos h0];exact hb
   obtain ⟨k1,k2⟩:=gL b (List.mem_of_getElem? hb)
   refine Zb eb (Zb (v:=true) ?_ (ZZ (fun h=>by cases h) fun _=>?_))
   ·show (some b.title.valid).bind (fun r1=>some r1)=_
    rw [k2]
    rfl
   refine Zb eb (Zg (fun h=>absurd h (by omega)) fun _=>?_)
   refine Zb eb (Zg (fun h=>absurd h (by omega)) fun _=>?_)
   refine Zb eb ?_
   rw [decide_eq_false (show ¬ b.kind=3 by omega)]
   exact hk21
 ·refine Zan (fun i=>0≤i) (fun i=>B.length - i.toNat) (by omega) (by omega) fun i rec h0 ih=>?_
  refine Zg (fun hlt=>?_) fun _=>?_
  ·refine Zap (fun k=>Tot (k false) (fun r=>r=true)) (ZZ (fun h=>by cases h) fun _=>?_) fun k36 hk36=>?_
   ·rw [ZaO (by omega) (by omega)]
    exact ih _ (by omega) (by omega)
   ·obtain ⟨b,hb⟩:∃ b,B[i.toNat]? = some b:=⟨_,List.getElem?_eq_getElem (by omega)⟩
    have eb:atI B i=some b:=by unfold atI;rw [if_pos h0];exact hb
    have sb:=gM b (List.mem_of_getElem? hb)
    refine Zb eb (ZdY (fun h=>absurd sb h) fun _=>Zg (fun hpos=>?_) fun _=>hk36)
    rw [ZaO (by omega) (by omega)]
    obtain ⟨a,ha⟩:∃ a,B[(i - 1).toNat]? = some a:=⟨_,List.getElem?_eq_getElem (by omega)⟩
    have ea:atI B (i - 1)=some a:=by unfold atI;rw [if_pos (by omega)];exact ha
    have sa:=gM a (List.mem_of_getElem? ha)
    refine Zb ea (Zb eb ?_)
    rcases ZjZ (Zuo sM hpos ha hb) with h | ⟨_,h⟩
    ·omega
    ·rw [h]
     exact hk36
  ·refine ZaM (Zg (fun _=>Zb Zpp (Zc rfl)) fun h=>absurd rfl h)
end Go.Proofs.YtmgfammllddkhaaGreatDoor
namespace Go.Proofs.YtmgfammllddkhaaGreatDoor
open Go.RowKit Go.ChangeShapes Go.WideShapes Go.Deep
theorem ZgK {α:Type} (f:Nat→Option α):∀ n,(∀ i,i<n→∃ t,f i=some t)→((List.range n).filterMap f).length=n∧∀ i,i<n→((List.range n).filterMap f)[i]? = f i
 | 0,_=>⟨rfl,fun i h=>absurd h (by omega)⟩
 | n+1,h=>by
   obtain ⟨h1,h2⟩:=ZgK f n fun i hi=>h i (by omega)
   obtain ⟨t,ht⟩:=h n (by omega)
   rw [List.range_succ,List.filterMap_append]
   have e:List.filterMap f [n] = [t]:=by simp [ht]
   rw [e]
   refine ⟨by simp [h1],fun i hi=>?_⟩
   rcases Nat.lt_or_ge i n with hl | hl
   ·rw [List.getElem?_append_left (by omega)];exact h2 i hl
   ·obtain rfl:i=n:=by omega
    rw [List.getElem?_append_right (by omega),h1,ht];simp
section
variable {H:Type} {enc:TypeId×Value→H} {P:Program} {W:World}
def Rd (enc:TypeId×Value→H) (P:Program) (W:World) (T:TypeId) (α:Type) [Enc α]:Prop:=
 ∀ fuel cs x,DataW.trod enc P W 0 (fun _=>true) true fuel T cs=some x→∃ t:α,Enc.RT W t cs
theorem Zup {T:TypeId} (hT:P.underlying T=some (.int .i64)):Rd enc P W T Int:=fun _ _ _ h=>by
 obtain ⟨n,hc,_⟩:=DataW.trod_int hT h
 exact ⟨n,hc⟩
theorem Zry {S E:TypeId} {α:Type} [Enc α] (hS:P.underlying S=some (.slice E)) (hk:P.cellsOf E=Enc.k α) (h0:0<Enc.k α) (hE:Rd enc P W E α):Rd enc P W S (List α):=fun fuel cs x h=>by
 rcases open_slice hS h with ⟨hc,_⟩ | ⟨a,len,cap,m,n,D,Pl,hc,_,hl,hm,hmm,_,hel⟩
 ·exact ⟨[],none,0,0,hc,SlR.nil W⟩
 ·have hm':m=cap:=by simpa using hmm
  have hx:∀ i,∃ (cs':List Value) (t:Option α),i<len→∃ t',t=some t'∧Enc.RT W t' cs'∧∀ j v,cs'[j]? = some v→W.cell? (a.add (i * P.cellsOf E+j))=some v:=fun i=>by
   by_cases hi:i<len
   ·obtain ⟨cs',h1,h2⟩:=hel i (by omega)
    obtain ⟨t,ht⟩:=hE _ _ _ h2
    obtain ⟨_,hlen,hcell⟩:=World.cells?_some h1
    refine ⟨cs',some t,fun _=>⟨t,rfl,ht,fun j v hj=>?_⟩⟩
    have hjl:j<P.cellsOf E:=by rw [← hlen];exact (List.getElem?_eq_some_iff.1 hj).1
    rw [← Go.Deep.add_add,hcell j hjl,hj]
   ·exact ⟨[],none,fun h=>absurd h hi⟩
  obtain ⟨css,hx⟩:=Classical.axiomOfChoice hx
  obtain ⟨ts,hx⟩:=Classical.axiomOfChoice hx
  refine ⟨(List.range len).filterMap ts,some a,len,cap,hc,?_⟩
  have hlen:((List.range len).filterMap ts).length=len∧∀ i,i<len→((List.range len).filterMap ts)[i]? = ts i:=ZgK ts len fun i hi=>by
   obtain ⟨t,ht,_⟩:=hx i hi
   exact ⟨t,ht⟩
  refine ⟨hlen.1.symm,hl,by unfold maxLen at hm;exact hm,fun hpos=>?_⟩
  obtain ⟨t0,_,hR0,hc0⟩:=hx 0 hpos
  have hl0:=Enc.len hR0
  have hcell0:=hc0 0 ((css 0)[0]'(by omega)) (List.getElem?_eq_getElem (by omega))
  obtain ⟨b,off,spot⟩:=a
  have hspot:spot=none:=by
   simp only [Nat.zero_mul,Nat.add_zero,Addr.add,if_true] at hcell0
   cases spot with
   | none=>rfl
   | some s=>
     exfalso
     unfold World.cell? at hcell0
     split at hcell0<;>simp at hcell0
  subst hspot
  refine ⟨b,off,css,rfl,trivial,?_,fun i x hi=>?_⟩
  ·simp only [Nat.zero_mul,Nat.add_zero,Addr.add,if_true] at hcell0
   exact ZbJ hcell0
  ·have hil:i<len:=by rw [← hlen.1];exact (List.getElem?_eq_some_iff.1 hi).1
   obtain ⟨t,ht,hR,hcell⟩:=hx i hil
   rw [hlen.2 i hil,ht] at hi
   obtain rfl:t=x:=by simpa using hi
   refine ⟨hR,fun j v hj=>?_⟩
   have:=hcell j v hj
   rw [hk] at this
   unfold Addr.add at this
   split at this
   ·rename_i h0;rw [Nat.add_assoc,h0];exact this
   ·rw [Nat.add_assoc];exact this
end
end Go.Proofs.YtmgfammllddkhaaGreatDoor
namespace Go.Proofs.YtmgfammllddkhaaGreatDoor
open Go.RowKit Go.ChangeShapes Go.WideShapes Go.Deep
theorem Zrb:Tryz.prog.cellsOf 3=1:=by kernel_rfl
section
variable {H:Type} {enc:TypeId×Value→H} {W:World}
theorem Zu3:Rd enc Tryz.prog W 3 Int:=Zup Tryz.underlying3
end
end Go.Proofs.YtmgfammllddkhaaGreatDoor
namespace Go.Proofs.YtmgfammllddkhaaGreatDoor
open VL Go.RowKit Go.ChangeShapes Go.WideShapes
theorem ZuX {H:Type} {enc:TypeId×Value→H} {W:World}:Rd enc Tryz.prog W 35 (List Int):=Zry Tryz.underlying35 Zrb (by decide) Zu3
theorem ZuY {W:World} (hG:ZtY W) (W':World) (hb:Below W.heap.size W W'):WInv.I Tryz.prog W':=
 ⟨hG.imp fun _ hm=>re1 hb (ZbJ hm) hm,trivial⟩
end Go.Proofs.YtmgfammllddkhaaGreatDoor
namespace Go.Proofs.YtmgfammllddkhaaGreatDoor
open VL Go.RowKit
theorem ZtK {α:Type} [Enc α] {w:World} {A:Option Addr} {n c:Nat} {xs:List α} (h:SlR w A n c xs):xs.length≤9223372036854775807:=by
 obtain ⟨h1,h2,h3,h4⟩:=h
 omega
theorem Zvf {x:Ctx} (i:Nat) (p:PV) (v:Value) (hp:([]:List PV)[i]? = some p) (hv:([]:List Value)[i]? = some v):Rep x p v:=by simp at hp
theorem Zvg {x:Ctx} {p:PV} {v:Value} {ps:List PV} {vs:List Value} (h:Rep x p v) (r:∀ (i:Nat) (p:PV) (v:Value),ps[i]? = some p→vs[i]? = some v→Rep x p v) (i:Nat) (q:PV) (w:Value) (hp:(p::ps)[i]? = some q) (hv:(v::vs)[i]? = some w):Rep x q w:=by
 cases i with
 | zero=>injection hp with hp;injection hv with hv;subst hp hv;exact h
 | succ i=>exact r i q w (by simpa using hp) (by simpa using hv)
theorem Zvh {x:Ctx} {ps:List PV} {vs:List Value} (r:∀ (i:Nat) (p:PV) (v:Value),ps[i]? = some p→vs[i]? = some v→Rep x p v) (i:Nat) (p:PV) (v:Value) (hp:ps[i]? = some p) (hv:vs.toArray[i]? = some v):Rep x p v:=r i p v hp (by simpa using hv)
theorem Zjf {A0:Option Addr} {n0 c0:Nat} {l0:List Int} (W:World) (h0:SlR W A0 n0 c0 l0) (hI:∀ W',Below W.heap.size W W'→WInv.I Tryz.prog W') :
  Calls Tryz.prog 5 #[.slice A0 n0 c0] W fun e w'=>e = .returned (.bool true)∧Below W.heap.size W w':=
 Zn2 (Zhy l0 true (Zob l0 (ZtK h0))) rfl (fun i p v hp hv=>Zvh (vs:=[.slice A0 n0 c0]) (Zvg (Zpb h0) Zvf) i p v hp hv) hI
end Go.Proofs.YtmgfammllddkhaaGreatDoor
